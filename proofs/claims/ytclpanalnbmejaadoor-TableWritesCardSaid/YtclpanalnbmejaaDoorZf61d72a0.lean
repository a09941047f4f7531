/- Each function below answers as its Lean twin says; plain lemmas; a row where its theorem stands. No further condition. (Laid by this repo's pack.py out of its texts and of the print's words.) -/
import Derived.Test.YtclpanalnbmejaaDoorZ6e9a49b0
namespace Go.Proofs.YtclpanalnbmejaaDoor.P
open Go.RowKit Go.Proofs.YtclpanalnbmejaaDoorW.PrintWords Go.Proofs.YtclpanalnbmejaaDoorW.PrintLast Go.Proofs.YtclpanalnbmejaaDoorW.PrintMore
attribute [local go_sem] max2_int min2_int max_two min_two max_three min_three max_four min_four
set_option linter.unusedVariables false
set_option linter.unusedSimpArgs false
mutual
def tollbarref09_Find.l0:Nat → List (S26) → ByteArray → Int → Option (Int)
 | 0,_,_,_=>none
 | k + 1,x0,x1,x5=>if x5 < (x0.length:Int) then (tollbarref09_Find.l1 k x0 x1 x5 0) else (some (-1))
def tollbarref09_Find.l1:Nat → List (S26) → ByteArray → Int → Int → Option (Int)
 | 0,_,_,_,_=>none
 | k + 1,x0,x1,x5,x6=>if 0 ≤ x5 then (if x5 < (x0.length:Int) then (if x6 < (((rd_T26 x0 x5).f1).length:Int) then (if 0 ≤ x6 then (if (rdOf ByteArray.empty ((rd_T26 x0 x5).f1) x6).toList=x1.toList then (some x5) else (tollbarref09_Find.l1 k x0 x1 x5 (wrap64 (x6 + 1)))) else (none)) else (tollbarref09_Find.l0 k x0 x1 (wrap64 (x5 + 1)))) else (none)) else (none)
end
def tollbarref09_Find.f (k:Nat) (l0:List (S26)) (a1:ByteArray):Option (Int):=tollbarref09_Find.l0 k l0 a1 0
set_option maxHeartbeats 8000000 in
set_option maxRecDepth 100000 in
theorem tollbarref09_Find.calls (k:Nat) (A0:Option Addr) (c0:Nat) (l0:List (S26)) (a1:ByteArray) (r:Int) (w:World) (hr0:Kd.C k26 w A0 l0.length l0) (hc0:l0.length ≤ c0) (h:tollbarref09_Find.f k l0 a1=some r) :
 Calls Tryd.prog 12 #[.slice A0 l0.length c0,.string a1] w fun e w' => e = .returned (.int .i64 r)∧Drawn0 w w' := by
 have HR0:=Aside0.mk hr0
 have HC0:=Aside0.mk hc0
 clear hr0 hc0
 unfold tollbarref09_Find.f at h
 have H:=h
 clear h
 have H' := Aside0.mk H
 clear H
 go_enter Tryd.func12,Tryd.ntmps12
 go_wp2
 go_loopg [5] k (fun kq v5 w' => ∃ (x5_1:Int),v5 = .int .i64 x5_1∧Aside0 (tollbarref09_Find.l0 kq l0 a1 x5_1=some r)∧Aside0 (kq ≤ k)∧Drawn0 w w')
 case atStart=>exact ⟨(0),zb3,H',⟨Nat.le_refl _⟩,zb7⟩
 case round =>
  clear H'
  try clear c1
  try clear p2
  obtain ⟨x5_1,rfl,HA,HK1,⟨m1,rfl⟩⟩:=hrel
  cases gk with
  | zero=>exact absurd HA.out (by simp [tollbarref09_Find.l0])
  | succ k1 =>
   have H:=HA.out
   clear HA
   simp only [tollbarref09_Find.l0] at H
   by_cases c3:x5_1 < (l0.length:Int);rotate_left
   ·rw [if_neg c3] at H
    have c3b0:=decide_eq_false c3
    clear c3
    obtain rfl:=Option.some.inj H
    go_wp2
    go_ret
    exact ⟨zb3,zb7⟩
   rw [if_pos c3] at H
   have c3b0:=decide_eq_true c3
   clear c3
   have H' := Aside0.mk H
   clear H
   go_wp2
   go_loopg [6] k1 (fun kq v6 w' => ∃ (x6_2:Int),v6 = .int .i64 x6_2∧Aside0 (tollbarref09_Find.l1 kq l0 a1 x5_1 x6_2=some r)∧Aside0 (kq ≤ k1)∧Drawn0 w w')
   case atStart=>exact ⟨(0),zb3,H',⟨Nat.le_refl _⟩,zb7⟩
   case round =>
    clear H'
    try clear c1
    try clear p2
    try clear c3
    try clear c3b0
    try clear p2
    obtain ⟨x6_2,rfl,HA,HK2,⟨m2,rfl⟩⟩:=hrel
    cases gk with
    | zero=>exact absurd HA.out (by simp [tollbarref09_Find.l1])
    | succ k2 =>
     have H:=HA.out
     clear HA
     simp only [tollbarref09_Find.l1] at H
     by_cases c4:0 ≤ x5_1
     ·rw [if_pos c4] at H
      have c4b0:=decide_eq_true c4
      clear c4
      by_cases c5:x5_1 < (l0.length:Int)
      ·rw [if_pos c5] at H
       have c5b0:=decide_eq_true c5
       clear c5
       by_cases c6:x6_2 < (((rd_T26 l0 x5_1).f1).length:Int);rotate_left
       ·rw [if_neg c6] at H
        have c6b0:=decide_eq_false c6
        clear c6
        have H' := Aside0.mk H
        clear H
        have p264:0 ≤ (x5_1:Int):=of_decide_eq_true zb1
        have q264:x5_1 < (l0.length:Int):=of_decide_eq_true zb1
        obtain ⟨ad264,A264_1,c264_1,e264,hx264_0,hx264_1,hx264_2,hx264_3,hx264_4,hx264_5,hx264_6,hx264_7,hl264_1,hi264_1⟩:=at_T26 HR0.out x5_1 p264 q264
        cases e264
        have HR264_1:=Aside0.mk hi264_1
        have HC264_1:=Aside0.mk hl264_1
        clear hi264_1 hl264_1
        replace p264:=eq_true p264
        replace q264:=eq_true q264
        go_wp2
        go_roundg k2
        case measure=>have:=HK1.out;have:=HK2.out;omega
        case rel=>exact ⟨(wrap64 (x5_1 + 1)),zb3,H',⟨by have:=HK1.out;have:=HK2.out;omega⟩,zb7⟩
       rw [if_pos c6] at H
       have c6b0:=decide_eq_true c6
       clear c6
       by_cases c7:0 ≤ x6_2
       ·rw [if_pos c7] at H
        have c7b0:=decide_eq_true c7
        clear c7
        by_cases c8:(rdOf ByteArray.empty ((rd_T26 l0 x5_1).f1) x6_2).toList=a1.toList
        ·rw [if_pos c8] at H
         have c8b0:=beq_iff_eq.mpr c8
         have c8b1:=bne_eq_false_iff_eq.mpr c8
         clear c8
         obtain rfl:=Option.some.inj H
         have p264:0 ≤ (x5_1:Int):=of_decide_eq_true zb1
         have q264:x5_1 < (l0.length:Int):=of_decide_eq_true zb1
         obtain ⟨ad264,A264_1,c264_1,e264,hx264_0,hx264_1,hx264_2,hx264_3,hx264_4,hx264_5,hx264_6,hx264_7,hl264_1,hi264_1⟩:=at_T26 HR0.out x5_1 p264 q264
         cases e264
         have HR264_1:=Aside0.mk hi264_1
         have HC264_1:=Aside0.mk hl264_1
         clear hi264_1 hl264_1
         replace p264:=eq_true p264
         replace q264:=eq_true q264
         have p265:0 ≤ (x5_1:Int):=of_decide_eq_true zb1
         have q265:x5_1 < (l0.length:Int):=of_decide_eq_true zb1
         obtain ⟨ad265,A265_1,c265_1,e265,hx265_0,hx265_1,hx265_2,hx265_3,hx265_4,hx265_5,hx265_6,hx265_7,hl265_1,hi265_1⟩:=at_T26 HR0.out x5_1 p265 q265
         obtain rfl:ad264=ad265:=(by injection e265)
         have HR265_1:=Aside0.mk hi265_1
         have HC265_1:=Aside0.mk hl265_1
         clear hi265_1 hl265_1
         replace p265:=eq_true p265
         replace q265:=eq_true q265
         have ea_:=Option.some.inj (hx264_1.symm.trans hx265_1)
         injection ea_ with ea_ en_ ec_
         subst ea_
         subst ec_
         clear en_
         have p266:0 ≤ (x6_2:Int):=of_decide_eq_true zb1
         have q266:x6_2 < (((rd_T26 l0 x5_1).f1).length:Int):=of_decide_eq_true zb1
         obtain ⟨ad266,e266,hx266_0⟩:=Kd.at_string HR265_1.out x6_2 p266 q266
         cases e266
         replace p266:=eq_true p266
         replace q266:=eq_true q266
         go_wp2
         go_ret
         exact ⟨zb3,zb7⟩
        rw [if_neg c8] at H
        have c8b0:=beq_eq_false_iff_ne.mpr c8
        have c8b1:=bne_iff_ne.mpr c8
        have H' := Aside0.mk H
        clear H
        have p264:0 ≤ (x5_1:Int):=of_decide_eq_true zb1
        have q264:x5_1 < (l0.length:Int):=of_decide_eq_true zb1
        obtain ⟨ad264,A264_1,c264_1,e264,hx264_0,hx264_1,hx264_2,hx264_3,hx264_4,hx264_5,hx264_6,hx264_7,hl264_1,hi264_1⟩:=at_T26 HR0.out x5_1 p264 q264
        cases e264
        have HR264_1:=Aside0.mk hi264_1
        have HC264_1:=Aside0.mk hl264_1
        clear hi264_1 hl264_1
        replace p264:=eq_true p264
        replace q264:=eq_true q264
        have p265:0 ≤ (x5_1:Int):=of_decide_eq_true zb1
        have q265:x5_1 < (l0.length:Int):=of_decide_eq_true zb1
        obtain ⟨ad265,A265_1,c265_1,e265,hx265_0,hx265_1,hx265_2,hx265_3,hx265_4,hx265_5,hx265_6,hx265_7,hl265_1,hi265_1⟩:=at_T26 HR0.out x5_1 p265 q265
        obtain rfl:ad264=ad265:=(by injection e265)
        have HR265_1:=Aside0.mk hi265_1
        have HC265_1:=Aside0.mk hl265_1
        clear hi265_1 hl265_1
        replace p265:=eq_true p265
        replace q265:=eq_true q265
        have ea_:=Option.some.inj (hx264_1.symm.trans hx265_1)
        injection ea_ with ea_ en_ ec_
        subst ea_
        subst ec_
        clear en_
        have p266:0 ≤ (x6_2:Int):=of_decide_eq_true zb1
        have q266:x6_2 < (((rd_T26 l0 x5_1).f1).length:Int):=of_decide_eq_true zb1
        obtain ⟨ad266,e266,hx266_0⟩:=Kd.at_string HR265_1.out x6_2 p266 q266
        cases e266
        replace p266:=eq_true p266
        replace q266:=eq_true q266
        go_wp2
        go_roundg k2
        case measure=>have:=HK1.out;have:=HK2.out;omega
        case rel=>exact ⟨(wrap64 (x6_2 + 1)),zb3,H',⟨by have:=HK1.out;have:=HK2.out;omega⟩,zb7⟩
       ·rw [if_neg c7] at H
        exact absurd H zb17
      ·rw [if_neg c5] at H
       exact absurd H zb17
     ·rw [if_neg c4] at H
      exact absurd H zb17
def tollbarref09_Named.l0:Nat → List (S26) → ByteArray → Int → Option (Int)
 | 0,_,_,_=>none
 | k + 1,x0,x1,x5=>if x5 < (x0.length:Int) then (if 0 ≤ x5 then (if ((rd_T26 x0 x5).f0).toList=x1.toList then (some x5) else (tollbarref09_Named.l0 k x0 x1 (wrap64 (x5 + 1)))) else (none)) else (some (-1))
def tollbarref09_Named.f (k:Nat) (l0:List (S26)) (a1:ByteArray):Option (Int):=tollbarref09_Named.l0 k l0 a1 0
set_option maxHeartbeats 8000000 in
set_option maxRecDepth 100000 in
theorem tollbarref09_Named.calls (k:Nat) (A0:Option Addr) (c0:Nat) (l0:List (S26)) (a1:ByteArray) (r:Int) (w:World) (hr0:Kd.C k26 w A0 l0.length l0) (hc0:l0.length ≤ c0) (h:tollbarref09_Named.f k l0 a1=some r) :
 Calls Tryd.prog 14 #[.slice A0 l0.length c0,.string a1] w fun e w' => e = .returned (.int .i64 r)∧Drawn0 w w' := by
 have HR0:=Aside0.mk hr0
 have HC0:=Aside0.mk hc0
 clear hr0 hc0
 unfold tollbarref09_Named.f at h
 have H:=h
 clear h
 have H' := Aside0.mk H
 clear H
 go_enter Tryd.func14,Tryd.ntmps14
 go_wp2
 go_loopg [5] k (fun kq v5 w' => ∃ (x5_1:Int),v5 = .int .i64 x5_1∧Aside0 (tollbarref09_Named.l0 kq l0 a1 x5_1=some r)∧Aside0 (kq ≤ k)∧Drawn0 w w')
 case atStart=>exact ⟨(0),zb3,H',⟨Nat.le_refl _⟩,zb7⟩
 case round =>
  clear H'
  try clear c1
  try clear p2
  obtain ⟨x5_1,rfl,HA,HK1,⟨m1,rfl⟩⟩:=hrel
  cases gk with
  | zero=>exact absurd HA.out (by simp [tollbarref09_Named.l0])
  | succ k1 =>
   have H:=HA.out
   clear HA
   simp only [tollbarref09_Named.l0] at H
   by_cases c3:x5_1 < (l0.length:Int);rotate_left
   ·rw [if_neg c3] at H
    have c3b0:=decide_eq_false c3
    clear c3
    obtain rfl:=Option.some.inj H
    go_wp2
    go_ret
    exact ⟨zb3,zb7⟩
   rw [if_pos c3] at H
   have c3b0:=decide_eq_true c3
   clear c3
   by_cases c4:0 ≤ x5_1
   ·rw [if_pos c4] at H
    have c4b0:=decide_eq_true c4
    clear c4
    by_cases c5:((rd_T26 l0 x5_1).f0).toList=a1.toList
    ·rw [if_pos c5] at H
     have c5b0:=beq_iff_eq.mpr c5
     have c5b1:=bne_eq_false_iff_eq.mpr c5
     clear c5
     obtain rfl:=Option.some.inj H
     have p267:0 ≤ (x5_1:Int):=of_decide_eq_true zb1
     have q267:x5_1 < (l0.length:Int):=of_decide_eq_true zb1
     obtain ⟨ad267,A267_1,c267_1,e267,hx267_0,hx267_1,hx267_2,hx267_3,hx267_4,hx267_5,hx267_6,hx267_7,hl267_1,hi267_1⟩:=at_T26 HR0.out x5_1 p267 q267
     cases e267
     have HR267_1:=Aside0.mk hi267_1
     have HC267_1:=Aside0.mk hl267_1
     clear hi267_1 hl267_1
     replace p267:=eq_true p267
     replace q267:=eq_true q267
     go_wp2
     go_ret
     exact ⟨zb3,zb7⟩
    rw [if_neg c5] at H
    have c5b0:=beq_eq_false_iff_ne.mpr c5
    have c5b1:=bne_iff_ne.mpr c5
    have H' := Aside0.mk H
    clear H
    have p267:0 ≤ (x5_1:Int):=of_decide_eq_true zb1
    have q267:x5_1 < (l0.length:Int):=of_decide_eq_true zb1
    obtain ⟨ad267,A267_1,c267_1,e267,hx267_0,hx267_1,hx267_2,hx267_3,hx267_4,hx267_5,hx267_6,hx267_7,hl267_1,hi267_1⟩:=at_T26 HR0.out x5_1 p267 q267
    cases e267
    have HR267_1:=Aside0.mk hi267_1
    have HC267_1:=Aside0.mk hl267_1
    clear hi267_1 hl267_1
    replace p267:=eq_true p267
    replace q267:=eq_true q267
    go_wp2
    go_roundg k1
    case measure=>have:=HK1.out;omega
    case rel=>exact ⟨(wrap64 (x5_1 + 1)),zb3,H',⟨zb48⟩,zb7⟩
   ·rw [if_neg c4] at H
    exact absurd H zb17
def tollbarref02_Digit.f (a0:Int):Option (Bool):=if a0 ≥ 48 then (some (decide (a0 ≤ 57))) else (some false)
set_option maxHeartbeats 8000000 in
set_option maxRecDepth 100000 in
theorem tollbarref02_Digit.calls (a0:Int) (r:Bool) (w:World) (h:tollbarref02_Digit.f a0=some r) :
 Calls Tryd.prog 59 #[.int .u8 a0] w fun e w' => e = .returned (.bool r)∧Drawn0 w w' := by
 unfold tollbarref02_Digit.f at h
 have H:=h
 clear h
 by_cases c2:a0 ≥ 48
 ·rw [if_pos c2] at H
  have c2b0:decide (48 ≤ a0)=true:=decide_eq_true c2
  clear c2
  obtain rfl:=Option.some.inj H
  go_enter Tryd.func59,Tryd.ntmps59
  go_wp2
  go_ret
  exact ⟨zb3,zb7⟩
 rw [if_neg c2] at H
 have c2b0:decide (48 ≤ a0)=false:=decide_eq_false c2
 clear c2
 obtain rfl:=Option.some.inj H
 go_enter Tryd.func59,Tryd.ntmps59
 go_wp2
 go_ret
 exact ⟨zb3,zb7⟩
def tollbarref02_Fold.l0:Nat → ByteArray → List Int → Int → Option (ByteArray)
 | 0,_,_,_=>none
 | k + 1,x0,x3,x4=>if x4 < (x0.size:Int) then (if 0 ≤ x4 then (if (bt x0 x4) ≥ 65 then (if (bt x0 x4) ≤ 90 then (if x3.length < 140737488355328 then (tollbarref02_Fold.l0 k x0 (x3 ++ [((bt x0 x4) + 32) % 256]) (wrap64 (x4 + 1))) else (none)) else (if x3.length < 140737488355328 then (tollbarref02_Fold.l0 k x0 (x3 ++ [bt x0 x4]) (wrap64 (x4 + 1))) else (none))) else (if x3.length < 140737488355328 then (tollbarref02_Fold.l0 k x0 (x3 ++ [bt x0 x4]) (wrap64 (x4 + 1))) else (none))) else (none)) else (some (strOfNums x3))
def tollbarref02_Fold.f (k:Nat) (a0:ByteArray):Option (ByteArray):=tollbarref02_Fold.l0 k a0 (([]:List Int)) 0
set_option maxHeartbeats 8000000 in
set_option maxRecDepth 100000 in
theorem tollbarref02_Fold.calls (k:Nat) (a0:ByteArray) (r:ByteArray) (w:World) (h:tollbarref02_Fold.f k a0=some r) :
 Calls Tryd.prog 60 #[.string a0] w fun e w' => e = .returned (.string r)∧Below w.heap.size w w' := by
 have HB:=Aside0.mk (Below.refl w.heap.size w)
 unfold tollbarref02_Fold.f at h
 have H:=h
 clear h
 obtain ⟨y217,hy217⟩ : ∃ y_:List Int,y_=(([]:List Int)):=⟨_,rfl⟩
 replace H:(tollbarref02_Fold.l0 k a0 y217 0)=some r:=by first|(rw [hy217];with_reducible exact H)|(have H2_:=(Option.bind_some _ _).symm.trans H;rw [hy217];with_reducible exact H2_)|(have H2_:=(Option.bind_some _ _).symm.trans H;with_reducible exact H2_)|with_reducible exact H|(rw [hy217];exact H)|exact H
 have Ny217:=Aside0.mk hy217
 clear hy217
 have H' := Aside0.mk H
 clear H
 go_enter Tryd.func60,Tryd.ntmps60
 go_wp2_with (first|((with_reducible refine gate_dst (N:=6) rfl ?_);refine Kd.R_lit (Kd.int .u8) _ 5 ?hg (N:=6) ?hd (xs:=([]:List Int)) (inner:=[]) (ok:=fun _=>True) (okp:=fun _=>True) ?hr ?hp (fun _ hk=>hk) trivial (Below.refl _ _) (Nat.le_refl _) zb17 ?_;(case hd=>rfl);(case hg=>rfl);(case hr=>first|(go_simp;done)|(go_simp;rfl));(case hp=>exact (Reps.none _ _));intro v218 w2 ho3 hb hg_ hnew_;clear hg_ hnew_;(first|rw [← Ny217.out] at ho3|(simp only [Int.reduceToNat] at ho3;rw [← Ny217.out] at ho3));have HO219:=Aside0.mk (Kd.R_lower ho3 (below_size zb0));replace HB:=Aside0.mk (below_step zb0 hb);clear hb ho3))
 go_loopg [3,4] k (fun kq v3 v4 w' => ∃ (x3_1:List Int) (x4_1:Int),v4 = .int .i64 x4_1∧Aside0 (tollbarref02_Fold.l0 kq a0 x3_1 x4_1=some r)∧Aside0 (kq ≤ k)∧Aside0 (Kd.R (Kd.int .u8) 5 w' w.heap.size (fun _=>True) v3 x3_1)∧Aside0 (Below w.heap.size w w'))
 case atStart=>exact ⟨(y217),(0),zb3,H',⟨Nat.le_refl _⟩,⟨by (with_reducible repeat (first|apply Kd.R_alloc|apply Kd.R_drewN|apply Kd.R_drew));exact HO219.out⟩,⟨zb0⟩⟩
 case round =>
  clear H'
  try clear p2
  obtain ⟨x3_1,x4_1,rfl,HA,HK1,HO_3,HB⟩:=hrel
  cases gk with
  | zero=>exact absurd HA.out (by simp [tollbarref02_Fold.l0])
  | succ k1 =>
   have H:=HA.out
   clear HA
   simp only [tollbarref02_Fold.l0] at H
   by_cases c4:x4_1 < (a0.size:Int);rotate_left
   ·rw [if_neg c4] at H
    have c4b0:=decide_eq_false c4
    clear c4
    obtain rfl:=Option.some.inj H
    have hcv15:=own_string (P:=Tryd.prog) Tryd.underlying40 Tryd.underlying5 Tryd.underlying9 (Kd.own_of_R HO_3.out)
    go_wp2
    go_ret
    exact ⟨zb6,zb0⟩
   rw [if_pos c4] at H
   have c4b0:=decide_eq_true c4
   clear c4
   by_cases c5:0 ≤ x4_1
   ·rw [if_pos c5] at H
    have c5b0:=decide_eq_true c5
    clear c5
    by_cases c7:(bt a0 x4_1) ≥ 65;rotate_left
    ·rw [if_neg c7] at H
     have c7b0:decide (65 ≤ (bt a0 x4_1))=false:=decide_eq_false c7
     clear c7
     by_cases c13:x3_1.length < 140737488355328;rotate_left
     ·rw [if_neg c13] at H
      exact absurd H zb17
     rw [if_pos c13] at H
     have LMc13:=Aside0.mk c13
     clear c13
     obtain ⟨y226,hy226⟩ : ∃ y_:List Int,y_=(x3_1 ++ [bt a0 x4_1]):=⟨_,rfl⟩
     replace H:(tollbarref02_Fold.l0 k1 a0 y226 (wrap64 (x4_1 + 1)))=some r:=by first|(rw [hy226];with_reducible exact H)|(have H2_:=(Option.bind_some _ _).symm.trans H;rw [hy226];with_reducible exact H2_)|(have H2_:=(Option.bind_some _ _).symm.trans H;with_reducible exact H2_)|with_reducible exact H|(rw [hy226];exact H)|exact H
     have Ny226:=Aside0.mk hy226
     clear hy226
     have H' := Aside0.mk H
     clear H
     have p6:0 ≤ (x4_1:Int):=of_decide_eq_true zb1
     have q6:x4_1 < (a0.size:Int):=of_decide_eq_true zb1
     have hx6:=bt_at a0 x4_1
     replace p6:=eq_true p6
     replace q6:=eq_true q6
     go_wp2_with (first|((with_reducible refine gate_builtin (b:=.append) (xs:=#[.tmp 24,.tmp 26]) rfl ?_);at_builtin;refine Kd.R_append (Kd.int .u8) (w0:=w) w.heap.size rfl (.tmp 24) (.tmp 26) 40 5 (.int .u8 0) 1 rfl Tryd.underlying40 info5 rfl zb44 zb14 u3 x3_1 (bt a0 x4_1) [.int .u8 (bt a0 x4_1)] (fun _=>True) (fun _=>False) rfl rfl ?aP (fun _ hk=>hk.elim) ?aF ?aO ?aB ?aS ?aL ?_;(case aP=>exact rfl);(case aB=>exact zb28);(case aF=>exact (fun _ _=>trivial));(case aO=>exact zb30);(case aS=>exact zb25);(case aL=>have:=LMc13.out;omega);intro v227 w14 ho hb hg hat;rw [← Ny226.out] at ho;replace HB:=Aside0.mk (hb);have HO228:=Aside0.mk (ho);clear ho hb hg hat))
     go_roundg k1
     case measure=>have:=HK1.out;omega
     case rel=>exact ⟨(y226),(wrap64 (x4_1 + 1)),zb3,H',⟨zb48⟩,⟨by (with_reducible repeat (first|apply Kd.R_alloc|apply Kd.R_drewN|apply Kd.R_drew));exact HO228.out⟩,⟨zb0⟩⟩
    rw [if_pos c7] at H
    have c7b0:decide (65 ≤ (bt a0 x4_1))=true:=decide_eq_true c7
    clear c7
    by_cases c8:(bt a0 x4_1) ≤ 90
    ·rw [if_pos c8] at H
     have c8b0:=decide_eq_true c8
     clear c8
     by_cases c9:x3_1.length < 140737488355328;rotate_left
     ·rw [if_neg c9] at H
      exact absurd H zb17
     rw [if_pos c9] at H
     have LMc9:=Aside0.mk c9
     clear c9
     obtain ⟨y220,hy220⟩ : ∃ y_:List Int,y_=(x3_1 ++ [((bt a0 x4_1) + 32) % 256]):=⟨_,rfl⟩
     replace H:(tollbarref02_Fold.l0 k1 a0 y220 (wrap64 (x4_1 + 1)))=some r:=by first|(rw [hy220];with_reducible exact H)|(have H2_:=(Option.bind_some _ _).symm.trans H;rw [hy220];with_reducible exact H2_)|(have H2_:=(Option.bind_some _ _).symm.trans H;with_reducible exact H2_)|with_reducible exact H|(rw [hy220];exact H)|exact H
     have Ny220:=Aside0.mk hy220
     clear hy220
     have H' := Aside0.mk H
     clear H
     have p6:0 ≤ (x4_1:Int):=of_decide_eq_true zb1
     have q6:x4_1 < (a0.size:Int):=of_decide_eq_true zb1
     have hx6:=bt_at a0 x4_1
     replace p6:=eq_true p6
     replace q6:=eq_true q6
     go_wp2_with (first|((with_reducible refine gate_builtin (b:=.append) (xs:=#[.tmp 24,.tmp 26]) rfl ?_);at_builtin;refine Kd.R_append (Kd.int .u8) (w0:=w) w.heap.size rfl (.tmp 24) (.tmp 26) 40 5 (.int .u8 0) 1 rfl Tryd.underlying40 info5 rfl zb44 zb14 u3 x3_1 (((bt a0 x4_1) + 32) % 256) [.int .u8 (((bt a0 x4_1) + 32) % 256)] (fun _=>True) (fun _=>False) rfl rfl ?aP (fun _ hk=>hk.elim) ?aF ?aO ?aB ?aS ?aL ?_;(case aP=>exact rfl);(case aB=>exact zb28);(case aF=>exact (fun _ _=>trivial));(case aO=>exact zb30);(case aS=>exact zb25);(case aL=>have:=LMc9.out;omega);intro v221 w10 ho hb hg hat;rw [← Ny220.out] at ho;replace HB:=Aside0.mk (hb);have HO222:=Aside0.mk (ho);clear ho hb hg hat))
     go_roundg k1
     case measure=>have:=HK1.out;omega
     case rel=>exact ⟨(y220),(wrap64 (x4_1 + 1)),zb3,H',⟨zb48⟩,⟨by (with_reducible repeat (first|apply Kd.R_alloc|apply Kd.R_drewN|apply Kd.R_drew));exact HO222.out⟩,⟨zb0⟩⟩
    ·rw [if_neg c8] at H
     have c8b0:=decide_eq_false c8
     clear c8
     by_cases c11:x3_1.length < 140737488355328
     ·rw [if_pos c11] at H
      have LMc11:=Aside0.mk c11
      clear c11
      obtain ⟨y223,hy223⟩ : ∃ y_:List Int,y_=(x3_1 ++ [bt a0 x4_1]):=⟨_,rfl⟩
      replace H:(tollbarref02_Fold.l0 k1 a0 y223 (wrap64 (x4_1 + 1)))=some r:=by first|(rw [hy223];with_reducible exact H)|(have H2_:=(Option.bind_some _ _).symm.trans H;rw [hy223];with_reducible exact H2_)|(have H2_:=(Option.bind_some _ _).symm.trans H;with_reducible exact H2_)|with_reducible exact H|(rw [hy223];exact H)|exact H
      have Ny223:=Aside0.mk hy223
      clear hy223
      have H' := Aside0.mk H
      clear H
      have p6:0 ≤ (x4_1:Int):=of_decide_eq_true zb1
      have q6:x4_1 < (a0.size:Int):=of_decide_eq_true zb1
      have hx6:=bt_at a0 x4_1
      replace p6:=eq_true p6
      replace q6:=eq_true q6
      go_wp2_with (first|((with_reducible refine gate_builtin (b:=.append) (xs:=#[.tmp 24,.tmp 26]) rfl ?_);at_builtin;refine Kd.R_append (Kd.int .u8) (w0:=w) w.heap.size rfl (.tmp 24) (.tmp 26) 40 5 (.int .u8 0) 1 rfl Tryd.underlying40 info5 rfl zb44 zb14 u3 x3_1 (bt a0 x4_1) [.int .u8 (bt a0 x4_1)] (fun _=>True) (fun _=>False) rfl rfl ?aP (fun _ hk=>hk.elim) ?aF ?aO ?aB ?aS ?aL ?_;(case aP=>exact rfl);(case aB=>exact zb28);(case aF=>exact (fun _ _=>trivial));(case aO=>exact zb30);(case aS=>exact zb25);(case aL=>have:=LMc11.out;omega);intro v224 w12 ho hb hg hat;rw [← Ny223.out] at ho;replace HB:=Aside0.mk (hb);have HO225:=Aside0.mk (ho);clear ho hb hg hat))
      go_roundg k1
      case measure=>have:=HK1.out;omega
      case rel=>exact ⟨(y223),(wrap64 (x4_1 + 1)),zb3,H',⟨zb48⟩,⟨by (with_reducible repeat (first|apply Kd.R_alloc|apply Kd.R_drewN|apply Kd.R_drew));exact HO225.out⟩,⟨zb0⟩⟩
     ·rw [if_neg c11] at H
      exact absurd H zb17
   ·rw [if_neg c5] at H
    exact absurd H zb17
mutual
def tollbarref05_Host.j1:Nat → ByteArray → Int → Int → Option (ByteArray × Bool)
 | 0,_,_,_=>none
 | k + 1,x0,x4,x5=>if x5 ≥ 0 then (if 0 ≤ x5 then (if x5 < (x0.size:Int) then (tollbarref05_Host.j2 k x0 x4 x5 ((bt x0 x5) == 58)) else (none)) else (none)) else (tollbarref05_Host.j2 k x0 x4 x5 false)
def tollbarref05_Host.j2:Nat → ByteArray → Int → Int → Bool → Option (ByteArray × Bool)
 | 0,_,_,_,_=>none
 | k + 1,x0,x4,x5,x31=>if x31=true then (tollbarref05_Host.j3 k x0 x5) else (tollbarref05_Host.j3 k x0 x4)
def tollbarref05_Host.j3:Nat → ByteArray → Int → Option (ByteArray × Bool)
 | 0,_,_=>none
 | k + 1,x0,x4=>if 0 ≤ x4 then (if x4 ≤ (x0.size:Int) then ((tollbarref02_Fold.f k (x0.extract 0 (x4:Int).toNat)).bind fun t230=>(tollbarref05_Host.l1 k t230 0)) else (none)) else (none)
def tollbarref05_Host.l1:Nat → ByteArray → Int → Option (ByteArray × Bool)
 | 0,_,_=>none
 | k + 1,x6,x7=>if x7 < (x6.size:Int) then (if 0 ≤ x7 then (if (bt x6 x7) ≥ 97 then (if ((bt x6 x7) ≤ 122) then (tollbarref05_Host.l1 k x6 (wrap64 (x7 + 1))) else ((tollbarref02_Digit.f (bt x6 x7)).bind fun t231=>(if t231=true then (tollbarref05_Host.l1 k x6 (wrap64 (x7 + 1))) else (if (bt x6 x7)=45 then (tollbarref05_Host.l1 k x6 (wrap64 (x7 + 1))) else (if (bt x6 x7)=46 then (tollbarref05_Host.l1 k x6 (wrap64 (x7 + 1))) else (some ((⟨#[]⟩:ByteArray),false))))))) else ((tollbarref02_Digit.f (bt x6 x7)).bind fun t232=>(if t232=true then (tollbarref05_Host.l1 k x6 (wrap64 (x7 + 1))) else (if (bt x6 x7)=45 then (tollbarref05_Host.l1 k x6 (wrap64 (x7 + 1))) else (if (bt x6 x7)=46 then (tollbarref05_Host.l1 k x6 (wrap64 (x7 + 1))) else (some ((⟨#[]⟩:ByteArray),false))))))) else (none)) else (if (x6.size:Int)=0 then (some ((⟨#[]⟩:ByteArray),false)) else (if (x6.size:Int) > 64 then (some ((⟨#[]⟩:ByteArray),false)) else (some (x6,true))))
def tollbarref05_Host.l0:Nat → ByteArray → Int → Int → Option (ByteArray × Bool)
 | 0,_,_,_=>none
 | k + 1,x0,x4,x5=>if x5 ≥ 0 then (if 0 ≤ x5 then (if x5 < (x0.size:Int) then ((tollbarref02_Digit.f (bt x0 x5)).bind fun t229=>(if t229=true then (tollbarref05_Host.l0 k x0 x4 (wrap64 (x5 - 1))) else (tollbarref05_Host.j1 k x0 x4 x5))) else (none)) else (none)) else (tollbarref05_Host.j1 k x0 x4 x5)
end
def tollbarref05_Host.f (k:Nat) (a0:ByteArray):Option (ByteArray × Bool):=tollbarref05_Host.l0 k a0 (a0.size:Int) (wrap64 ((a0.size:Int) - 1))
set_option maxHeartbeats 8000000 in
set_option maxRecDepth 100000 in
theorem tollbarref05_Host.calls (k:Nat) (a0:ByteArray) (r1:ByteArray) (r2:Bool) (w:World) (h:tollbarref05_Host.f k a0=some (r1,r2)) :
 Calls Tryd.prog 44 #[.string a0] w fun e w' => e = .returned (.tuple #[.string r1,.bool r2])∧Below w.heap.size w w' := by
 have HB:=Aside0.mk (Below.refl w.heap.size w)
 unfold tollbarref05_Host.f at h
 have H:=h
 clear h
 have HC2:=Aside0.mk H
 clear H
 go_enter Tryd.func44,Tryd.ntmps44
 go_upto_block 0 with (fail)
 go_cut [5] (fun v5 wc => ∃ (kq:Nat) (x5_1:Int),v5 = .int .i64 x5_1∧Aside0 (tollbarref05_Host.j1 kq a0 (a0.size:Int) x5_1=some (r1,r2))∧Aside0 (kq ≤ k)∧Aside0 (Below w.heap.size w wc))
 case first =>
  have H:=HC2.out
  clear HC2
  have H' := Aside0.mk H
  clear H
  go_wp2
  go_loopg [5] k (fun kq v5 w' => ∃ (x5_1:Int),v5 = .int .i64 x5_1∧Aside0 (tollbarref05_Host.l0 kq a0 (a0.size:Int) x5_1=some (r1,r2))∧Aside0 (kq ≤ k)∧Aside0 (Below w.heap.size w w'))
  case atStart=>exact ⟨(wrap64 ((a0.size:Int) - 1)),zb3,H',⟨Nat.le_refl _⟩,⟨zb0⟩⟩
  case round =>
   clear H'
   try clear p2
   obtain ⟨x5_1,rfl,HA,HK1,HB⟩:=hrel
   cases gk with
   | zero=>exact absurd HA.out (by simp [tollbarref05_Host.l0])
   | succ k1 =>
    have H:=HA.out
    clear HA
    simp only [tollbarref05_Host.l0] at H
    by_cases c3:x5_1 ≥ 0;rotate_left
    ·rw [if_neg c3] at H
     have c3b0:decide (0 ≤ x5_1)=false:=decide_eq_false c3
     clear c3
     (first|rw [c3b0]|(simp only [i64_w,i32_w];rw [c3b0])|skip)
     have H' := Aside0.mk H
     clear H
     go_wp2
     go_meet
     case rel=>exact ⟨_,(x5_1),zb3,H',⟨zb37⟩,⟨zb0⟩⟩
    rw [if_pos c3] at H
    have c3b0:decide (0 ≤ x5_1)=true:=decide_eq_true c3
    clear c3
    (first|rw [c3b0]|(simp only [i64_w,i32_w];rw [c3b0])|skip)
    by_cases c4:0 ≤ x5_1
    ·rw [if_pos c4] at H
     have c4b0:=decide_eq_true c4
     clear c4
     by_cases c5:x5_1 < (a0.size:Int)
     ·rw [if_pos c5] at H
      have c5b0:=decide_eq_true c5
      clear c5
      replace H:=Option.bind_eq_some_iff.mp H
      obtain ⟨t37,A70,H⟩:=H
      try dsimp only at H
      have A7:=Aside0.mk A70
      clear A70
      by_cases c8:t37=true
      ·subst c8
       rw [if_pos rfl] at H
       have H' := Aside0.mk H
       clear H
       have p6:0 ≤ (x5_1:Int):=of_decide_eq_true zb1
       have q6:x5_1 < (a0.size:Int):=of_decide_eq_true zb1
       have hx6:=bt_at a0 x5_1
       replace p6:=eq_true p6
       replace q6:=eq_true q6
       go_wp2_with (first|(go_at_call 59;(with_reducible refine (tollbarref02_Digit.calls (bt a0 x5_1) true _ A7.out).mono ?_);rintro e w' ⟨rfl,⟨nd,rfl⟩⟩;(try clear A7)))
       go_roundg k1
       case measure=>have:=HK1.out;omega
       case rel=>exact ⟨(wrap64 (x5_1 - 1)),zb3,H',⟨zb48⟩,⟨zb0⟩⟩
      replace c8:=Bool.eq_false_iff.mpr c8
      subst c8
      rw [if_neg (show ¬ (false=true) by decide)] at H
      have H' := Aside0.mk H
      clear H
      have p6:0 ≤ (x5_1:Int):=of_decide_eq_true zb1
      have q6:x5_1 < (a0.size:Int):=of_decide_eq_true zb1
      have hx6:=bt_at a0 x5_1
      replace p6:=eq_true p6
      replace q6:=eq_true q6
      go_wp2_with (first|(go_at_call 59;(with_reducible refine (tollbarref02_Digit.calls (bt a0 x5_1) false _ A7.out).mono ?_);rintro e w' ⟨rfl,⟨nd,rfl⟩⟩;(try clear A7)))
      go_meet
      case rel=>exact ⟨_,(x5_1),zb3,H',⟨zb37⟩,⟨zb0⟩⟩
     ·rw [if_neg c5] at H
      exact absurd H zb17
    ·rw [if_neg c4] at H
     exact absurd H zb17
 case rest =>
  clear HC2
  try clear p2
  try clear c3
  try clear c3b0
  try clear c4
  try clear c4b0
  try clear c5
  try clear c5b0
  try clear p6
  try clear q6
  try clear hx6
  try clear c8
  try clear p2
  try clear p6
  try clear q6
  obtain ⟨kq,x5_1,rfl,HA,HJ1,HB⟩:=hcut
  cases kq with
  | zero=>exact absurd HA.out (by simp [tollbarref05_Host.j1])
  | succ kj1 =>
   have H:=HA.out
   clear HA
   simp only [tollbarref05_Host.j1] at H
   have HC9:=Aside0.mk H
   clear H
   go_upto_region 5 with (fail)
   go_cut [31] (fun v31 wc => ∃ (kq:Nat) (x31_8:Bool),v31 = .bool x31_8∧Aside0 (tollbarref05_Host.j2 kq a0 (a0.size:Int) x5_1 x31_8=some (r1,r2))∧Aside0 (kq ≤ kj1)∧Aside0 (Below w.heap.size w wc))
   case first =>
    have H:=HC9.out
    clear HC9
    by_cases c10:x5_1 ≥ 0;rotate_left
    ·rw [if_neg c10] at H
     have c10b0:decide (0 ≤ x5_1)=false:=decide_eq_false c10
     clear c10
     (first|rw [c10b0]|(simp only [i64_w,i32_w];rw [c10b0])|skip)
     have H' := Aside0.mk H
     clear H
     go_wp2
     go_meet
     case rel=>exact ⟨_,(false),zb3,H',⟨by have:=HJ1.out;first|omega|exact Nat.le_refl _⟩,⟨zb0⟩⟩
    rw [if_pos c10] at H
    have c10b0:decide (0 ≤ x5_1)=true:=decide_eq_true c10
    clear c10
    (first|rw [c10b0]|(simp only [i64_w,i32_w];rw [c10b0])|skip)
    by_cases c11:0 ≤ x5_1
    ·rw [if_pos c11] at H
     have c11b0:=decide_eq_true c11
     clear c11
     by_cases c12:x5_1 < (a0.size:Int)
     ·rw [if_pos c12] at H
      have c12b0:=decide_eq_true c12
      clear c12
      have H' := Aside0.mk H
      clear H
      have p13:0 ≤ (x5_1:Int):=of_decide_eq_true zb1
      have q13:x5_1 < (a0.size:Int):=of_decide_eq_true zb1
      have hx13:=bt_at a0 x5_1
      replace p13:=eq_true p13
      replace q13:=eq_true q13
      go_wp2
      go_meet
      case rel=>exact ⟨_,(((bt a0 x5_1) == 58)),zb3,H',⟨by have:=HJ1.out;first|omega|exact Nat.le_refl _⟩,⟨zb0⟩⟩
     ·rw [if_neg c12] at H
      exact absurd H zb17
    ·rw [if_neg c11] at H
     exact absurd H zb17
   case rest =>
    clear HC9
    try clear c1
    try clear p1
    try clear q1
    try clear hx1
    try clear p2
    try clear c3
    try clear c3b0
    try clear c4
    try clear c4b0
    try clear c5
    try clear c5b0
    try clear p6
    try clear q6
    try clear hx6
    try clear c8
    try clear c10
    try clear c10b0
    try clear c11
    try clear c11b0
    try clear c12
    try clear c12b0
    try clear p13
    try clear q13
    try clear hx13
    try clear p13
    try clear p2
    try clear p6
    try clear q13
    try clear q6
    obtain ⟨kq,x31_8,rfl,HA,HJ8,HB⟩:=hcut
    cases kq with
    | zero=>exact absurd HA.out (by simp [tollbarref05_Host.j2])
    | succ kj8 =>
     have H:=HA.out
     clear HA
     simp only [tollbarref05_Host.j2] at H
     have HC14:=Aside0.mk H
     clear H
     go_upto_if 31 with (fail)
     go_cut [4] (fun v4 wc => ∃ (kq:Nat) (x4_13:Int),v4 = .int .i64 x4_13∧Aside0 (tollbarref05_Host.j3 kq a0 x4_13=some (r1,r2))∧Aside0 (kq ≤ kj8)∧Aside0 (Below w.heap.size w wc))
     case first =>
      have H:=HC14.out
      clear HC14
      by_cases c15:x31_8=true
      ·subst c15
       rw [if_pos rfl] at H
       have H' := Aside0.mk H
       clear H
       go_wp2
       go_meet
       case rel=>exact ⟨_,(x5_1),zb3,H',⟨by have:=HJ1.out;have:=HJ8.out;first|omega|exact Nat.le_refl _⟩,⟨zb0⟩⟩
      replace c15:=Bool.eq_false_iff.mpr c15
      subst c15
      rw [if_neg (show ¬ (false=true) by decide)] at H
      have H' := Aside0.mk H
      clear H
      go_wp2
      go_meet
      case rel=>exact ⟨_,((a0.size:Int)),zb3,H',⟨by have:=HJ1.out;have:=HJ8.out;first|omega|exact Nat.le_refl _⟩,⟨zb0⟩⟩
     case rest =>
      clear HC14
      try clear c1
      try clear p1
      try clear q1
      try clear hx1
      try clear p2
      try clear c3
      try clear c3b0
      try clear c4
      try clear c4b0
      try clear c5
      try clear c5b0
      try clear p6
      try clear q6
      try clear hx6
      try clear c8
      try clear c10
      try clear c10b0
      try clear c11
      try clear c11b0
      try clear c12
      try clear c12b0
      try clear p13
      try clear q13
      try clear hx13
      try clear c15
      try clear p1
      try clear p13
      try clear p2
      try clear p6
      try clear q1
      try clear q13
      try clear q6
      obtain ⟨kq,x4_13,rfl,HA,HJ13,HB⟩:=hcut
      cases kq with
      | zero=>exact absurd HA.out (by simp [tollbarref05_Host.j3])
      | succ kj13 =>
       have H:=HA.out
       clear HA
       simp only [tollbarref05_Host.j3] at H
       by_cases c16:0 ≤ x4_13;rotate_left
       ·rw [if_neg c16] at H
        exact absurd H zb17
       rw [if_pos c16] at H
       have c16b0:=eq_true c16
       have c16b1:=decide_eq_true c16
       clear c16
       by_cases c17:x4_13 ≤ (a0.size:Int)
       ·rw [if_pos c17] at H
        have c17b0:=eq_true c17
        have c17b1:=decide_eq_true c17
        clear c17
        replace H:=Option.bind_eq_some_iff.mp H
        obtain ⟨t35,A36,H⟩:=H
        try dsimp only at H
        have A18:=Aside0.mk A36
        clear A36
        have H' := Aside0.mk H
        clear H
        go_wp2_with (first|((with_reducible refine gate_callee (f:=60) rfl ?_);refine goesL_ (some 36) rfl rfl Tryd.func60 zb24 rfl #[.string (a0.extract 0 (x4_13:Int).toNat)] rfl zb2 ?_;(with_reducible refine (tollbarref02_Fold.calls kj13 (a0.extract 0 (x4_13:Int).toNat) t35 _ A18.out).mono ?_);rintro e w19 ⟨rfl,hb⟩;(try clear A18);refine ⟨_,rfl,?_⟩;replace HB:=Aside0.mk (below_step zb0 hb);(try clear hb)))
        go_loopg [7] kj13 (fun kq v7 w' => ∃ (x7_4:Int),v7 = .int .i64 x7_4∧Aside0 (tollbarref05_Host.l1 kq t35 x7_4=some (r1,r2))∧Aside0 (kq ≤ kj13)∧Aside0 (Below w.heap.size w w'))
        case atStart=>exact ⟨(0),zb3,H',⟨Nat.le_refl _⟩,⟨zb0⟩⟩
        case round =>
         clear H'
         try clear c1
         try clear p1
         try clear q1
         try clear hx1
         try clear p2
         try clear c3
         try clear c3b0
         try clear c4
         try clear c4b0
         try clear c5
         try clear c5b0
         try clear c6
         try clear p6
         try clear q6
         try clear hx6
         try clear c8
         try clear c10
         try clear c10b0
         try clear c11
         try clear c11b0
         try clear c12
         try clear c12b0
         try clear p13
         try clear q13
         try clear hx13
         try clear c15
         try clear c16
         try clear c16b0
         try clear c16b1
         try clear c17
         try clear c17b0
         try clear c17b1
         try clear p1
         try clear p13
         try clear p2
         try clear p6
         try clear q1
         try clear q13
         try clear q6
         obtain ⟨x7_4,rfl,HA,HK4,HB⟩:=hrel
         cases gk with
         | zero=>exact absurd HA.out (by simp [tollbarref05_Host.l1])
         | succ k4 =>
          have H:=HA.out
          clear HA
          simp only [tollbarref05_Host.l1] at H
          by_cases c20:x7_4 < (t35.size:Int);rotate_left
          ·rw [if_neg c20] at H
           have c20b0:=decide_eq_false c20
           clear c20
           by_cases c33:(t35.size:Int)=0
           ·rw [if_pos c33] at H
            have c33b0:=beq_iff_eq.mpr c33
            have c33b1:=bne_eq_false_iff_eq.mpr c33
            clear c33
            simp only [Option.some.injEq,Prod.mk.injEq] at H
            obtain ⟨rfl,rfl⟩:=H
            go_wp2
            go_ret2
            exact ⟨zb6,zb0⟩
           rw [if_neg c33] at H
           have c33b0:=beq_eq_false_iff_ne.mpr c33
           have c33b1:=bne_iff_ne.mpr c33
           by_cases c34:(t35.size:Int) > 64
           ·rw [if_pos c34] at H
            have c34b0:decide (64 < (t35.size:Int))=true:=decide_eq_true c34
            have c34b1:decide (64 < t35.size)=true:=decide_eq_true zb14
            clear c34
            simp only [Option.some.injEq,Prod.mk.injEq] at H
            obtain ⟨rfl,rfl⟩:=H
            go_wp2
            go_ret2
            exact ⟨zb6,zb0⟩
           rw [if_neg c34] at H
           have c34b0:decide (64 < (t35.size:Int))=false:=decide_eq_false c34
           have c34b1:decide (64 < t35.size)=false:=decide_eq_false zb14
           clear c34
           simp only [Option.some.injEq,Prod.mk.injEq] at H
           obtain ⟨rfl,rfl⟩:=H
           go_wp2
           go_ret2
           exact ⟨zb6,zb0⟩
          rw [if_pos c20] at H
          have c20b0:=decide_eq_true c20
          clear c20
          by_cases c21:0 ≤ x7_4
          ·rw [if_pos c21] at H
           have c21b0:=decide_eq_true c21
           clear c21
           by_cases c23:(bt t35 x7_4) ≥ 97;rotate_left
           ·rw [if_neg c23] at H
            have c23b0:decide (97 ≤ (bt t35 x7_4))=false:=decide_eq_false c23
            clear c23
            replace H:=Option.bind_eq_some_iff.mp H
            obtain ⟨t39,A41,H⟩:=H
            try dsimp only at H
            have A29:=Aside0.mk A41
            clear A41
            by_cases c30:t39=true
            ·subst c30
             rw [if_pos rfl] at H
             have H' := Aside0.mk H
             clear H
             have p22:0 ≤ (x7_4:Int):=of_decide_eq_true zb1
             have q22:x7_4 < (t35.size:Int):=of_decide_eq_true zb1
             have hx22:=bt_at t35 x7_4
             replace p22:=eq_true p22
             replace q22:=eq_true q22
             go_wp2_with (first|(go_at_call 59;(with_reducible refine (tollbarref02_Digit.calls (bt t35 x7_4) true _ A29.out).mono ?_);rintro e w' ⟨rfl,⟨nd,rfl⟩⟩;(try clear A29)))
             go_roundg k4
             case measure=>have:=HJ1.out;have:=HJ8.out;have:=HJ13.out;have:=HK4.out;omega
             case rel=>exact ⟨(wrap64 (x7_4 + 1)),zb3,H',⟨zb43⟩,⟨zb0⟩⟩
            replace c30:=Bool.eq_false_iff.mpr c30
            subst c30
            rw [if_neg (show ¬ (false=true) by decide)] at H
            by_cases c31:(bt t35 x7_4)=45
            ·rw [if_pos c31] at H
             have c31b0:=beq_iff_eq.mpr c31
             have c31b1:=bne_eq_false_iff_eq.mpr c31
             clear c31
             have H' := Aside0.mk H
             clear H
             have p22:0 ≤ (x7_4:Int):=of_decide_eq_true zb1
             have q22:x7_4 < (t35.size:Int):=of_decide_eq_true zb1
             have hx22:=bt_at t35 x7_4
             replace p22:=eq_true p22
             replace q22:=eq_true q22
             go_wp2_with (first|(go_at_call 59;(with_reducible refine (tollbarref02_Digit.calls (bt t35 x7_4) false _ A29.out).mono ?_);rintro e w' ⟨rfl,⟨nd,rfl⟩⟩;(try clear A29)))
             go_roundg k4
             case measure=>have:=HJ1.out;have:=HJ8.out;have:=HJ13.out;have:=HK4.out;omega
             case rel=>exact ⟨(wrap64 (x7_4 + 1)),zb3,H',⟨zb43⟩,⟨zb0⟩⟩
            rw [if_neg c31] at H
            have c31b0:=beq_eq_false_iff_ne.mpr c31
            have c31b1:=bne_iff_ne.mpr c31
            by_cases c32:(bt t35 x7_4)=46;rotate_left
            ·rw [if_neg c32] at H
             have c32b0:=beq_eq_false_iff_ne.mpr c32
             have c32b1:=bne_iff_ne.mpr c32
             simp only [Option.some.injEq,Prod.mk.injEq] at H
             obtain ⟨rfl,rfl⟩:=H
             have p22:0 ≤ (x7_4:Int):=of_decide_eq_true zb1
             have q22:x7_4 < (t35.size:Int):=of_decide_eq_true zb1
             have hx22:=bt_at t35 x7_4
             replace p22:=eq_true p22
             replace q22:=eq_true q22
             go_wp2_with (first|(go_at_call 59;(with_reducible refine (tollbarref02_Digit.calls (bt t35 x7_4) false _ A29.out).mono ?_);rintro e w' ⟨rfl,⟨nd,rfl⟩⟩;(try clear A29)))
             go_ret2
             exact ⟨zb6,zb0⟩
            rw [if_pos c32] at H
            have c32b0:=beq_iff_eq.mpr c32
            have c32b1:=bne_eq_false_iff_eq.mpr c32
            clear c32
            have H' := Aside0.mk H
            clear H
            have p22:0 ≤ (x7_4:Int):=of_decide_eq_true zb1
            have q22:x7_4 < (t35.size:Int):=of_decide_eq_true zb1
            have hx22:=bt_at t35 x7_4
            replace p22:=eq_true p22
            replace q22:=eq_true q22
            go_wp2_with (first|(go_at_call 59;(with_reducible refine (tollbarref02_Digit.calls (bt t35 x7_4) false _ A29.out).mono ?_);rintro e w' ⟨rfl,⟨nd,rfl⟩⟩;(try clear A29)))
            go_roundg k4
            case measure=>have:=HJ1.out;have:=HJ8.out;have:=HJ13.out;have:=HK4.out;omega
            case rel=>exact ⟨(wrap64 (x7_4 + 1)),zb3,H',⟨zb43⟩,⟨zb0⟩⟩
           rw [if_pos c23] at H
           have c23b0:decide (97 ≤ (bt t35 x7_4))=true:=decide_eq_true c23
           clear c23
           by_cases c24:((bt t35 x7_4) ≤ 122)
           ·rw [if_pos c24] at H
            have c24b0:decide ((bt t35 x7_4) ≤ 122)=true:=decide_eq_true c24
            clear c24
            have H' := Aside0.mk H
            clear H
            have p22:0 ≤ (x7_4:Int):=of_decide_eq_true zb1
            have q22:x7_4 < (t35.size:Int):=of_decide_eq_true zb1
            have hx22:=bt_at t35 x7_4
            replace p22:=eq_true p22
            replace q22:=eq_true q22
            go_wp2
            go_roundg k4
            case measure=>have:=HJ1.out;have:=HJ8.out;have:=HJ13.out;have:=HK4.out;omega
            case rel=>exact ⟨(wrap64 (x7_4 + 1)),zb3,H',⟨zb43⟩,⟨zb0⟩⟩
           ·rw [if_neg c24] at H
            have c24b0:decide ((bt t35 x7_4) ≤ 122)=false:=decide_eq_false c24
            clear c24
            replace H:=Option.bind_eq_some_iff.mp H
            obtain ⟨t38,A40,H⟩:=H
            try dsimp only at H
            have A25:=Aside0.mk A40
            clear A40
            by_cases c26:t38=true
            ·subst c26
             rw [if_pos rfl] at H
             have H' := Aside0.mk H
             clear H
             have p22:0 ≤ (x7_4:Int):=of_decide_eq_true zb1
             have q22:x7_4 < (t35.size:Int):=of_decide_eq_true zb1
             have hx22:=bt_at t35 x7_4
             replace p22:=eq_true p22
             replace q22:=eq_true q22
             go_wp2_with (first|(go_at_call 59;(with_reducible refine (tollbarref02_Digit.calls (bt t35 x7_4) true _ A25.out).mono ?_);rintro e w' ⟨rfl,⟨nd,rfl⟩⟩;(try clear A25)))
             go_roundg k4
             case measure=>have:=HJ1.out;have:=HJ8.out;have:=HJ13.out;have:=HK4.out;omega
             case rel=>exact ⟨(wrap64 (x7_4 + 1)),zb3,H',⟨zb43⟩,⟨zb0⟩⟩
            ·replace c26:=Bool.eq_false_iff.mpr c26
             subst c26
             rw [if_neg (show ¬ (false=true) by decide)] at H
             by_cases c27:(bt t35 x7_4)=45
             ·rw [if_pos c27] at H
              have c27b0:=beq_iff_eq.mpr c27
              have c27b1:=bne_eq_false_iff_eq.mpr c27
              clear c27
              have H' := Aside0.mk H
              clear H
              have p22:0 ≤ (x7_4:Int):=of_decide_eq_true zb1
              have q22:x7_4 < (t35.size:Int):=of_decide_eq_true zb1
              have hx22:=bt_at t35 x7_4
              replace p22:=eq_true p22
              replace q22:=eq_true q22
              go_wp2_with (first|(go_at_call 59;(with_reducible refine (tollbarref02_Digit.calls (bt t35 x7_4) false _ A25.out).mono ?_);rintro e w' ⟨rfl,⟨nd,rfl⟩⟩;(try clear A25)))
              go_roundg k4
              case measure=>have:=HJ1.out;have:=HJ8.out;have:=HJ13.out;have:=HK4.out;omega
              case rel=>exact ⟨(wrap64 (x7_4 + 1)),zb3,H',⟨zb43⟩,⟨zb0⟩⟩
             ·rw [if_neg c27] at H
              have c27b0:=beq_eq_false_iff_ne.mpr c27
              have c27b1:=bne_iff_ne.mpr c27
              by_cases c28:(bt t35 x7_4)=46
              ·rw [if_pos c28] at H
               have c28b0:=beq_iff_eq.mpr c28
               have c28b1:=bne_eq_false_iff_eq.mpr c28
               clear c28
               have H' := Aside0.mk H
               clear H
               have p22:0 ≤ (x7_4:Int):=of_decide_eq_true zb1
               have q22:x7_4 < (t35.size:Int):=of_decide_eq_true zb1
               have hx22:=bt_at t35 x7_4
               replace p22:=eq_true p22
               replace q22:=eq_true q22
               go_wp2_with (first|(go_at_call 59;(with_reducible refine (tollbarref02_Digit.calls (bt t35 x7_4) false _ A25.out).mono ?_);rintro e w' ⟨rfl,⟨nd,rfl⟩⟩;(try clear A25)))
               go_roundg k4
               case measure=>have:=HJ1.out;have:=HJ8.out;have:=HJ13.out;have:=HK4.out;omega
               case rel=>exact ⟨(wrap64 (x7_4 + 1)),zb3,H',⟨zb43⟩,⟨zb0⟩⟩
              ·rw [if_neg c28] at H
               have c28b0:=beq_eq_false_iff_ne.mpr c28
               have c28b1:=bne_iff_ne.mpr c28
               simp only [Option.some.injEq,Prod.mk.injEq] at H
               obtain ⟨rfl,rfl⟩:=H
               have p22:0 ≤ (x7_4:Int):=of_decide_eq_true zb1
               have q22:x7_4 < (t35.size:Int):=of_decide_eq_true zb1
               have hx22:=bt_at t35 x7_4
               replace p22:=eq_true p22
               replace q22:=eq_true q22
               go_wp2_with (first|(go_at_call 59;(with_reducible refine (tollbarref02_Digit.calls (bt t35 x7_4) false _ A25.out).mono ?_);rintro e w' ⟨rfl,⟨nd,rfl⟩⟩;(try clear A25)))
               go_ret2
               exact ⟨zb6,zb0⟩
          ·rw [if_neg c21] at H
           exact absurd H zb17
       ·rw [if_neg c17] at H
        exact absurd H zb17
def tollbarref09_Name.l0:Nat → ByteArray → Int → Option (Bool)
 | 0,_,_=>none
 | k + 1,x0,x3=>if x3 < (x0.size:Int) then (if 0 ≤ x3 then (if (bt x0 x3) ≥ 97 then (if ((bt x0 x3) ≤ 122) then (tollbarref09_Name.l0 k x0 (wrap64 (x3 + 1))) else (if x3=0 then (some false) else ((tollbarref02_Digit.f (bt x0 x3)).bind fun t215=>(if t215=true then (tollbarref09_Name.l0 k x0 (wrap64 (x3 + 1))) else (if (bt x0 x3)=45 then (tollbarref09_Name.l0 k x0 (wrap64 (x3 + 1))) else (some false)))))) else (if x3=0 then (some false) else ((tollbarref02_Digit.f (bt x0 x3)).bind fun t216=>(if t216=true then (tollbarref09_Name.l0 k x0 (wrap64 (x3 + 1))) else (if (bt x0 x3)=45 then (tollbarref09_Name.l0 k x0 (wrap64 (x3 + 1))) else (some false)))))) else (none)) else (if (x0.size:Int) ≥ 1 then (some (decide ((x0.size:Int) ≤ 30))) else (some false))
def tollbarref09_Name.f (k:Nat) (a0:ByteArray):Option (Bool):=tollbarref09_Name.l0 k a0 0
set_option maxHeartbeats 8000000 in
set_option maxRecDepth 100000 in
theorem tollbarref09_Name.calls (k:Nat) (a0:ByteArray) (r:Bool) (w:World) (h:tollbarref09_Name.f k a0=some r) :
 Calls Tryd.prog 43 #[.string a0] w fun e w' => e = .returned (.bool r)∧Drawn0 w w' := by
 unfold tollbarref09_Name.f at h
 have H:=h
 clear h
 have H' := Aside0.mk H
 clear H
 go_enter Tryd.func43,Tryd.ntmps43
 go_wp2
 go_loopg [3] k (fun kq v3 w' => ∃ (x3_1:Int),v3 = .int .i64 x3_1∧Aside0 (tollbarref09_Name.l0 kq a0 x3_1=some r)∧Aside0 (kq ≤ k)∧Drawn0 w w')
 case atStart=>exact ⟨(0),zb3,H',⟨Nat.le_refl _⟩,zb7⟩
 case round =>
  clear H'
  obtain ⟨x3_1,rfl,HA,HK1,⟨m1,rfl⟩⟩:=hrel
  cases gk with
  | zero=>exact absurd HA.out (by simp [tollbarref09_Name.l0])
  | succ k1 =>
   have H:=HA.out
   clear HA
   simp only [tollbarref09_Name.l0] at H
   by_cases c2:x3_1 < (a0.size:Int);rotate_left
   ·rw [if_neg c2] at H
    have c2b0:=decide_eq_false c2
    clear c2
    by_cases c20:(a0.size:Int) ≥ 1
    ·rw [if_pos c20] at H
     have c20b0:decide (1 ≤ (a0.size:Int))=true:=decide_eq_true c20
     have c20b1:decide (1 ≤ a0.size)=true:=decide_eq_true zb14
     clear c20
     obtain rfl:=Option.some.inj H
     go_wp2
     go_ret
     exact ⟨zb3,zb7⟩
    rw [if_neg c20] at H
    have c20b0:decide (1 ≤ (a0.size:Int))=false:=decide_eq_false c20
    have c20b1:decide (1 ≤ a0.size)=false:=decide_eq_false zb14
    clear c20
    obtain rfl:=Option.some.inj H
    go_wp2
    go_ret
    exact ⟨zb3,zb7⟩
   rw [if_pos c2] at H
   have c2b0:=decide_eq_true c2
   clear c2
   by_cases c3:0 ≤ x3_1
   ·rw [if_pos c3] at H
    have c3b0:=decide_eq_true c3
    clear c3
    by_cases c5:(bt a0 x3_1) ≥ 97;rotate_left
    ·rw [if_neg c5] at H
     have c5b0:decide (97 ≤ (bt a0 x3_1))=false:=decide_eq_false c5
     clear c5
     by_cases c14:x3_1=0
     ·rw [if_pos c14] at H
      have c14b0:=beq_iff_eq.mpr c14
      have c14b1:=bne_eq_false_iff_eq.mpr c14
      clear c14
      obtain rfl:=Option.some.inj H
      have p4:0 ≤ (x3_1:Int):=of_decide_eq_true zb1
      have q4:x3_1 < (a0.size:Int):=of_decide_eq_true zb1
      have hx4:=bt_at a0 x3_1
      replace p4:=eq_true p4
      replace q4:=eq_true q4
      go_wp2
      go_ret
      exact ⟨zb3,zb7⟩
     rw [if_neg c14] at H
     have c14b0:=beq_eq_false_iff_ne.mpr c14
     have c14b1:=bne_iff_ne.mpr c14
     replace H:=Option.bind_eq_some_iff.mp H
     obtain ⟨t216,A160,H⟩:=H
     try dsimp only at H
     have A16:=Aside0.mk A160
     clear A160
     by_cases c17:t216=true
     ·subst c17
      rw [if_pos rfl] at H
      have H' := Aside0.mk H
      clear H
      have p4:0 ≤ (x3_1:Int):=of_decide_eq_true zb1
      have q4:x3_1 < (a0.size:Int):=of_decide_eq_true zb1
      have hx4:=bt_at a0 x3_1
      replace p4:=eq_true p4
      replace q4:=eq_true q4
      have p15:0 ≤ (x3_1:Int):=of_decide_eq_true zb1
      have q15:x3_1 < (a0.size:Int):=of_decide_eq_true zb1
      have hx15:=bt_at a0 x3_1
      replace p15:=eq_true p15
      replace q15:=eq_true q15
      go_wp2_with (first|(go_at_call 59;(with_reducible refine (tollbarref02_Digit.calls (bt a0 x3_1) true _ A16.out).mono ?_);rintro e w' ⟨rfl,⟨nd,rfl⟩⟩;(try clear A16)))
      go_roundg k1
      case measure=>have:=HK1.out;omega
      case rel=>exact ⟨(wrap64 (x3_1 + 1)),zb3,H',⟨zb48⟩,zb7⟩
     replace c17:=Bool.eq_false_iff.mpr c17
     subst c17
     rw [if_neg (show ¬ (false=true) by decide)] at H
     by_cases c19:(bt a0 x3_1)=45;rotate_left
     ·rw [if_neg c19] at H
      have c19b0:=beq_eq_false_iff_ne.mpr c19
      have c19b1:=bne_iff_ne.mpr c19
      obtain rfl:=Option.some.inj H
      have p4:0 ≤ (x3_1:Int):=of_decide_eq_true zb1
      have q4:x3_1 < (a0.size:Int):=of_decide_eq_true zb1
      have hx4:=bt_at a0 x3_1
      replace p4:=eq_true p4
      replace q4:=eq_true q4
      have p15:0 ≤ (x3_1:Int):=of_decide_eq_true zb1
      have q15:x3_1 < (a0.size:Int):=of_decide_eq_true zb1
      have hx15:=bt_at a0 x3_1
      replace p15:=eq_true p15
      replace q15:=eq_true q15
      go_wp2_with (first|(go_at_call 59;(with_reducible refine (tollbarref02_Digit.calls (bt a0 x3_1) false _ A16.out).mono ?_);rintro e w' ⟨rfl,⟨nd,rfl⟩⟩;(try clear A16);have p18:0 ≤ (x3_1:Int):=of_decide_eq_true zb1;have q18:x3_1 < (a0.size:Int):=of_decide_eq_true zb1;have hx18:=bt_at a0 x3_1;replace p18:=eq_true p18;replace q18:=eq_true q18))
      go_ret
      exact ⟨zb3,zb7⟩
     rw [if_pos c19] at H
     have c19b0:=beq_iff_eq.mpr c19
     have c19b1:=bne_eq_false_iff_eq.mpr c19
     clear c19
     have H' := Aside0.mk H
     clear H
     have p4:0 ≤ (x3_1:Int):=of_decide_eq_true zb1
     have q4:x3_1 < (a0.size:Int):=of_decide_eq_true zb1
     have hx4:=bt_at a0 x3_1
     replace p4:=eq_true p4
     replace q4:=eq_true q4
     have p15:0 ≤ (x3_1:Int):=of_decide_eq_true zb1
     have q15:x3_1 < (a0.size:Int):=of_decide_eq_true zb1
     have hx15:=bt_at a0 x3_1
     replace p15:=eq_true p15
     replace q15:=eq_true q15
     go_wp2_with (first|(go_at_call 59;(with_reducible refine (tollbarref02_Digit.calls (bt a0 x3_1) false _ A16.out).mono ?_);rintro e w' ⟨rfl,⟨nd,rfl⟩⟩;(try clear A16);have p18:0 ≤ (x3_1:Int):=of_decide_eq_true zb1;have q18:x3_1 < (a0.size:Int):=of_decide_eq_true zb1;have hx18:=bt_at a0 x3_1;replace p18:=eq_true p18;replace q18:=eq_true q18))
     go_roundg k1
     case measure=>have:=HK1.out;omega
     case rel=>exact ⟨(wrap64 (x3_1 + 1)),zb3,H',⟨zb48⟩,zb7⟩
    rw [if_pos c5] at H
    have c5b0:decide (97 ≤ (bt a0 x3_1))=true:=decide_eq_true c5
    clear c5
    by_cases c7:((bt a0 x3_1) ≤ 122)
    ·rw [if_pos c7] at H
     have c7b0:decide ((bt a0 x3_1) ≤ 122)=true:=decide_eq_true c7
     clear c7
     have H' := Aside0.mk H
     clear H
     have p4:0 ≤ (x3_1:Int):=of_decide_eq_true zb1
     have q4:x3_1 < (a0.size:Int):=of_decide_eq_true zb1
     have hx4:=bt_at a0 x3_1
     replace p4:=eq_true p4
     replace q4:=eq_true q4
     have p6:0 ≤ (x3_1:Int):=of_decide_eq_true zb1
     have q6:x3_1 < (a0.size:Int):=of_decide_eq_true zb1
     have hx6:=bt_at a0 x3_1
     replace p6:=eq_true p6
     replace q6:=eq_true q6
     go_wp2
     go_roundg k1
     case measure=>have:=HK1.out;omega
     case rel=>exact ⟨(wrap64 (x3_1 + 1)),zb3,H',⟨zb48⟩,zb7⟩
    rw [if_neg c7] at H
    have c7b0:decide ((bt a0 x3_1) ≤ 122)=false:=decide_eq_false c7
    clear c7
    by_cases c8:x3_1=0
    ·rw [if_pos c8] at H
     have c8b0:=beq_iff_eq.mpr c8
     have c8b1:=bne_eq_false_iff_eq.mpr c8
     clear c8
     obtain rfl:=Option.some.inj H
     have p4:0 ≤ (x3_1:Int):=of_decide_eq_true zb1
     have q4:x3_1 < (a0.size:Int):=of_decide_eq_true zb1
     have hx4:=bt_at a0 x3_1
     replace p4:=eq_true p4
     replace q4:=eq_true q4
     have p6:0 ≤ (x3_1:Int):=of_decide_eq_true zb1
     have q6:x3_1 < (a0.size:Int):=of_decide_eq_true zb1
     have hx6:=bt_at a0 x3_1
     replace p6:=eq_true p6
     replace q6:=eq_true q6
     go_wp2
     go_ret
     exact ⟨zb3,zb7⟩
    ·rw [if_neg c8] at H
     have c8b0:=beq_eq_false_iff_ne.mpr c8
     have c8b1:=bne_iff_ne.mpr c8
     replace H:=Option.bind_eq_some_iff.mp H
     obtain ⟨t215,A100,H⟩:=H
     try dsimp only at H
     have A10:=Aside0.mk A100
     clear A100
     by_cases c11:t215=true
     ·subst c11
      rw [if_pos rfl] at H
      have H' := Aside0.mk H
      clear H
      have p4:0 ≤ (x3_1:Int):=of_decide_eq_true zb1
      have q4:x3_1 < (a0.size:Int):=of_decide_eq_true zb1
      have hx4:=bt_at a0 x3_1
      replace p4:=eq_true p4
      replace q4:=eq_true q4
      have p6:0 ≤ (x3_1:Int):=of_decide_eq_true zb1
      have q6:x3_1 < (a0.size:Int):=of_decide_eq_true zb1
      have hx6:=bt_at a0 x3_1
      replace p6:=eq_true p6
      replace q6:=eq_true q6
      have p9:0 ≤ (x3_1:Int):=of_decide_eq_true zb1
      have q9:x3_1 < (a0.size:Int):=of_decide_eq_true zb1
      have hx9:=bt_at a0 x3_1
      replace p9:=eq_true p9
      replace q9:=eq_true q9
      go_wp2_with (first|(go_at_call 59;(with_reducible refine (tollbarref02_Digit.calls (bt a0 x3_1) true _ A10.out).mono ?_);rintro e w' ⟨rfl,⟨nd,rfl⟩⟩;(try clear A10)))
      go_roundg k1
      case measure=>have:=HK1.out;omega
      case rel=>exact ⟨(wrap64 (x3_1 + 1)),zb3,H',⟨zb48⟩,zb7⟩
     ·replace c11:=Bool.eq_false_iff.mpr c11
      subst c11
      rw [if_neg (show ¬ (false=true) by decide)] at H
      by_cases c13:(bt a0 x3_1)=45
      ·rw [if_pos c13] at H
       have c13b0:=beq_iff_eq.mpr c13
       have c13b1:=bne_eq_false_iff_eq.mpr c13
       clear c13
       have H' := Aside0.mk H
       clear H
       have p4:0 ≤ (x3_1:Int):=of_decide_eq_true zb1
       have q4:x3_1 < (a0.size:Int):=of_decide_eq_true zb1
       have hx4:=bt_at a0 x3_1
       replace p4:=eq_true p4
       replace q4:=eq_true q4
       have p6:0 ≤ (x3_1:Int):=of_decide_eq_true zb1
       have q6:x3_1 < (a0.size:Int):=of_decide_eq_true zb1
       have hx6:=bt_at a0 x3_1
       replace p6:=eq_true p6
       replace q6:=eq_true q6
       have p9:0 ≤ (x3_1:Int):=of_decide_eq_true zb1
       have q9:x3_1 < (a0.size:Int):=of_decide_eq_true zb1
       have hx9:=bt_at a0 x3_1
       replace p9:=eq_true p9
       replace q9:=eq_true q9
       go_wp2_with (first|(go_at_call 59;(with_reducible refine (tollbarref02_Digit.calls (bt a0 x3_1) false _ A10.out).mono ?_);rintro e w' ⟨rfl,⟨nd,rfl⟩⟩;(try clear A10);have p12:0 ≤ (x3_1:Int):=of_decide_eq_true zb1;have q12:x3_1 < (a0.size:Int):=of_decide_eq_true zb1;have hx12:=bt_at a0 x3_1;replace p12:=eq_true p12;replace q12:=eq_true q12))
       go_roundg k1
       case measure=>have:=HK1.out;omega
       case rel=>exact ⟨(wrap64 (x3_1 + 1)),zb3,H',⟨zb48⟩,zb7⟩
      ·rw [if_neg c13] at H
       have c13b0:=beq_eq_false_iff_ne.mpr c13
       have c13b1:=bne_iff_ne.mpr c13
       obtain rfl:=Option.some.inj H
       have p4:0 ≤ (x3_1:Int):=of_decide_eq_true zb1
       have q4:x3_1 < (a0.size:Int):=of_decide_eq_true zb1
       have hx4:=bt_at a0 x3_1
       replace p4:=eq_true p4
       replace q4:=eq_true q4
       have p6:0 ≤ (x3_1:Int):=of_decide_eq_true zb1
       have q6:x3_1 < (a0.size:Int):=of_decide_eq_true zb1
       have hx6:=bt_at a0 x3_1
       replace p6:=eq_true p6
       replace q6:=eq_true q6
       have p9:0 ≤ (x3_1:Int):=of_decide_eq_true zb1
       have q9:x3_1 < (a0.size:Int):=of_decide_eq_true zb1
       have hx9:=bt_at a0 x3_1
       replace p9:=eq_true p9
       replace q9:=eq_true q9
       go_wp2_with (first|(go_at_call 59;(with_reducible refine (tollbarref02_Digit.calls (bt a0 x3_1) false _ A10.out).mono ?_);rintro e w' ⟨rfl,⟨nd,rfl⟩⟩;(try clear A10);have p12:0 ≤ (x3_1:Int):=of_decide_eq_true zb1;have q12:x3_1 < (a0.size:Int):=of_decide_eq_true zb1;have hx12:=bt_at a0 x3_1;replace p12:=eq_true p12;replace q12:=eq_true q12))
       go_ret
       exact ⟨zb3,zb7⟩
   ·rw [if_neg c3] at H
    exact absurd H zb17
def tollbarref09_numbers.f (a0_0:ByteArray) (l0_1:List ByteArray) (a0_2:Int) (a0_3:Int) (a0_4:Int) (a0_5:Int) (a0_6:Int) (a0_7:Int):Option (List Int):=some (([a0_2,a0_3,a0_4,a0_5,a0_6,a0_7]:List Int))
set_option maxHeartbeats 8000000 in
set_option maxRecDepth 100000 in
theorem tollbarref09_numbers.calls (a0_0:ByteArray) (A0_1:Option Addr) (c0_1:Nat) (l0_1:List ByteArray) (a0_2:Int) (a0_3:Int) (a0_4:Int) (a0_5:Int) (a0_6:Int) (a0_7:Int) (r:List Int) (w:World) (hr0_1:Kd.C Kd.string w A0_1 l0_1.length l0_1) (hc0_1:l0_1.length ≤ c0_1) (h:tollbarref09_numbers.f a0_0 l0_1 a0_2 a0_3 a0_4 a0_5 a0_6 a0_7=some r) :
 Calls Tryd.prog 37 #[.agg #[.string a0_0,.slice A0_1 l0_1.length c0_1,.int .i64 a0_2,.int .i64 a0_3,.int .i64 a0_4,.int .i64 a0_5,.int .i64 a0_6,.int .i64 a0_7]] w fun e w' => ∃ v0_:Value,e = .returned (v0_)∧Kd.R (Kd.int .i64) 3 w' w.heap.size (fun _=>True) v0_ r∧Below w.heap.size w w' := by
 have hu26:=Tryd.underlying26
 have HR0_1:=Aside0.mk hr0_1
 have HC0_1:=Aside0.mk hc0_1
 clear hr0_1 hc0_1
 have HB:=Aside0.mk (Below.refl w.heap.size w)
 unfold tollbarref09_numbers.f at h
 have H:=h
 clear h
 obtain ⟨y212,hy212⟩ : ∃ y_:List Int,y_=(([a0_2,a0_3,a0_4,a0_5,a0_6,a0_7]:List Int)):=⟨_,rfl⟩
 replace H:(some y212)=some r:=by first|(rw [hy212];with_reducible exact H)|(have H2_:=(Option.bind_some _ _).symm.trans H;rw [hy212];with_reducible exact H2_)|(have H2_:=(Option.bind_some _ _).symm.trans H;with_reducible exact H2_)|with_reducible exact H|(rw [hy212];exact H)|exact H
 have Ny212:=Aside0.mk hy212
 clear hy212
 obtain rfl:=Option.some.inj H
 go_enter Tryd.func37,Tryd.ntmps37
 go_wp2_with (first|((with_reducible refine gate_dst (N:=1) rfl ?_);refine box_event rfl (N:=1) rfl (cs:=#[.string a0_0,.slice A0_1 l0_1.length c0_1,.int .i64 a0_2,.int .i64 a0_3,.int .i64 a0_4,.int .i64 a0_5,.int .i64 a0_6,.int .i64 a0_7]) (t:=26) zS ?_;intro gb211 hg w2 hbox hb;have GW211:=zG hg zb0;have GE211:=GW211;have BK211:=Aside0.mk hbox;replace HB:=Aside0.mk (below_step zb0 hb);clear hb hbox hg;have hcz3_0:w2.cell? ⟨gb211,0,none⟩=some (.string a0_0):=(blk_cell BK211.out 0).trans rfl;have hcz3_1:w2.cell? ⟨gb211,1,none⟩=some (.slice A0_1 l0_1.length c0_1):=(blk_cell BK211.out 1).trans rfl;have hcz3_2:w2.cell? ⟨gb211,2,none⟩=some (.int .i64 a0_2):=(blk_cell BK211.out 2).trans rfl;have hcz3_3:w2.cell? ⟨gb211,3,none⟩=some (.int .i64 a0_3):=(blk_cell BK211.out 3).trans rfl;have hcz3_4:w2.cell? ⟨gb211,4,none⟩=some (.int .i64 a0_4):=(blk_cell BK211.out 4).trans rfl;have hcz3_5:w2.cell? ⟨gb211,5,none⟩=some (.int .i64 a0_5):=(blk_cell BK211.out 5).trans rfl;have hcz3_6:w2.cell? ⟨gb211,6,none⟩=some (.int .i64 a0_6):=(blk_cell BK211.out 6).trans rfl;have hcz3_7:w2.cell? ⟨gb211,7,none⟩=some (.int .i64 a0_7):=(blk_cell BK211.out 7).trans rfl;have hfz3_0:=blk_frozen BK211.out 0;have hfz3_1:=blk_frozen BK211.out 1;have hfz3_2:=blk_frozen BK211.out 2;have hfz3_3:=blk_frozen BK211.out 3;have hfz3_4:=blk_frozen BK211.out 4;have hfz3_5:=blk_frozen BK211.out 5;have hfz3_6:=blk_frozen BK211.out 6;have hfz3_7:=blk_frozen BK211.out 7)|((with_reducible refine gate_dst (N:=15) rfl ?_);refine Kd.R_lit (Kd.int .i64) _ 3 ?hg (N:=15) ?hd (xs:=([a0_2,a0_3,a0_4,a0_5,a0_6,a0_7]:List Int)) (inner:=[.int .i64 a0_2,.int .i64 a0_3,.int .i64 a0_4,.int .i64 a0_5,.int .i64 a0_6,.int .i64 a0_7]) (ok:=fun _=>True) (okp:=fun _=>True) ?hr ?hp (fun _ hk=>hk) trivial (Below.refl _ _) (Nat.le_refl _) zb17 ?_;(case hd=>rfl);(case hg=>rfl);(case hr=>first|(go_simp;done)|(go_simp;rfl));(case hp=>exact (Reps.one (show Kd.M (Kd.int .i64) _ _ _ a0_2 [.int .i64 a0_2] from rfl) (Reps.one (show Kd.M (Kd.int .i64) _ _ _ a0_3 [.int .i64 a0_3] from rfl) (Reps.one (show Kd.M (Kd.int .i64) _ _ _ a0_4 [.int .i64 a0_4] from rfl) (Reps.one (show Kd.M (Kd.int .i64) _ _ _ a0_5 [.int .i64 a0_5] from rfl) (Reps.one (show Kd.M (Kd.int .i64) _ _ _ a0_6 [.int .i64 a0_6] from rfl) (Reps.one (show Kd.M (Kd.int .i64) _ _ _ a0_7 [.int .i64 a0_7] from rfl) (Reps.none _ _))))))));intro v213 w4 ho5 hb hg_ hnew_;clear hg_ hnew_;(first|rw [← Ny212.out] at ho5|(simp only [Int.reduceToNat] at ho5;rw [← Ny212.out] at ho5));have HO214:=Aside0.mk (Kd.R_lower ho5 (below_size zb42));replace BK211:=Aside0.mk (blk_below (g:=gb211) (o:=.cells #[.string a0_0,.slice A0_1 l0_1.length c0_1,.int .i64 a0_2,.int .i64 a0_3,.int .i64 a0_4,.int .i64 a0_5,.int .i64 a0_6,.int .i64 a0_7] 26 (0,0)) (by (with_reducible repeat (first|refine blk_drewN ?_ _|refine blk_drew ?_|refine blk_alloc ?_ _));exact BK211.out) hb);replace HB:=Aside0.mk (below_step zb42 hb);clear hb ho5))
 go_ret
 exact ⟨_,zb6,by (with_reducible repeat (first|apply Kd.R_alloc|apply Kd.R_drewN|apply Kd.R_drew));exact HO214.out,zb42⟩
mutual
def tollbarref09_One.l0:Nat → List Int → List Int → Int → ByteArray → List ByteArray → Int → Int → Int → Int → Int → Int → Option (Bool)
 | 0,_,_,_,_,_,_,_,_,_,_,_=>none
 | k + 1,x3,x4,x5,x234000,x234001,x234002,x234003,x234004,x234005,x234006,x234007=>if x5 < 6 then (if 0 ≤ x5 then (if x5 < (x4.length:Int) then (if (rd x4 x5) < 1 then (some false) else (if x5 < (x3.length:Int) then (if (rd x4 x5) > (rd x3 x5) then (some false) else (tollbarref09_One.l0 k x3 x4 (wrap64 (x5 + 1)) x234000 x234001 x234002 x234003 x234004 x234005 x234006 x234007)) else (none))) else (none)) else (none)) else (if x234002 < 256 then (tollbarref09_One.j1 k true x234000 x234001 x234002 x234003 x234004 x234005 x234006 x234007) else ((tollbarref09_Name.f k x234000).bind fun t243=>(if t243=true then (if (x234001.length:Int) < 1 then (tollbarref09_One.j1 k true x234000 x234001 x234002 x234003 x234004 x234005 x234006 x234007) else (tollbarref09_One.j1 k (decide ((x234001.length:Int) > 8)) x234000 x234001 x234002 x234003 x234004 x234005 x234006 x234007)) else (tollbarref09_One.j1 k true x234000 x234001 x234002 x234003 x234004 x234005 x234006 x234007))))
def tollbarref09_One.j1:Nat → Bool → ByteArray → List ByteArray → Int → Int → Int → Int → Int → Int → Option (Bool)
 | 0,_,_,_,_,_,_,_,_,_=>none
 | k + 1,x52,x234000,x234001,x234002,x234003,x234004,x234005,x234006,x234007=>if x52=true then (some false) else (tollbarref09_One.l1 k 0 x234000 x234001 x234002 x234003 x234004 x234005 x234006 x234007)
def tollbarref09_One.l1:Nat → Int → ByteArray → List ByteArray → Int → Int → Int → Int → Int → Int → Option (Bool)
 | 0,_,_,_,_,_,_,_,_,_=>none
 | k + 1,x6,x234000,x234001,x234002,x234003,x234004,x234005,x234006,x234007=>if x6 < (x234001.length:Int) then (if 0 ≤ x6 then ((tollbarref05_Host.f k (rdOf ByteArray.empty x234001 x6)).bind fun bt245=>(if bt245.2=true then (if bt245.1.toList=(rdOf ByteArray.empty x234001 x6).toList then (tollbarref09_One.l1 k (wrap64 (x6 + 1)) x234000 x234001 x234002 x234003 x234004 x234005 x234006 x234007) else (some false)) else (some false))) else (none)) else (some true)
end
def tollbarref09_One.f (k:Nat) (a0_0:ByteArray) (l0_1:List ByteArray) (a0_2:Int) (a0_3:Int) (a0_4:Int) (a0_5:Int) (a0_6:Int) (a0_7:Int):Option (Bool):=(tollbarref09_numbers.f a0_0 l0_1 a0_2 a0_3 a0_4 a0_5 a0_6 a0_7).bind fun t237=>(tollbarref09_One.l0 k (([1048576,64,64,1048576,1048576,1048576]:List Int)) t237 0 a0_0 l0_1 a0_2 a0_3 a0_4 a0_5 a0_6 a0_7)
set_option maxHeartbeats 8000000 in
set_option maxRecDepth 100000 in
theorem tollbarref09_One.calls (k:Nat) (a0_0:ByteArray) (A0_1:Option Addr) (c0_1:Nat) (l0_1:List ByteArray) (a0_2:Int) (a0_3:Int) (a0_4:Int) (a0_5:Int) (a0_6:Int) (a0_7:Int) (r:Bool) (w:World) (hr0_1:Kd.C Kd.string w A0_1 l0_1.length l0_1) (hc0_1:l0_1.length ≤ c0_1) (h:tollbarref09_One.f k a0_0 l0_1 a0_2 a0_3 a0_4 a0_5 a0_6 a0_7=some r) :
 Calls Tryd.prog 22 #[.agg #[.string a0_0,.slice A0_1 l0_1.length c0_1,.int .i64 a0_2,.int .i64 a0_3,.int .i64 a0_4,.int .i64 a0_5,.int .i64 a0_6,.int .i64 a0_7]] w fun e w' => e = .returned (.bool r)∧Below w.heap.size w w' := by
 have hu26:=Tryd.underlying26
 have HR0_1:=Aside0.mk hr0_1
 have HC0_1:=Aside0.mk hc0_1
 clear hr0_1 hc0_1
 have HB:=Aside0.mk (Below.refl w.heap.size w)
 unfold tollbarref09_One.f at h
 have H:=h
 clear h
 obtain ⟨y49,hy49⟩ : ∃ y_:List Int,y_=(([1048576,64,64,1048576,1048576,1048576]:List Int)):=⟨_,rfl⟩
 replace H:((tollbarref09_numbers.f a0_0 l0_1 a0_2 a0_3 a0_4 a0_5 a0_6 a0_7).bind fun t50=>(tollbarref09_One.l0 k y49 t50 0 a0_0 l0_1 a0_2 a0_3 a0_4 a0_5 a0_6 a0_7))=some r:=by first|(rw [hy49];with_reducible exact H)|(have H2_:=(Option.bind_some _ _).symm.trans H;rw [hy49];with_reducible exact H2_)|(have H2_:=(Option.bind_some _ _).symm.trans H;with_reducible exact H2_)|with_reducible exact H|(rw [hy49];exact H)|exact H
 have Ny49:=Aside0.mk hy49
 clear hy49
 replace H:=Option.bind_eq_some_iff.mp H
 obtain ⟨t50,A20,H⟩:=H
 try dsimp only at H
 have A2:=Aside0.mk A20
 clear A20
 have H' := Aside0.mk H
 clear H
 go_enter Tryd.func22,Tryd.ntmps22
 go_wp2_with (first|((with_reducible refine gate_dst (N:=1) rfl ?_);(try (refine gate_guard (by rfl) ?_;dsimp only));refine box_event rfl (N:=1) rfl (cs:=#[.string a0_0,.slice A0_1 l0_1.length c0_1,.int .i64 a0_2,.int .i64 a0_3,.int .i64 a0_4,.int .i64 a0_5,.int .i64 a0_6,.int .i64 a0_7]) (t:=26) zS ?_;intro gb43 hg w3 hbox hb;have GW43:=zG hg zb0;have GE43:=GW43;have BK43:=Aside0.mk hbox;replace HB:=Aside0.mk (below_step zb0 hb);clear hb hbox hg)|((with_reducible refine gate_dst (N:=9) rfl ?_);(try (refine gate_guard (by rfl) ?_;dsimp only));refine Kd.R_lit (Kd.int .i64) _ 3 ?hg (N:=9) ?hd (xs:=([1048576,64,64,1048576,1048576,1048576]:List Int)) (inner:=[.int .i64 1048576,.int .i64 64,.int .i64 64,.int .i64 1048576,.int .i64 1048576,.int .i64 1048576]) (ok:=fun _=>True) (okp:=fun _=>True) ?hr ?hp (fun _ hk=>hk) trivial (Below.refl _ _) (Nat.le_refl _) zb17 ?_;(case hd=>rfl);(case hg=>rfl);(case hr=>first|(go_simp;done)|(go_simp;rfl));(case hp=>exact (Reps.one (show Kd.M (Kd.int .i64) _ _ _ 1048576 [.int .i64 1048576] from rfl) (Reps.one (show Kd.M (Kd.int .i64) _ _ _ 64 [.int .i64 64] from rfl) (Reps.one (show Kd.M (Kd.int .i64) _ _ _ 64 [.int .i64 64] from rfl) (Reps.one (show Kd.M (Kd.int .i64) _ _ _ 1048576 [.int .i64 1048576] from rfl) (Reps.one (show Kd.M (Kd.int .i64) _ _ _ 1048576 [.int .i64 1048576] from rfl) (Reps.one (show Kd.M (Kd.int .i64) _ _ _ 1048576 [.int .i64 1048576] from rfl) (Reps.none _ _))))))));intro v54 w4 ho5 hb hg_ hnew_;clear hg_ hnew_;(first|rw [← Ny49.out] at ho5|(simp only [Int.reduceToNat] at ho5;rw [← Ny49.out] at ho5));have HO53:=Aside0.mk (Kd.R_lower ho5 (below_size zb4));replace BK43:=Aside0.mk (blk_below (g:=gb43) (o:=.cells #[.string a0_0,.slice A0_1 l0_1.length c0_1,.int .i64 a0_2,.int .i64 a0_3,.int .i64 a0_4,.int .i64 a0_5,.int .i64 a0_6,.int .i64 a0_7] 26 (0,0)) zb8 hb);replace HB:=Aside0.mk (below_step zb4 hb);clear hb ho5;have hcz6_0:w4.cell? ⟨gb43,0,none⟩=some (.string a0_0):=(blk_cell BK43.out 0).trans rfl;have hcz6_1:w4.cell? ⟨gb43,1,none⟩=some (.slice A0_1 l0_1.length c0_1):=(blk_cell BK43.out 1).trans rfl;have hcz6_2:w4.cell? ⟨gb43,2,none⟩=some (.int .i64 a0_2):=(blk_cell BK43.out 2).trans rfl;have hcz6_3:w4.cell? ⟨gb43,3,none⟩=some (.int .i64 a0_3):=(blk_cell BK43.out 3).trans rfl;have hcz6_4:w4.cell? ⟨gb43,4,none⟩=some (.int .i64 a0_4):=(blk_cell BK43.out 4).trans rfl;have hcz6_5:w4.cell? ⟨gb43,5,none⟩=some (.int .i64 a0_5):=(blk_cell BK43.out 5).trans rfl;have hcz6_6:w4.cell? ⟨gb43,6,none⟩=some (.int .i64 a0_6):=(blk_cell BK43.out 6).trans rfl;have hcz6_7:w4.cell? ⟨gb43,7,none⟩=some (.int .i64 a0_7):=(blk_cell BK43.out 7).trans rfl;have hfz6_0:=blk_frozen BK43.out 0;have hfz6_1:=blk_frozen BK43.out 1;have hfz6_2:=blk_frozen BK43.out 2;have hfz6_3:=blk_frozen BK43.out 3;have hfz6_4:=blk_frozen BK43.out 4;have hfz6_5:=blk_frozen BK43.out 5;have hfz6_6:=blk_frozen BK43.out 6;have hfz6_7:=blk_frozen BK43.out 7)|(go_at_call 37;(with_reducible refine (tollbarref09_numbers.calls a0_0 _ _ l0_1 a0_2 a0_3 a0_4 a0_5 a0_6 a0_7 t50 _ ?side1 ?side2 A2.out).mono ?_);(case side1=>exact zb34);(case side2=>exact HC0_1.out);rintro e w7 ⟨v55,rfl,ho0,hb⟩;(try clear A2);have HO56:=Aside0.mk (Kd.R_lower (Kd.R_new' ho0 (Kd.R_lt zb36)) (below_size zb4));replace HO53:=Aside0.mk (Kd.R_elder' zb36 (Kd.R_base ho0) hb);replace BK43:=Aside0.mk (blk_below (g:=gb43) (o:=.cells #[.string a0_0,.slice A0_1 l0_1.length c0_1,.int .i64 a0_2,.int .i64 a0_3,.int .i64 a0_4,.int .i64 a0_5,.int .i64 a0_6,.int .i64 a0_7] 26 (0,0)) zb8 hb);replace HB:=Aside0.mk (below_step zb4 hb);try clear hb ho0))
 repeat (go_quiet (first|((with_reducible refine gate_dst (N:=1) rfl ?_);(try (refine gate_guard (by rfl) ?_;dsimp only));refine box_event rfl (N:=1) rfl (cs:=#[.string a0_0,.slice A0_1 l0_1.length c0_1,.int .i64 a0_2,.int .i64 a0_3,.int .i64 a0_4,.int .i64 a0_5,.int .i64 a0_6,.int .i64 a0_7]) (t:=26) zS ?_;intro gb43 hg w3 hbox hb;have GW43:=zG hg zb0;have GE43:=GW43;have BK43:=Aside0.mk hbox;replace HB:=Aside0.mk (below_step zb0 hb);clear hb hbox hg)|((with_reducible refine gate_dst (N:=9) rfl ?_);(try (refine gate_guard (by rfl) ?_;dsimp only));refine Kd.R_lit (Kd.int .i64) _ 3 ?hg (N:=9) ?hd (xs:=([1048576,64,64,1048576,1048576,1048576]:List Int)) (inner:=[.int .i64 1048576,.int .i64 64,.int .i64 64,.int .i64 1048576,.int .i64 1048576,.int .i64 1048576]) (ok:=fun _=>True) (okp:=fun _=>True) ?hr ?hp (fun _ hk=>hk) trivial (Below.refl _ _) (Nat.le_refl _) zb17 ?_;(case hd=>rfl);(case hg=>rfl);(case hr=>first|(go_simp;done)|(go_simp;rfl));(case hp=>exact (Reps.one (show Kd.M (Kd.int .i64) _ _ _ 1048576 [.int .i64 1048576] from rfl) (Reps.one (show Kd.M (Kd.int .i64) _ _ _ 64 [.int .i64 64] from rfl) (Reps.one (show Kd.M (Kd.int .i64) _ _ _ 64 [.int .i64 64] from rfl) (Reps.one (show Kd.M (Kd.int .i64) _ _ _ 1048576 [.int .i64 1048576] from rfl) (Reps.one (show Kd.M (Kd.int .i64) _ _ _ 1048576 [.int .i64 1048576] from rfl) (Reps.one (show Kd.M (Kd.int .i64) _ _ _ 1048576 [.int .i64 1048576] from rfl) (Reps.none _ _))))))));intro v54 w4 ho5 hb hg_ hnew_;clear hg_ hnew_;(first|rw [← Ny49.out] at ho5|(simp only [Int.reduceToNat] at ho5;rw [← Ny49.out] at ho5));have HO53:=Aside0.mk (Kd.R_lower ho5 (below_size zb4));replace BK43:=Aside0.mk (blk_below (g:=gb43) (o:=.cells #[.string a0_0,.slice A0_1 l0_1.length c0_1,.int .i64 a0_2,.int .i64 a0_3,.int .i64 a0_4,.int .i64 a0_5,.int .i64 a0_6,.int .i64 a0_7] 26 (0,0)) zb8 hb);replace HB:=Aside0.mk (below_step zb4 hb);clear hb ho5;have hcz6_0:w4.cell? ⟨gb43,0,none⟩=some (.string a0_0):=(blk_cell BK43.out 0).trans rfl;have hcz6_1:w4.cell? ⟨gb43,1,none⟩=some (.slice A0_1 l0_1.length c0_1):=(blk_cell BK43.out 1).trans rfl;have hcz6_2:w4.cell? ⟨gb43,2,none⟩=some (.int .i64 a0_2):=(blk_cell BK43.out 2).trans rfl;have hcz6_3:w4.cell? ⟨gb43,3,none⟩=some (.int .i64 a0_3):=(blk_cell BK43.out 3).trans rfl;have hcz6_4:w4.cell? ⟨gb43,4,none⟩=some (.int .i64 a0_4):=(blk_cell BK43.out 4).trans rfl;have hcz6_5:w4.cell? ⟨gb43,5,none⟩=some (.int .i64 a0_5):=(blk_cell BK43.out 5).trans rfl;have hcz6_6:w4.cell? ⟨gb43,6,none⟩=some (.int .i64 a0_6):=(blk_cell BK43.out 6).trans rfl;have hcz6_7:w4.cell? ⟨gb43,7,none⟩=some (.int .i64 a0_7):=(blk_cell BK43.out 7).trans rfl;have hfz6_0:=blk_frozen BK43.out 0;have hfz6_1:=blk_frozen BK43.out 1;have hfz6_2:=blk_frozen BK43.out 2;have hfz6_3:=blk_frozen BK43.out 3;have hfz6_4:=blk_frozen BK43.out 4;have hfz6_5:=blk_frozen BK43.out 5;have hfz6_6:=blk_frozen BK43.out 6;have hfz6_7:=blk_frozen BK43.out 7)|(go_at_call 37;(with_reducible refine (tollbarref09_numbers.calls a0_0 _ _ l0_1 a0_2 a0_3 a0_4 a0_5 a0_6 a0_7 t50 _ ?side1 ?side2 A2.out).mono ?_);(case side1=>exact zb34);(case side2=>exact HC0_1.out);rintro e w7 ⟨v55,rfl,ho0,hb⟩;(try clear A2);have HO56:=Aside0.mk (Kd.R_lower (Kd.R_new' ho0 (Kd.R_lt zb36)) (below_size zb4));replace HO53:=Aside0.mk (Kd.R_elder' zb36 (Kd.R_base ho0) hb);replace BK43:=Aside0.mk (blk_below (g:=gb43) (o:=.cells #[.string a0_0,.slice A0_1 l0_1.length c0_1,.int .i64 a0_2,.int .i64 a0_3,.int .i64 a0_4,.int .i64 a0_5,.int .i64 a0_6,.int .i64 a0_7] 26 (0,0)) zb8 hb);replace HB:=Aside0.mk (below_step zb4 hb);try clear hb ho0));try go_wp2_with (first|((with_reducible refine gate_dst (N:=1) rfl ?_);(try (refine gate_guard (by rfl) ?_;dsimp only));refine box_event rfl (N:=1) rfl (cs:=#[.string a0_0,.slice A0_1 l0_1.length c0_1,.int .i64 a0_2,.int .i64 a0_3,.int .i64 a0_4,.int .i64 a0_5,.int .i64 a0_6,.int .i64 a0_7]) (t:=26) zS ?_;intro gb43 hg w3 hbox hb;have GW43:=zG hg zb0;have GE43:=GW43;have BK43:=Aside0.mk hbox;replace HB:=Aside0.mk (below_step zb0 hb);clear hb hbox hg)|((with_reducible refine gate_dst (N:=9) rfl ?_);(try (refine gate_guard (by rfl) ?_;dsimp only));refine Kd.R_lit (Kd.int .i64) _ 3 ?hg (N:=9) ?hd (xs:=([1048576,64,64,1048576,1048576,1048576]:List Int)) (inner:=[.int .i64 1048576,.int .i64 64,.int .i64 64,.int .i64 1048576,.int .i64 1048576,.int .i64 1048576]) (ok:=fun _=>True) (okp:=fun _=>True) ?hr ?hp (fun _ hk=>hk) trivial (Below.refl _ _) (Nat.le_refl _) zb17 ?_;(case hd=>rfl);(case hg=>rfl);(case hr=>first|(go_simp;done)|(go_simp;rfl));(case hp=>exact (Reps.one (show Kd.M (Kd.int .i64) _ _ _ 1048576 [.int .i64 1048576] from rfl) (Reps.one (show Kd.M (Kd.int .i64) _ _ _ 64 [.int .i64 64] from rfl) (Reps.one (show Kd.M (Kd.int .i64) _ _ _ 64 [.int .i64 64] from rfl) (Reps.one (show Kd.M (Kd.int .i64) _ _ _ 1048576 [.int .i64 1048576] from rfl) (Reps.one (show Kd.M (Kd.int .i64) _ _ _ 1048576 [.int .i64 1048576] from rfl) (Reps.one (show Kd.M (Kd.int .i64) _ _ _ 1048576 [.int .i64 1048576] from rfl) (Reps.none _ _))))))));intro v54 w4 ho5 hb hg_ hnew_;clear hg_ hnew_;(first|rw [← Ny49.out] at ho5|(simp only [Int.reduceToNat] at ho5;rw [← Ny49.out] at ho5));have HO53:=Aside0.mk (Kd.R_lower ho5 (below_size zb4));replace BK43:=Aside0.mk (blk_below (g:=gb43) (o:=.cells #[.string a0_0,.slice A0_1 l0_1.length c0_1,.int .i64 a0_2,.int .i64 a0_3,.int .i64 a0_4,.int .i64 a0_5,.int .i64 a0_6,.int .i64 a0_7] 26 (0,0)) zb8 hb);replace HB:=Aside0.mk (below_step zb4 hb);clear hb ho5;have hcz6_0:w4.cell? ⟨gb43,0,none⟩=some (.string a0_0):=(blk_cell BK43.out 0).trans rfl;have hcz6_1:w4.cell? ⟨gb43,1,none⟩=some (.slice A0_1 l0_1.length c0_1):=(blk_cell BK43.out 1).trans rfl;have hcz6_2:w4.cell? ⟨gb43,2,none⟩=some (.int .i64 a0_2):=(blk_cell BK43.out 2).trans rfl;have hcz6_3:w4.cell? ⟨gb43,3,none⟩=some (.int .i64 a0_3):=(blk_cell BK43.out 3).trans rfl;have hcz6_4:w4.cell? ⟨gb43,4,none⟩=some (.int .i64 a0_4):=(blk_cell BK43.out 4).trans rfl;have hcz6_5:w4.cell? ⟨gb43,5,none⟩=some (.int .i64 a0_5):=(blk_cell BK43.out 5).trans rfl;have hcz6_6:w4.cell? ⟨gb43,6,none⟩=some (.int .i64 a0_6):=(blk_cell BK43.out 6).trans rfl;have hcz6_7:w4.cell? ⟨gb43,7,none⟩=some (.int .i64 a0_7):=(blk_cell BK43.out 7).trans rfl;have hfz6_0:=blk_frozen BK43.out 0;have hfz6_1:=blk_frozen BK43.out 1;have hfz6_2:=blk_frozen BK43.out 2;have hfz6_3:=blk_frozen BK43.out 3;have hfz6_4:=blk_frozen BK43.out 4;have hfz6_5:=blk_frozen BK43.out 5;have hfz6_6:=blk_frozen BK43.out 6;have hfz6_7:=blk_frozen BK43.out 7)|(go_at_call 37;(with_reducible refine (tollbarref09_numbers.calls a0_0 _ _ l0_1 a0_2 a0_3 a0_4 a0_5 a0_6 a0_7 t50 _ ?side1 ?side2 A2.out).mono ?_);(case side1=>exact zb34);(case side2=>exact HC0_1.out);rintro e w7 ⟨v55,rfl,ho0,hb⟩;(try clear A2);have HO56:=Aside0.mk (Kd.R_lower (Kd.R_new' ho0 (Kd.R_lt zb36)) (below_size zb4));replace HO53:=Aside0.mk (Kd.R_elder' zb36 (Kd.R_base ho0) hb);replace BK43:=Aside0.mk (blk_below (g:=gb43) (o:=.cells #[.string a0_0,.slice A0_1 l0_1.length c0_1,.int .i64 a0_2,.int .i64 a0_3,.int .i64 a0_4,.int .i64 a0_5,.int .i64 a0_6,.int .i64 a0_7] 26 (0,0)) zb8 hb);replace HB:=Aside0.mk (below_step zb4 hb);try clear hb ho0)))
 go_loopg [5] k (fun kq v5 w' => ∃ (x5_1:Int),v5 = .int .i64 x5_1∧Aside0 (tollbarref09_One.l0 kq y49 t50 x5_1 a0_0 l0_1 a0_2 a0_3 a0_4 a0_5 a0_6 a0_7=some r)∧Aside0 (kq ≤ k)∧Aside0 (Kd.R (Kd.int .i64) 3 w' w.heap.size (fun k_=>some k_ ≠ (v55:Value).ownBlock) v54 y49)∧Aside0 (Kd.R (Kd.int .i64) 3 w' w.heap.size (fun k_=>some k_ ≠ (v54:Value).ownBlock) v55 t50)∧Aside0 (w'.heap[gb43]? = some (.cells #[.string a0_0,(.slice A0_1 l0_1.length c0_1),.int .i64 a0_2,.int .i64 a0_3,.int .i64 a0_4,.int .i64 a0_5,.int .i64 a0_6,.int .i64 a0_7] 26 (0,0)))∧Aside0 (Below w.heap.size w w'))
 case atStart=>exact ⟨(0),zb3,H',⟨Nat.le_refl _⟩,⟨by (with_reducible repeat (first|apply Kd.R_alloc|apply Kd.R_drewN|apply Kd.R_drew));exact Kd.R_mono HO53.out (fun _ hk=>hk.2)⟩,⟨by (with_reducible repeat (first|apply Kd.R_alloc|apply Kd.R_drewN|apply Kd.R_drew));exact Kd.R_mono HO56.out (fun _ hk=>hk.2)⟩,⟨zb8⟩,⟨zb4⟩⟩
 case round =>
  clear H'
  try clear c2
  try clear p2
  try clear hcz6_0
  try clear hcz6_1
  try clear hcz6_2
  try clear hcz6_3
  try clear hcz6_4
  try clear hcz6_5
  try clear hcz6_6
  try clear hcz6_7
  try clear hfz6_0
  try clear hfz6_1
  try clear hfz6_2
  try clear hfz6_3
  try clear hfz6_4
  try clear hfz6_5
  try clear hfz6_6
  try clear hfz6_7
  obtain ⟨x5_1,rfl,HA,HK1,HO_3,HO_4,BK43,HB⟩:=hrel
  cases gk with
  | zero=>exact absurd HA.out (by simp [tollbarref09_One.l0])
  | succ k1 =>
   have H:=HA.out
   clear HA
   simp only [tollbarref09_One.l0] at H
   by_cases c8:x5_1 < 6
   ·rw [if_pos c8] at H
    have c8b0:=decide_eq_true c8
    clear c8
    by_cases c9:0 ≤ x5_1;rotate_left
    ·rw [if_neg c9] at H
     exact absurd H zb17
    rw [if_pos c9] at H
    have c9b0:=decide_eq_true c9
    clear c9
    by_cases c10:x5_1 < (t50.length:Int)
    ·rw [if_pos c10] at H
     have c10b0:=decide_eq_true c10
     clear c10
     by_cases c11:(rd t50 x5_1) < 1
     ·rw [if_pos c11] at H
      have c11b0:=decide_eq_true c11
      clear c11
      obtain rfl:=Option.some.inj H
      obtain ⟨Ao12,co12,eo12⟩:=Kd.R_slice HO_4.out
      subst eo12
      have p46:0 ≤ (x5_1:Int):=of_decide_eq_true zb1
      have q46:x5_1 < (t50.length:Int):=of_decide_eq_true zb1
      obtain ⟨ad46,e46,hx46_0⟩:=Kd.at_int (Kd.R_reads' HO_4.out).2.2 x5_1 p46 q46
      cases e46
      replace p46:=eq_true p46
      replace q46:=eq_true q46
      go_wp2
      repeat (go_quiet (fail);try go_wp2)
      go_ret
      exact ⟨zb6,zb4⟩
     rw [if_neg c11] at H
     have c11b0:=decide_eq_false c11
     clear c11
     by_cases c13:x5_1 < (y49.length:Int);rotate_left
     ·rw [if_neg c13] at H
      exact absurd H zb17
     rw [if_pos c13] at H
     have c13b0:=decide_eq_true c13
     clear c13
     by_cases c14:(rd t50 x5_1) > (rd y49 x5_1)
     ·rw [if_pos c14] at H
      have c14b0:decide ((rd y49 x5_1) < (rd t50 x5_1))=true:=decide_eq_true c14
      clear c14
      obtain rfl:=Option.some.inj H
      obtain ⟨Ao15,co15,eo15⟩:=Kd.R_slice HO_4.out
      subst eo15
      have p46:0 ≤ (x5_1:Int):=of_decide_eq_true zb1
      have q46:x5_1 < (t50.length:Int):=of_decide_eq_true zb1
      obtain ⟨ad46,e46,hx46_0⟩:=Kd.at_int (Kd.R_reads' HO_4.out).2.2 x5_1 p46 q46
      cases e46
      replace p46:=eq_true p46
      replace q46:=eq_true q46
      have p47:0 ≤ (x5_1:Int):=of_decide_eq_true zb1
      have q47:x5_1 < (t50.length:Int):=of_decide_eq_true zb1
      obtain ⟨ad47,e47,hx47_0⟩:=Kd.at_int (Kd.R_reads' HO_4.out).2.2 x5_1 p47 q47
      obtain rfl:ad46=ad47:=(by injection e47)
      replace p47:=eq_true p47
      replace q47:=eq_true q47
      obtain ⟨Ao16,co16,eo16⟩:=Kd.R_slice HO_3.out
      subst eo16
      have p48:0 ≤ (x5_1:Int):=of_decide_eq_true zb1
      have q48:x5_1 < (y49.length:Int):=of_decide_eq_true zb1
      obtain ⟨ad48,e48,hx48_0⟩:=Kd.at_int (Kd.R_reads' HO_3.out).2.2 x5_1 p48 q48
      cases e48
      replace p48:=eq_true p48
      replace q48:=eq_true q48
      go_wp2
      repeat (go_quiet (fail);try go_wp2)
      go_ret
      exact ⟨zb6,zb4⟩
     rw [if_neg c14] at H
     have c14b0:decide ((rd y49 x5_1) < (rd t50 x5_1))=false:=decide_eq_false c14
     clear c14
     have H' := Aside0.mk H
     clear H
     obtain ⟨Ao17,co17,eo17⟩:=Kd.R_slice HO_4.out
     subst eo17
     have p46:0 ≤ (x5_1:Int):=of_decide_eq_true zb1
     have q46:x5_1 < (t50.length:Int):=of_decide_eq_true zb1
     obtain ⟨ad46,e46,hx46_0⟩:=Kd.at_int (Kd.R_reads' HO_4.out).2.2 x5_1 p46 q46
     cases e46
     replace p46:=eq_true p46
     replace q46:=eq_true q46
     have p47:0 ≤ (x5_1:Int):=of_decide_eq_true zb1
     have q47:x5_1 < (t50.length:Int):=of_decide_eq_true zb1
     obtain ⟨ad47,e47,hx47_0⟩:=Kd.at_int (Kd.R_reads' HO_4.out).2.2 x5_1 p47 q47
     obtain rfl:ad46=ad47:=(by injection e47)
     replace p47:=eq_true p47
     replace q47:=eq_true q47
     obtain ⟨Ao18,co18,eo18⟩:=Kd.R_slice HO_3.out
     subst eo18
     have p48:0 ≤ (x5_1:Int):=of_decide_eq_true zb1
     have q48:x5_1 < (y49.length:Int):=of_decide_eq_true zb1
     obtain ⟨ad48,e48,hx48_0⟩:=Kd.at_int (Kd.R_reads' HO_3.out).2.2 x5_1 p48 q48
     cases e48
     replace p48:=eq_true p48
     replace q48:=eq_true q48
     go_wp2
     repeat (go_quiet (fail);try go_wp2)
     go_roundg k1
     case measure=>have:=HK1.out;omega
     case rel=>exact ⟨(wrap64 (x5_1 + 1)),zb3,H',⟨zb48⟩,⟨zb10⟩,⟨zb23⟩,⟨zb8⟩,⟨zb4⟩⟩
    ·rw [if_neg c10] at H
     exact absurd H zb17
   rw [if_neg c8] at H
   have c8b0:=decide_eq_false c8
   clear c8
   have HC19:=Aside0.mk H
   clear H
   go_upto_region 8 with (fail)
   repeat (go_quiet (fail);go_upto_region 8 with (fail))
   go_cut [52] (fun v52 wc => ∃ (kq:Nat) (x52_18:Bool),v52 = .bool x52_18∧Aside0 (tollbarref09_One.j1 kq x52_18 a0_0 l0_1 a0_2 a0_3 a0_4 a0_5 a0_6 a0_7=some r)∧Aside0 (kq ≤ k1)∧Aside0 (wc.heap[gb43]? = some (.cells #[.string a0_0,(.slice A0_1 l0_1.length c0_1),.int .i64 a0_2,.int .i64 a0_3,.int .i64 a0_4,.int .i64 a0_5,.int .i64 a0_6,.int .i64 a0_7] 26 (0,0)))∧Aside0 (Below w.heap.size w wc))
   case first =>
    have H:=HC19.out
    clear HC19
    by_cases c20:a0_2 < 256
    ·rw [if_pos c20] at H
     have c20b0:=decide_eq_true c20
     clear c20
     (first|rw [c20b0]|(simp only [i64_w,i32_w];rw [c20b0])|skip)
     have H' := Aside0.mk H
     clear H
     have hcz21_0:wr.cell? ⟨gb43,0,none⟩=some (.string a0_0):=(blk_cell BK43.out 0).trans rfl
     have hcz21_1:wr.cell? ⟨gb43,1,none⟩=some (.slice A0_1 l0_1.length c0_1):=(blk_cell BK43.out 1).trans rfl
     have hcz21_2:wr.cell? ⟨gb43,2,none⟩=some (.int .i64 a0_2):=(blk_cell BK43.out 2).trans rfl
     have hcz21_3:wr.cell? ⟨gb43,3,none⟩=some (.int .i64 a0_3):=(blk_cell BK43.out 3).trans rfl
     have hcz21_4:wr.cell? ⟨gb43,4,none⟩=some (.int .i64 a0_4):=(blk_cell BK43.out 4).trans rfl
     have hcz21_5:wr.cell? ⟨gb43,5,none⟩=some (.int .i64 a0_5):=(blk_cell BK43.out 5).trans rfl
     have hcz21_6:wr.cell? ⟨gb43,6,none⟩=some (.int .i64 a0_6):=(blk_cell BK43.out 6).trans rfl
     have hcz21_7:wr.cell? ⟨gb43,7,none⟩=some (.int .i64 a0_7):=(blk_cell BK43.out 7).trans rfl
     have hfz21_0:=blk_frozen BK43.out 0
     have hfz21_1:=blk_frozen BK43.out 1
     have hfz21_2:=blk_frozen BK43.out 2
     have hfz21_3:=blk_frozen BK43.out 3
     have hfz21_4:=blk_frozen BK43.out 4
     have hfz21_5:=blk_frozen BK43.out 5
     have hfz21_6:=blk_frozen BK43.out 6
     have hfz21_7:=blk_frozen BK43.out 7
     go_wp2
     repeat (go_quiet (fail);try go_wp2)
     go_meet
     case rel=>exact ⟨_,(true),zb3,H',⟨zb37⟩,⟨zb8⟩,⟨zb4⟩⟩
    rw [if_neg c20] at H
    have c20b0:=decide_eq_false c20
    clear c20
    (first|rw [c20b0]|(simp only [i64_w,i32_w];rw [c20b0])|skip)
    replace H:=Option.bind_eq_some_iff.mp H
    obtain ⟨t58,A57,H⟩:=H
    try dsimp only at H
    have A22:=Aside0.mk A57
    clear A57
    by_cases c23:t58=true;rotate_left
    ·replace c23:=Bool.eq_false_iff.mpr c23
     subst c23
     rw [if_neg (show ¬ (false=true) by decide)] at H
     have H' := Aside0.mk H
     clear H
     have hcz27_0:wr.cell? ⟨gb43,0,none⟩=some (.string a0_0):=(blk_cell BK43.out 0).trans rfl
     have hcz27_1:wr.cell? ⟨gb43,1,none⟩=some (.slice A0_1 l0_1.length c0_1):=(blk_cell BK43.out 1).trans rfl
     have hcz27_2:wr.cell? ⟨gb43,2,none⟩=some (.int .i64 a0_2):=(blk_cell BK43.out 2).trans rfl
     have hcz27_3:wr.cell? ⟨gb43,3,none⟩=some (.int .i64 a0_3):=(blk_cell BK43.out 3).trans rfl
     have hcz27_4:wr.cell? ⟨gb43,4,none⟩=some (.int .i64 a0_4):=(blk_cell BK43.out 4).trans rfl
     have hcz27_5:wr.cell? ⟨gb43,5,none⟩=some (.int .i64 a0_5):=(blk_cell BK43.out 5).trans rfl
     have hcz27_6:wr.cell? ⟨gb43,6,none⟩=some (.int .i64 a0_6):=(blk_cell BK43.out 6).trans rfl
     have hcz27_7:wr.cell? ⟨gb43,7,none⟩=some (.int .i64 a0_7):=(blk_cell BK43.out 7).trans rfl
     have hfz27_0:=blk_frozen BK43.out 0
     have hfz27_1:=blk_frozen BK43.out 1
     have hfz27_2:=blk_frozen BK43.out 2
     have hfz27_3:=blk_frozen BK43.out 3
     have hfz27_4:=blk_frozen BK43.out 4
     have hfz27_5:=blk_frozen BK43.out 5
     have hfz27_6:=blk_frozen BK43.out 6
     have hfz27_7:=blk_frozen BK43.out 7
     go_wp2_with (first|(go_at_call 43;(with_reducible refine (tollbarref09_Name.calls k1 a0_0 false _ A22.out).mono ?_);rintro e w' ⟨rfl,⟨nd,rfl⟩⟩;(try clear A22);(try first|exact ⟨rfl,_,World.drewN_drewN _ _ _⟩|exact ⟨rfl,_,Eq.trans (World.drewN_drewN _ _ _) (congrArg (World.drewN _) (Nat.add_assoc _ _ _))⟩)))
     repeat (go_quiet (first|(go_at_call 43;(with_reducible refine (tollbarref09_Name.calls k1 a0_0 false _ A22.out).mono ?_);rintro e w' ⟨rfl,⟨nd,rfl⟩⟩;(try clear A22);(try first|exact ⟨rfl,_,World.drewN_drewN _ _ _⟩|exact ⟨rfl,_,Eq.trans (World.drewN_drewN _ _ _) (congrArg (World.drewN _) (Nat.add_assoc _ _ _))⟩)));try go_wp2_with (first|(go_at_call 43;(with_reducible refine (tollbarref09_Name.calls k1 a0_0 false _ A22.out).mono ?_);rintro e w' ⟨rfl,⟨nd,rfl⟩⟩;(try clear A22);(try first|exact ⟨rfl,_,World.drewN_drewN _ _ _⟩|exact ⟨rfl,_,Eq.trans (World.drewN_drewN _ _ _) (congrArg (World.drewN _) (Nat.add_assoc _ _ _))⟩))))
     go_meet
     case rel=>exact ⟨_,(true),zb3,H',⟨zb37⟩,⟨zb8⟩,⟨zb4⟩⟩
    subst c23
    rw [if_pos rfl] at H
    by_cases c24:(l0_1.length:Int) < 1
    ·rw [if_pos c24] at H
     have c24b0:=decide_eq_true c24
     have c24b1:decide (l0_1.length < 1)=true:=decide_eq_true zb14
     clear c24
     have H' := Aside0.mk H
     clear H
     have hcz25_0:wr.cell? ⟨gb43,0,none⟩=some (.string a0_0):=(blk_cell BK43.out 0).trans rfl
     have hcz25_1:wr.cell? ⟨gb43,1,none⟩=some (.slice A0_1 l0_1.length c0_1):=(blk_cell BK43.out 1).trans rfl
     have hcz25_2:wr.cell? ⟨gb43,2,none⟩=some (.int .i64 a0_2):=(blk_cell BK43.out 2).trans rfl
     have hcz25_3:wr.cell? ⟨gb43,3,none⟩=some (.int .i64 a0_3):=(blk_cell BK43.out 3).trans rfl
     have hcz25_4:wr.cell? ⟨gb43,4,none⟩=some (.int .i64 a0_4):=(blk_cell BK43.out 4).trans rfl
     have hcz25_5:wr.cell? ⟨gb43,5,none⟩=some (.int .i64 a0_5):=(blk_cell BK43.out 5).trans rfl
     have hcz25_6:wr.cell? ⟨gb43,6,none⟩=some (.int .i64 a0_6):=(blk_cell BK43.out 6).trans rfl
     have hcz25_7:wr.cell? ⟨gb43,7,none⟩=some (.int .i64 a0_7):=(blk_cell BK43.out 7).trans rfl
     have hfz25_0:=blk_frozen BK43.out 0
     have hfz25_1:=blk_frozen BK43.out 1
     have hfz25_2:=blk_frozen BK43.out 2
     have hfz25_3:=blk_frozen BK43.out 3
     have hfz25_4:=blk_frozen BK43.out 4
     have hfz25_5:=blk_frozen BK43.out 5
     have hfz25_6:=blk_frozen BK43.out 6
     have hfz25_7:=blk_frozen BK43.out 7
     go_wp2_with (first|(go_at_call 43;(with_reducible refine (tollbarref09_Name.calls k1 a0_0 true _ A22.out).mono ?_);rintro e w' ⟨rfl,⟨nd,rfl⟩⟩;(try clear A22);(try first|exact ⟨rfl,_,World.drewN_drewN _ _ _⟩|exact ⟨rfl,_,Eq.trans (World.drewN_drewN _ _ _) (congrArg (World.drewN _) (Nat.add_assoc _ _ _))⟩)))
     repeat (go_quiet (first|(go_at_call 43;(with_reducible refine (tollbarref09_Name.calls k1 a0_0 true _ A22.out).mono ?_);rintro e w' ⟨rfl,⟨nd,rfl⟩⟩;(try clear A22);(try first|exact ⟨rfl,_,World.drewN_drewN _ _ _⟩|exact ⟨rfl,_,Eq.trans (World.drewN_drewN _ _ _) (congrArg (World.drewN _) (Nat.add_assoc _ _ _))⟩)));try go_wp2_with (first|(go_at_call 43;(with_reducible refine (tollbarref09_Name.calls k1 a0_0 true _ A22.out).mono ?_);rintro e w' ⟨rfl,⟨nd,rfl⟩⟩;(try clear A22);(try first|exact ⟨rfl,_,World.drewN_drewN _ _ _⟩|exact ⟨rfl,_,Eq.trans (World.drewN_drewN _ _ _) (congrArg (World.drewN _) (Nat.add_assoc _ _ _))⟩))))
     go_meet
     case rel=>exact ⟨_,(true),zb3,H',⟨zb37⟩,⟨zb8⟩,⟨zb4⟩⟩
    rw [if_neg c24] at H
    have c24b0:=decide_eq_false c24
    have c24b1:decide (l0_1.length < 1)=false:=decide_eq_false zb14
    clear c24
    have H' := Aside0.mk H
    clear H
    have hcz26_0:wr.cell? ⟨gb43,0,none⟩=some (.string a0_0):=(blk_cell BK43.out 0).trans rfl
    have hcz26_1:wr.cell? ⟨gb43,1,none⟩=some (.slice A0_1 l0_1.length c0_1):=(blk_cell BK43.out 1).trans rfl
    have hcz26_2:wr.cell? ⟨gb43,2,none⟩=some (.int .i64 a0_2):=(blk_cell BK43.out 2).trans rfl
    have hcz26_3:wr.cell? ⟨gb43,3,none⟩=some (.int .i64 a0_3):=(blk_cell BK43.out 3).trans rfl
    have hcz26_4:wr.cell? ⟨gb43,4,none⟩=some (.int .i64 a0_4):=(blk_cell BK43.out 4).trans rfl
    have hcz26_5:wr.cell? ⟨gb43,5,none⟩=some (.int .i64 a0_5):=(blk_cell BK43.out 5).trans rfl
    have hcz26_6:wr.cell? ⟨gb43,6,none⟩=some (.int .i64 a0_6):=(blk_cell BK43.out 6).trans rfl
    have hcz26_7:wr.cell? ⟨gb43,7,none⟩=some (.int .i64 a0_7):=(blk_cell BK43.out 7).trans rfl
    have hfz26_0:=blk_frozen BK43.out 0
    have hfz26_1:=blk_frozen BK43.out 1
    have hfz26_2:=blk_frozen BK43.out 2
    have hfz26_3:=blk_frozen BK43.out 3
    have hfz26_4:=blk_frozen BK43.out 4
    have hfz26_5:=blk_frozen BK43.out 5
    have hfz26_6:=blk_frozen BK43.out 6
    have hfz26_7:=blk_frozen BK43.out 7
    go_wp2_with (first|(go_at_call 43;(with_reducible refine (tollbarref09_Name.calls k1 a0_0 true _ A22.out).mono ?_);rintro e w' ⟨rfl,⟨nd,rfl⟩⟩;(try clear A22);(try first|exact ⟨rfl,_,World.drewN_drewN _ _ _⟩|exact ⟨rfl,_,Eq.trans (World.drewN_drewN _ _ _) (congrArg (World.drewN _) (Nat.add_assoc _ _ _))⟩)))
    repeat (go_quiet (first|(go_at_call 43;(with_reducible refine (tollbarref09_Name.calls k1 a0_0 true _ A22.out).mono ?_);rintro e w' ⟨rfl,⟨nd,rfl⟩⟩;(try clear A22);(try first|exact ⟨rfl,_,World.drewN_drewN _ _ _⟩|exact ⟨rfl,_,Eq.trans (World.drewN_drewN _ _ _) (congrArg (World.drewN _) (Nat.add_assoc _ _ _))⟩)));try go_wp2_with (first|(go_at_call 43;(with_reducible refine (tollbarref09_Name.calls k1 a0_0 true _ A22.out).mono ?_);rintro e w' ⟨rfl,⟨nd,rfl⟩⟩;(try clear A22);(try first|exact ⟨rfl,_,World.drewN_drewN _ _ _⟩|exact ⟨rfl,_,Eq.trans (World.drewN_drewN _ _ _) (congrArg (World.drewN _) (Nat.add_assoc _ _ _))⟩))))
    go_meet
    case rel=>exact ⟨_,(decide ((l0_1.length:Int) > 8)),zb3,H',⟨zb37⟩,⟨zb8⟩,⟨zb4⟩⟩
   case rest =>
    clear HC19
    try clear c1
    try clear c2
    try clear p2
    try clear q2
    try clear hx2
    try clear p6
    try clear c8
    try clear c8b0
    try clear c9
    try clear c9b0
    try clear c10
    try clear c10b0
    try clear c11
    try clear c11b0
    try clear c13
    try clear c13b0
    try clear c14
    try clear c14b0
    try clear c20
    try clear c20b0
    try clear c22
    try clear c23
    try clear c24
    try clear c24b0
    try clear c24b1
    try clear p24
    try clear q24
    try clear hx24
    try clear hcz21_0
    try clear hcz21_1
    try clear hcz21_2
    try clear hcz21_3
    try clear hcz21_4
    try clear hcz21_5
    try clear hcz21_6
    try clear hcz21_7
    try clear hcz25_0
    try clear hcz25_1
    try clear hcz25_2
    try clear hcz25_3
    try clear hcz25_4
    try clear hcz25_5
    try clear hcz25_6
    try clear hcz25_7
    try clear hcz26_0
    try clear hcz26_1
    try clear hcz26_2
    try clear hcz26_3
    try clear hcz26_4
    try clear hcz26_5
    try clear hcz26_6
    try clear hcz26_7
    try clear hcz27_0
    try clear hcz27_1
    try clear hcz27_2
    try clear hcz27_3
    try clear hcz27_4
    try clear hcz27_5
    try clear hcz27_6
    try clear hcz27_7
    try clear hcz6_0
    try clear hcz6_1
    try clear hcz6_2
    try clear hcz6_3
    try clear hcz6_4
    try clear hcz6_5
    try clear hcz6_6
    try clear hcz6_7
    try clear hfz21_0
    try clear hfz21_1
    try clear hfz21_2
    try clear hfz21_3
    try clear hfz21_4
    try clear hfz21_5
    try clear hfz21_6
    try clear hfz21_7
    try clear hfz25_0
    try clear hfz25_1
    try clear hfz25_2
    try clear hfz25_3
    try clear hfz25_4
    try clear hfz25_5
    try clear hfz25_6
    try clear hfz25_7
    try clear hfz26_0
    try clear hfz26_1
    try clear hfz26_2
    try clear hfz26_3
    try clear hfz26_4
    try clear hfz26_5
    try clear hfz26_6
    try clear hfz26_7
    try clear hfz27_0
    try clear hfz27_1
    try clear hfz27_2
    try clear hfz27_3
    try clear hfz27_4
    try clear hfz27_5
    try clear hfz27_6
    try clear hfz27_7
    try clear hfz6_0
    try clear hfz6_1
    try clear hfz6_2
    try clear hfz6_3
    try clear hfz6_4
    try clear hfz6_5
    try clear hfz6_6
    try clear hfz6_7
    try clear hx46_0
    try clear hx47_0
    try clear hx48_0
    try clear p2
    try clear p46
    try clear p47
    try clear p48
    try clear q46
    try clear q47
    try clear q48
    obtain ⟨kq,x52_18,rfl,HA,HJ18,BK43,HB⟩:=hcut
    cases kq with
    | zero=>exact absurd HA.out (by simp [tollbarref09_One.j1])
    | succ kj18 =>
     have H:=HA.out
     clear HA
     simp only [tollbarref09_One.j1] at H
     by_cases c28:x52_18=true
     ·subst c28
      rw [if_pos rfl] at H
      obtain rfl:=Option.some.inj H
      go_wp2
      repeat (go_quiet (fail);try go_wp2)
      go_ret
      exact ⟨zb6,zb4⟩
     replace c28:=Bool.eq_false_iff.mpr c28
     subst c28
     rw [if_neg (show ¬ (false=true) by decide)] at H
     have H' := Aside0.mk H
     clear H
     go_wp2
     repeat (go_quiet (fail);try go_wp2)
     go_loopg [6] kj18 (fun kq v6 w' => ∃ (x6_3:Int),v6 = .int .i64 x6_3∧Aside0 (tollbarref09_One.l1 kq x6_3 a0_0 l0_1 a0_2 a0_3 a0_4 a0_5 a0_6 a0_7=some r)∧Aside0 (kq ≤ kj18)∧Aside0 (w'.heap[gb43]? = some (.cells #[.string a0_0,(.slice A0_1 l0_1.length c0_1),.int .i64 a0_2,.int .i64 a0_3,.int .i64 a0_4,.int .i64 a0_5,.int .i64 a0_6,.int .i64 a0_7] 26 (0,0)))∧Aside0 (Below w.heap.size w w'))
     case atStart=>exact ⟨(0),zb3,H',⟨Nat.le_refl _⟩,⟨zb8⟩,⟨zb4⟩⟩
     case round =>
      clear H'
      try clear c1
      try clear c2
      try clear p2
      try clear q2
      try clear hx2
      try clear p6
      try clear c8
      try clear c8b0
      try clear c9
      try clear c9b0
      try clear c10
      try clear c10b0
      try clear c11
      try clear c11b0
      try clear c13
      try clear c13b0
      try clear c14
      try clear c14b0
      try clear c20
      try clear c20b0
      try clear c22
      try clear c23
      try clear c24
      try clear c24b0
      try clear c24b1
      try clear p24
      try clear q24
      try clear hx24
      try clear c28
      try clear hcz21_0
      try clear hcz21_1
      try clear hcz21_2
      try clear hcz21_3
      try clear hcz21_4
      try clear hcz21_5
      try clear hcz21_6
      try clear hcz21_7
      try clear hcz25_0
      try clear hcz25_1
      try clear hcz25_2
      try clear hcz25_3
      try clear hcz25_4
      try clear hcz25_5
      try clear hcz25_6
      try clear hcz25_7
      try clear hcz26_0
      try clear hcz26_1
      try clear hcz26_2
      try clear hcz26_3
      try clear hcz26_4
      try clear hcz26_5
      try clear hcz26_6
      try clear hcz26_7
      try clear hcz27_0
      try clear hcz27_1
      try clear hcz27_2
      try clear hcz27_3
      try clear hcz27_4
      try clear hcz27_5
      try clear hcz27_6
      try clear hcz27_7
      try clear hcz6_0
      try clear hcz6_1
      try clear hcz6_2
      try clear hcz6_3
      try clear hcz6_4
      try clear hcz6_5
      try clear hcz6_6
      try clear hcz6_7
      try clear hfz21_0
      try clear hfz21_1
      try clear hfz21_2
      try clear hfz21_3
      try clear hfz21_4
      try clear hfz21_5
      try clear hfz21_6
      try clear hfz21_7
      try clear hfz25_0
      try clear hfz25_1
      try clear hfz25_2
      try clear hfz25_3
      try clear hfz25_4
      try clear hfz25_5
      try clear hfz25_6
      try clear hfz25_7
      try clear hfz26_0
      try clear hfz26_1
      try clear hfz26_2
      try clear hfz26_3
      try clear hfz26_4
      try clear hfz26_5
      try clear hfz26_6
      try clear hfz26_7
      try clear hfz27_0
      try clear hfz27_1
      try clear hfz27_2
      try clear hfz27_3
      try clear hfz27_4
      try clear hfz27_5
      try clear hfz27_6
      try clear hfz27_7
      try clear hfz6_0
      try clear hfz6_1
      try clear hfz6_2
      try clear hfz6_3
      try clear hfz6_4
      try clear hfz6_5
      try clear hfz6_6
      try clear hfz6_7
      try clear hx46_0
      try clear hx47_0
      try clear hx48_0
      try clear p2
      try clear p24
      try clear p46
      try clear p47
      try clear p48
      try clear p6
      try clear q2
      try clear q24
      try clear q46
      try clear q47
      try clear q48
      obtain ⟨x6_3,rfl,HA,HK3,BK43,HB⟩:=hrel
      cases gk with
      | zero=>exact absurd HA.out (by simp [tollbarref09_One.l1])
      | succ k3 =>
       have H:=HA.out
       clear HA
       simp only [tollbarref09_One.l1] at H
       by_cases c29:x6_3 < (l0_1.length:Int);rotate_left
       ·rw [if_neg c29] at H
        have c29b0:=decide_eq_false c29
        clear c29
        obtain rfl:=Option.some.inj H
        have hcz42_0:wr.cell? ⟨gb43,0,none⟩=some (.string a0_0):=(blk_cell BK43.out 0).trans rfl
        have hcz42_1:wr.cell? ⟨gb43,1,none⟩=some (.slice A0_1 l0_1.length c0_1):=(blk_cell BK43.out 1).trans rfl
        have hcz42_2:wr.cell? ⟨gb43,2,none⟩=some (.int .i64 a0_2):=(blk_cell BK43.out 2).trans rfl
        have hcz42_3:wr.cell? ⟨gb43,3,none⟩=some (.int .i64 a0_3):=(blk_cell BK43.out 3).trans rfl
        have hcz42_4:wr.cell? ⟨gb43,4,none⟩=some (.int .i64 a0_4):=(blk_cell BK43.out 4).trans rfl
        have hcz42_5:wr.cell? ⟨gb43,5,none⟩=some (.int .i64 a0_5):=(blk_cell BK43.out 5).trans rfl
        have hcz42_6:wr.cell? ⟨gb43,6,none⟩=some (.int .i64 a0_6):=(blk_cell BK43.out 6).trans rfl
        have hcz42_7:wr.cell? ⟨gb43,7,none⟩=some (.int .i64 a0_7):=(blk_cell BK43.out 7).trans rfl
        have hfz42_0:=blk_frozen BK43.out 0
        have hfz42_1:=blk_frozen BK43.out 1
        have hfz42_2:=blk_frozen BK43.out 2
        have hfz42_3:=blk_frozen BK43.out 3
        have hfz42_4:=blk_frozen BK43.out 4
        have hfz42_5:=blk_frozen BK43.out 5
        have hfz42_6:=blk_frozen BK43.out 6
        have hfz42_7:=blk_frozen BK43.out 7
        go_wp2
        repeat (go_quiet (fail);try go_wp2)
        go_ret
        exact ⟨zb6,zb4⟩
       rw [if_pos c29] at H
       have c29b0:=decide_eq_true c29
       clear c29
       by_cases c30:0 ≤ x6_3
       ·rw [if_pos c30] at H
        have c30b0:=decide_eq_true c30
        clear c30
        replace H:=Option.bind_eq_some_iff.mp H
        obtain ⟨⟨t51,t59⟩,A60,H⟩:=H
        try dsimp only at H
        have A31:=Aside0.mk A60
        clear A60
        by_cases c32:t59=true;rotate_left
        ·replace c32:=Bool.eq_false_iff.mpr c32
         subst c32
         rw [if_neg (show ¬ (false=true) by decide)] at H
         obtain rfl:=Option.some.inj H
         have hcz40_0:wr.cell? ⟨gb43,0,none⟩=some (.string a0_0):=(blk_cell BK43.out 0).trans rfl
         have hcz40_1:wr.cell? ⟨gb43,1,none⟩=some (.slice A0_1 l0_1.length c0_1):=(blk_cell BK43.out 1).trans rfl
         have hcz40_2:wr.cell? ⟨gb43,2,none⟩=some (.int .i64 a0_2):=(blk_cell BK43.out 2).trans rfl
         have hcz40_3:wr.cell? ⟨gb43,3,none⟩=some (.int .i64 a0_3):=(blk_cell BK43.out 3).trans rfl
         have hcz40_4:wr.cell? ⟨gb43,4,none⟩=some (.int .i64 a0_4):=(blk_cell BK43.out 4).trans rfl
         have hcz40_5:wr.cell? ⟨gb43,5,none⟩=some (.int .i64 a0_5):=(blk_cell BK43.out 5).trans rfl
         have hcz40_6:wr.cell? ⟨gb43,6,none⟩=some (.int .i64 a0_6):=(blk_cell BK43.out 6).trans rfl
         have hcz40_7:wr.cell? ⟨gb43,7,none⟩=some (.int .i64 a0_7):=(blk_cell BK43.out 7).trans rfl
         have hfz40_0:=blk_frozen BK43.out 0
         have hfz40_1:=blk_frozen BK43.out 1
         have hfz40_2:=blk_frozen BK43.out 2
         have hfz40_3:=blk_frozen BK43.out 3
         have hfz40_4:=blk_frozen BK43.out 4
         have hfz40_5:=blk_frozen BK43.out 5
         have hfz40_6:=blk_frozen BK43.out 6
         have hfz40_7:=blk_frozen BK43.out 7
         have p45:0 ≤ (x6_3:Int):=of_decide_eq_true zb1
         have q45:x6_3 < (l0_1.length:Int):=of_decide_eq_true zb1
         obtain ⟨ad45,e45,hx45_0⟩:=Kd.at_string HR0_1.out x6_3 p45 q45
         cases e45
         replace hx45_0:=(HB.out.cell (World.block_lt_of_cell? w _ hx45_0)).trans hx45_0
         replace p45:=eq_true p45
         replace q45:=eq_true q45
         go_wp2_with (first|(go_at_call 44;(with_reducible refine (tollbarref05_Host.calls k3 (rdOf ByteArray.empty l0_1 x6_3) t51 false _ A31.out).mono ?_);rintro e w41 ⟨rfl,hb⟩;(try clear A31);replace BK43:=Aside0.mk (blk_below (g:=gb43) (o:=.cells #[.string a0_0,.slice (some ad45) l0_1.length c0_1,.int .i64 a0_2,.int .i64 a0_3,.int .i64 a0_4,.int .i64 a0_5,.int .i64 a0_6,.int .i64 a0_7] 26 (0,0)) zb8 hb);replace HB:=Aside0.mk (below_step zb4 hb);(try clear hb)))
         repeat (go_quiet (first|(go_at_call 44;(with_reducible refine (tollbarref05_Host.calls k3 (rdOf ByteArray.empty l0_1 x6_3) t51 false _ A31.out).mono ?_);rintro e w41 ⟨rfl,hb⟩;(try clear A31);replace BK43:=Aside0.mk (blk_below (g:=gb43) (o:=.cells #[.string a0_0,.slice (some ad45) l0_1.length c0_1,.int .i64 a0_2,.int .i64 a0_3,.int .i64 a0_4,.int .i64 a0_5,.int .i64 a0_6,.int .i64 a0_7] 26 (0,0)) zb8 hb);replace HB:=Aside0.mk (below_step zb4 hb);(try clear hb)));try go_wp2_with (first|(go_at_call 44;(with_reducible refine (tollbarref05_Host.calls k3 (rdOf ByteArray.empty l0_1 x6_3) t51 false _ A31.out).mono ?_);rintro e w41 ⟨rfl,hb⟩;(try clear A31);replace BK43:=Aside0.mk (blk_below (g:=gb43) (o:=.cells #[.string a0_0,.slice (some ad45) l0_1.length c0_1,.int .i64 a0_2,.int .i64 a0_3,.int .i64 a0_4,.int .i64 a0_5,.int .i64 a0_6,.int .i64 a0_7] 26 (0,0)) zb8 hb);replace HB:=Aside0.mk (below_step zb4 hb);(try clear hb))))
         go_ret
         exact ⟨zb6,zb4⟩
        subst c32
        rw [if_pos rfl] at H
        by_cases c33:t51.toList=(rdOf ByteArray.empty l0_1 x6_3).toList
        ·rw [if_pos c33] at H
         have c33b0:=beq_iff_eq.mpr c33
         have c33b1:=bne_eq_false_iff_eq.mpr c33
         clear c33
         have H' := Aside0.mk H
         clear H
         have hcz34_0:wr.cell? ⟨gb43,0,none⟩=some (.string a0_0):=(blk_cell BK43.out 0).trans rfl
         have hcz34_1:wr.cell? ⟨gb43,1,none⟩=some (.slice A0_1 l0_1.length c0_1):=(blk_cell BK43.out 1).trans rfl
         have hcz34_2:wr.cell? ⟨gb43,2,none⟩=some (.int .i64 a0_2):=(blk_cell BK43.out 2).trans rfl
         have hcz34_3:wr.cell? ⟨gb43,3,none⟩=some (.int .i64 a0_3):=(blk_cell BK43.out 3).trans rfl
         have hcz34_4:wr.cell? ⟨gb43,4,none⟩=some (.int .i64 a0_4):=(blk_cell BK43.out 4).trans rfl
         have hcz34_5:wr.cell? ⟨gb43,5,none⟩=some (.int .i64 a0_5):=(blk_cell BK43.out 5).trans rfl
         have hcz34_6:wr.cell? ⟨gb43,6,none⟩=some (.int .i64 a0_6):=(blk_cell BK43.out 6).trans rfl
         have hcz34_7:wr.cell? ⟨gb43,7,none⟩=some (.int .i64 a0_7):=(blk_cell BK43.out 7).trans rfl
         have hfz34_0:=blk_frozen BK43.out 0
         have hfz34_1:=blk_frozen BK43.out 1
         have hfz34_2:=blk_frozen BK43.out 2
         have hfz34_3:=blk_frozen BK43.out 3
         have hfz34_4:=blk_frozen BK43.out 4
         have hfz34_5:=blk_frozen BK43.out 5
         have hfz34_6:=blk_frozen BK43.out 6
         have hfz34_7:=blk_frozen BK43.out 7
         have p45:0 ≤ (x6_3:Int):=of_decide_eq_true zb1
         have q45:x6_3 < (l0_1.length:Int):=of_decide_eq_true zb1
         obtain ⟨ad45,e45,hx45_0⟩:=Kd.at_string HR0_1.out x6_3 p45 q45
         cases e45
         replace hx45_0:=(HB.out.cell (World.block_lt_of_cell? w _ hx45_0)).trans hx45_0
         replace p45:=eq_true p45
         replace q45:=eq_true q45
         go_wp2_with (first|(go_at_call 44;(with_reducible refine (tollbarref05_Host.calls k3 (rdOf ByteArray.empty l0_1 x6_3) t51 true _ A31.out).mono ?_);rintro e w35 ⟨rfl,hb⟩;(try clear A31);replace BK43:=Aside0.mk (blk_below (g:=gb43) (o:=.cells #[.string a0_0,.slice (some ad45) l0_1.length c0_1,.int .i64 a0_2,.int .i64 a0_3,.int .i64 a0_4,.int .i64 a0_5,.int .i64 a0_6,.int .i64 a0_7] 26 (0,0)) zb8 hb);replace HB:=Aside0.mk (below_step zb4 hb);(try clear hb);have hcz36_0:w35.cell? ⟨gb43,0,none⟩=some (.string a0_0):=(blk_cell BK43.out 0).trans rfl;have hcz36_1:w35.cell? ⟨gb43,1,none⟩=some (.slice (some ad45) l0_1.length c0_1):=(blk_cell BK43.out 1).trans rfl;have hcz36_2:w35.cell? ⟨gb43,2,none⟩=some (.int .i64 a0_2):=(blk_cell BK43.out 2).trans rfl;have hcz36_3:w35.cell? ⟨gb43,3,none⟩=some (.int .i64 a0_3):=(blk_cell BK43.out 3).trans rfl;have hcz36_4:w35.cell? ⟨gb43,4,none⟩=some (.int .i64 a0_4):=(blk_cell BK43.out 4).trans rfl;have hcz36_5:w35.cell? ⟨gb43,5,none⟩=some (.int .i64 a0_5):=(blk_cell BK43.out 5).trans rfl;have hcz36_6:w35.cell? ⟨gb43,6,none⟩=some (.int .i64 a0_6):=(blk_cell BK43.out 6).trans rfl;have hcz36_7:w35.cell? ⟨gb43,7,none⟩=some (.int .i64 a0_7):=(blk_cell BK43.out 7).trans rfl;have hfz36_0:=blk_frozen BK43.out 0;have hfz36_1:=blk_frozen BK43.out 1;have hfz36_2:=blk_frozen BK43.out 2;have hfz36_3:=blk_frozen BK43.out 3;have hfz36_4:=blk_frozen BK43.out 4;have hfz36_5:=blk_frozen BK43.out 5;have hfz36_6:=blk_frozen BK43.out 6;have hfz36_7:=blk_frozen BK43.out 7;have p44:0 ≤ (x6_3:Int):=of_decide_eq_true zb1;have q44:x6_3 < (l0_1.length:Int):=of_decide_eq_true zb1;obtain ⟨ad44,e44,hx44_0⟩:=Kd.at_string HR0_1.out x6_3 p44 q44;obtain rfl:ad45=ad44:=(by injection e44);replace hx44_0:=(HB.out.cell (World.block_lt_of_cell? w _ hx44_0)).trans hx44_0;replace p44:=eq_true p44;replace q44:=eq_true q44))
         repeat (go_quiet (first|(go_at_call 44;(with_reducible refine (tollbarref05_Host.calls k3 (rdOf ByteArray.empty l0_1 x6_3) t51 true _ A31.out).mono ?_);rintro e w35 ⟨rfl,hb⟩;(try clear A31);replace BK43:=Aside0.mk (blk_below (g:=gb43) (o:=.cells #[.string a0_0,.slice (some ad45) l0_1.length c0_1,.int .i64 a0_2,.int .i64 a0_3,.int .i64 a0_4,.int .i64 a0_5,.int .i64 a0_6,.int .i64 a0_7] 26 (0,0)) zb8 hb);replace HB:=Aside0.mk (below_step zb4 hb);(try clear hb);have hcz36_0:w35.cell? ⟨gb43,0,none⟩=some (.string a0_0):=(blk_cell BK43.out 0).trans rfl;have hcz36_1:w35.cell? ⟨gb43,1,none⟩=some (.slice (some ad45) l0_1.length c0_1):=(blk_cell BK43.out 1).trans rfl;have hcz36_2:w35.cell? ⟨gb43,2,none⟩=some (.int .i64 a0_2):=(blk_cell BK43.out 2).trans rfl;have hcz36_3:w35.cell? ⟨gb43,3,none⟩=some (.int .i64 a0_3):=(blk_cell BK43.out 3).trans rfl;have hcz36_4:w35.cell? ⟨gb43,4,none⟩=some (.int .i64 a0_4):=(blk_cell BK43.out 4).trans rfl;have hcz36_5:w35.cell? ⟨gb43,5,none⟩=some (.int .i64 a0_5):=(blk_cell BK43.out 5).trans rfl;have hcz36_6:w35.cell? ⟨gb43,6,none⟩=some (.int .i64 a0_6):=(blk_cell BK43.out 6).trans rfl;have hcz36_7:w35.cell? ⟨gb43,7,none⟩=some (.int .i64 a0_7):=(blk_cell BK43.out 7).trans rfl;have hfz36_0:=blk_frozen BK43.out 0;have hfz36_1:=blk_frozen BK43.out 1;have hfz36_2:=blk_frozen BK43.out 2;have hfz36_3:=blk_frozen BK43.out 3;have hfz36_4:=blk_frozen BK43.out 4;have hfz36_5:=blk_frozen BK43.out 5;have hfz36_6:=blk_frozen BK43.out 6;have hfz36_7:=blk_frozen BK43.out 7;have p44:0 ≤ (x6_3:Int):=of_decide_eq_true zb1;have q44:x6_3 < (l0_1.length:Int):=of_decide_eq_true zb1;obtain ⟨ad44,e44,hx44_0⟩:=Kd.at_string HR0_1.out x6_3 p44 q44;obtain rfl:ad45=ad44:=(by injection e44);replace hx44_0:=(HB.out.cell (World.block_lt_of_cell? w _ hx44_0)).trans hx44_0;replace p44:=eq_true p44;replace q44:=eq_true q44));try go_wp2_with (first|(go_at_call 44;(with_reducible refine (tollbarref05_Host.calls k3 (rdOf ByteArray.empty l0_1 x6_3) t51 true _ A31.out).mono ?_);rintro e w35 ⟨rfl,hb⟩;(try clear A31);replace BK43:=Aside0.mk (blk_below (g:=gb43) (o:=.cells #[.string a0_0,.slice (some ad45) l0_1.length c0_1,.int .i64 a0_2,.int .i64 a0_3,.int .i64 a0_4,.int .i64 a0_5,.int .i64 a0_6,.int .i64 a0_7] 26 (0,0)) zb8 hb);replace HB:=Aside0.mk (below_step zb4 hb);(try clear hb);have hcz36_0:w35.cell? ⟨gb43,0,none⟩=some (.string a0_0):=(blk_cell BK43.out 0).trans rfl;have hcz36_1:w35.cell? ⟨gb43,1,none⟩=some (.slice (some ad45) l0_1.length c0_1):=(blk_cell BK43.out 1).trans rfl;have hcz36_2:w35.cell? ⟨gb43,2,none⟩=some (.int .i64 a0_2):=(blk_cell BK43.out 2).trans rfl;have hcz36_3:w35.cell? ⟨gb43,3,none⟩=some (.int .i64 a0_3):=(blk_cell BK43.out 3).trans rfl;have hcz36_4:w35.cell? ⟨gb43,4,none⟩=some (.int .i64 a0_4):=(blk_cell BK43.out 4).trans rfl;have hcz36_5:w35.cell? ⟨gb43,5,none⟩=some (.int .i64 a0_5):=(blk_cell BK43.out 5).trans rfl;have hcz36_6:w35.cell? ⟨gb43,6,none⟩=some (.int .i64 a0_6):=(blk_cell BK43.out 6).trans rfl;have hcz36_7:w35.cell? ⟨gb43,7,none⟩=some (.int .i64 a0_7):=(blk_cell BK43.out 7).trans rfl;have hfz36_0:=blk_frozen BK43.out 0;have hfz36_1:=blk_frozen BK43.out 1;have hfz36_2:=blk_frozen BK43.out 2;have hfz36_3:=blk_frozen BK43.out 3;have hfz36_4:=blk_frozen BK43.out 4;have hfz36_5:=blk_frozen BK43.out 5;have hfz36_6:=blk_frozen BK43.out 6;have hfz36_7:=blk_frozen BK43.out 7;have p44:0 ≤ (x6_3:Int):=of_decide_eq_true zb1;have q44:x6_3 < (l0_1.length:Int):=of_decide_eq_true zb1;obtain ⟨ad44,e44,hx44_0⟩:=Kd.at_string HR0_1.out x6_3 p44 q44;obtain rfl:ad45=ad44:=(by injection e44);replace hx44_0:=(HB.out.cell (World.block_lt_of_cell? w _ hx44_0)).trans hx44_0;replace p44:=eq_true p44;replace q44:=eq_true q44)))
         go_roundg k3
         case measure=>have:=HK1.out;have:=HJ18.out;have:=HK3.out;omega
         case rel=>exact ⟨(wrap64 (x6_3 + 1)),zb3,H',⟨by have:=HK1.out;have:=HJ18.out;have:=HK3.out;omega⟩,⟨zb8⟩,⟨zb4⟩⟩
        ·rw [if_neg c33] at H
         have c33b0:=beq_eq_false_iff_ne.mpr c33
         have c33b1:=bne_iff_ne.mpr c33
         obtain rfl:=Option.some.inj H
         have hcz37_0:wr.cell? ⟨gb43,0,none⟩=some (.string a0_0):=(blk_cell BK43.out 0).trans rfl
         have hcz37_1:wr.cell? ⟨gb43,1,none⟩=some (.slice A0_1 l0_1.length c0_1):=(blk_cell BK43.out 1).trans rfl
         have hcz37_2:wr.cell? ⟨gb43,2,none⟩=some (.int .i64 a0_2):=(blk_cell BK43.out 2).trans rfl
         have hcz37_3:wr.cell? ⟨gb43,3,none⟩=some (.int .i64 a0_3):=(blk_cell BK43.out 3).trans rfl
         have hcz37_4:wr.cell? ⟨gb43,4,none⟩=some (.int .i64 a0_4):=(blk_cell BK43.out 4).trans rfl
         have hcz37_5:wr.cell? ⟨gb43,5,none⟩=some (.int .i64 a0_5):=(blk_cell BK43.out 5).trans rfl
         have hcz37_6:wr.cell? ⟨gb43,6,none⟩=some (.int .i64 a0_6):=(blk_cell BK43.out 6).trans rfl
         have hcz37_7:wr.cell? ⟨gb43,7,none⟩=some (.int .i64 a0_7):=(blk_cell BK43.out 7).trans rfl
         have hfz37_0:=blk_frozen BK43.out 0
         have hfz37_1:=blk_frozen BK43.out 1
         have hfz37_2:=blk_frozen BK43.out 2
         have hfz37_3:=blk_frozen BK43.out 3
         have hfz37_4:=blk_frozen BK43.out 4
         have hfz37_5:=blk_frozen BK43.out 5
         have hfz37_6:=blk_frozen BK43.out 6
         have hfz37_7:=blk_frozen BK43.out 7
         have p45:0 ≤ (x6_3:Int):=of_decide_eq_true zb1
         have q45:x6_3 < (l0_1.length:Int):=of_decide_eq_true zb1
         obtain ⟨ad45,e45,hx45_0⟩:=Kd.at_string HR0_1.out x6_3 p45 q45
         cases e45
         replace hx45_0:=(HB.out.cell (World.block_lt_of_cell? w _ hx45_0)).trans hx45_0
         replace p45:=eq_true p45
         replace q45:=eq_true q45
         go_wp2_with (first|(go_at_call 44;(with_reducible refine (tollbarref05_Host.calls k3 (rdOf ByteArray.empty l0_1 x6_3) t51 true _ A31.out).mono ?_);rintro e w38 ⟨rfl,hb⟩;(try clear A31);replace BK43:=Aside0.mk (blk_below (g:=gb43) (o:=.cells #[.string a0_0,.slice (some ad45) l0_1.length c0_1,.int .i64 a0_2,.int .i64 a0_3,.int .i64 a0_4,.int .i64 a0_5,.int .i64 a0_6,.int .i64 a0_7] 26 (0,0)) zb8 hb);replace HB:=Aside0.mk (below_step zb4 hb);(try clear hb);have hcz39_0:w38.cell? ⟨gb43,0,none⟩=some (.string a0_0):=(blk_cell BK43.out 0).trans rfl;have hcz39_1:w38.cell? ⟨gb43,1,none⟩=some (.slice (some ad45) l0_1.length c0_1):=(blk_cell BK43.out 1).trans rfl;have hcz39_2:w38.cell? ⟨gb43,2,none⟩=some (.int .i64 a0_2):=(blk_cell BK43.out 2).trans rfl;have hcz39_3:w38.cell? ⟨gb43,3,none⟩=some (.int .i64 a0_3):=(blk_cell BK43.out 3).trans rfl;have hcz39_4:w38.cell? ⟨gb43,4,none⟩=some (.int .i64 a0_4):=(blk_cell BK43.out 4).trans rfl;have hcz39_5:w38.cell? ⟨gb43,5,none⟩=some (.int .i64 a0_5):=(blk_cell BK43.out 5).trans rfl;have hcz39_6:w38.cell? ⟨gb43,6,none⟩=some (.int .i64 a0_6):=(blk_cell BK43.out 6).trans rfl;have hcz39_7:w38.cell? ⟨gb43,7,none⟩=some (.int .i64 a0_7):=(blk_cell BK43.out 7).trans rfl;have hfz39_0:=blk_frozen BK43.out 0;have hfz39_1:=blk_frozen BK43.out 1;have hfz39_2:=blk_frozen BK43.out 2;have hfz39_3:=blk_frozen BK43.out 3;have hfz39_4:=blk_frozen BK43.out 4;have hfz39_5:=blk_frozen BK43.out 5;have hfz39_6:=blk_frozen BK43.out 6;have hfz39_7:=blk_frozen BK43.out 7;have p44:0 ≤ (x6_3:Int):=of_decide_eq_true zb1;have q44:x6_3 < (l0_1.length:Int):=of_decide_eq_true zb1;obtain ⟨ad44,e44,hx44_0⟩:=Kd.at_string HR0_1.out x6_3 p44 q44;obtain rfl:ad45=ad44:=(by injection e44);replace hx44_0:=(HB.out.cell (World.block_lt_of_cell? w _ hx44_0)).trans hx44_0;replace p44:=eq_true p44;replace q44:=eq_true q44))
         repeat (go_quiet (first|(go_at_call 44;(with_reducible refine (tollbarref05_Host.calls k3 (rdOf ByteArray.empty l0_1 x6_3) t51 true _ A31.out).mono ?_);rintro e w38 ⟨rfl,hb⟩;(try clear A31);replace BK43:=Aside0.mk (blk_below (g:=gb43) (o:=.cells #[.string a0_0,.slice (some ad45) l0_1.length c0_1,.int .i64 a0_2,.int .i64 a0_3,.int .i64 a0_4,.int .i64 a0_5,.int .i64 a0_6,.int .i64 a0_7] 26 (0,0)) zb8 hb);replace HB:=Aside0.mk (below_step zb4 hb);(try clear hb);have hcz39_0:w38.cell? ⟨gb43,0,none⟩=some (.string a0_0):=(blk_cell BK43.out 0).trans rfl;have hcz39_1:w38.cell? ⟨gb43,1,none⟩=some (.slice (some ad45) l0_1.length c0_1):=(blk_cell BK43.out 1).trans rfl;have hcz39_2:w38.cell? ⟨gb43,2,none⟩=some (.int .i64 a0_2):=(blk_cell BK43.out 2).trans rfl;have hcz39_3:w38.cell? ⟨gb43,3,none⟩=some (.int .i64 a0_3):=(blk_cell BK43.out 3).trans rfl;have hcz39_4:w38.cell? ⟨gb43,4,none⟩=some (.int .i64 a0_4):=(blk_cell BK43.out 4).trans rfl;have hcz39_5:w38.cell? ⟨gb43,5,none⟩=some (.int .i64 a0_5):=(blk_cell BK43.out 5).trans rfl;have hcz39_6:w38.cell? ⟨gb43,6,none⟩=some (.int .i64 a0_6):=(blk_cell BK43.out 6).trans rfl;have hcz39_7:w38.cell? ⟨gb43,7,none⟩=some (.int .i64 a0_7):=(blk_cell BK43.out 7).trans rfl;have hfz39_0:=blk_frozen BK43.out 0;have hfz39_1:=blk_frozen BK43.out 1;have hfz39_2:=blk_frozen BK43.out 2;have hfz39_3:=blk_frozen BK43.out 3;have hfz39_4:=blk_frozen BK43.out 4;have hfz39_5:=blk_frozen BK43.out 5;have hfz39_6:=blk_frozen BK43.out 6;have hfz39_7:=blk_frozen BK43.out 7;have p44:0 ≤ (x6_3:Int):=of_decide_eq_true zb1;have q44:x6_3 < (l0_1.length:Int):=of_decide_eq_true zb1;obtain ⟨ad44,e44,hx44_0⟩:=Kd.at_string HR0_1.out x6_3 p44 q44;obtain rfl:ad45=ad44:=(by injection e44);replace hx44_0:=(HB.out.cell (World.block_lt_of_cell? w _ hx44_0)).trans hx44_0;replace p44:=eq_true p44;replace q44:=eq_true q44));try go_wp2_with (first|(go_at_call 44;(with_reducible refine (tollbarref05_Host.calls k3 (rdOf ByteArray.empty l0_1 x6_3) t51 true _ A31.out).mono ?_);rintro e w38 ⟨rfl,hb⟩;(try clear A31);replace BK43:=Aside0.mk (blk_below (g:=gb43) (o:=.cells #[.string a0_0,.slice (some ad45) l0_1.length c0_1,.int .i64 a0_2,.int .i64 a0_3,.int .i64 a0_4,.int .i64 a0_5,.int .i64 a0_6,.int .i64 a0_7] 26 (0,0)) zb8 hb);replace HB:=Aside0.mk (below_step zb4 hb);(try clear hb);have hcz39_0:w38.cell? ⟨gb43,0,none⟩=some (.string a0_0):=(blk_cell BK43.out 0).trans rfl;have hcz39_1:w38.cell? ⟨gb43,1,none⟩=some (.slice (some ad45) l0_1.length c0_1):=(blk_cell BK43.out 1).trans rfl;have hcz39_2:w38.cell? ⟨gb43,2,none⟩=some (.int .i64 a0_2):=(blk_cell BK43.out 2).trans rfl;have hcz39_3:w38.cell? ⟨gb43,3,none⟩=some (.int .i64 a0_3):=(blk_cell BK43.out 3).trans rfl;have hcz39_4:w38.cell? ⟨gb43,4,none⟩=some (.int .i64 a0_4):=(blk_cell BK43.out 4).trans rfl;have hcz39_5:w38.cell? ⟨gb43,5,none⟩=some (.int .i64 a0_5):=(blk_cell BK43.out 5).trans rfl;have hcz39_6:w38.cell? ⟨gb43,6,none⟩=some (.int .i64 a0_6):=(blk_cell BK43.out 6).trans rfl;have hcz39_7:w38.cell? ⟨gb43,7,none⟩=some (.int .i64 a0_7):=(blk_cell BK43.out 7).trans rfl;have hfz39_0:=blk_frozen BK43.out 0;have hfz39_1:=blk_frozen BK43.out 1;have hfz39_2:=blk_frozen BK43.out 2;have hfz39_3:=blk_frozen BK43.out 3;have hfz39_4:=blk_frozen BK43.out 4;have hfz39_5:=blk_frozen BK43.out 5;have hfz39_6:=blk_frozen BK43.out 6;have hfz39_7:=blk_frozen BK43.out 7;have p44:0 ≤ (x6_3:Int):=of_decide_eq_true zb1;have q44:x6_3 < (l0_1.length:Int):=of_decide_eq_true zb1;obtain ⟨ad44,e44,hx44_0⟩:=Kd.at_string HR0_1.out x6_3 p44 q44;obtain rfl:ad45=ad44:=(by injection e44);replace hx44_0:=(HB.out.cell (World.block_lt_of_cell? w _ hx44_0)).trans hx44_0;replace p44:=eq_true p44;replace q44:=eq_true q44)))
         go_ret
         exact ⟨zb6,zb4⟩
       ·rw [if_neg c30] at H
        exact absurd H zb17
mutual
def tollbarref09_Right.j0:Nat → List (S26) → Bool → Option (Bool)
 | 0,_,_=>none
 | k + 1,x0,x15=>if x15=true then (some false) else (tollbarref09_Right.l0 k x0 (([]:List ByteArray)) 0)
def tollbarref09_Right.l0:Nat → List (S26) → List ByteArray → Int → Option (Bool)
 | 0,_,_,_=>none
 | k + 1,x0,x3,x4=>if x4 < (x0.length:Int) then (if 0 ≤ x4 then ((tollbarref09_One.f k ((rd_T26 x0 x4).f0) ((rd_T26 x0 x4).f1) ((rd_T26 x0 x4).f2) ((rd_T26 x0 x4).f3) ((rd_T26 x0 x4).f4) ((rd_T26 x0 x4).f5) ((rd_T26 x0 x4).f6) ((rd_T26 x0 x4).f7)).bind fun t252=>(if t252=true then (tollbarref09_Right.l1 k x0 x3 x4 0) else (some false))) else (none)) else (some true)
def tollbarref09_Right.l1:Nat → List (S26) → List ByteArray → Int → Int → Option (Bool)
 | 0,_,_,_,_=>none
 | k + 1,x0,x3,x4,x5=>if x5 < x4 then (if 0 ≤ x5 then (if x5 < (x0.length:Int) then (if 0 ≤ x4 then (if x4 < (x0.length:Int) then (if ((rd_T26 x0 x5).f0).toList=((rd_T26 x0 x4).f0).toList then (some false) else (tollbarref09_Right.l1 k x0 x3 x4 (wrap64 (x5 + 1)))) else (none)) else (none)) else (none)) else (none)) else (tollbarref09_Right.l2 k x0 x3 x4 0)
def tollbarref09_Right.l2:Nat → List (S26) → List ByteArray → Int → Int → Option (Bool)
 | 0,_,_,_,_=>none
 | k + 1,x0,x3,x4,x6=>if 0 ≤ x4 then (if x4 < (x0.length:Int) then (if x6 < (((rd_T26 x0 x4).f1).length:Int) then (tollbarref09_Right.l3 k x0 x3 x4 x6 0) else (tollbarref09_Right.l0 k x0 x3 (wrap64 (x4 + 1)))) else (none)) else (none)
def tollbarref09_Right.l3:Nat → List (S26) → List ByteArray → Int → Int → Int → Option (Bool)
 | 0,_,_,_,_,_=>none
 | k + 1,x0,x3,x4,x6,x7=>if x7 < (x3.length:Int) then (if 0 ≤ x7 then (if 0 ≤ x4 then (if x4 < (x0.length:Int) then (if 0 ≤ x6 then (if x6 < (((rd_T26 x0 x4).f1).length:Int) then (if (rdOf ByteArray.empty x3 x7).toList=(rdOf ByteArray.empty ((rd_T26 x0 x4).f1) x6).toList then (some false) else (tollbarref09_Right.l3 k x0 x3 x4 x6 (wrap64 (x7 + 1)))) else (none)) else (none)) else (none)) else (none)) else (none)) else (if 0 ≤ x4 then (if x4 < (x0.length:Int) then (if 0 ≤ x6 then (if x6 < (((rd_T26 x0 x4).f1).length:Int) then (if x3.length < 8796093022208 then (tollbarref09_Right.l2 k x0 (x3 ++ [rdOf ByteArray.empty ((rd_T26 x0 x4).f1) x6]) x4 (wrap64 (x6 + 1))) else (none)) else (none)) else (none)) else (none)) else (none))
end
def tollbarref09_Right.f (k:Nat) (l0:List (S26)):Option (Bool):=if (l0.length:Int) < 1 then (tollbarref09_Right.j0 k l0 true) else (tollbarref09_Right.j0 k l0 (decide ((l0.length:Int) > 16)))
set_option maxHeartbeats 8000000 in
set_option maxRecDepth 100000 in
theorem tollbarref09_Right.calls (k:Nat) (A0:Option Addr) (c0:Nat) (l0:List (S26)) (r:Bool) (w:World) (hr0:Kd.C k26 w A0 l0.length l0) (hc0:l0.length ≤ c0) (h:tollbarref09_Right.f k l0=some r) :
 Calls Tryd.prog 10 #[.slice A0 l0.length c0] w fun e w' => e = .returned (.bool r)∧Below w.heap.size w w' := by
 have hu26:=Tryd.underlying26
 have HR0:=Aside0.mk hr0
 have HC0:=Aside0.mk hc0
 clear hr0 hc0
 have HB:=Aside0.mk (Below.refl w.heap.size w)
 unfold tollbarref09_Right.f at h
 have H:=h
 clear h
 have HC2:=Aside0.mk H
 clear H
 go_enter Tryd.func10,Tryd.ntmps10
 go_upto_region 1 with (fail)
 repeat (go_quiet (fail);go_upto_region 1 with (fail))
 go_cut [15] (fun v15 wc => ∃ (kq:Nat) (x15_1:Bool),v15 = .bool x15_1∧Aside0 (tollbarref09_Right.j0 kq l0 x15_1=some r)∧Aside0 (kq ≤ k)∧Aside0 (Below w.heap.size w wc))
 case first =>
  have H:=HC2.out
  clear HC2
  by_cases c3:(l0.length:Int) < 1
  ·rw [if_pos c3] at H
   have c3b0:=decide_eq_true c3
   have c3b1:decide (l0.length < 1)=true:=decide_eq_true zb14
   clear c3
   (first|rw [c3b0]|(simp only [i64_w,i32_w];rw [c3b0])|rw [c3b1]|skip)
   have H' := Aside0.mk H
   clear H
   go_wp2
   repeat (go_quiet (fail);try go_wp2)
   go_meet
   case rel=>exact ⟨_,(true),zb3,H',⟨zb51⟩,⟨zb0⟩⟩
  rw [if_neg c3] at H
  have c3b0:=decide_eq_false c3
  have c3b1:decide (l0.length < 1)=false:=decide_eq_false zb14
  clear c3
  (first|rw [c3b0]|(simp only [i64_w,i32_w];rw [c3b0])|rw [c3b1]|skip)
  have H' := Aside0.mk H
  clear H
  go_wp2
  repeat (go_quiet (fail);try go_wp2)
  go_meet
  case rel=>exact ⟨_,(decide ((l0.length:Int) > 16)),zb3,H',⟨zb51⟩,⟨zb0⟩⟩
 case rest =>
  clear HC2
  try clear c1
  try clear p2
  try clear c3
  try clear c3b0
  try clear c3b1
  obtain ⟨kq,x15_1,rfl,HA,HJ1,HB⟩:=hcut
  cases kq with
  | zero=>exact absurd HA.out (by simp [tollbarref09_Right.j0])
  | succ kj1 =>
   have H:=HA.out
   clear HA
   simp only [tollbarref09_Right.j0] at H
   by_cases c4:x15_1=true
   ·subst c4
    rw [if_pos rfl] at H
    obtain rfl:=Option.some.inj H
    go_wp2
    repeat (go_quiet (fail);try go_wp2)
    go_ret
    exact ⟨zb6,zb0⟩
   replace c4:=Bool.eq_false_iff.mpr c4
   subst c4
   rw [if_neg (show ¬ (false=true) by decide)] at H
   obtain ⟨y46,hy46⟩ : ∃ y_:List ByteArray,y_=(([]:List ByteArray)):=⟨_,rfl⟩
   replace H:(tollbarref09_Right.l0 kj1 l0 y46 0)=some r:=by first|(rw [hy46];with_reducible exact H)|(have H2_:=(Option.bind_some _ _).symm.trans H;rw [hy46];with_reducible exact H2_)|(have H2_:=(Option.bind_some _ _).symm.trans H;with_reducible exact H2_)|with_reducible exact H|(rw [hy46];exact H)|exact H
   have Ny46:=Aside0.mk hy46
   clear hy46
   have H' := Aside0.mk H
   clear H
   go_wp2_with (first|((with_reducible refine gate_dst (N:=16) rfl ?_);(try (refine gate_guard (by rfl) ?_;dsimp only));refine Kd.R_lit Kd.string _ 9 ?hg (N:=16) ?hd (xs:=([]:List ByteArray)) (inner:=[]) (ok:=fun _=>True) (okp:=fun _=>True) ?hr ?hp (fun _ hk=>hk) trivial (Below.refl _ _) (Nat.le_refl _) zb17 ?_;(case hd=>rfl);(case hg=>rfl);(case hr=>first|(go_simp;done)|(go_simp;rfl));(case hp=>exact (Reps.none _ _));intro v51 w5 ho6 hb hg_ hnew_;clear hg_ hnew_;(first|rw [← Ny46.out] at ho6|(simp only [Int.reduceToNat] at ho6;rw [← Ny46.out] at ho6));have HO49:=Aside0.mk (Kd.R_lower ho6 (below_size zb0));replace HB:=Aside0.mk (below_step zb0 hb);clear hb ho6))
   repeat (go_quiet (first|((with_reducible refine gate_dst (N:=16) rfl ?_);(try (refine gate_guard (by rfl) ?_;dsimp only));refine Kd.R_lit Kd.string _ 9 ?hg (N:=16) ?hd (xs:=([]:List ByteArray)) (inner:=[]) (ok:=fun _=>True) (okp:=fun _=>True) ?hr ?hp (fun _ hk=>hk) trivial (Below.refl _ _) (Nat.le_refl _) zb17 ?_;(case hd=>rfl);(case hg=>rfl);(case hr=>first|(go_simp;done)|(go_simp;rfl));(case hp=>exact (Reps.none _ _));intro v51 w5 ho6 hb hg_ hnew_;clear hg_ hnew_;(first|rw [← Ny46.out] at ho6|(simp only [Int.reduceToNat] at ho6;rw [← Ny46.out] at ho6));have HO49:=Aside0.mk (Kd.R_lower ho6 (below_size zb0));replace HB:=Aside0.mk (below_step zb0 hb);clear hb ho6));try go_wp2_with (first|((with_reducible refine gate_dst (N:=16) rfl ?_);(try (refine gate_guard (by rfl) ?_;dsimp only));refine Kd.R_lit Kd.string _ 9 ?hg (N:=16) ?hd (xs:=([]:List ByteArray)) (inner:=[]) (ok:=fun _=>True) (okp:=fun _=>True) ?hr ?hp (fun _ hk=>hk) trivial (Below.refl _ _) (Nat.le_refl _) zb17 ?_;(case hd=>rfl);(case hg=>rfl);(case hr=>first|(go_simp;done)|(go_simp;rfl));(case hp=>exact (Reps.none _ _));intro v51 w5 ho6 hb hg_ hnew_;clear hg_ hnew_;(first|rw [← Ny46.out] at ho6|(simp only [Int.reduceToNat] at ho6;rw [← Ny46.out] at ho6));have HO49:=Aside0.mk (Kd.R_lower ho6 (below_size zb0));replace HB:=Aside0.mk (below_step zb0 hb);clear hb ho6)))
   go_loopg [3,4] kj1 (fun kq v3 v4 w' => ∃ (x3_2:List ByteArray) (x4_2:Int),v4 = .int .i64 x4_2∧Aside0 (tollbarref09_Right.l0 kq l0 x3_2 x4_2=some r)∧Aside0 (kq ≤ kj1)∧Aside0 (Kd.R Kd.string 9 w' w.heap.size (fun _=>True) v3 x3_2)∧Aside0 (Below w.heap.size w w'))
   case atStart=>exact ⟨(y46),(0),zb3,H',⟨Nat.le_refl _⟩,⟨by (with_reducible repeat (first|apply Kd.R_alloc|apply Kd.R_drewN|apply Kd.R_drew));exact HO49.out⟩,⟨zb0⟩⟩
   case round =>
    clear H'
    try clear c1
    try clear p2
    try clear c3
    try clear c3b0
    try clear c3b1
    try clear c4
    try clear p2
    obtain ⟨x3_2,x4_2,rfl,HA,HK2,HO_3,HB⟩:=hrel
    cases gk with
    | zero=>exact absurd HA.out (by simp [tollbarref09_Right.l0])
    | succ k2 =>
     have H:=HA.out
     clear HA
     simp only [tollbarref09_Right.l0] at H
     by_cases c7:x4_2 < (l0.length:Int);rotate_left
     ·rw [if_neg c7] at H
      have c7b0:=decide_eq_false c7
      clear c7
      obtain rfl:=Option.some.inj H
      go_wp2
      repeat (go_quiet (fail);try go_wp2)
      go_ret
      exact ⟨zb6,zb0⟩
     rw [if_pos c7] at H
     have c7b0:=decide_eq_true c7
     clear c7
     by_cases c8:0 ≤ x4_2
     ·rw [if_pos c8] at H
      have c8b0:=decide_eq_true c8
      clear c8
      replace H:=Option.bind_eq_some_iff.mp H
      obtain ⟨t52,A90,H⟩:=H
      try dsimp only at H
      have A9:=Aside0.mk A90
      clear A90
      by_cases c10:t52=true;rotate_left
      ·replace c10:=Bool.eq_false_iff.mpr c10
       subst c10
       rw [if_neg (show ¬ (false=true) by decide)] at H
       obtain rfl:=Option.some.inj H
       have p38:0 ≤ (x4_2:Int):=of_decide_eq_true zb1
       have q38:x4_2 < (l0.length:Int):=of_decide_eq_true zb1
       obtain ⟨ad38,A38_1,c38_1,e38,hx38_0,hx38_1,hx38_2,hx38_3,hx38_4,hx38_5,hx38_6,hx38_7,hl38_1,hi38_1⟩:=at_T26 HR0.out x4_2 p38 q38
       cases e38
       replace hx38_0:=(HB.out.cell (World.block_lt_of_cell? w _ hx38_0)).trans hx38_0
       replace hx38_1:=(HB.out.cell (World.block_lt_of_cell? w _ hx38_1)).trans hx38_1
       replace hx38_2:=(HB.out.cell (World.block_lt_of_cell? w _ hx38_2)).trans hx38_2
       replace hx38_3:=(HB.out.cell (World.block_lt_of_cell? w _ hx38_3)).trans hx38_3
       replace hx38_4:=(HB.out.cell (World.block_lt_of_cell? w _ hx38_4)).trans hx38_4
       replace hx38_5:=(HB.out.cell (World.block_lt_of_cell? w _ hx38_5)).trans hx38_5
       replace hx38_6:=(HB.out.cell (World.block_lt_of_cell? w _ hx38_6)).trans hx38_6
       replace hx38_7:=(HB.out.cell (World.block_lt_of_cell? w _ hx38_7)).trans hx38_7
       have HR38_1:=Aside0.mk hi38_1
       have HC38_1:=Aside0.mk hl38_1
       clear hi38_1 hl38_1
       replace p38:=eq_true p38
       replace q38:=eq_true q38
       go_wp2_with (first|(go_at_call 22;(with_reducible refine (tollbarref09_One.calls k2 ((rd_T26 l0 x4_2).f0) _ _ ((rd_T26 l0 x4_2).f1) ((rd_T26 l0 x4_2).f2) ((rd_T26 l0 x4_2).f3) ((rd_T26 l0 x4_2).f4) ((rd_T26 l0 x4_2).f5) ((rd_T26 l0 x4_2).f6) ((rd_T26 l0 x4_2).f7) false _ ?side1 ?side2 A9.out).mono ?_);(case side1=>exact zb18);(case side2=>exact HC38_1.out);rintro e w37 ⟨rfl,hb⟩;(try clear A9);replace HO_3:=Aside0.mk (Kd.R_below zb10 hb);replace HB:=Aside0.mk (below_step zb0 hb);(try clear hb)))
       repeat (go_quiet (first|(go_at_call 22;(with_reducible refine (tollbarref09_One.calls k2 ((rd_T26 l0 x4_2).f0) _ _ ((rd_T26 l0 x4_2).f1) ((rd_T26 l0 x4_2).f2) ((rd_T26 l0 x4_2).f3) ((rd_T26 l0 x4_2).f4) ((rd_T26 l0 x4_2).f5) ((rd_T26 l0 x4_2).f6) ((rd_T26 l0 x4_2).f7) false _ ?side1 ?side2 A9.out).mono ?_);(case side1=>exact zb18);(case side2=>exact HC38_1.out);rintro e w37 ⟨rfl,hb⟩;(try clear A9);replace HO_3:=Aside0.mk (Kd.R_below zb10 hb);replace HB:=Aside0.mk (below_step zb0 hb);(try clear hb)));try go_wp2_with (first|(go_at_call 22;(with_reducible refine (tollbarref09_One.calls k2 ((rd_T26 l0 x4_2).f0) _ _ ((rd_T26 l0 x4_2).f1) ((rd_T26 l0 x4_2).f2) ((rd_T26 l0 x4_2).f3) ((rd_T26 l0 x4_2).f4) ((rd_T26 l0 x4_2).f5) ((rd_T26 l0 x4_2).f6) ((rd_T26 l0 x4_2).f7) false _ ?side1 ?side2 A9.out).mono ?_);(case side1=>exact zb18);(case side2=>exact HC38_1.out);rintro e w37 ⟨rfl,hb⟩;(try clear A9);replace HO_3:=Aside0.mk (Kd.R_below zb10 hb);replace HB:=Aside0.mk (below_step zb0 hb);(try clear hb))))
       go_ret
       exact ⟨zb6,zb0⟩
      subst c10
      rw [if_pos rfl] at H
      have H' := Aside0.mk H
      clear H
      have p38:0 ≤ (x4_2:Int):=of_decide_eq_true zb1
      have q38:x4_2 < (l0.length:Int):=of_decide_eq_true zb1
      obtain ⟨ad38,A38_1,c38_1,e38,hx38_0,hx38_1,hx38_2,hx38_3,hx38_4,hx38_5,hx38_6,hx38_7,hl38_1,hi38_1⟩:=at_T26 HR0.out x4_2 p38 q38
      cases e38
      replace hx38_0:=(HB.out.cell (World.block_lt_of_cell? w _ hx38_0)).trans hx38_0
      replace hx38_1:=(HB.out.cell (World.block_lt_of_cell? w _ hx38_1)).trans hx38_1
      replace hx38_2:=(HB.out.cell (World.block_lt_of_cell? w _ hx38_2)).trans hx38_2
      replace hx38_3:=(HB.out.cell (World.block_lt_of_cell? w _ hx38_3)).trans hx38_3
      replace hx38_4:=(HB.out.cell (World.block_lt_of_cell? w _ hx38_4)).trans hx38_4
      replace hx38_5:=(HB.out.cell (World.block_lt_of_cell? w _ hx38_5)).trans hx38_5
      replace hx38_6:=(HB.out.cell (World.block_lt_of_cell? w _ hx38_6)).trans hx38_6
      replace hx38_7:=(HB.out.cell (World.block_lt_of_cell? w _ hx38_7)).trans hx38_7
      have HR38_1:=Aside0.mk hi38_1
      have HC38_1:=Aside0.mk hl38_1
      clear hi38_1 hl38_1
      replace p38:=eq_true p38
      replace q38:=eq_true q38
      go_wp2_with (first|(go_at_call 22;(with_reducible refine (tollbarref09_One.calls k2 ((rd_T26 l0 x4_2).f0) _ _ ((rd_T26 l0 x4_2).f1) ((rd_T26 l0 x4_2).f2) ((rd_T26 l0 x4_2).f3) ((rd_T26 l0 x4_2).f4) ((rd_T26 l0 x4_2).f5) ((rd_T26 l0 x4_2).f6) ((rd_T26 l0 x4_2).f7) true _ ?side1 ?side2 A9.out).mono ?_);(case side1=>exact zb18);(case side2=>exact HC38_1.out);rintro e w11 ⟨rfl,hb⟩;(try clear A9);replace HO_3:=Aside0.mk (Kd.R_below zb10 hb);replace HB:=Aside0.mk (below_step zb0 hb);(try clear hb)))
      repeat (go_quiet (first|(go_at_call 22;(with_reducible refine (tollbarref09_One.calls k2 ((rd_T26 l0 x4_2).f0) _ _ ((rd_T26 l0 x4_2).f1) ((rd_T26 l0 x4_2).f2) ((rd_T26 l0 x4_2).f3) ((rd_T26 l0 x4_2).f4) ((rd_T26 l0 x4_2).f5) ((rd_T26 l0 x4_2).f6) ((rd_T26 l0 x4_2).f7) true _ ?side1 ?side2 A9.out).mono ?_);(case side1=>exact zb18);(case side2=>exact HC38_1.out);rintro e w11 ⟨rfl,hb⟩;(try clear A9);replace HO_3:=Aside0.mk (Kd.R_below zb10 hb);replace HB:=Aside0.mk (below_step zb0 hb);(try clear hb)));try go_wp2_with (first|(go_at_call 22;(with_reducible refine (tollbarref09_One.calls k2 ((rd_T26 l0 x4_2).f0) _ _ ((rd_T26 l0 x4_2).f1) ((rd_T26 l0 x4_2).f2) ((rd_T26 l0 x4_2).f3) ((rd_T26 l0 x4_2).f4) ((rd_T26 l0 x4_2).f5) ((rd_T26 l0 x4_2).f6) ((rd_T26 l0 x4_2).f7) true _ ?side1 ?side2 A9.out).mono ?_);(case side1=>exact zb18);(case side2=>exact HC38_1.out);rintro e w11 ⟨rfl,hb⟩;(try clear A9);replace HO_3:=Aside0.mk (Kd.R_below zb10 hb);replace HB:=Aside0.mk (below_step zb0 hb);(try clear hb))))
      go_loopg [5] k2 (fun kq v5 w' => ∃ (x5_3:Int),v5 = .int .i64 x5_3∧Aside0 (tollbarref09_Right.l1 kq l0 x3_2 x4_2 x5_3=some r)∧Aside0 (kq ≤ k2)∧Aside0 (Kd.R Kd.string 9 w' w.heap.size (fun _=>True) u3 x3_2)∧Aside0 (Below w.heap.size w w'))
      case atStart=>exact ⟨(0),zb3,H',⟨Nat.le_refl _⟩,⟨zb10⟩,⟨zb0⟩⟩
      case round =>
       clear H'
       try clear c1
       try clear c2
       try clear p2
       try clear q2
       try clear hx2
       try clear c3
       try clear c3b0
       try clear c3b1
       try clear c4
       try clear c7
       try clear c7b0
       try clear c8
       try clear c8b0
       try clear c10
       try clear hx38_0
       try clear hx38_1
       try clear hx38_2
       try clear hx38_3
       try clear hx38_4
       try clear hx38_5
       try clear hx38_6
       try clear hx38_7
       try clear p2
       try clear p38
       try clear q38
       obtain ⟨x5_3,rfl,HA,HK3,HO_3,HB⟩:=hrel
       cases gk with
       | zero=>exact absurd HA.out (by simp [tollbarref09_Right.l1])
       | succ k3 =>
        have H:=HA.out
        clear HA
        simp only [tollbarref09_Right.l1] at H
        by_cases c12:x5_3 < x4_2
        ·rw [if_pos c12] at H
         have c12b0:=decide_eq_true c12
         clear c12
         by_cases c13:0 ≤ x5_3;rotate_left
         ·rw [if_neg c13] at H
          exact absurd H zb17
         rw [if_pos c13] at H
         have c13b0:=decide_eq_true c13
         clear c13
         by_cases c14:x5_3 < (l0.length:Int)
         ·rw [if_pos c14] at H
          have c14b0:=decide_eq_true c14
          clear c14
          by_cases c15:0 ≤ x4_2;rotate_left
          ·rw [if_neg c15] at H
           exact absurd H zb17
          rw [if_pos c15] at H
          have c15b0:=decide_eq_true c15
          clear c15
          by_cases c16:x4_2 < (l0.length:Int)
          ·rw [if_pos c16] at H
           have c16b0:=decide_eq_true c16
           clear c16
           by_cases c17:((rd_T26 l0 x5_3).f0).toList=((rd_T26 l0 x4_2).f0).toList
           ·rw [if_pos c17] at H
            have c17b0:=beq_iff_eq.mpr c17
            have c17b1:=bne_eq_false_iff_eq.mpr c17
            clear c17
            obtain rfl:=Option.some.inj H
            have p39:0 ≤ (x5_3:Int):=of_decide_eq_true zb1
            have q39:x5_3 < (l0.length:Int):=of_decide_eq_true zb1
            obtain ⟨ad39,A39_1,c39_1,e39,hx39_0,hx39_1,hx39_2,hx39_3,hx39_4,hx39_5,hx39_6,hx39_7,hl39_1,hi39_1⟩:=at_T26 HR0.out x5_3 p39 q39
            obtain rfl:ad38=ad39:=(by injection e39)
            replace hx39_0:=(HB.out.cell (World.block_lt_of_cell? w _ hx39_0)).trans hx39_0
            replace hx39_1:=(HB.out.cell (World.block_lt_of_cell? w _ hx39_1)).trans hx39_1
            replace hx39_2:=(HB.out.cell (World.block_lt_of_cell? w _ hx39_2)).trans hx39_2
            replace hx39_3:=(HB.out.cell (World.block_lt_of_cell? w _ hx39_3)).trans hx39_3
            replace hx39_4:=(HB.out.cell (World.block_lt_of_cell? w _ hx39_4)).trans hx39_4
            replace hx39_5:=(HB.out.cell (World.block_lt_of_cell? w _ hx39_5)).trans hx39_5
            replace hx39_6:=(HB.out.cell (World.block_lt_of_cell? w _ hx39_6)).trans hx39_6
            replace hx39_7:=(HB.out.cell (World.block_lt_of_cell? w _ hx39_7)).trans hx39_7
            have HR39_1:=Aside0.mk hi39_1
            have HC39_1:=Aside0.mk hl39_1
            clear hi39_1 hl39_1
            replace p39:=eq_true p39
            replace q39:=eq_true q39
            have p40:0 ≤ (x4_2:Int):=of_decide_eq_true zb1
            have q40:x4_2 < (l0.length:Int):=of_decide_eq_true zb1
            obtain ⟨ad40,A40_1,c40_1,e40,hx40_0,hx40_1,hx40_2,hx40_3,hx40_4,hx40_5,hx40_6,hx40_7,hl40_1,hi40_1⟩:=at_T26 HR0.out x4_2 p40 q40
            obtain rfl:ad38=ad40:=(by injection e40)
            replace hx40_0:=(HB.out.cell (World.block_lt_of_cell? w _ hx40_0)).trans hx40_0
            replace hx40_1:=(HB.out.cell (World.block_lt_of_cell? w _ hx40_1)).trans hx40_1
            replace hx40_2:=(HB.out.cell (World.block_lt_of_cell? w _ hx40_2)).trans hx40_2
            replace hx40_3:=(HB.out.cell (World.block_lt_of_cell? w _ hx40_3)).trans hx40_3
            replace hx40_4:=(HB.out.cell (World.block_lt_of_cell? w _ hx40_4)).trans hx40_4
            replace hx40_5:=(HB.out.cell (World.block_lt_of_cell? w _ hx40_5)).trans hx40_5
            replace hx40_6:=(HB.out.cell (World.block_lt_of_cell? w _ hx40_6)).trans hx40_6
            replace hx40_7:=(HB.out.cell (World.block_lt_of_cell? w _ hx40_7)).trans hx40_7
            have HR40_1:=Aside0.mk hi40_1
            have HC40_1:=Aside0.mk hl40_1
            clear hi40_1 hl40_1
            replace p40:=eq_true p40
            replace q40:=eq_true q40
            go_wp2
            repeat (go_quiet (fail);try go_wp2)
            go_ret
            exact ⟨zb6,zb0⟩
           rw [if_neg c17] at H
           have c17b0:=beq_eq_false_iff_ne.mpr c17
           have c17b1:=bne_iff_ne.mpr c17
           have H' := Aside0.mk H
           clear H
           have p39:0 ≤ (x5_3:Int):=of_decide_eq_true zb1
           have q39:x5_3 < (l0.length:Int):=of_decide_eq_true zb1
           obtain ⟨ad39,A39_1,c39_1,e39,hx39_0,hx39_1,hx39_2,hx39_3,hx39_4,hx39_5,hx39_6,hx39_7,hl39_1,hi39_1⟩:=at_T26 HR0.out x5_3 p39 q39
           obtain rfl:ad38=ad39:=(by injection e39)
           replace hx39_0:=(HB.out.cell (World.block_lt_of_cell? w _ hx39_0)).trans hx39_0
           replace hx39_1:=(HB.out.cell (World.block_lt_of_cell? w _ hx39_1)).trans hx39_1
           replace hx39_2:=(HB.out.cell (World.block_lt_of_cell? w _ hx39_2)).trans hx39_2
           replace hx39_3:=(HB.out.cell (World.block_lt_of_cell? w _ hx39_3)).trans hx39_3
           replace hx39_4:=(HB.out.cell (World.block_lt_of_cell? w _ hx39_4)).trans hx39_4
           replace hx39_5:=(HB.out.cell (World.block_lt_of_cell? w _ hx39_5)).trans hx39_5
           replace hx39_6:=(HB.out.cell (World.block_lt_of_cell? w _ hx39_6)).trans hx39_6
           replace hx39_7:=(HB.out.cell (World.block_lt_of_cell? w _ hx39_7)).trans hx39_7
           have HR39_1:=Aside0.mk hi39_1
           have HC39_1:=Aside0.mk hl39_1
           clear hi39_1 hl39_1
           replace p39:=eq_true p39
           replace q39:=eq_true q39
           have p40:0 ≤ (x4_2:Int):=of_decide_eq_true zb1
           have q40:x4_2 < (l0.length:Int):=of_decide_eq_true zb1
           obtain ⟨ad40,A40_1,c40_1,e40,hx40_0,hx40_1,hx40_2,hx40_3,hx40_4,hx40_5,hx40_6,hx40_7,hl40_1,hi40_1⟩:=at_T26 HR0.out x4_2 p40 q40
           obtain rfl:ad38=ad40:=(by injection e40)
           replace hx40_0:=(HB.out.cell (World.block_lt_of_cell? w _ hx40_0)).trans hx40_0
           replace hx40_1:=(HB.out.cell (World.block_lt_of_cell? w _ hx40_1)).trans hx40_1
           replace hx40_2:=(HB.out.cell (World.block_lt_of_cell? w _ hx40_2)).trans hx40_2
           replace hx40_3:=(HB.out.cell (World.block_lt_of_cell? w _ hx40_3)).trans hx40_3
           replace hx40_4:=(HB.out.cell (World.block_lt_of_cell? w _ hx40_4)).trans hx40_4
           replace hx40_5:=(HB.out.cell (World.block_lt_of_cell? w _ hx40_5)).trans hx40_5
           replace hx40_6:=(HB.out.cell (World.block_lt_of_cell? w _ hx40_6)).trans hx40_6
           replace hx40_7:=(HB.out.cell (World.block_lt_of_cell? w _ hx40_7)).trans hx40_7
           have HR40_1:=Aside0.mk hi40_1
           have HC40_1:=Aside0.mk hl40_1
           clear hi40_1 hl40_1
           replace p40:=eq_true p40
           replace q40:=eq_true q40
           go_wp2
           repeat (go_quiet (fail);try go_wp2)
           go_roundg k3
           case measure=>have:=HJ1.out;have:=HK2.out;have:=HK3.out;omega
           case rel=>exact ⟨(wrap64 (x5_3 + 1)),zb3,H',⟨by have:=HJ1.out;have:=HK2.out;have:=HK3.out;omega⟩,⟨zb10⟩,⟨zb0⟩⟩
          ·rw [if_neg c16] at H
           exact absurd H zb17
         ·rw [if_neg c14] at H
          exact absurd H zb17
        rw [if_neg c12] at H
        have c12b0:=decide_eq_false c12
        clear c12
        have H' := Aside0.mk H
        clear H
        go_wp2
        repeat (go_quiet (fail);try go_wp2)
        go_loopg [3,6] k3 (fun kq v3 v6 w' => ∃ (x3_4:List ByteArray) (x6_4:Int),v6 = .int .i64 x6_4∧Aside0 (tollbarref09_Right.l2 kq l0 x3_4 x4_2 x6_4=some r)∧Aside0 (kq ≤ k3)∧Aside0 (Kd.R Kd.string 9 w' w.heap.size (fun _=>True) v3 x3_4)∧Aside0 (Below w.heap.size w w'))
        case atStart=>exact ⟨(x3_2),(0),zb3,H',⟨Nat.le_refl _⟩,⟨zb10⟩,⟨zb0⟩⟩
        case round =>
         clear H'
         try clear c1
         try clear c2
         try clear p2
         try clear q2
         try clear hx2
         try clear c3
         try clear c3b0
         try clear c3b1
         try clear c4
         try clear p6
         try clear c7
         try clear c7b0
         try clear c8
         try clear c8b0
         try clear c10
         try clear c12
         try clear c12b0
         try clear c13
         try clear c13b0
         try clear c14
         try clear c14b0
         try clear c15
         try clear c15b0
         try clear c16
         try clear c16b0
         try clear c17
         try clear c17b0
         try clear c17b1
         try clear hx38_0
         try clear hx38_1
         try clear hx38_2
         try clear hx38_3
         try clear hx38_4
         try clear hx38_5
         try clear hx38_6
         try clear hx38_7
         try clear hx39_0
         try clear hx39_1
         try clear hx39_2
         try clear hx39_3
         try clear hx39_4
         try clear hx39_5
         try clear hx39_6
         try clear hx39_7
         try clear hx40_0
         try clear hx40_1
         try clear hx40_2
         try clear hx40_3
         try clear hx40_4
         try clear hx40_5
         try clear hx40_6
         try clear hx40_7
         try clear p2
         try clear p38
         try clear p39
         try clear p40
         try clear q2
         try clear q38
         try clear q39
         try clear q40
         obtain ⟨x3_4,x6_4,rfl,HA,HK4,HO_3,HB⟩:=hrel
         cases gk with
         | zero=>exact absurd HA.out (by simp [tollbarref09_Right.l2])
         | succ k4 =>
          have H:=HA.out
          clear HA
          simp only [tollbarref09_Right.l2] at H
          by_cases c18:0 ≤ x4_2
          ·rw [if_pos c18] at H
           have c18b0:=decide_eq_true c18
           clear c18
           by_cases c19:x4_2 < (l0.length:Int)
           ·rw [if_pos c19] at H
            have c19b0:=decide_eq_true c19
            clear c19
            by_cases c20:x6_4 < (((rd_T26 l0 x4_2).f1).length:Int);rotate_left
            ·rw [if_neg c20] at H
             have c20b0:=decide_eq_false c20
             clear c20
             have H' := Aside0.mk H
             clear H
             have p41:0 ≤ (x4_2:Int):=of_decide_eq_true zb1
             have q41:x4_2 < (l0.length:Int):=of_decide_eq_true zb1
             obtain ⟨ad41,A41_1,c41_1,e41,hx41_0,hx41_1,hx41_2,hx41_3,hx41_4,hx41_5,hx41_6,hx41_7,hl41_1,hi41_1⟩:=at_T26 HR0.out x4_2 p41 q41
             obtain rfl:ad38=ad41:=(by injection e41)
             replace hx41_0:=(HB.out.cell (World.block_lt_of_cell? w _ hx41_0)).trans hx41_0
             replace hx41_1:=(HB.out.cell (World.block_lt_of_cell? w _ hx41_1)).trans hx41_1
             replace hx41_2:=(HB.out.cell (World.block_lt_of_cell? w _ hx41_2)).trans hx41_2
             replace hx41_3:=(HB.out.cell (World.block_lt_of_cell? w _ hx41_3)).trans hx41_3
             replace hx41_4:=(HB.out.cell (World.block_lt_of_cell? w _ hx41_4)).trans hx41_4
             replace hx41_5:=(HB.out.cell (World.block_lt_of_cell? w _ hx41_5)).trans hx41_5
             replace hx41_6:=(HB.out.cell (World.block_lt_of_cell? w _ hx41_6)).trans hx41_6
             replace hx41_7:=(HB.out.cell (World.block_lt_of_cell? w _ hx41_7)).trans hx41_7
             have HR41_1:=Aside0.mk hi41_1
             have HC41_1:=Aside0.mk hl41_1
             clear hi41_1 hl41_1
             replace p41:=eq_true p41
             replace q41:=eq_true q41
             go_wp2
             repeat (go_quiet (fail);try go_wp2)
             go_roundg k4
             case measure=>have:=HJ1.out;have:=HK2.out;have:=HK3.out;have:=HK4.out;omega
             case rel=>exact ⟨(x3_4),(wrap64 (x4_2 + 1)),zb3,H',⟨by have:=HJ1.out;have:=HK2.out;have:=HK3.out;have:=HK4.out;omega⟩,⟨zb10⟩,⟨zb0⟩⟩
            rw [if_pos c20] at H
            have c20b0:=decide_eq_true c20
            clear c20
            have H' := Aside0.mk H
            clear H
            have p41:0 ≤ (x4_2:Int):=of_decide_eq_true zb1
            have q41:x4_2 < (l0.length:Int):=of_decide_eq_true zb1
            obtain ⟨ad41,A41_1,c41_1,e41,hx41_0,hx41_1,hx41_2,hx41_3,hx41_4,hx41_5,hx41_6,hx41_7,hl41_1,hi41_1⟩:=at_T26 HR0.out x4_2 p41 q41
            obtain rfl:ad38=ad41:=(by injection e41)
            replace hx41_0:=(HB.out.cell (World.block_lt_of_cell? w _ hx41_0)).trans hx41_0
            replace hx41_1:=(HB.out.cell (World.block_lt_of_cell? w _ hx41_1)).trans hx41_1
            replace hx41_2:=(HB.out.cell (World.block_lt_of_cell? w _ hx41_2)).trans hx41_2
            replace hx41_3:=(HB.out.cell (World.block_lt_of_cell? w _ hx41_3)).trans hx41_3
            replace hx41_4:=(HB.out.cell (World.block_lt_of_cell? w _ hx41_4)).trans hx41_4
            replace hx41_5:=(HB.out.cell (World.block_lt_of_cell? w _ hx41_5)).trans hx41_5
            replace hx41_6:=(HB.out.cell (World.block_lt_of_cell? w _ hx41_6)).trans hx41_6
            replace hx41_7:=(HB.out.cell (World.block_lt_of_cell? w _ hx41_7)).trans hx41_7
            have HR41_1:=Aside0.mk hi41_1
            have HC41_1:=Aside0.mk hl41_1
            clear hi41_1 hl41_1
            replace p41:=eq_true p41
            replace q41:=eq_true q41
            go_wp2
            repeat (go_quiet (fail);try go_wp2)
            go_loopg [7] k4 (fun kq v7 w' => ∃ (x7_5:Int),v7 = .int .i64 x7_5∧Aside0 (tollbarref09_Right.l3 kq l0 x3_4 x4_2 x6_4 x7_5=some r)∧Aside0 (kq ≤ k4)∧Aside0 (Kd.R Kd.string 9 w' w.heap.size (fun _=>True) u3 x3_4)∧Aside0 (Below w.heap.size w w'))
            case atStart=>exact ⟨(0),zb3,H',⟨Nat.le_refl _⟩,⟨zb10⟩,⟨zb0⟩⟩
            case round =>
             clear H'
             try clear c1
             try clear c2
             try clear p2
             try clear q2
             try clear hx2
             try clear c3
             try clear c3b0
             try clear c3b1
             try clear c4
             try clear p6
             try clear c7
             try clear c7b0
             try clear c8
             try clear c8b0
             try clear c10
             try clear c12
             try clear c12b0
             try clear c13
             try clear c13b0
             try clear c14
             try clear c14b0
             try clear c15
             try clear c15b0
             try clear c16
             try clear c16b0
             try clear c17
             try clear c17b0
             try clear c17b1
             try clear c18
             try clear c18b0
             try clear c19
             try clear c19b0
             try clear c20
             try clear c20b0
             try clear hx38_0
             try clear hx38_1
             try clear hx38_2
             try clear hx38_3
             try clear hx38_4
             try clear hx38_5
             try clear hx38_6
             try clear hx38_7
             try clear hx39_0
             try clear hx39_1
             try clear hx39_2
             try clear hx39_3
             try clear hx39_4
             try clear hx39_5
             try clear hx39_6
             try clear hx39_7
             try clear hx40_0
             try clear hx40_1
             try clear hx40_2
             try clear hx40_3
             try clear hx40_4
             try clear hx40_5
             try clear hx40_6
             try clear hx40_7
             try clear hx41_0
             try clear hx41_1
             try clear hx41_2
             try clear hx41_3
             try clear hx41_4
             try clear hx41_5
             try clear hx41_6
             try clear hx41_7
             try clear p2
             try clear p38
             try clear p39
             try clear p40
             try clear p41
             try clear p6
             try clear q2
             try clear q38
             try clear q39
             try clear q40
             try clear q41
             obtain ⟨x7_5,rfl,HA,HK5,HO_3,HB⟩:=hrel
             cases gk with
             | zero=>exact absurd HA.out (by simp [tollbarref09_Right.l3])
             | succ k5 =>
              have H:=HA.out
              clear HA
              simp only [tollbarref09_Right.l3] at H
              by_cases c21:x7_5 < (x3_4.length:Int);rotate_left
              ·rw [if_neg c21] at H
               have c21b0:=decide_eq_false c21
               clear c21
               by_cases c30:0 ≤ x4_2;rotate_left
               ·rw [if_neg c30] at H
                exact absurd H zb17
               rw [if_pos c30] at H
               have c30b0:=decide_eq_true c30
               clear c30
               by_cases c31:x4_2 < (l0.length:Int)
               ·rw [if_pos c31] at H
                have c31b0:=decide_eq_true c31
                clear c31
                by_cases c32:0 ≤ x6_4;rotate_left
                ·rw [if_neg c32] at H
                 exact absurd H zb17
                rw [if_pos c32] at H
                have c32b0:=decide_eq_true c32
                clear c32
                by_cases c33:x6_4 < (((rd_T26 l0 x4_2).f1).length:Int)
                ·rw [if_pos c33] at H
                 have c33b0:=decide_eq_true c33
                 clear c33
                 by_cases c34:x3_4.length < 8796093022208;rotate_left
                 ·rw [if_neg c34] at H
                  exact absurd H zb17
                 rw [if_pos c34] at H
                 have LMc34:=Aside0.mk c34
                 clear c34
                 obtain ⟨y48,hy48⟩ : ∃ y_:List ByteArray,y_=(x3_4 ++ [rdOf ByteArray.empty ((rd_T26 l0 x4_2).f1) x6_4]):=⟨_,rfl⟩
                 replace H:(tollbarref09_Right.l2 k5 l0 y48 x4_2 (wrap64 (x6_4 + 1)))=some r:=by first|(rw [hy48];with_reducible exact H)|(have H2_:=(Option.bind_some _ _).symm.trans H;rw [hy48];with_reducible exact H2_)|(have H2_:=(Option.bind_some _ _).symm.trans H;with_reducible exact H2_)|with_reducible exact H|(rw [hy48];exact H)|exact H
                 have Ny48:=Aside0.mk hy48
                 clear hy48
                 have H' := Aside0.mk H
                 clear H
                 obtain ⟨Ao35,co35,eo35⟩:=Kd.R_slice HO_3.out
                 subst eo35
                 have p43:0 ≤ (x4_2:Int):=of_decide_eq_true zb1
                 have q43:x4_2 < (l0.length:Int):=of_decide_eq_true zb1
                 obtain ⟨ad43,A43_1,c43_1,e43,hx43_0,hx43_1,hx43_2,hx43_3,hx43_4,hx43_5,hx43_6,hx43_7,hl43_1,hi43_1⟩:=at_T26 HR0.out x4_2 p43 q43
                 obtain rfl:ad38=ad43:=(by injection e43)
                 replace hx43_0:=(HB.out.cell (World.block_lt_of_cell? w _ hx43_0)).trans hx43_0
                 replace hx43_1:=(HB.out.cell (World.block_lt_of_cell? w _ hx43_1)).trans hx43_1
                 replace hx43_2:=(HB.out.cell (World.block_lt_of_cell? w _ hx43_2)).trans hx43_2
                 replace hx43_3:=(HB.out.cell (World.block_lt_of_cell? w _ hx43_3)).trans hx43_3
                 replace hx43_4:=(HB.out.cell (World.block_lt_of_cell? w _ hx43_4)).trans hx43_4
                 replace hx43_5:=(HB.out.cell (World.block_lt_of_cell? w _ hx43_5)).trans hx43_5
                 replace hx43_6:=(HB.out.cell (World.block_lt_of_cell? w _ hx43_6)).trans hx43_6
                 replace hx43_7:=(HB.out.cell (World.block_lt_of_cell? w _ hx43_7)).trans hx43_7
                 have HR43_1:=Aside0.mk hi43_1
                 have HC43_1:=Aside0.mk hl43_1
                 clear hi43_1 hl43_1
                 replace p43:=eq_true p43
                 replace q43:=eq_true q43
                 have p47:0 ≤ (x6_4:Int):=of_decide_eq_true zb1
                 have q47:x6_4 < (((rd_T26 l0 x4_2).f1).length:Int):=of_decide_eq_true zb1
                 obtain ⟨ad47,e47,hx47_0⟩:=Kd.at_string HR43_1.out x6_4 p47 q47
                 cases e47
                 replace hx47_0:=(HB.out.cell (World.block_lt_of_cell? w _ hx47_0)).trans hx47_0
                 replace p47:=eq_true p47
                 replace q47:=eq_true q47
                 go_wp2_with (first|((with_reducible refine gate_builtin (b:=.append) (xs:=#[.tmp 74,.tmp 83]) rfl ?_);(try (refine gate_guard (by rfl) ?_;dsimp only));at_builtin;refine Kd.R_append Kd.string (w0:=w) w.heap.size rfl (.tmp 74) (.tmp 83) 24 9 (.string ⟨#[]⟩) 16 rfl Tryd.underlying24 info9 rfl zb44 zb14 (.slice Ao35 x3_4.length co35) x3_4 (rdOf ByteArray.empty ((rd_T26 l0 x4_2).f1) x6_4) [.string (rdOf ByteArray.empty ((rd_T26 l0 x4_2).f1) x6_4)] (fun _=>True) (fun _=>False) rfl rfl ?aP (fun _ hk=>hk.elim) ?aF ?aO ?aB ?aS ?aL ?_;(case aP=>exact rfl);(case aB=>exact zb28);(case aF=>exact (fun _ _=>trivial));(case aO=>exact zb30);(case aS=>exact zb25);(case aL=>have:=LMc34.out;omega);intro v53 w36 ho hb hg hat;rw [← Ny48.out] at ho;replace HB:=Aside0.mk (hb);have HO50:=Aside0.mk (ho);clear ho hb hg hat))
                 repeat (go_quiet (first|((with_reducible refine gate_builtin (b:=.append) (xs:=#[.tmp 74,.tmp 83]) rfl ?_);(try (refine gate_guard (by rfl) ?_;dsimp only));at_builtin;refine Kd.R_append Kd.string (w0:=w) w.heap.size rfl (.tmp 74) (.tmp 83) 24 9 (.string ⟨#[]⟩) 16 rfl Tryd.underlying24 info9 rfl zb44 zb14 (.slice Ao35 x3_4.length co35) x3_4 (rdOf ByteArray.empty ((rd_T26 l0 x4_2).f1) x6_4) [.string (rdOf ByteArray.empty ((rd_T26 l0 x4_2).f1) x6_4)] (fun _=>True) (fun _=>False) rfl rfl ?aP (fun _ hk=>hk.elim) ?aF ?aO ?aB ?aS ?aL ?_;(case aP=>exact rfl);(case aB=>exact zb28);(case aF=>exact (fun _ _=>trivial));(case aO=>exact zb30);(case aS=>exact zb25);(case aL=>have:=LMc34.out;omega);intro v53 w36 ho hb hg hat;rw [← Ny48.out] at ho;replace HB:=Aside0.mk (hb);have HO50:=Aside0.mk (ho);clear ho hb hg hat));try go_wp2_with (first|((with_reducible refine gate_builtin (b:=.append) (xs:=#[.tmp 74,.tmp 83]) rfl ?_);(try (refine gate_guard (by rfl) ?_;dsimp only));at_builtin;refine Kd.R_append Kd.string (w0:=w) w.heap.size rfl (.tmp 74) (.tmp 83) 24 9 (.string ⟨#[]⟩) 16 rfl Tryd.underlying24 info9 rfl zb44 zb14 (.slice Ao35 x3_4.length co35) x3_4 (rdOf ByteArray.empty ((rd_T26 l0 x4_2).f1) x6_4) [.string (rdOf ByteArray.empty ((rd_T26 l0 x4_2).f1) x6_4)] (fun _=>True) (fun _=>False) rfl rfl ?aP (fun _ hk=>hk.elim) ?aF ?aO ?aB ?aS ?aL ?_;(case aP=>exact rfl);(case aB=>exact zb28);(case aF=>exact (fun _ _=>trivial));(case aO=>exact zb30);(case aS=>exact zb25);(case aL=>have:=LMc34.out;omega);intro v53 w36 ho hb hg hat;rw [← Ny48.out] at ho;replace HB:=Aside0.mk (hb);have HO50:=Aside0.mk (ho);clear ho hb hg hat)))
                 go_roundg k5
                 case measure=>have:=HJ1.out;have:=HK2.out;have:=HK3.out;have:=HK4.out;have:=HK5.out;omega
                 case rel=>exact ⟨(y48),(wrap64 (x6_4 + 1)),zb3,H',⟨by have:=HJ1.out;have:=HK2.out;have:=HK3.out;have:=HK4.out;have:=HK5.out;omega⟩,⟨by (with_reducible repeat (first|apply Kd.R_alloc|apply Kd.R_drewN|apply Kd.R_drew));exact HO50.out⟩,⟨zb0⟩⟩
                ·rw [if_neg c33] at H
                 exact absurd H zb17
               ·rw [if_neg c31] at H
                exact absurd H zb17
              rw [if_pos c21] at H
              have c21b0:=decide_eq_true c21
              clear c21
              by_cases c22:0 ≤ x7_5
              ·rw [if_pos c22] at H
               have c22b0:=decide_eq_true c22
               clear c22
               by_cases c23:0 ≤ x4_2
               ·rw [if_pos c23] at H
                have c23b0:=decide_eq_true c23
                clear c23
                by_cases c24:x4_2 < (l0.length:Int)
                ·rw [if_pos c24] at H
                 have c24b0:=decide_eq_true c24
                 clear c24
                 by_cases c25:0 ≤ x6_4
                 ·rw [if_pos c25] at H
                  have c25b0:=decide_eq_true c25
                  clear c25
                  by_cases c26:x6_4 < (((rd_T26 l0 x4_2).f1).length:Int)
                  ·rw [if_pos c26] at H
                   have c26b0:=decide_eq_true c26
                   clear c26
                   by_cases c27:(rdOf ByteArray.empty x3_4 x7_5).toList=(rdOf ByteArray.empty ((rd_T26 l0 x4_2).f1) x6_4).toList
                   ·rw [if_pos c27] at H
                    have c27b0:=beq_iff_eq.mpr c27
                    have c27b1:=bne_eq_false_iff_eq.mpr c27
                    clear c27
                    obtain rfl:=Option.some.inj H
                    obtain ⟨Ao28,co28,eo28⟩:=Kd.R_slice HO_3.out
                    subst eo28
                    have p45:0 ≤ (x7_5:Int):=of_decide_eq_true zb1
                    have q45:x7_5 < (x3_4.length:Int):=of_decide_eq_true zb1
                    obtain ⟨ad45,e45,hx45_0⟩:=Kd.at_string (Kd.R_reads' HO_3.out).2.2 x7_5 p45 q45
                    cases e45
                    replace p45:=eq_true p45
                    replace q45:=eq_true q45
                    have p42:0 ≤ (x4_2:Int):=of_decide_eq_true zb1
                    have q42:x4_2 < (l0.length:Int):=of_decide_eq_true zb1
                    obtain ⟨ad42,A42_1,c42_1,e42,hx42_0,hx42_1,hx42_2,hx42_3,hx42_4,hx42_5,hx42_6,hx42_7,hl42_1,hi42_1⟩:=at_T26 HR0.out x4_2 p42 q42
                    obtain rfl:ad38=ad42:=(by injection e42)
                    replace hx42_0:=(HB.out.cell (World.block_lt_of_cell? w _ hx42_0)).trans hx42_0
                    replace hx42_1:=(HB.out.cell (World.block_lt_of_cell? w _ hx42_1)).trans hx42_1
                    replace hx42_2:=(HB.out.cell (World.block_lt_of_cell? w _ hx42_2)).trans hx42_2
                    replace hx42_3:=(HB.out.cell (World.block_lt_of_cell? w _ hx42_3)).trans hx42_3
                    replace hx42_4:=(HB.out.cell (World.block_lt_of_cell? w _ hx42_4)).trans hx42_4
                    replace hx42_5:=(HB.out.cell (World.block_lt_of_cell? w _ hx42_5)).trans hx42_5
                    replace hx42_6:=(HB.out.cell (World.block_lt_of_cell? w _ hx42_6)).trans hx42_6
                    replace hx42_7:=(HB.out.cell (World.block_lt_of_cell? w _ hx42_7)).trans hx42_7
                    have HR42_1:=Aside0.mk hi42_1
                    have HC42_1:=Aside0.mk hl42_1
                    clear hi42_1 hl42_1
                    replace p42:=eq_true p42
                    replace q42:=eq_true q42
                    have p44:0 ≤ (x6_4:Int):=of_decide_eq_true zb1
                    have q44:x6_4 < (((rd_T26 l0 x4_2).f1).length:Int):=of_decide_eq_true zb1
                    obtain ⟨ad44,e44,hx44_0⟩:=Kd.at_string HR42_1.out x6_4 p44 q44
                    cases e44
                    replace hx44_0:=(HB.out.cell (World.block_lt_of_cell? w _ hx44_0)).trans hx44_0
                    replace p44:=eq_true p44
                    replace q44:=eq_true q44
                    go_wp2
                    repeat (go_quiet (fail);try go_wp2)
                    go_ret
                    exact ⟨zb6,zb0⟩
                   ·rw [if_neg c27] at H
                    have c27b0:=beq_eq_false_iff_ne.mpr c27
                    have c27b1:=bne_iff_ne.mpr c27
                    have H' := Aside0.mk H
                    clear H
                    obtain ⟨Ao29,co29,eo29⟩:=Kd.R_slice HO_3.out
                    subst eo29
                    have p45:0 ≤ (x7_5:Int):=of_decide_eq_true zb1
                    have q45:x7_5 < (x3_4.length:Int):=of_decide_eq_true zb1
                    obtain ⟨ad45,e45,hx45_0⟩:=Kd.at_string (Kd.R_reads' HO_3.out).2.2 x7_5 p45 q45
                    cases e45
                    replace p45:=eq_true p45
                    replace q45:=eq_true q45
                    have p42:0 ≤ (x4_2:Int):=of_decide_eq_true zb1
                    have q42:x4_2 < (l0.length:Int):=of_decide_eq_true zb1
                    obtain ⟨ad42,A42_1,c42_1,e42,hx42_0,hx42_1,hx42_2,hx42_3,hx42_4,hx42_5,hx42_6,hx42_7,hl42_1,hi42_1⟩:=at_T26 HR0.out x4_2 p42 q42
                    obtain rfl:ad38=ad42:=(by injection e42)
                    replace hx42_0:=(HB.out.cell (World.block_lt_of_cell? w _ hx42_0)).trans hx42_0
                    replace hx42_1:=(HB.out.cell (World.block_lt_of_cell? w _ hx42_1)).trans hx42_1
                    replace hx42_2:=(HB.out.cell (World.block_lt_of_cell? w _ hx42_2)).trans hx42_2
                    replace hx42_3:=(HB.out.cell (World.block_lt_of_cell? w _ hx42_3)).trans hx42_3
                    replace hx42_4:=(HB.out.cell (World.block_lt_of_cell? w _ hx42_4)).trans hx42_4
                    replace hx42_5:=(HB.out.cell (World.block_lt_of_cell? w _ hx42_5)).trans hx42_5
                    replace hx42_6:=(HB.out.cell (World.block_lt_of_cell? w _ hx42_6)).trans hx42_6
                    replace hx42_7:=(HB.out.cell (World.block_lt_of_cell? w _ hx42_7)).trans hx42_7
                    have HR42_1:=Aside0.mk hi42_1
                    have HC42_1:=Aside0.mk hl42_1
                    clear hi42_1 hl42_1
                    replace p42:=eq_true p42
                    replace q42:=eq_true q42
                    have p44:0 ≤ (x6_4:Int):=of_decide_eq_true zb1
                    have q44:x6_4 < (((rd_T26 l0 x4_2).f1).length:Int):=of_decide_eq_true zb1
                    obtain ⟨ad44,e44,hx44_0⟩:=Kd.at_string HR42_1.out x6_4 p44 q44
                    cases e44
                    replace hx44_0:=(HB.out.cell (World.block_lt_of_cell? w _ hx44_0)).trans hx44_0
                    replace p44:=eq_true p44
                    replace q44:=eq_true q44
                    go_wp2
                    repeat (go_quiet (fail);try go_wp2)
                    go_roundg k5
                    case measure=>have:=HJ1.out;have:=HK2.out;have:=HK3.out;have:=HK4.out;have:=HK5.out;omega
                    case rel=>exact ⟨(wrap64 (x7_5 + 1)),zb3,H',⟨by have:=HJ1.out;have:=HK2.out;have:=HK3.out;have:=HK4.out;have:=HK5.out;omega⟩,⟨zb10⟩,⟨zb0⟩⟩
                  ·rw [if_neg c26] at H
                   exact absurd H zb17
                 ·rw [if_neg c25] at H
                  exact absurd H zb17
                ·rw [if_neg c24] at H
                 exact absurd H zb17
               ·rw [if_neg c23] at H
                exact absurd H zb17
              ·rw [if_neg c22] at H
               exact absurd H zb17
           ·rw [if_neg c19] at H
            exact absurd H zb17
          ·rw [if_neg c18] at H
           exact absurd H zb17
     ·rw [if_neg c8] at H
      exact absurd H zb17
mutual
def tollbarref02_Text.l0:Nat → Int → ByteArray → Option (ByteArray)
 | 0,_,_=>none
 | k + 1,x0,x3=>if x3.toList=([]:List UInt8) then ((some (([(wrap64 (48 + (Int.tmod x0 10))) % 256]:List Int):List Int)).bind fun y269=>(if (strOfNums y269).size + x3.size ≤ 9223372036854775807 then (tollbarref02_Text.l0 k (wrap64 (Int.tdiv x0 10)) ((strOfNums y269) ++ x3)) else (none))) else (if x0 > 0 then ((some (([(wrap64 (48 + (Int.tmod x0 10))) % 256]:List Int):List Int)).bind fun y272=>(if (strOfNums y272).size + x3.size ≤ 9223372036854775807 then (tollbarref02_Text.l0 k (wrap64 (Int.tdiv x0 10)) ((strOfNums y272) ++ x3)) else (none))) else (some x3))
def tollbarref02_Text.f:Nat → Int → Option (ByteArray)
 | 0,_=>none
 | k + 1,a0=>if a0=(-9223372036854775808) then (some (⟨#[45,57,50,50,51,51,55,50,48,51,54,56,53,52,55,55,53,56,48,56]⟩:ByteArray)) else (if a0 < 0 then ((tollbarref02_Text.f k (wrap64 (-a0))).bind fun t268=>(if 1 + t268.size ≤ 9223372036854775807 then (some ((⟨#[45]⟩:ByteArray) ++ t268)) else (none))) else (tollbarref02_Text.l0 k a0 (⟨#[]⟩:ByteArray)))
end
set_option maxHeartbeats 8000000 in
set_option maxRecDepth 100000 in
theorem tollbarref02_Text.calls (k:Nat) : ∀ (a0:Int) (r:ByteArray) (w:World) (h:tollbarref02_Text.f k a0=some r),
 Calls Tryd.prog 49 #[.int .i64 a0] w fun e w' => e = .returned (.string r)∧Below w.heap.size w w' := by
 induction k using Nat.strongRecOn with
 | _ k ih =>
 intro a0 r w h
 cases k with
 | zero=>exact absurd h (by simp [tollbarref02_Text.f])
 | succ k =>
 simp only [tollbarref02_Text.f] at h
 have HB:=Aside0.mk (Below.refl w.heap.size w)
 have H:(if a0=(-9223372036854775808) then (some (⟨#[45,57,50,50,51,51,55,50,48,51,54,56,53,52,55,55,53,56,48,56]⟩:ByteArray)) else (if a0 < 0 then ((tollbarref02_Text.f k (wrap64 (-a0))).bind fun t268=>(if 1 + t268.size ≤ 9223372036854775807 then (some ((⟨#[45]⟩:ByteArray) ++ t268)) else (none))) else (tollbarref02_Text.l0 k a0 (⟨#[]⟩:ByteArray))))=some r:=h
 clear h
 by_cases c2:a0=(-9223372036854775808)
 ·rw [if_pos c2] at H
  have c2b0:=beq_iff_eq.mpr c2
  have c2b1:=bne_eq_false_iff_eq.mpr c2
  clear c2
  obtain rfl:=Option.some.inj H
  go_enter Tryd.func49,Tryd.ntmps49
  go_wp2
  go_ret
  exact ⟨zb6,zb0⟩
 rw [if_neg c2] at H
 have c2b0:=beq_eq_false_iff_ne.mpr c2
 have c2b1:=bne_iff_ne.mpr c2
 by_cases c3:a0 < 0
 ·rw [if_pos c3] at H
  have c3b0:=decide_eq_true c3
  clear c3
  replace H:=Option.bind_eq_some_iff.mp H
  obtain ⟨t268,A40,H⟩:=H
  try dsimp only at H
  have A4:=Aside0.mk A40
  clear A40
  by_cases c5:1 + t268.size ≤ 9223372036854775807;rotate_left
  ·rw [if_neg c5] at H
   exact absurd H zb17
  rw [if_pos c5] at H
  have c5b0:=eq_true c5
  have c5b1:=decide_eq_true c5
  try have c5b2:(9223372036854775807 < 1 + t268.size)=False:=eq_false (Nat.not_lt.2 c5)
  obtain rfl:=Option.some.inj H
  go_enter Tryd.func49,Tryd.ntmps49
  go_wp2_with (first|((with_reducible refine gate_callee (f:=49) rfl ?_);refine goesL_ (some 10) rfl rfl Tryd.func49 zb24 rfl #[.int .i64 (wrap64 (-a0))] rfl zb2 ?_;(with_reducible refine (ih k (by omega) (wrap64 (-a0)) t268 _ A4.out).mono ?_);rintro e w6 ⟨rfl,hb⟩;(try clear A4);refine ⟨_,rfl,?_⟩;replace HB:=Aside0.mk (below_step zb0 hb);(try clear hb)))
  go_ret
  exact ⟨zb6,zb0⟩
 rw [if_neg c3] at H
 have c3b0:=decide_eq_false c3
 clear c3
 have H' := Aside0.mk H
 clear H
 go_enter Tryd.func49,Tryd.ntmps49
 go_wp2
 go_loopg [0,3] k (fun kq v0 v3 w' => ∃ (x0_1:Int) (x3_1:ByteArray),v0 = .int .i64 x0_1∧v3 = .string x3_1∧Aside0 (tollbarref02_Text.l0 kq x0_1 x3_1=some r)∧Aside0 (kq ≤ k)∧Aside0 (Below w.heap.size w w'))
 case atStart=>exact ⟨(a0),((⟨#[]⟩:ByteArray)),zb3,zb3,H',⟨Nat.le_refl _⟩,⟨zb0⟩⟩
 case round =>
  clear H'
  try clear c2
  try clear c2b0
  try clear c2b1
  try clear p2
  try clear c3
  try clear c3b0
  try clear c4
  try clear c5
  try clear c5b0
  try clear c5b1
  try clear c5b2
  try clear p6
  obtain ⟨x0_1,x3_1,rfl,rfl,HA,HK1,HB⟩:=hrel
  cases gk with
  | zero=>exact absurd HA.out (by simp [tollbarref02_Text.l0])
  | succ k1 =>
   have H:=HA.out
   clear HA
   simp only [tollbarref02_Text.l0] at H
   by_cases c7:x3_1.toList=([]:List UInt8)
   ·rw [if_pos c7] at H
    have c7b0:=beq_iff_eq.mpr c7
    have c7b1:=bne_eq_false_iff_eq.mpr c7
    clear c7
    obtain ⟨y269,hy269⟩ : ∃ y_:List Int,y_=(([(wrap64 (48 + (Int.tmod x0_1 10))) % 256]:List Int)):=⟨_,rfl⟩
    replace H:(if (strOfNums y269).size + x3_1.size ≤ 9223372036854775807 then (tollbarref02_Text.l0 k1 (wrap64 (Int.tdiv x0_1 10)) ((strOfNums y269) ++ x3_1)) else (none))=some r:=by first|(rw [hy269];with_reducible exact H)|(have H2_:=(Option.bind_some _ _).symm.trans H;rw [hy269];with_reducible exact H2_)|(have H2_:=(Option.bind_some _ _).symm.trans H;with_reducible exact H2_)|with_reducible exact H|(rw [hy269];exact H)|exact H
    have Ny269:=Aside0.mk hy269
    clear hy269
    by_cases c8:(strOfNums y269).size + x3_1.size ≤ 9223372036854775807;rotate_left
    ·rw [if_neg c8] at H
     exact absurd H zb17
    rw [if_pos c8] at H
    have c8b0:=eq_true c8
    have c8b1:=decide_eq_true c8
    try have c8b2:(9223372036854775807 < (strOfNums y269).size + x3_1.size)=False:=eq_false (Nat.not_lt.2 c8)
    have H' := Aside0.mk H
    clear H
    go_wp2_with (first|((with_reducible refine gate_dst (N:=22) rfl ?_);refine Kd.R_lit (Kd.int .u8) _ 5 ?hg (N:=22) ?hd (xs:=([(wrap64 (48 + (Int.tmod x0_1 10))) % 256]:List Int)) (inner:=[.int .u8 ((wrap64 (48 + (Int.tmod x0_1 10))) % 256)]) (ok:=fun _=>True) (okp:=fun _=>True) ?hr ?hp (fun _ hk=>hk) trivial (Below.refl _ _) (Nat.le_refl _) zb17 ?_;(case hd=>rfl);(case hg=>rfl);(case hr=>first|(go_simp;done)|(go_simp;rfl));(case hp=>exact (Reps.one (show Kd.M (Kd.int .u8) _ _ _ ((wrap64 (48 + (Int.tmod x0_1 10))) % 256) [.int .u8 ((wrap64 (48 + (Int.tmod x0_1 10))) % 256)] from rfl) (Reps.none _ _)));intro v270 w9 ho10 hb hg_ hnew_;clear hg_ hnew_;(first|rw [← Ny269.out] at ho10|(simp only [Int.reduceToNat] at ho10;rw [← Ny269.out] at ho10));have HO271:=Aside0.mk (Kd.R_lower ho10 (below_size zb0));replace HB:=Aside0.mk (below_step zb0 hb);clear hb ho10;have hcv11:=own_string (P:=Tryd.prog) Tryd.underlying40 Tryd.underlying5 Tryd.underlying9 (Kd.own_of_R HO271.out)))
    go_roundg k1
    case measure=>have:=HK1.out;omega
    case rel=>exact ⟨(wrap64 (Int.tdiv x0_1 10)),((strOfNums y269) ++ x3_1),zb3,zb3,H',⟨zb48⟩,⟨zb0⟩⟩
   rw [if_neg c7] at H
   have c7b0:=beq_eq_false_iff_ne.mpr c7
   have c7b1:=bne_iff_ne.mpr c7
   by_cases c12:x0_1 > 0;rotate_left
   ·rw [if_neg c12] at H
    have c12b0:decide (0 < x0_1)=false:=decide_eq_false c12
    clear c12
    obtain rfl:=Option.some.inj H
    go_wp2
    go_ret
    exact ⟨zb6,zb0⟩
   rw [if_pos c12] at H
   have c12b0:decide (0 < x0_1)=true:=decide_eq_true c12
   clear c12
   obtain ⟨y272,hy272⟩ : ∃ y_:List Int,y_=(([(wrap64 (48 + (Int.tmod x0_1 10))) % 256]:List Int)):=⟨_,rfl⟩
   replace H:(if (strOfNums y272).size + x3_1.size ≤ 9223372036854775807 then (tollbarref02_Text.l0 k1 (wrap64 (Int.tdiv x0_1 10)) ((strOfNums y272) ++ x3_1)) else (none))=some r:=by first|(rw [hy272];with_reducible exact H)|(have H2_:=(Option.bind_some _ _).symm.trans H;rw [hy272];with_reducible exact H2_)|(have H2_:=(Option.bind_some _ _).symm.trans H;with_reducible exact H2_)|with_reducible exact H|(rw [hy272];exact H)|exact H
   have Ny272:=Aside0.mk hy272
   clear hy272
   by_cases c13:(strOfNums y272).size + x3_1.size ≤ 9223372036854775807
   ·rw [if_pos c13] at H
    have c13b0:=eq_true c13
    have c13b1:=decide_eq_true c13
    try have c13b2:(9223372036854775807 < (strOfNums y272).size + x3_1.size)=False:=eq_false (Nat.not_lt.2 c13)
    have H' := Aside0.mk H
    clear H
    go_wp2_with (first|((with_reducible refine gate_dst (N:=22) rfl ?_);refine Kd.R_lit (Kd.int .u8) _ 5 ?hg (N:=22) ?hd (xs:=([(wrap64 (48 + (Int.tmod x0_1 10))) % 256]:List Int)) (inner:=[.int .u8 ((wrap64 (48 + (Int.tmod x0_1 10))) % 256)]) (ok:=fun _=>True) (okp:=fun _=>True) ?hr ?hp (fun _ hk=>hk) trivial (Below.refl _ _) (Nat.le_refl _) zb17 ?_;(case hd=>rfl);(case hg=>rfl);(case hr=>first|(go_simp;done)|(go_simp;rfl));(case hp=>exact (Reps.one (show Kd.M (Kd.int .u8) _ _ _ ((wrap64 (48 + (Int.tmod x0_1 10))) % 256) [.int .u8 ((wrap64 (48 + (Int.tmod x0_1 10))) % 256)] from rfl) (Reps.none _ _)));intro v273 w14 ho15 hb hg_ hnew_;clear hg_ hnew_;(first|rw [← Ny272.out] at ho15|(simp only [Int.reduceToNat] at ho15;rw [← Ny272.out] at ho15));have HO274:=Aside0.mk (Kd.R_lower ho15 (below_size zb0));replace HB:=Aside0.mk (below_step zb0 hb);clear hb ho15;have hcv16:=own_string (P:=Tryd.prog) Tryd.underlying40 Tryd.underlying5 Tryd.underlying9 (Kd.own_of_R HO274.out)))
    go_roundg k1
    case measure=>have:=HK1.out;omega
    case rel=>exact ⟨(wrap64 (Int.tdiv x0_1 10)),((strOfNums y272) ++ x3_1),zb3,zb3,H',⟨zb48⟩,⟨zb0⟩⟩
   ·rw [if_neg c13] at H
    exact absurd H zb17
mutual
def tollbarref09_Line.l0:Nat → ByteArray → List Int → Int → ByteArray → List ByteArray → Int → Int → Int → Int → Int → Int → Option (ByteArray)
 | 0,_,_,_,_,_,_,_,_,_,_,_=>none
 | k + 1,x3,x4,x5,x276000,x276001,x276002,x276003,x276004,x276005,x276006,x276007=>if x5 < 6 then (if x3.size + 1 ≤ 9223372036854775807 then (if 0 ≤ x5 then (if x5 < (x4.length:Int) then ((tollbarref02_Text.f k (rd x4 x5)).bind fun t280=>(if (x3 ++ (⟨#[32]⟩:ByteArray)).size + t280.size ≤ 9223372036854775807 then (tollbarref09_Line.l0 k ((x3 ++ (⟨#[32]⟩:ByteArray)) ++ t280) x4 (wrap64 (x5 + 1)) x276000 x276001 x276002 x276003 x276004 x276005 x276006 x276007) else (none))) else (none)) else (none)) else (none)) else (tollbarref09_Line.l1 k x3 0 x276000 x276001 x276002 x276003 x276004 x276005 x276006 x276007)
def tollbarref09_Line.l1:Nat → ByteArray → Int → ByteArray → List ByteArray → Int → Int → Int → Int → Int → Int → Option (ByteArray)
 | 0,_,_,_,_,_,_,_,_,_,_=>none
 | k + 1,x3,x6,x276000,x276001,x276002,x276003,x276004,x276005,x276006,x276007=>if x6 < (x276001.length:Int) then (if x3.size + 1 ≤ 9223372036854775807 then (if 0 ≤ x6 then (if (x3 ++ (⟨#[32]⟩:ByteArray)).size + (rdOf ByteArray.empty x276001 x6).size ≤ 9223372036854775807 then (tollbarref09_Line.l1 k ((x3 ++ (⟨#[32]⟩:ByteArray)) ++ (rdOf ByteArray.empty x276001 x6)) (wrap64 (x6 + 1)) x276000 x276001 x276002 x276003 x276004 x276005 x276006 x276007) else (none)) else (none)) else (none)) else (if x3.size + 1 ≤ 9223372036854775807 then (some (x3 ++ (⟨#[10]⟩:ByteArray))) else (none))
end
def tollbarref09_Line.f (k:Nat) (a0_0:ByteArray) (l0_1:List ByteArray) (a0_2:Int) (a0_3:Int) (a0_4:Int) (a0_5:Int) (a0_6:Int) (a0_7:Int):Option (ByteArray):=if 5 + a0_0.size ≤ 9223372036854775807 then ((tollbarref09_numbers.f a0_0 l0_1 a0_2 a0_3 a0_4 a0_5 a0_6 a0_7).bind fun t276=>(tollbarref09_Line.l0 k ((⟨#[115,108,111,116,32]⟩:ByteArray) ++ a0_0) t276 0 a0_0 l0_1 a0_2 a0_3 a0_4 a0_5 a0_6 a0_7)) else (none)
set_option maxHeartbeats 8000000 in
set_option maxRecDepth 100000 in
theorem tollbarref09_Line.calls (k:Nat) (a0_0:ByteArray) (A0_1:Option Addr) (c0_1:Nat) (l0_1:List ByteArray) (a0_2:Int) (a0_3:Int) (a0_4:Int) (a0_5:Int) (a0_6:Int) (a0_7:Int) (r:ByteArray) (w:World) (hr0_1:Kd.C Kd.string w A0_1 l0_1.length l0_1) (hc0_1:l0_1.length ≤ c0_1) (h:tollbarref09_Line.f k a0_0 l0_1 a0_2 a0_3 a0_4 a0_5 a0_6 a0_7=some r) :
 Calls Tryd.prog 32 #[.agg #[.string a0_0,.slice A0_1 l0_1.length c0_1,.int .i64 a0_2,.int .i64 a0_3,.int .i64 a0_4,.int .i64 a0_5,.int .i64 a0_6,.int .i64 a0_7]] w fun e w' => e = .returned (.string r)∧Below w.heap.size w w' := by
 have hu26:=Tryd.underlying26
 have HR0_1:=Aside0.mk hr0_1
 have HC0_1:=Aside0.mk hc0_1
 clear hr0_1 hc0_1
 have HB:=Aside0.mk (Below.refl w.heap.size w)
 unfold tollbarref09_Line.f at h
 have H:=h
 clear h
 by_cases c2:5 + a0_0.size ≤ 9223372036854775807;rotate_left
 ·rw [if_neg c2] at H
  exact absurd H zb17
 rw [if_pos c2] at H
 have c2b0:=eq_true c2
 have c2b1:=decide_eq_true c2
 try have c2b2:(9223372036854775807 < 5 + a0_0.size)=False:=eq_false (Nat.not_lt.2 c2)
 replace H:=Option.bind_eq_some_iff.mp H
 obtain ⟨t25,A30,H⟩:=H
 try dsimp only at H
 have A3:=Aside0.mk A30
 clear A30
 have H' := Aside0.mk H
 clear H
 go_enter Tryd.func32,Tryd.ntmps32
 go_wp2_with (first|((with_reducible refine gate_dst (N:=1) rfl ?_);refine box_event rfl (N:=1) rfl (cs:=#[.string a0_0,.slice A0_1 l0_1.length c0_1,.int .i64 a0_2,.int .i64 a0_3,.int .i64 a0_4,.int .i64 a0_5,.int .i64 a0_6,.int .i64 a0_7]) (t:=26) zS ?_;intro gb22 hg w4 hbox hb;have GW22:=zG hg zb0;have GE22:=GW22;have BK22:=Aside0.mk hbox;replace HB:=Aside0.mk (below_step zb0 hb);clear hb hbox hg;have hcz5_0:w4.cell? ⟨gb22,0,none⟩=some (.string a0_0):=(blk_cell BK22.out 0).trans rfl;have hcz5_1:w4.cell? ⟨gb22,1,none⟩=some (.slice A0_1 l0_1.length c0_1):=(blk_cell BK22.out 1).trans rfl;have hcz5_2:w4.cell? ⟨gb22,2,none⟩=some (.int .i64 a0_2):=(blk_cell BK22.out 2).trans rfl;have hcz5_3:w4.cell? ⟨gb22,3,none⟩=some (.int .i64 a0_3):=(blk_cell BK22.out 3).trans rfl;have hcz5_4:w4.cell? ⟨gb22,4,none⟩=some (.int .i64 a0_4):=(blk_cell BK22.out 4).trans rfl;have hcz5_5:w4.cell? ⟨gb22,5,none⟩=some (.int .i64 a0_5):=(blk_cell BK22.out 5).trans rfl;have hcz5_6:w4.cell? ⟨gb22,6,none⟩=some (.int .i64 a0_6):=(blk_cell BK22.out 6).trans rfl;have hcz5_7:w4.cell? ⟨gb22,7,none⟩=some (.int .i64 a0_7):=(blk_cell BK22.out 7).trans rfl;have hfz5_0:=blk_frozen BK22.out 0;have hfz5_1:=blk_frozen BK22.out 1;have hfz5_2:=blk_frozen BK22.out 2;have hfz5_3:=blk_frozen BK22.out 3;have hfz5_4:=blk_frozen BK22.out 4;have hfz5_5:=blk_frozen BK22.out 5;have hfz5_6:=blk_frozen BK22.out 6;have hfz5_7:=blk_frozen BK22.out 7)|((with_reducible refine gate_callee (f:=37) rfl ?_);refine goesL_ (some 11) rfl rfl Tryd.func37 zb24 rfl #[.agg #[.string a0_0,.slice A0_1 l0_1.length c0_1,.int .i64 a0_2,.int .i64 a0_3,.int .i64 a0_4,.int .i64 a0_5,.int .i64 a0_6,.int .i64 a0_7]] rfl zb2 ?_;(with_reducible refine (tollbarref09_numbers.calls a0_0 _ _ l0_1 a0_2 a0_3 a0_4 a0_5 a0_6 a0_7 t25 _ ?side1 ?side2 A3.out).mono ?_);(case side1=>exact zb34);(case side2=>exact HC0_1.out);rintro e w6 ⟨v29,rfl,ho0,hb⟩;(try clear A3);refine ⟨_,rfl,?_⟩;have HO31:=Aside0.mk (Kd.R_lower ho0 (below_size zb16));replace BK22:=Aside0.mk (blk_below (g:=gb22) (o:=.cells #[.string a0_0,.slice A0_1 l0_1.length c0_1,.int .i64 a0_2,.int .i64 a0_3,.int .i64 a0_4,.int .i64 a0_5,.int .i64 a0_6,.int .i64 a0_7] 26 (0,0)) zb32 hb);replace HB:=Aside0.mk (below_step zb16 hb);try clear hb ho0))
 go_loopg [3,5] k (fun kq v3 v5 w' => ∃ (x3_1:ByteArray) (x5_1:Int),v3 = .string x3_1∧v5 = .int .i64 x5_1∧Aside0 (tollbarref09_Line.l0 kq x3_1 t25 x5_1 a0_0 l0_1 a0_2 a0_3 a0_4 a0_5 a0_6 a0_7=some r)∧Aside0 (kq ≤ k)∧Aside0 (Kd.R (Kd.int .i64) 3 w' w.heap.size (fun _=>True) v29 t25)∧Aside0 (w'.heap[gb22]? = some (.cells #[.string a0_0,(.slice A0_1 l0_1.length c0_1),.int .i64 a0_2,.int .i64 a0_3,.int .i64 a0_4,.int .i64 a0_5,.int .i64 a0_6,.int .i64 a0_7] 26 (0,0)))∧Aside0 (Below w.heap.size w w'))
 case atStart=>exact ⟨((⟨#[115,108,111,116,32]⟩:ByteArray) ++ a0_0),(0),zb3,zb3,H',⟨Nat.le_refl _⟩,⟨by (with_reducible repeat (first|apply Kd.R_alloc|apply Kd.R_drewN|apply Kd.R_drew));exact HO31.out⟩,⟨zb32⟩,⟨zb16⟩⟩
 case round =>
  clear H'
  try clear c2
  try clear c2b0
  try clear c2b1
  try clear c2b2
  try clear p2
  try clear c3
  try clear hcz5_0
  try clear hcz5_1
  try clear hcz5_2
  try clear hcz5_3
  try clear hcz5_4
  try clear hcz5_5
  try clear hcz5_6
  try clear hcz5_7
  try clear hfz5_0
  try clear hfz5_1
  try clear hfz5_2
  try clear hfz5_3
  try clear hfz5_4
  try clear hfz5_5
  try clear hfz5_6
  try clear hfz5_7
  obtain ⟨x3_1,x5_1,rfl,rfl,HA,HK1,HO_4,BK22,HB⟩:=hrel
  cases gk with
  | zero=>exact absurd HA.out (by simp [tollbarref09_Line.l0])
  | succ k1 =>
   have H:=HA.out
   clear HA
   simp only [tollbarref09_Line.l0] at H
   by_cases c7:x5_1 < 6
   ·rw [if_pos c7] at H
    have c7b0:=decide_eq_true c7
    clear c7
    by_cases c8:x3_1.size + 1 ≤ 9223372036854775807;rotate_left
    ·rw [if_neg c8] at H
     exact absurd H zb17
    rw [if_pos c8] at H
    have c8b0:=eq_true c8
    have c8b1:=decide_eq_true c8
    try have c8b2:(9223372036854775807 < x3_1.size + 1)=False:=eq_false (Nat.not_lt.2 c8)
    by_cases c9:0 ≤ x5_1
    ·rw [if_pos c9] at H
     have c9b0:=decide_eq_true c9
     clear c9
     by_cases c10:x5_1 < (t25.length:Int);rotate_left
     ·rw [if_neg c10] at H
      exact absurd H zb17
     rw [if_pos c10] at H
     have c10b0:=decide_eq_true c10
     clear c10
     replace H:=Option.bind_eq_some_iff.mp H
     obtain ⟨t27,A28,H⟩:=H
     try dsimp only at H
     have A11:=Aside0.mk A28
     clear A28
     by_cases c12:(x3_1 ++ (⟨#[32]⟩:ByteArray)).size + t27.size ≤ 9223372036854775807
     ·rw [if_pos c12] at H
      have c12b0:=eq_true c12
      have c12b1:=decide_eq_true c12
      try have c12b2:(9223372036854775807 < (x3_1 ++ (⟨#[32]⟩:ByteArray)).size + t27.size)=False:=eq_false (Nat.not_lt.2 c12)
      try (have c12b3:=c12b0;simp only [ByteArray.size_append] at c12b3;have c12b4:=c12b2;simp only [ByteArray.size_append] at c12b4)
      try have c12b5:(9223372036854775807 < x3_1.size + 1 + t27.size)=False:=eq_false (by have q_:=c12;simp only [ByteArray.size_append] at q_;have e0_:(⟨#[32]⟩:ByteArray).size=1:=rfl;omega)
      try have c12b6:(x3_1.size + 1 + t27.size ≤ 9223372036854775807)=True:=eq_true (by have q_:=c12;simp only [ByteArray.size_append] at q_;have e0_:(⟨#[32]⟩:ByteArray).size=1:=rfl;omega)
      have H' := Aside0.mk H
      clear H
      obtain ⟨Ao13,co13,eo13⟩:=Kd.R_slice HO_4.out
      subst eo13
      have p23:0 ≤ (x5_1:Int):=of_decide_eq_true zb1
      have q23:x5_1 < (t25.length:Int):=of_decide_eq_true zb1
      obtain ⟨ad23,e23,hx23_0⟩:=Kd.at_int (Kd.R_reads' HO_4.out).2.2 x5_1 p23 q23
      cases e23
      replace p23:=eq_true p23
      replace q23:=eq_true q23
      go_wp2_with (first|((with_reducible refine gate_callee (f:=49) rfl ?_);refine goesL_ (some 22) rfl rfl Tryd.func49 zb24 rfl #[.int .i64 (rd t25 x5_1)] rfl zb2 ?_;(with_reducible refine (tollbarref02_Text.calls k1 (rd t25 x5_1) t27 _ A11.out).mono ?_);rintro e w14 ⟨rfl,hb⟩;(try clear A11);refine ⟨_,rfl,?_⟩;replace HO_4:=Aside0.mk (Kd.R_below zb23 hb);replace BK22:=Aside0.mk (blk_below (g:=gb22) (o:=.cells #[.string a0_0,.slice A0_1 l0_1.length c0_1,.int .i64 a0_2,.int .i64 a0_3,.int .i64 a0_4,.int .i64 a0_5,.int .i64 a0_6,.int .i64 a0_7] 26 (0,0)) zb32 hb);replace HB:=Aside0.mk (below_step zb16 hb);(try clear hb)))
      go_roundg k1
      case measure=>have:=HK1.out;omega
      case rel=>exact ⟨((x3_1 ++ (⟨#[32]⟩:ByteArray)) ++ t27),(wrap64 (x5_1 + 1)),zb3,zb3,H',⟨zb48⟩,⟨zb23⟩,⟨zb32⟩,⟨zb16⟩⟩
     ·rw [if_neg c12] at H
      exact absurd H zb17
    ·rw [if_neg c9] at H
     exact absurd H zb17
   rw [if_neg c7] at H
   have c7b0:=decide_eq_false c7
   clear c7
   have H' := Aside0.mk H
   clear H
   go_wp2
   go_loopg [3,6] k1 (fun kq v3 v6 w' => ∃ (x3_2:ByteArray) (x6_2:Int),v3 = .string x3_2∧v6 = .int .i64 x6_2∧Aside0 (tollbarref09_Line.l1 kq x3_2 x6_2 a0_0 l0_1 a0_2 a0_3 a0_4 a0_5 a0_6 a0_7=some r)∧Aside0 (kq ≤ k1)∧Aside0 (w'.heap[gb22]? = some (.cells #[.string a0_0,(.slice A0_1 l0_1.length c0_1),.int .i64 a0_2,.int .i64 a0_3,.int .i64 a0_4,.int .i64 a0_5,.int .i64 a0_6,.int .i64 a0_7] 26 (0,0)))∧Aside0 (Below w.heap.size w w'))
   case atStart=>exact ⟨(x3_1),(0),zb3,zb3,H',⟨Nat.le_refl _⟩,⟨zb32⟩,⟨zb16⟩⟩
   case round =>
    clear H'
    try clear c1
    try clear c2
    try clear c2b0
    try clear c2b1
    try clear c2b2
    try clear p2
    try clear q2
    try clear hx2
    try clear c3
    try clear c4
    try clear p6
    try clear c7
    try clear c7b0
    try clear c8
    try clear c8b0
    try clear c8b1
    try clear c8b2
    try clear c9
    try clear c9b0
    try clear c10
    try clear c10b0
    try clear c12
    try clear c12b0
    try clear c12b1
    try clear c12b2
    try clear hcz5_0
    try clear hcz5_1
    try clear hcz5_2
    try clear hcz5_3
    try clear hcz5_4
    try clear hcz5_5
    try clear hcz5_6
    try clear hcz5_7
    try clear hfz5_0
    try clear hfz5_1
    try clear hfz5_2
    try clear hfz5_3
    try clear hfz5_4
    try clear hfz5_5
    try clear hfz5_6
    try clear hfz5_7
    try clear hx23_0
    try clear p2
    try clear p23
    try clear q23
    obtain ⟨x3_2,x6_2,rfl,rfl,HA,HK2,BK22,HB⟩:=hrel
    cases gk with
    | zero=>exact absurd HA.out (by simp [tollbarref09_Line.l1])
    | succ k2 =>
     have H:=HA.out
     clear HA
     simp only [tollbarref09_Line.l1] at H
     by_cases c15:x6_2 < (l0_1.length:Int);rotate_left
     ·rw [if_neg c15] at H
      have c15b0:=decide_eq_false c15
      clear c15
      by_cases c20:x3_2.size + 1 ≤ 9223372036854775807;rotate_left
      ·rw [if_neg c20] at H
       exact absurd H zb17
      rw [if_pos c20] at H
      have c20b0:=eq_true c20
      have c20b1:=decide_eq_true c20
      try have c20b2:(9223372036854775807 < x3_2.size + 1)=False:=eq_false (Nat.not_lt.2 c20)
      obtain rfl:=Option.some.inj H
      have hcz21_0:wr.cell? ⟨gb22,0,none⟩=some (.string a0_0):=(blk_cell BK22.out 0).trans rfl
      have hcz21_1:wr.cell? ⟨gb22,1,none⟩=some (.slice A0_1 l0_1.length c0_1):=(blk_cell BK22.out 1).trans rfl
      have hcz21_2:wr.cell? ⟨gb22,2,none⟩=some (.int .i64 a0_2):=(blk_cell BK22.out 2).trans rfl
      have hcz21_3:wr.cell? ⟨gb22,3,none⟩=some (.int .i64 a0_3):=(blk_cell BK22.out 3).trans rfl
      have hcz21_4:wr.cell? ⟨gb22,4,none⟩=some (.int .i64 a0_4):=(blk_cell BK22.out 4).trans rfl
      have hcz21_5:wr.cell? ⟨gb22,5,none⟩=some (.int .i64 a0_5):=(blk_cell BK22.out 5).trans rfl
      have hcz21_6:wr.cell? ⟨gb22,6,none⟩=some (.int .i64 a0_6):=(blk_cell BK22.out 6).trans rfl
      have hcz21_7:wr.cell? ⟨gb22,7,none⟩=some (.int .i64 a0_7):=(blk_cell BK22.out 7).trans rfl
      have hfz21_0:=blk_frozen BK22.out 0
      have hfz21_1:=blk_frozen BK22.out 1
      have hfz21_2:=blk_frozen BK22.out 2
      have hfz21_3:=blk_frozen BK22.out 3
      have hfz21_4:=blk_frozen BK22.out 4
      have hfz21_5:=blk_frozen BK22.out 5
      have hfz21_6:=blk_frozen BK22.out 6
      have hfz21_7:=blk_frozen BK22.out 7
      go_wp2
      go_ret
      exact ⟨zb6,zb16⟩
     rw [if_pos c15] at H
     have c15b0:=decide_eq_true c15
     clear c15
     by_cases c16:x3_2.size + 1 ≤ 9223372036854775807
     ·rw [if_pos c16] at H
      have c16b0:=eq_true c16
      have c16b1:=decide_eq_true c16
      try have c16b2:(9223372036854775807 < x3_2.size + 1)=False:=eq_false (Nat.not_lt.2 c16)
      by_cases c17:0 ≤ x6_2
      ·rw [if_pos c17] at H
       have c17b0:=decide_eq_true c17
       clear c17
       by_cases c18:(x3_2 ++ (⟨#[32]⟩:ByteArray)).size + (rdOf ByteArray.empty l0_1 x6_2).size ≤ 9223372036854775807
       ·rw [if_pos c18] at H
        have c18b0:=eq_true c18
        have c18b1:=decide_eq_true c18
        try have c18b2:(9223372036854775807 < (x3_2 ++ (⟨#[32]⟩:ByteArray)).size + (rdOf ByteArray.empty l0_1 x6_2).size)=False:=eq_false (Nat.not_lt.2 c18)
        try (have c18b3:=c18b0;simp only [ByteArray.size_append] at c18b3;have c18b4:=c18b2;simp only [ByteArray.size_append] at c18b4)
        try have c18b5:(9223372036854775807 < x3_2.size + 1 + (rdOf ByteArray.empty l0_1 x6_2).size)=False:=eq_false (by have q_:=c18;simp only [ByteArray.size_append] at q_;have e0_:(⟨#[32]⟩:ByteArray).size=1:=rfl;omega)
        try have c18b6:(x3_2.size + 1 + (rdOf ByteArray.empty l0_1 x6_2).size ≤ 9223372036854775807)=True:=eq_true (by have q_:=c18;simp only [ByteArray.size_append] at q_;have e0_:(⟨#[32]⟩:ByteArray).size=1:=rfl;omega)
        have H' := Aside0.mk H
        clear H
        have hcz19_0:wr.cell? ⟨gb22,0,none⟩=some (.string a0_0):=(blk_cell BK22.out 0).trans rfl
        have hcz19_1:wr.cell? ⟨gb22,1,none⟩=some (.slice A0_1 l0_1.length c0_1):=(blk_cell BK22.out 1).trans rfl
        have hcz19_2:wr.cell? ⟨gb22,2,none⟩=some (.int .i64 a0_2):=(blk_cell BK22.out 2).trans rfl
        have hcz19_3:wr.cell? ⟨gb22,3,none⟩=some (.int .i64 a0_3):=(blk_cell BK22.out 3).trans rfl
        have hcz19_4:wr.cell? ⟨gb22,4,none⟩=some (.int .i64 a0_4):=(blk_cell BK22.out 4).trans rfl
        have hcz19_5:wr.cell? ⟨gb22,5,none⟩=some (.int .i64 a0_5):=(blk_cell BK22.out 5).trans rfl
        have hcz19_6:wr.cell? ⟨gb22,6,none⟩=some (.int .i64 a0_6):=(blk_cell BK22.out 6).trans rfl
        have hcz19_7:wr.cell? ⟨gb22,7,none⟩=some (.int .i64 a0_7):=(blk_cell BK22.out 7).trans rfl
        have hfz19_0:=blk_frozen BK22.out 0
        have hfz19_1:=blk_frozen BK22.out 1
        have hfz19_2:=blk_frozen BK22.out 2
        have hfz19_3:=blk_frozen BK22.out 3
        have hfz19_4:=blk_frozen BK22.out 4
        have hfz19_5:=blk_frozen BK22.out 5
        have hfz19_6:=blk_frozen BK22.out 6
        have hfz19_7:=blk_frozen BK22.out 7
        have p24:0 ≤ (x6_2:Int):=of_decide_eq_true zb1
        have q24:x6_2 < (l0_1.length:Int):=of_decide_eq_true zb1
        obtain ⟨ad24,e24,hx24_0⟩:=Kd.at_string HR0_1.out x6_2 p24 q24
        cases e24
        replace hx24_0:=(HB.out.cell (World.block_lt_of_cell? w _ hx24_0)).trans hx24_0
        replace p24:=eq_true p24
        replace q24:=eq_true q24
        go_wp2
        go_roundg k2
        case measure=>have:=HK1.out;have:=HK2.out;omega
        case rel=>exact ⟨((x3_2 ++ (⟨#[32]⟩:ByteArray)) ++ (rdOf ByteArray.empty l0_1 x6_2)),(wrap64 (x6_2 + 1)),zb3,zb3,H',⟨by have:=HK1.out;have:=HK2.out;omega⟩,⟨zb32⟩,⟨zb16⟩⟩
       ·rw [if_neg c18] at H
        exact absurd H zb17
      ·rw [if_neg c17] at H
       exact absurd H zb17
     ·rw [if_neg c16] at H
      exact absurd H zb17
def tollbarref09_Write.l0:Nat → List (S26) → ByteArray → Int → Option (ByteArray)
 | 0,_,_,_=>none
 | k + 1,x0,x3,x4=>if x4 < (x0.length:Int) then (if 0 ≤ x4 then ((tollbarref09_Line.f k ((rd_T26 x0 x4).f0) ((rd_T26 x0 x4).f1) ((rd_T26 x0 x4).f2) ((rd_T26 x0 x4).f3) ((rd_T26 x0 x4).f4) ((rd_T26 x0 x4).f5) ((rd_T26 x0 x4).f6) ((rd_T26 x0 x4).f7)).bind fun t283=>(if x3.size + t283.size ≤ 9223372036854775807 then (tollbarref09_Write.l0 k x0 (x3 ++ t283) (wrap64 (x4 + 1))) else (none))) else (none)) else (some x3)
def tollbarref09_Write.f (k:Nat) (l0:List (S26)):Option (ByteArray):=tollbarref09_Write.l0 k l0 (⟨#[]⟩:ByteArray) 0
set_option maxHeartbeats 8000000 in
set_option maxRecDepth 100000 in
theorem tollbarref09_Write.calls (k:Nat) (A0:Option Addr) (c0:Nat) (l0:List (S26)) (r:ByteArray) (w:World) (hr0:Kd.C k26 w A0 l0.length l0) (hc0:l0.length ≤ c0) (h:tollbarref09_Write.f k l0=some r) :
 Calls Tryd.prog 16 #[.slice A0 l0.length c0] w fun e w' => e = .returned (.string r)∧Below w.heap.size w w' := by
 have hu26:=Tryd.underlying26
 have HR0:=Aside0.mk hr0
 have HC0:=Aside0.mk hc0
 clear hr0 hc0
 have HB:=Aside0.mk (Below.refl w.heap.size w)
 unfold tollbarref09_Write.f at h
 have H:=h
 clear h
 have H' := Aside0.mk H
 clear H
 go_enter Tryd.func16,Tryd.ntmps16
 go_wp2
 go_loopg [3,4] k (fun kq v3 v4 w' => ∃ (x3_1:ByteArray) (x4_1:Int),v3 = .string x3_1∧v4 = .int .i64 x4_1∧Aside0 (tollbarref09_Write.l0 kq l0 x3_1 x4_1=some r)∧Aside0 (kq ≤ k)∧Aside0 (Below w.heap.size w w'))
 case atStart=>exact ⟨((⟨#[]⟩:ByteArray)),(0),zb3,zb3,H',⟨Nat.le_refl _⟩,⟨zb0⟩⟩
 case round =>
  clear H'
  try clear c1
  obtain ⟨x3_1,x4_1,rfl,rfl,HA,HK1,HB⟩:=hrel
  cases gk with
  | zero=>exact absurd HA.out (by simp [tollbarref09_Write.l0])
  | succ k1 =>
   have H:=HA.out
   clear HA
   simp only [tollbarref09_Write.l0] at H
   by_cases c2:x4_1 < (l0.length:Int);rotate_left
   ·rw [if_neg c2] at H
    have c2b0:=decide_eq_false c2
    clear c2
    obtain rfl:=Option.some.inj H
    go_wp2
    go_ret
    exact ⟨zb6,zb0⟩
   rw [if_pos c2] at H
   have c2b0:=decide_eq_true c2
   clear c2
   by_cases c3:0 ≤ x4_1
   ·rw [if_pos c3] at H
    have c3b0:=decide_eq_true c3
    clear c3
    replace H:=Option.bind_eq_some_iff.mp H
    obtain ⟨t283,A40,H⟩:=H
    try dsimp only at H
    have A4:=Aside0.mk A40
    clear A40
    by_cases c5:x3_1.size + t283.size ≤ 9223372036854775807
    ·rw [if_pos c5] at H
     have c5b0:=eq_true c5
     have c5b1:=decide_eq_true c5
     try have c5b2:(9223372036854775807 < x3_1.size + t283.size)=False:=eq_false (Nat.not_lt.2 c5)
     have H' := Aside0.mk H
     clear H
     have p282:0 ≤ (x4_1:Int):=of_decide_eq_true zb1
     have q282:x4_1 < (l0.length:Int):=of_decide_eq_true zb1
     obtain ⟨ad282,A282_1,c282_1,e282,hx282_0,hx282_1,hx282_2,hx282_3,hx282_4,hx282_5,hx282_6,hx282_7,hl282_1,hi282_1⟩:=at_T26 HR0.out x4_1 p282 q282
     cases e282
     replace hx282_0:=(HB.out.cell (World.block_lt_of_cell? w _ hx282_0)).trans hx282_0
     replace hx282_1:=(HB.out.cell (World.block_lt_of_cell? w _ hx282_1)).trans hx282_1
     replace hx282_2:=(HB.out.cell (World.block_lt_of_cell? w _ hx282_2)).trans hx282_2
     replace hx282_3:=(HB.out.cell (World.block_lt_of_cell? w _ hx282_3)).trans hx282_3
     replace hx282_4:=(HB.out.cell (World.block_lt_of_cell? w _ hx282_4)).trans hx282_4
     replace hx282_5:=(HB.out.cell (World.block_lt_of_cell? w _ hx282_5)).trans hx282_5
     replace hx282_6:=(HB.out.cell (World.block_lt_of_cell? w _ hx282_6)).trans hx282_6
     replace hx282_7:=(HB.out.cell (World.block_lt_of_cell? w _ hx282_7)).trans hx282_7
     have HR282_1:=Aside0.mk hi282_1
     have HC282_1:=Aside0.mk hl282_1
     clear hi282_1 hl282_1
     replace p282:=eq_true p282
     replace q282:=eq_true q282
     go_wp2_with (first|((with_reducible refine gate_callee (f:=32) rfl ?_);refine goesL_ (some 16) rfl rfl Tryd.func32 zb24 rfl #[.agg #[.string ((rd_T26 l0 x4_1).f0),.slice A282_1 ((rd_T26 l0 x4_1).f1).length c282_1,.int .i64 ((rd_T26 l0 x4_1).f2),.int .i64 ((rd_T26 l0 x4_1).f3),.int .i64 ((rd_T26 l0 x4_1).f4),.int .i64 ((rd_T26 l0 x4_1).f5),.int .i64 ((rd_T26 l0 x4_1).f6),.int .i64 ((rd_T26 l0 x4_1).f7)]] rfl zb2 ?_;(with_reducible refine (tollbarref09_Line.calls k1 ((rd_T26 l0 x4_1).f0) _ _ ((rd_T26 l0 x4_1).f1) ((rd_T26 l0 x4_1).f2) ((rd_T26 l0 x4_1).f3) ((rd_T26 l0 x4_1).f4) ((rd_T26 l0 x4_1).f5) ((rd_T26 l0 x4_1).f6) ((rd_T26 l0 x4_1).f7) t283 _ ?side1 ?side2 A4.out).mono ?_);(case side1=>repeat (first|exact (Kd.C_below HR282_1.out HB.out)|(with_reducible refine Kd.C_alloc ?_ _)|(with_reducible refine Kd.C_drewN ?_ _)|(with_reducible refine Kd.C_drew ?_)));(case side2=>exact HC282_1.out);rintro e w6 ⟨rfl,hb⟩;(try clear A4);refine ⟨_,rfl,?_⟩;replace HB:=Aside0.mk (below_step zb0 hb);(try clear hb)))
     go_roundg k1
     case measure=>have:=HK1.out;omega
     case rel=>exact ⟨(x3_1 ++ t283),(wrap64 (x4_1 + 1)),zb3,zb3,H',⟨zb48⟩,⟨zb0⟩⟩
    ·rw [if_neg c5] at H
     exact absurd H zb17
   ·rw [if_neg c3] at H
    exact absurd H zb17
end Go.Proofs.YtclpanalnbmejaaDoor.P
