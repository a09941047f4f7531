/- Each function below answers as its Lean twin says; plain lemmas; a row where its theorem stands. No further condition. (Laid by this repo's pack.py out of its texts and of the print's words.) -/
import Derived.Test.YtagffbblalldiaaGreatDoorZ2b888562
namespace Go.Proofs.YtagffbblalldiaaGreatDoor.P
open Go.RowKit Go.Proofs.YtagffbblalldiaaGreatDoorW.PrintWords Go.Proofs.YtagffbblalldiaaGreatDoorW.PrintLast Go.Proofs.YtagffbblalldiaaGreatDoorW.PrintMore
attribute [local go_sem] max2_int min2_int max_two min_two max_three min_three max_four min_four
set_option linter.unusedVariables false
set_option linter.unusedSimpArgs false
def tollbarref04_Same.l0:Nat → List (S36) → List (S36) → Int → Option (Bool)
 | 0,_,_,_=>none
 | k + 1,x0,x1,x5=>if x5 < (x0.length:Int) then (if 0 ≤ x5 then (if x5 < (x1.length:Int) then (if ((rd_T36 x0 x5).f0).toList=((rd_T36 x1 x5).f0).toList then (if ((rd_T36 x0 x5).f1).toList=((rd_T36 x1 x5).f1).toList then (tollbarref04_Same.l0 k x0 x1 (wrap64 (x5 + 1))) else (some false)) else (some false)) else (none)) else (none)) else (some true)
def tollbarref04_Same.f (k:Nat) (l0:List (S36)) (l1:List (S36)):Option (Bool):=if (l0.length:Int)=(l1.length:Int) then (tollbarref04_Same.l0 k l0 l1 0) else (some false)
set_option maxHeartbeats 8000000 in
set_option maxRecDepth 100000 in
theorem tollbarref04_Same.calls (k:Nat) (A0:Option Addr) (c0:Nat) (l0:List (S36)) (A1:Option Addr) (c1:Nat) (l1:List (S36)) (r:Bool) (w:World) (hr0:Kd.C k36 w A0 l0.length l0) (hc0:l0.length ≤ c0) (hr1:Kd.C k36 w A1 l1.length l1) (hc1:l1.length ≤ c1) (h:tollbarref04_Same.f k l0 l1=some r) :
 Calls Tryz.prog 26 #[.slice A0 l0.length c0,.slice A1 l1.length c1] w fun e w' => e = .returned (.bool r)∧Drawn0 w w' := by
 have HR0:=Aside0.mk hr0
 have HC0:=Aside0.mk hc0
 clear hr0 hc0
 have HR1:=Aside0.mk hr1
 have HC1:=Aside0.mk hc1
 clear hr1 hc1
 unfold tollbarref04_Same.f at h
 have H:=h
 clear h
 by_cases c3:(l0.length:Int)=(l1.length:Int);rotate_left
 ·rw [if_neg c3] at H
  have c3b0:=beq_eq_false_iff_ne.mpr c3
  have c3b1:=bne_iff_ne.mpr c3
  have c3b2:(l0.length == l1.length)=false:=by first|simpa using c3|(simp at c3 ⊢;omega)
  obtain rfl:=Option.some.inj H
  go_enter Tryz.func26,Tryz.ntmps26
  go_wp2
  repeat (go_quiet (fail);try go_wp2)
  go_ret
  exact ⟨zb6,zb11⟩
 rw [if_pos c3] at H
 have c3b0:=beq_iff_eq.mpr c3
 have c3b1:=bne_eq_false_iff_eq.mpr c3
 have c3b2:(l0.length == l1.length)=true:=by first|simpa using c3|(simp at c3 ⊢;omega)
 clear c3
 have H' := Aside0.mk H
 clear H
 go_enter Tryz.func26,Tryz.ntmps26
 go_wp2
 repeat (go_quiet (fail);try go_wp2)
 go_loopg [5] k (fun kq v5 w' => ∃ (x5_1:Int),v5 = .int .i64 x5_1∧Aside0 (tollbarref04_Same.l0 kq l0 l1 x5_1=some r)∧Aside0 (kq ≤ k)∧Drawn0 w w')
 case atStart=>exact ⟨(0),zb6,H',⟨Nat.le_refl _⟩,zb11⟩
 case round =>
  clear H'
  try clear c1
  try clear c2
  try clear p2
  try clear c3
  try clear c3b0
  try clear c3b1
  try clear c3b2
  obtain ⟨x5_1,rfl,HA,HK1,⟨m1,rfl⟩⟩:=hrel
  cases gk with
  | zero=>exact absurd HA.out (by simp [tollbarref04_Same.l0])
  | succ k1 =>
   have H:=HA.out
   clear HA
   simp only [tollbarref04_Same.l0] at H
   by_cases c4:x5_1 < (l0.length:Int)
   ·rw [if_pos c4] at H
    have c4b0:=decide_eq_true c4
    clear c4
    by_cases c5:0 ≤ x5_1
    ·rw [if_pos c5] at H
     have c5b0:=decide_eq_true c5
     clear c5
     by_cases c6:x5_1 < (l1.length:Int);rotate_left
     ·rw [if_neg c6] at H
      exact absurd H zb65
     rw [if_pos c6] at H
     have c6b0:=decide_eq_true c6
     clear c6
     by_cases c7:((rd_T36 l0 x5_1).f0).toList=((rd_T36 l1 x5_1).f0).toList;rotate_left
     ·rw [if_neg c7] at H
      have c7b0:=beq_eq_false_iff_ne.mpr c7
      have c7b1:=bne_iff_ne.mpr c7
      obtain rfl:=Option.some.inj H
      have p564:0 ≤ (x5_1:Int):=of_decide_eq_true zb5
      have q564:x5_1 < (l0.length:Int):=of_decide_eq_true zb5
      obtain ⟨ad564,e564,hx564_0,hx564_1⟩:=at_T36 HR0.out x5_1 p564 q564
      cases e564
      replace p564:=eq_true p564
      replace q564:=eq_true q564
      have p565:0 ≤ (x5_1:Int):=of_decide_eq_true zb5
      have q565:x5_1 < (l1.length:Int):=of_decide_eq_true zb5
      obtain ⟨ad565,e565,hx565_0,hx565_1⟩:=at_T36 HR1.out x5_1 p565 q565
      cases e565
      replace p565:=eq_true p565
      replace q565:=eq_true q565
      go_wp2
      repeat (go_quiet (fail);try go_wp2)
      go_ret
      exact ⟨zb6,zb11⟩
     rw [if_pos c7] at H
     have c7b0:=beq_iff_eq.mpr c7
     have c7b1:=bne_eq_false_iff_eq.mpr c7
     clear c7
     by_cases c8:((rd_T36 l0 x5_1).f1).toList=((rd_T36 l1 x5_1).f1).toList;rotate_left
     ·rw [if_neg c8] at H
      have c8b0:=beq_eq_false_iff_ne.mpr c8
      have c8b1:=bne_iff_ne.mpr c8
      obtain rfl:=Option.some.inj H
      have p564:0 ≤ (x5_1:Int):=of_decide_eq_true zb5
      have q564:x5_1 < (l0.length:Int):=of_decide_eq_true zb5
      obtain ⟨ad564,e564,hx564_0,hx564_1⟩:=at_T36 HR0.out x5_1 p564 q564
      cases e564
      replace p564:=eq_true p564
      replace q564:=eq_true q564
      have p565:0 ≤ (x5_1:Int):=of_decide_eq_true zb5
      have q565:x5_1 < (l1.length:Int):=of_decide_eq_true zb5
      obtain ⟨ad565,e565,hx565_0,hx565_1⟩:=at_T36 HR1.out x5_1 p565 q565
      cases e565
      replace p565:=eq_true p565
      replace q565:=eq_true q565
      have p566:0 ≤ (x5_1:Int):=of_decide_eq_true zb5
      have q566:x5_1 < (l0.length:Int):=of_decide_eq_true zb5
      obtain ⟨ad566,e566,hx566_0,hx566_1⟩:=at_T36 HR0.out x5_1 p566 q566
      obtain rfl:ad564=ad566:=(by injection e566)
      replace p566:=eq_true p566
      replace q566:=eq_true q566
      have p567:0 ≤ (x5_1:Int):=of_decide_eq_true zb5
      have q567:x5_1 < (l1.length:Int):=of_decide_eq_true zb5
      obtain ⟨ad567,e567,hx567_0,hx567_1⟩:=at_T36 HR1.out x5_1 p567 q567
      obtain rfl:ad565=ad567:=(by injection e567)
      replace p567:=eq_true p567
      replace q567:=eq_true q567
      go_wp2
      repeat (go_quiet (fail);try go_wp2)
      go_ret
      exact ⟨zb6,zb11⟩
     rw [if_pos c8] at H
     have c8b0:=beq_iff_eq.mpr c8
     have c8b1:=bne_eq_false_iff_eq.mpr c8
     clear c8
     have H' := Aside0.mk H
     clear H
     have p564:0 ≤ (x5_1:Int):=of_decide_eq_true zb5
     have q564:x5_1 < (l0.length:Int):=of_decide_eq_true zb5
     obtain ⟨ad564,e564,hx564_0,hx564_1⟩:=at_T36 HR0.out x5_1 p564 q564
     cases e564
     replace p564:=eq_true p564
     replace q564:=eq_true q564
     have p565:0 ≤ (x5_1:Int):=of_decide_eq_true zb5
     have q565:x5_1 < (l1.length:Int):=of_decide_eq_true zb5
     obtain ⟨ad565,e565,hx565_0,hx565_1⟩:=at_T36 HR1.out x5_1 p565 q565
     cases e565
     replace p565:=eq_true p565
     replace q565:=eq_true q565
     have p566:0 ≤ (x5_1:Int):=of_decide_eq_true zb5
     have q566:x5_1 < (l0.length:Int):=of_decide_eq_true zb5
     obtain ⟨ad566,e566,hx566_0,hx566_1⟩:=at_T36 HR0.out x5_1 p566 q566
     obtain rfl:ad564=ad566:=(by injection e566)
     replace p566:=eq_true p566
     replace q566:=eq_true q566
     have p567:0 ≤ (x5_1:Int):=of_decide_eq_true zb5
     have q567:x5_1 < (l1.length:Int):=of_decide_eq_true zb5
     obtain ⟨ad567,e567,hx567_0,hx567_1⟩:=at_T36 HR1.out x5_1 p567 q567
     obtain rfl:ad565=ad567:=(by injection e567)
     replace p567:=eq_true p567
     replace q567:=eq_true q567
     go_wp2
     repeat (go_quiet (fail);try go_wp2)
     go_roundg k1
     case measure=>have:=HK1.out;omega
     case rel=>exact ⟨(wrap64 (x5_1 + 1)),zb6,H',⟨zb106⟩,zb11⟩
    ·rw [if_neg c5] at H
     exact absurd H zb65
   ·rw [if_neg c4] at H
    have c4b0:=decide_eq_false c4
    clear c4
    obtain rfl:=Option.some.inj H
    go_wp2
    repeat (go_quiet (fail);try go_wp2)
    go_ret
    exact ⟨zb6,zb11⟩
def tollbarref02_Fold.l0:Nat → ByteArray → List Int → Int → Option (ByteArray)
 | 0,_,_,_=>none
 | k + 1,x0,x3,x4=>if x4 < (x0.size:Int) then (if 0 ≤ x4 then (if (bt x0 x4) ≥ 65 then (if (bt x0 x4) ≤ 90 then (if x3.length < 140737488355328 then (tollbarref02_Fold.l0 k x0 (x3 ++ [((bt x0 x4) + 32) % 256]) (wrap64 (x4 + 1))) else (none)) else (if x3.length < 140737488355328 then (tollbarref02_Fold.l0 k x0 (x3 ++ [bt x0 x4]) (wrap64 (x4 + 1))) else (none))) else (if x3.length < 140737488355328 then (tollbarref02_Fold.l0 k x0 (x3 ++ [bt x0 x4]) (wrap64 (x4 + 1))) else (none))) else (none)) else (some (strOfNums x3))
def tollbarref02_Fold.f (k:Nat) (a0:ByteArray):Option (ByteArray):=tollbarref02_Fold.l0 k a0 (([]:List Int)) 0
set_option maxHeartbeats 8000000 in
set_option maxRecDepth 100000 in
theorem tollbarref02_Fold.calls (k:Nat) (a0:ByteArray) (r:ByteArray) (w:World) (h:tollbarref02_Fold.f k a0=some r) :
 Calls Tryz.prog 32 #[.string a0] w fun e w' => e = .returned (.string r)∧Below w.heap.size w w' := by
 have HB:=Aside0.mk (Below.refl w.heap.size w)
 unfold tollbarref02_Fold.f at h
 have H:=h
 clear h
 obtain ⟨y330,hy330⟩ : ∃ y_:List Int,y_=(([]:List Int)):=⟨_,rfl⟩
 replace H:(tollbarref02_Fold.l0 k a0 y330 0)=some r:=by first|(rw [hy330];with_reducible exact H)|(have H2_:=(Option.bind_some _ _).symm.trans H;rw [hy330];with_reducible exact H2_)|(have H2_:=(Option.bind_some _ _).symm.trans H;with_reducible exact H2_)|with_reducible exact H|(rw [hy330];exact H)|exact H
 have Ny330:=Aside0.mk hy330
 clear hy330
 have H' := Aside0.mk H
 clear H
 go_enter Tryz.func32,Tryz.ntmps32
 go_wp2_with (first|((with_reducible refine gate_dst (N:=6) rfl ?_);refine Kd.R_lit (Kd.int .u8) _ 5 ?hg (N:=6) ?hd (xs:=([]:List Int)) (inner:=[]) (ok:=fun _=>True) (okp:=fun _=>True) ?hr ?hp (fun _ hk=>hk) trivial (Below.refl _ _) (Nat.le_refl _) zb65 ?_;(case hd=>rfl);(case hg=>rfl);(case hr=>first|(go_simp;done)|(go_simp;rfl));(case hp=>exact (Reps.none _ _));intro v331 w2 ho3 hb hg_ hnew_;clear hg_ hnew_;(first|rw [← Ny330.out] at ho3|(simp only [Int.reduceToNat] at ho3;rw [← Ny330.out] at ho3));have HO332:=Aside0.mk (Kd.R_lower ho3 (below_size zb0));replace HB:=Aside0.mk (below_step zb0 hb);clear hb ho3))
 go_loopg [3,4] k (fun kq v3 v4 w' => ∃ (x3_1:List Int) (x4_1:Int),v4 = .int .i64 x4_1∧Aside0 (tollbarref02_Fold.l0 kq a0 x3_1 x4_1=some r)∧Aside0 (kq ≤ k)∧Aside0 (Kd.R (Kd.int .u8) 5 w' w.heap.size (fun _=>True) v3 x3_1)∧Aside0 (Below w.heap.size w w'))
 case atStart=>exact ⟨(y330),(0),zb6,H',⟨Nat.le_refl _⟩,⟨by (with_reducible repeat (first|apply Kd.R_alloc|apply Kd.R_drewN|apply Kd.R_drew));exact HO332.out⟩,⟨zb0⟩⟩
 case round =>
  clear H'
  try clear p2
  try clear c3
  obtain ⟨x3_1,x4_1,rfl,HA,HK1,HO_3,HB⟩:=hrel
  cases gk with
  | zero=>exact absurd HA.out (by simp [tollbarref02_Fold.l0])
  | succ k1 =>
   have H:=HA.out
   clear HA
   simp only [tollbarref02_Fold.l0] at H
   by_cases c4:x4_1 < (a0.size:Int);rotate_left
   ·rw [if_neg c4] at H
    have c4b0:=decide_eq_false c4
    clear c4
    obtain rfl:=Option.some.inj H
    have hcv15:=own_string (P:=Tryz.prog) Tryz.underlying22 Tryz.underlying5 Tryz.underlying9 (Kd.own_of_R HO_3.out)
    go_wp2
    go_ret
    exact ⟨zb2,zb0⟩
   rw [if_pos c4] at H
   have c4b0:=decide_eq_true c4
   clear c4
   by_cases c5:0 ≤ x4_1
   ·rw [if_pos c5] at H
    have c5b0:=decide_eq_true c5
    clear c5
    by_cases c7:(bt a0 x4_1) ≥ 65;rotate_left
    ·rw [if_neg c7] at H
     have c7b0:decide (65 ≤ (bt a0 x4_1))=false:=decide_eq_false c7
     clear c7
     by_cases c13:x3_1.length < 140737488355328;rotate_left
     ·rw [if_neg c13] at H
      exact absurd H zb65
     rw [if_pos c13] at H
     have LMc13:=Aside0.mk c13
     clear c13
     obtain ⟨y339,hy339⟩ : ∃ y_:List Int,y_=(x3_1 ++ [bt a0 x4_1]):=⟨_,rfl⟩
     replace H:(tollbarref02_Fold.l0 k1 a0 y339 (wrap64 (x4_1 + 1)))=some r:=by first|(rw [hy339];with_reducible exact H)|(have H2_:=(Option.bind_some _ _).symm.trans H;rw [hy339];with_reducible exact H2_)|(have H2_:=(Option.bind_some _ _).symm.trans H;with_reducible exact H2_)|with_reducible exact H|(rw [hy339];exact H)|exact H
     have Ny339:=Aside0.mk hy339
     clear hy339
     have H' := Aside0.mk H
     clear H
     have p6:0 ≤ (x4_1:Int):=of_decide_eq_true zb5
     have q6:x4_1 < (a0.size:Int):=of_decide_eq_true zb5
     have hx6:=bt_at a0 x4_1
     replace p6:=eq_true p6
     replace q6:=eq_true q6
     go_wp2_with (first|((with_reducible refine gate_builtin (b:=.append) (xs:=#[.tmp 24,.tmp 26]) rfl ?_);at_builtin;refine Kd.R_append (Kd.int .u8) (w0:=w) w.heap.size rfl (.tmp 24) (.tmp 26) 22 5 (.int .u8 0) 1 rfl Tryz.underlying22 info5 rfl zb43 zb44 u3 x3_1 (bt a0 x4_1) [.int .u8 (bt a0 x4_1)] (fun _=>True) (fun _=>False) rfl rfl ?aP (fun _ hk=>hk.elim) ?aF ?aO ?aB ?aS ?aL ?_;(case aP=>exact rfl);(case aB=>exact zb73);(case aF=>exact (fun _ _=>trivial));(case aO=>exact zb104);(case aS=>exact zb68);(case aL=>have:=LMc13.out;omega);intro v340 w14 ho hb hg hat;rw [← Ny339.out] at ho;replace HB:=Aside0.mk (hb);have HO341:=Aside0.mk (ho);clear ho hb hg hat))
     go_roundg k1
     case measure=>have:=HK1.out;omega
     case rel=>exact ⟨(y339),(wrap64 (x4_1 + 1)),zb6,H',⟨zb106⟩,⟨by (with_reducible repeat (first|apply Kd.R_alloc|apply Kd.R_drewN|apply Kd.R_drew));exact HO341.out⟩,⟨zb0⟩⟩
    rw [if_pos c7] at H
    have c7b0:decide (65 ≤ (bt a0 x4_1))=true:=decide_eq_true c7
    clear c7
    by_cases c8:(bt a0 x4_1) ≤ 90
    ·rw [if_pos c8] at H
     have c8b0:=decide_eq_true c8
     clear c8
     by_cases c9:x3_1.length < 140737488355328;rotate_left
     ·rw [if_neg c9] at H
      exact absurd H zb65
     rw [if_pos c9] at H
     have LMc9:=Aside0.mk c9
     clear c9
     obtain ⟨y333,hy333⟩ : ∃ y_:List Int,y_=(x3_1 ++ [((bt a0 x4_1) + 32) % 256]):=⟨_,rfl⟩
     replace H:(tollbarref02_Fold.l0 k1 a0 y333 (wrap64 (x4_1 + 1)))=some r:=by first|(rw [hy333];with_reducible exact H)|(have H2_:=(Option.bind_some _ _).symm.trans H;rw [hy333];with_reducible exact H2_)|(have H2_:=(Option.bind_some _ _).symm.trans H;with_reducible exact H2_)|with_reducible exact H|(rw [hy333];exact H)|exact H
     have Ny333:=Aside0.mk hy333
     clear hy333
     have H' := Aside0.mk H
     clear H
     have p6:0 ≤ (x4_1:Int):=of_decide_eq_true zb5
     have q6:x4_1 < (a0.size:Int):=of_decide_eq_true zb5
     have hx6:=bt_at a0 x4_1
     replace p6:=eq_true p6
     replace q6:=eq_true q6
     go_wp2_with (first|((with_reducible refine gate_builtin (b:=.append) (xs:=#[.tmp 24,.tmp 26]) rfl ?_);at_builtin;refine Kd.R_append (Kd.int .u8) (w0:=w) w.heap.size rfl (.tmp 24) (.tmp 26) 22 5 (.int .u8 0) 1 rfl Tryz.underlying22 info5 rfl zb43 zb44 u3 x3_1 (((bt a0 x4_1) + 32) % 256) [.int .u8 (((bt a0 x4_1) + 32) % 256)] (fun _=>True) (fun _=>False) rfl rfl ?aP (fun _ hk=>hk.elim) ?aF ?aO ?aB ?aS ?aL ?_;(case aP=>exact rfl);(case aB=>exact zb73);(case aF=>exact (fun _ _=>trivial));(case aO=>exact zb104);(case aS=>exact zb68);(case aL=>have:=LMc9.out;omega);intro v334 w10 ho hb hg hat;rw [← Ny333.out] at ho;replace HB:=Aside0.mk (hb);have HO335:=Aside0.mk (ho);clear ho hb hg hat))
     go_roundg k1
     case measure=>have:=HK1.out;omega
     case rel=>exact ⟨(y333),(wrap64 (x4_1 + 1)),zb6,H',⟨zb106⟩,⟨by (with_reducible repeat (first|apply Kd.R_alloc|apply Kd.R_drewN|apply Kd.R_drew));exact HO335.out⟩,⟨zb0⟩⟩
    ·rw [if_neg c8] at H
     have c8b0:=decide_eq_false c8
     clear c8
     by_cases c11:x3_1.length < 140737488355328
     ·rw [if_pos c11] at H
      have LMc11:=Aside0.mk c11
      clear c11
      obtain ⟨y336,hy336⟩ : ∃ y_:List Int,y_=(x3_1 ++ [bt a0 x4_1]):=⟨_,rfl⟩
      replace H:(tollbarref02_Fold.l0 k1 a0 y336 (wrap64 (x4_1 + 1)))=some r:=by first|(rw [hy336];with_reducible exact H)|(have H2_:=(Option.bind_some _ _).symm.trans H;rw [hy336];with_reducible exact H2_)|(have H2_:=(Option.bind_some _ _).symm.trans H;with_reducible exact H2_)|with_reducible exact H|(rw [hy336];exact H)|exact H
      have Ny336:=Aside0.mk hy336
      clear hy336
      have H' := Aside0.mk H
      clear H
      have p6:0 ≤ (x4_1:Int):=of_decide_eq_true zb5
      have q6:x4_1 < (a0.size:Int):=of_decide_eq_true zb5
      have hx6:=bt_at a0 x4_1
      replace p6:=eq_true p6
      replace q6:=eq_true q6
      go_wp2_with (first|((with_reducible refine gate_builtin (b:=.append) (xs:=#[.tmp 24,.tmp 26]) rfl ?_);at_builtin;refine Kd.R_append (Kd.int .u8) (w0:=w) w.heap.size rfl (.tmp 24) (.tmp 26) 22 5 (.int .u8 0) 1 rfl Tryz.underlying22 info5 rfl zb43 zb44 u3 x3_1 (bt a0 x4_1) [.int .u8 (bt a0 x4_1)] (fun _=>True) (fun _=>False) rfl rfl ?aP (fun _ hk=>hk.elim) ?aF ?aO ?aB ?aS ?aL ?_;(case aP=>exact rfl);(case aB=>exact zb73);(case aF=>exact (fun _ _=>trivial));(case aO=>exact zb104);(case aS=>exact zb68);(case aL=>have:=LMc11.out;omega);intro v337 w12 ho hb hg hat;rw [← Ny336.out] at ho;replace HB:=Aside0.mk (hb);have HO338:=Aside0.mk (ho);clear ho hb hg hat))
      go_roundg k1
      case measure=>have:=HK1.out;omega
      case rel=>exact ⟨(y336),(wrap64 (x4_1 + 1)),zb6,H',⟨zb106⟩,⟨by (with_reducible repeat (first|apply Kd.R_alloc|apply Kd.R_drewN|apply Kd.R_drew));exact HO338.out⟩,⟨zb0⟩⟩
     ·rw [if_neg c11] at H
      exact absurd H zb65
   ·rw [if_neg c5] at H
    exact absurd H zb65
def tollbarref04_same.f (k:Nat) (a0:ByteArray) (a1:ByteArray):Option (Bool):=(tollbarref02_Fold.f k a0).bind fun t342=>((tollbarref02_Fold.f k a1).bind fun t343=>(some (t342.toList == t343.toList)))
set_option maxHeartbeats 8000000 in
set_option maxRecDepth 100000 in
theorem tollbarref04_same.calls (k:Nat) (a0:ByteArray) (a1:ByteArray) (r:Bool) (w:World) (h:tollbarref04_same.f k a0 a1=some r) :
 Calls Tryz.prog 65 #[.string a0,.string a1] w fun e w' => e = .returned (.bool r)∧Below w.heap.size w w' := by
 have HB:=Aside0.mk (Below.refl w.heap.size w)
 unfold tollbarref04_same.f at h
 have H:=h
 clear h
 replace H:=Option.bind_eq_some_iff.mp H
 obtain ⟨t342,A30,H⟩:=H
 try dsimp only at H
 have A3:=Aside0.mk A30
 clear A30
 replace H:=Option.bind_eq_some_iff.mp H
 obtain ⟨t343,A40,H⟩:=H
 try dsimp only at H
 have A4:=Aside0.mk A40
 clear A40
 obtain rfl:=Option.some.inj H
 go_enter Tryz.func65,Tryz.ntmps65
 go_wp2_with (first|((with_reducible refine gate_callee (f:=32) rfl ?_);refine goesL_ (some 6) rfl rfl Tryz.func32 zb10 rfl #[.string a0] rfl zb1 ?_;(with_reducible refine (tollbarref02_Fold.calls k a0 t342 _ A3.out).mono ?_);rintro e w5 ⟨rfl,hb⟩;(try clear A3);refine ⟨_,rfl,?_⟩;replace HB:=Aside0.mk (below_step zb0 hb);(try clear hb))|((with_reducible refine gate_callee (f:=32) rfl ?_);refine goesL_ (some 8) rfl rfl Tryz.func32 zb10 rfl #[.string a1] rfl zb1 ?_;(with_reducible refine (tollbarref02_Fold.calls k a1 t343 _ A4.out).mono ?_);rintro e w6 ⟨rfl,hb⟩;(try clear A4);refine ⟨_,rfl,?_⟩;replace HB:=Aside0.mk (below_step zb0 hb);(try clear hb)))
 go_ret
 exact ⟨zb2,zb0⟩
def tollbarref04_In.l0:Nat → List ByteArray → ByteArray → Int → Option (Bool)
 | 0,_,_,_=>none
 | k + 1,x0,x1,x5=>if x5 < (x0.length:Int) then (if 0 ≤ x5 then ((tollbarref04_same.f k (rdOf ByteArray.empty x0 x5) x1).bind fun t607=>(if t607=true then (some true) else (tollbarref04_In.l0 k x0 x1 (wrap64 (x5 + 1))))) else (none)) else (some false)
def tollbarref04_In.f (k:Nat) (l0:List ByteArray) (a1:ByteArray):Option (Bool):=tollbarref04_In.l0 k l0 a1 0
set_option maxHeartbeats 8000000 in
set_option maxRecDepth 100000 in
theorem tollbarref04_In.calls (k:Nat) (A0:Option Addr) (c0:Nat) (l0:List ByteArray) (a1:ByteArray) (r:Bool) (w:World) (hr0:Kd.C Kd.string w A0 l0.length l0) (hc0:l0.length ≤ c0) (h:tollbarref04_In.f k l0 a1=some r) :
 Calls Tryz.prog 34 #[.slice A0 l0.length c0,.string a1] w fun e w' => e = .returned (.bool r)∧Below w.heap.size w w' := by
 have HR0:=Aside0.mk hr0
 have HC0:=Aside0.mk hc0
 clear hr0 hc0
 have HB:=Aside0.mk (Below.refl w.heap.size w)
 unfold tollbarref04_In.f at h
 have H:=h
 clear h
 have H' := Aside0.mk H
 clear H
 go_enter Tryz.func34,Tryz.ntmps34
 go_wp2
 go_loopg [5] k (fun kq v5 w' => ∃ (x5_1:Int),v5 = .int .i64 x5_1∧Aside0 (tollbarref04_In.l0 kq l0 a1 x5_1=some r)∧Aside0 (kq ≤ k)∧Aside0 (Below w.heap.size w w'))
 case atStart=>exact ⟨(0),zb6,H',⟨Nat.le_refl _⟩,⟨zb0⟩⟩
 case round =>
  clear H'
  try clear p2
  obtain ⟨x5_1,rfl,HA,HK1,HB⟩:=hrel
  cases gk with
  | zero=>exact absurd HA.out (by simp [tollbarref04_In.l0])
  | succ k1 =>
   have H:=HA.out
   clear HA
   simp only [tollbarref04_In.l0] at H
   by_cases c3:x5_1 < (l0.length:Int);rotate_left
   ·rw [if_neg c3] at H
    have c3b0:=decide_eq_false c3
    clear c3
    obtain rfl:=Option.some.inj H
    go_wp2
    go_ret
    exact ⟨zb2,zb0⟩
   rw [if_pos c3] at H
   have c3b0:=decide_eq_true c3
   clear c3
   by_cases c4:0 ≤ x5_1
   ·rw [if_pos c4] at H
    have c4b0:=decide_eq_true c4
    clear c4
    replace H:=Option.bind_eq_some_iff.mp H
    obtain ⟨t607,A50,H⟩:=H
    try dsimp only at H
    have A5:=Aside0.mk A50
    clear A50
    by_cases c6:t607=true
    ·subst c6
     rw [if_pos rfl] at H
     obtain rfl:=Option.some.inj H
     have p606:0 ≤ (x5_1:Int):=of_decide_eq_true zb5
     have q606:x5_1 < (l0.length:Int):=of_decide_eq_true zb5
     obtain ⟨ad606,e606,hx606_0⟩:=Kd.at_string HR0.out x5_1 p606 q606
     cases e606
     replace hx606_0:=(HB.out.cell (World.block_lt_of_cell? w _ hx606_0)).trans hx606_0
     replace p606:=eq_true p606
     replace q606:=eq_true q606
     go_wp2_with (first|((with_reducible refine gate_callee (f:=65) rfl ?_);refine goesL_ (some 17) rfl rfl Tryz.func65 zb10 rfl #[.string (rdOf ByteArray.empty l0 x5_1),.string a1] rfl zb1 ?_;(with_reducible refine (tollbarref04_same.calls k1 (rdOf ByteArray.empty l0 x5_1) a1 true _ A5.out).mono ?_);rintro e w7 ⟨rfl,hb⟩;(try clear A5);refine ⟨_,rfl,?_⟩;replace HB:=Aside0.mk (below_step zb0 hb);(try clear hb)))
     go_ret
     exact ⟨zb2,zb0⟩
    replace c6:=Bool.eq_false_iff.mpr c6
    subst c6
    rw [if_neg (show ¬ (false=true) by decide)] at H
    have H' := Aside0.mk H
    clear H
    have p606:0 ≤ (x5_1:Int):=of_decide_eq_true zb5
    have q606:x5_1 < (l0.length:Int):=of_decide_eq_true zb5
    obtain ⟨ad606,e606,hx606_0⟩:=Kd.at_string HR0.out x5_1 p606 q606
    cases e606
    replace hx606_0:=(HB.out.cell (World.block_lt_of_cell? w _ hx606_0)).trans hx606_0
    replace p606:=eq_true p606
    replace q606:=eq_true q606
    go_wp2_with (first|((with_reducible refine gate_callee (f:=65) rfl ?_);refine goesL_ (some 17) rfl rfl Tryz.func65 zb10 rfl #[.string (rdOf ByteArray.empty l0 x5_1),.string a1] rfl zb1 ?_;(with_reducible refine (tollbarref04_same.calls k1 (rdOf ByteArray.empty l0 x5_1) a1 false _ A5.out).mono ?_);rintro e w8 ⟨rfl,hb⟩;(try clear A5);refine ⟨_,rfl,?_⟩;replace HB:=Aside0.mk (below_step zb0 hb);(try clear hb)))
    go_roundg k1
    case measure=>have:=HK1.out;omega
    case rel=>exact ⟨(wrap64 (x5_1 + 1)),zb6,H',⟨zb106⟩,⟨zb0⟩⟩
   ·rw [if_neg c4] at H
    exact absurd H zb65
end Go.Proofs.YtagffbblalldiaaGreatDoor.P
