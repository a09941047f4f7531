/- Each function below answers as its Lean twin says; plain lemmas; a row where its theorem stands. No further condition. (Laid by this repo's pack.py out of its texts and of the print's words.) -/
import Derived.Test.YtagffbblalldiaaGreatDoorZ920b1e89
namespace Go.Proofs.YtagffbblalldiaaGreatDoor.P
open Go.RowKit Go.Proofs.YtagffbblalldiaaGreatDoorW.PrintWords Go.Proofs.YtagffbblalldiaaGreatDoorW.PrintLast Go.Proofs.YtagffbblalldiaaGreatDoorW.PrintMore
attribute [local go_sem] max2_int min2_int max_two min_two max_three min_three max_four min_four
set_option linter.unusedVariables false
set_option linter.unusedSimpArgs false
def tollbarref04_Same.l0:Nat → List (S36) → List (S36) → Int → Option (Bool)
 | 0,_,_,_=>none
 | k + 1,x0,x1,x5=>if x5 < (x0.length:Int) then (if 0 ≤ x5 then (if x5 < (x1.length:Int) then (if ((rd_T36 x0 x5).f0).toList=((rd_T36 x1 x5).f0).toList then (if ((rd_T36 x0 x5).f1).toList=((rd_T36 x1 x5).f1).toList then (tollbarref04_Same.l0 k x0 x1 (wrap64 (x5 + 1))) else (some false)) else (some false)) else (none)) else (none)) else (some true)
def tollbarref04_Same.f (k:Nat) (l0:List (S36)) (l1:List (S36)):Option (Bool):=if (l0.length:Int)=(l1.length:Int) then (tollbarref04_Same.l0 k l0 l1 0) else (some false)
set_option maxHeartbeats 8000000 in
set_option maxRecDepth 100000 in
theorem tollbarref04_Same.calls (k:Nat) (A0:Option Addr) (c0:Nat) (l0:List (S36)) (A1:Option Addr) (c1:Nat) (l1:List (S36)) (r:Bool) (w:World) (hr0:Kd.C k36 w A0 l0.length l0) (hc0:l0.length ≤ c0) (hr1:Kd.C k36 w A1 l1.length l1) (hc1:l1.length ≤ c1) (h:tollbarref04_Same.f k l0 l1=some r) :
 Calls Tryz.prog 26 #[.slice A0 l0.length c0,.slice A1 l1.length c1] w fun e w' => e = .returned (.bool r)∧Drawn0 w w' := by
 have HR0:=Aside0.mk hr0
 have HC0:=Aside0.mk hc0
 clear hr0 hc0
 have HR1:=Aside0.mk hr1
 have HC1:=Aside0.mk hc1
 clear hr1 hc1
 unfold tollbarref04_Same.f at h
 have H:=h
 clear h
 by_cases c3:(l0.length:Int)=(l1.length:Int);rotate_left
 ·rw [if_neg c3] at H
  have c3b0:=beq_eq_false_iff_ne.mpr c3
  have c3b1:=bne_iff_ne.mpr c3
  have c3b2:(l0.length == l1.length)=false:=by first|simpa using c3|(simp at c3 ⊢;omega)
  obtain rfl:=Option.some.inj H
  go_enter Tryz.func26,Tryz.ntmps26
  go_wp2
  repeat (go_quiet (fail);try go_wp2)
  go_ret
  exact ⟨zb4,zb8⟩
 rw [if_pos c3] at H
 have c3b0:=beq_iff_eq.mpr c3
 have c3b1:=bne_eq_false_iff_eq.mpr c3
 have c3b2:(l0.length == l1.length)=true:=by first|simpa using c3|(simp at c3 ⊢;omega)
 clear c3
 have H' := Aside0.mk H
 clear H
 go_enter Tryz.func26,Tryz.ntmps26
 go_wp2
 repeat (go_quiet (fail);try go_wp2)
 go_loopg [5] k (fun kq v5 w' => ∃ (x5_1:Int),v5 = .int .i64 x5_1∧Aside0 (tollbarref04_Same.l0 kq l0 l1 x5_1=some r)∧Aside0 (kq ≤ k)∧Drawn0 w w')
 case atStart=>exact ⟨(0),zb4,H',⟨Nat.le_refl _⟩,zb8⟩
 case round =>
  clear H'
  try clear c1
  try clear c2
  try clear p2
  try clear c3
  try clear c3b0
  try clear c3b1
  try clear c3b2
  obtain ⟨x5_1,rfl,HA,HK1,⟨m1,rfl⟩⟩:=hrel
  cases gk with
  | zero=>exact absurd HA.out (by simp [tollbarref04_Same.l0])
  | succ k1 =>
   have H:=HA.out
   clear HA
   simp only [tollbarref04_Same.l0] at H
   by_cases c4:x5_1 < (l0.length:Int)
   ·rw [if_pos c4] at H
    have c4b0:=decide_eq_true c4
    clear c4
    by_cases c5:0 ≤ x5_1
    ·rw [if_pos c5] at H
     have c5b0:=decide_eq_true c5
     clear c5
     by_cases c6:x5_1 < (l1.length:Int);rotate_left
     ·rw [if_neg c6] at H
      exact absurd H zb33
     rw [if_pos c6] at H
     have c6b0:=decide_eq_true c6
     clear c6
     by_cases c7:((rd_T36 l0 x5_1).f0).toList=((rd_T36 l1 x5_1).f0).toList;rotate_left
     ·rw [if_neg c7] at H
      have c7b0:=beq_eq_false_iff_ne.mpr c7
      have c7b1:=bne_iff_ne.mpr c7
      obtain rfl:=Option.some.inj H
      have p564:0 ≤ (x5_1:Int):=of_decide_eq_true zb5
      have q564:x5_1 < (l0.length:Int):=of_decide_eq_true zb5
      obtain ⟨ad564,e564,hx564_0,hx564_1⟩:=at_T36 HR0.out x5_1 p564 q564
      cases e564
      replace p564:=eq_true p564
      replace q564:=eq_true q564
      have p565:0 ≤ (x5_1:Int):=of_decide_eq_true zb5
      have q565:x5_1 < (l1.length:Int):=of_decide_eq_true zb5
      obtain ⟨ad565,e565,hx565_0,hx565_1⟩:=at_T36 HR1.out x5_1 p565 q565
      cases e565
      replace p565:=eq_true p565
      replace q565:=eq_true q565
      go_wp2
      repeat (go_quiet (fail);try go_wp2)
      go_ret
      exact ⟨zb4,zb8⟩
     rw [if_pos c7] at H
     have c7b0:=beq_iff_eq.mpr c7
     have c7b1:=bne_eq_false_iff_eq.mpr c7
     clear c7
     by_cases c8:((rd_T36 l0 x5_1).f1).toList=((rd_T36 l1 x5_1).f1).toList;rotate_left
     ·rw [if_neg c8] at H
      have c8b0:=beq_eq_false_iff_ne.mpr c8
      have c8b1:=bne_iff_ne.mpr c8
      obtain rfl:=Option.some.inj H
      have p564:0 ≤ (x5_1:Int):=of_decide_eq_true zb5
      have q564:x5_1 < (l0.length:Int):=of_decide_eq_true zb5
      obtain ⟨ad564,e564,hx564_0,hx564_1⟩:=at_T36 HR0.out x5_1 p564 q564
      cases e564
      replace p564:=eq_true p564
      replace q564:=eq_true q564
      have p565:0 ≤ (x5_1:Int):=of_decide_eq_true zb5
      have q565:x5_1 < (l1.length:Int):=of_decide_eq_true zb5
      obtain ⟨ad565,e565,hx565_0,hx565_1⟩:=at_T36 HR1.out x5_1 p565 q565
      cases e565
      replace p565:=eq_true p565
      replace q565:=eq_true q565
      have p566:0 ≤ (x5_1:Int):=of_decide_eq_true zb5
      have q566:x5_1 < (l0.length:Int):=of_decide_eq_true zb5
      obtain ⟨ad566,e566,hx566_0,hx566_1⟩:=at_T36 HR0.out x5_1 p566 q566
      obtain rfl:ad564=ad566:=(by injection e566)
      replace p566:=eq_true p566
      replace q566:=eq_true q566
      have p567:0 ≤ (x5_1:Int):=of_decide_eq_true zb5
      have q567:x5_1 < (l1.length:Int):=of_decide_eq_true zb5
      obtain ⟨ad567,e567,hx567_0,hx567_1⟩:=at_T36 HR1.out x5_1 p567 q567
      obtain rfl:ad565=ad567:=(by injection e567)
      replace p567:=eq_true p567
      replace q567:=eq_true q567
      go_wp2
      repeat (go_quiet (fail);try go_wp2)
      go_ret
      exact ⟨zb4,zb8⟩
     rw [if_pos c8] at H
     have c8b0:=beq_iff_eq.mpr c8
     have c8b1:=bne_eq_false_iff_eq.mpr c8
     clear c8
     have H' := Aside0.mk H
     clear H
     have p564:0 ≤ (x5_1:Int):=of_decide_eq_true zb5
     have q564:x5_1 < (l0.length:Int):=of_decide_eq_true zb5
     obtain ⟨ad564,e564,hx564_0,hx564_1⟩:=at_T36 HR0.out x5_1 p564 q564
     cases e564
     replace p564:=eq_true p564
     replace q564:=eq_true q564
     have p565:0 ≤ (x5_1:Int):=of_decide_eq_true zb5
     have q565:x5_1 < (l1.length:Int):=of_decide_eq_true zb5
     obtain ⟨ad565,e565,hx565_0,hx565_1⟩:=at_T36 HR1.out x5_1 p565 q565
     cases e565
     replace p565:=eq_true p565
     replace q565:=eq_true q565
     have p566:0 ≤ (x5_1:Int):=of_decide_eq_true zb5
     have q566:x5_1 < (l0.length:Int):=of_decide_eq_true zb5
     obtain ⟨ad566,e566,hx566_0,hx566_1⟩:=at_T36 HR0.out x5_1 p566 q566
     obtain rfl:ad564=ad566:=(by injection e566)
     replace p566:=eq_true p566
     replace q566:=eq_true q566
     have p567:0 ≤ (x5_1:Int):=of_decide_eq_true zb5
     have q567:x5_1 < (l1.length:Int):=of_decide_eq_true zb5
     obtain ⟨ad567,e567,hx567_0,hx567_1⟩:=at_T36 HR1.out x5_1 p567 q567
     obtain rfl:ad565=ad567:=(by injection e567)
     replace p567:=eq_true p567
     replace q567:=eq_true q567
     go_wp2
     repeat (go_quiet (fail);try go_wp2)
     go_roundg k1
     case measure=>have:=HK1.out;omega
     case rel=>exact ⟨(wrap64 (x5_1 + 1)),zb4,H',⟨zb66⟩,zb8⟩
    ·rw [if_neg c5] at H
     exact absurd H zb33
   ·rw [if_neg c4] at H
    have c4b0:=decide_eq_false c4
    clear c4
    obtain rfl:=Option.some.inj H
    go_wp2
    repeat (go_quiet (fail);try go_wp2)
    go_ret
    exact ⟨zb4,zb8⟩
def tollbarref02_Fold.l0:Nat → ByteArray → List Int → Int → Option (ByteArray)
 | 0,_,_,_=>none
 | k + 1,x0,x3,x4=>if x4 < (x0.size:Int) then (if 0 ≤ x4 then (if (bt x0 x4) ≥ 65 then (if (bt x0 x4) ≤ 90 then (if x3.length < 140737488355328 then (tollbarref02_Fold.l0 k x0 (x3 ++ [((bt x0 x4) + 32) % 256]) (wrap64 (x4 + 1))) else (none)) else (if x3.length < 140737488355328 then (tollbarref02_Fold.l0 k x0 (x3 ++ [bt x0 x4]) (wrap64 (x4 + 1))) else (none))) else (if x3.length < 140737488355328 then (tollbarref02_Fold.l0 k x0 (x3 ++ [bt x0 x4]) (wrap64 (x4 + 1))) else (none))) else (none)) else (some (strOfNums x3))
def tollbarref02_Fold.f (k:Nat) (a0:ByteArray):Option (ByteArray):=tollbarref02_Fold.l0 k a0 (([]:List Int)) 0
set_option maxHeartbeats 8000000 in
set_option maxRecDepth 100000 in
theorem tollbarref02_Fold.calls (k:Nat) (a0:ByteArray) (r:ByteArray) (w:World) (h:tollbarref02_Fold.f k a0=some r) :
 Calls Tryz.prog 32 #[.string a0] w fun e w' => e = .returned (.string r)∧Below w.heap.size w w' := by
 have HB:=Aside0.mk (Below.refl w.heap.size w)
 unfold tollbarref02_Fold.f at h
 have H:=h
 clear h
 obtain ⟨y330,hy330⟩ : ∃ y_:List Int,y_=(([]:List Int)):=⟨_,rfl⟩
 replace H:(tollbarref02_Fold.l0 k a0 y330 0)=some r:=by first|(rw [hy330];with_reducible exact H)|(have H2_:=(Option.bind_some _ _).symm.trans H;rw [hy330];with_reducible exact H2_)|(have H2_:=(Option.bind_some _ _).symm.trans H;with_reducible exact H2_)|with_reducible exact H|(rw [hy330];exact H)|exact H
 have Ny330:=Aside0.mk hy330
 clear hy330
 have H' := Aside0.mk H
 clear H
 go_enter Tryz.func32,Tryz.ntmps32
 go_wp2_with (first|((with_reducible refine gate_dst (N:=6) rfl ?_);refine Kd.R_lit (Kd.int .u8) _ 5 ?hg (N:=6) ?hd (xs:=([]:List Int)) (inner:=[]) (ok:=fun _=>True) (okp:=fun _=>True) ?hr ?hp (fun _ hk=>hk) trivial (Below.refl _ _) (Nat.le_refl _) zb33 ?_;(case hd=>rfl);(case hg=>rfl);(case hr=>first|(go_simp;done)|(go_simp;rfl));(case hp=>exact (Reps.none _ _));intro v331 w2 ho3 hb hg_ hnew_;clear hg_ hnew_;(first|rw [← Ny330.out] at ho3|(simp only [Int.reduceToNat] at ho3;rw [← Ny330.out] at ho3));have HO332:=Aside0.mk (Kd.R_lower ho3 (below_size zb0));replace HB:=Aside0.mk (below_step zb0 hb);clear hb ho3))
 go_loopg [3,4] k (fun kq v3 v4 w' => ∃ (x3_1:List Int) (x4_1:Int),v4 = .int .i64 x4_1∧Aside0 (tollbarref02_Fold.l0 kq a0 x3_1 x4_1=some r)∧Aside0 (kq ≤ k)∧Aside0 (Kd.R (Kd.int .u8) 5 w' w.heap.size (fun _=>True) v3 x3_1)∧Aside0 (Below w.heap.size w w'))
 case atStart=>exact ⟨(y330),(0),zb4,H',⟨Nat.le_refl _⟩,⟨by (with_reducible repeat (first|apply Kd.R_alloc|apply Kd.R_drewN|apply Kd.R_drew));exact HO332.out⟩,⟨zb0⟩⟩
 case round =>
  clear H'
  try clear p2
  try clear c3
  obtain ⟨x3_1,x4_1,rfl,HA,HK1,HO_3,HB⟩:=hrel
  cases gk with
  | zero=>exact absurd HA.out (by simp [tollbarref02_Fold.l0])
  | succ k1 =>
   have H:=HA.out
   clear HA
   simp only [tollbarref02_Fold.l0] at H
   by_cases c4:x4_1 < (a0.size:Int);rotate_left
   ·rw [if_neg c4] at H
    have c4b0:=decide_eq_false c4
    clear c4
    obtain rfl:=Option.some.inj H
    have hcv15:=own_string (P:=Tryz.prog) Tryz.underlying22 Tryz.underlying5 Tryz.underlying9 (Kd.own_of_R HO_3.out)
    go_wp2
    go_ret
    exact ⟨zb2,zb0⟩
   rw [if_pos c4] at H
   have c4b0:=decide_eq_true c4
   clear c4
   by_cases c5:0 ≤ x4_1
   ·rw [if_pos c5] at H
    have c5b0:=decide_eq_true c5
    clear c5
    by_cases c7:(bt a0 x4_1) ≥ 65;rotate_left
    ·rw [if_neg c7] at H
     have c7b0:decide (65 ≤ (bt a0 x4_1))=false:=decide_eq_false c7
     clear c7
     by_cases c13:x3_1.length < 140737488355328;rotate_left
     ·rw [if_neg c13] at H
      exact absurd H zb33
     rw [if_pos c13] at H
     have LMc13:=Aside0.mk c13
     clear c13
     obtain ⟨y339,hy339⟩ : ∃ y_:List Int,y_=(x3_1 ++ [bt a0 x4_1]):=⟨_,rfl⟩
     replace H:(tollbarref02_Fold.l0 k1 a0 y339 (wrap64 (x4_1 + 1)))=some r:=by first|(rw [hy339];with_reducible exact H)|(have H2_:=(Option.bind_some _ _).symm.trans H;rw [hy339];with_reducible exact H2_)|(have H2_:=(Option.bind_some _ _).symm.trans H;with_reducible exact H2_)|with_reducible exact H|(rw [hy339];exact H)|exact H
     have Ny339:=Aside0.mk hy339
     clear hy339
     have H' := Aside0.mk H
     clear H
     have p6:0 ≤ (x4_1:Int):=of_decide_eq_true zb5
     have q6:x4_1 < (a0.size:Int):=of_decide_eq_true zb5
     have hx6:=bt_at a0 x4_1
     replace p6:=eq_true p6
     replace q6:=eq_true q6
     go_wp2_with (first|((with_reducible refine gate_builtin (b:=.append) (xs:=#[.tmp 24,.tmp 26]) rfl ?_);at_builtin;refine Kd.R_append (Kd.int .u8) (w0:=w) w.heap.size rfl (.tmp 24) (.tmp 26) 22 5 (.int .u8 0) 1 rfl Tryz.underlying22 info5 rfl zb27 zb18 u3 x3_1 (bt a0 x4_1) [.int .u8 (bt a0 x4_1)] (fun _=>True) (fun _=>False) rfl rfl ?aP (fun _ hk=>hk.elim) ?aF ?aO ?aB ?aS ?aL ?_;(case aP=>exact rfl);(case aB=>exact zb26);(case aF=>exact (fun _ _=>trivial));(case aO=>exact zb59);(case aS=>exact zb21);(case aL=>have:=LMc13.out;omega);intro v340 w14 ho hb hg hat;rw [← Ny339.out] at ho;replace HB:=Aside0.mk (hb);have HO341:=Aside0.mk (ho);clear ho hb hg hat))
     go_roundg k1
     case measure=>have:=HK1.out;omega
     case rel=>exact ⟨(y339),(wrap64 (x4_1 + 1)),zb4,H',⟨zb66⟩,⟨by (with_reducible repeat (first|apply Kd.R_alloc|apply Kd.R_drewN|apply Kd.R_drew));exact HO341.out⟩,⟨zb0⟩⟩
    rw [if_pos c7] at H
    have c7b0:decide (65 ≤ (bt a0 x4_1))=true:=decide_eq_true c7
    clear c7
    by_cases c8:(bt a0 x4_1) ≤ 90
    ·rw [if_pos c8] at H
     have c8b0:=decide_eq_true c8
     clear c8
     by_cases c9:x3_1.length < 140737488355328;rotate_left
     ·rw [if_neg c9] at H
      exact absurd H zb33
     rw [if_pos c9] at H
     have LMc9:=Aside0.mk c9
     clear c9
     obtain ⟨y333,hy333⟩ : ∃ y_:List Int,y_=(x3_1 ++ [((bt a0 x4_1) + 32) % 256]):=⟨_,rfl⟩
     replace H:(tollbarref02_Fold.l0 k1 a0 y333 (wrap64 (x4_1 + 1)))=some r:=by first|(rw [hy333];with_reducible exact H)|(have H2_:=(Option.bind_some _ _).symm.trans H;rw [hy333];with_reducible exact H2_)|(have H2_:=(Option.bind_some _ _).symm.trans H;with_reducible exact H2_)|with_reducible exact H|(rw [hy333];exact H)|exact H
     have Ny333:=Aside0.mk hy333
     clear hy333
     have H' := Aside0.mk H
     clear H
     have p6:0 ≤ (x4_1:Int):=of_decide_eq_true zb5
     have q6:x4_1 < (a0.size:Int):=of_decide_eq_true zb5
     have hx6:=bt_at a0 x4_1
     replace p6:=eq_true p6
     replace q6:=eq_true q6
     go_wp2_with (first|((with_reducible refine gate_builtin (b:=.append) (xs:=#[.tmp 24,.tmp 26]) rfl ?_);at_builtin;refine Kd.R_append (Kd.int .u8) (w0:=w) w.heap.size rfl (.tmp 24) (.tmp 26) 22 5 (.int .u8 0) 1 rfl Tryz.underlying22 info5 rfl zb27 zb18 u3 x3_1 (((bt a0 x4_1) + 32) % 256) [.int .u8 (((bt a0 x4_1) + 32) % 256)] (fun _=>True) (fun _=>False) rfl rfl ?aP (fun _ hk=>hk.elim) ?aF ?aO ?aB ?aS ?aL ?_;(case aP=>exact rfl);(case aB=>exact zb26);(case aF=>exact (fun _ _=>trivial));(case aO=>exact zb59);(case aS=>exact zb21);(case aL=>have:=LMc9.out;omega);intro v334 w10 ho hb hg hat;rw [← Ny333.out] at ho;replace HB:=Aside0.mk (hb);have HO335:=Aside0.mk (ho);clear ho hb hg hat))
     go_roundg k1
     case measure=>have:=HK1.out;omega
     case rel=>exact ⟨(y333),(wrap64 (x4_1 + 1)),zb4,H',⟨zb66⟩,⟨by (with_reducible repeat (first|apply Kd.R_alloc|apply Kd.R_drewN|apply Kd.R_drew));exact HO335.out⟩,⟨zb0⟩⟩
    ·rw [if_neg c8] at H
     have c8b0:=decide_eq_false c8
     clear c8
     by_cases c11:x3_1.length < 140737488355328
     ·rw [if_pos c11] at H
      have LMc11:=Aside0.mk c11
      clear c11
      obtain ⟨y336,hy336⟩ : ∃ y_:List Int,y_=(x3_1 ++ [bt a0 x4_1]):=⟨_,rfl⟩
      replace H:(tollbarref02_Fold.l0 k1 a0 y336 (wrap64 (x4_1 + 1)))=some r:=by first|(rw [hy336];with_reducible exact H)|(have H2_:=(Option.bind_some _ _).symm.trans H;rw [hy336];with_reducible exact H2_)|(have H2_:=(Option.bind_some _ _).symm.trans H;with_reducible exact H2_)|with_reducible exact H|(rw [hy336];exact H)|exact H
      have Ny336:=Aside0.mk hy336
      clear hy336
      have H' := Aside0.mk H
      clear H
      have p6:0 ≤ (x4_1:Int):=of_decide_eq_true zb5
      have q6:x4_1 < (a0.size:Int):=of_decide_eq_true zb5
      have hx6:=bt_at a0 x4_1
      replace p6:=eq_true p6
      replace q6:=eq_true q6
      go_wp2_with (first|((with_reducible refine gate_builtin (b:=.append) (xs:=#[.tmp 24,.tmp 26]) rfl ?_);at_builtin;refine Kd.R_append (Kd.int .u8) (w0:=w) w.heap.size rfl (.tmp 24) (.tmp 26) 22 5 (.int .u8 0) 1 rfl Tryz.underlying22 info5 rfl zb27 zb18 u3 x3_1 (bt a0 x4_1) [.int .u8 (bt a0 x4_1)] (fun _=>True) (fun _=>False) rfl rfl ?aP (fun _ hk=>hk.elim) ?aF ?aO ?aB ?aS ?aL ?_;(case aP=>exact rfl);(case aB=>exact zb26);(case aF=>exact (fun _ _=>trivial));(case aO=>exact zb59);(case aS=>exact zb21);(case aL=>have:=LMc11.out;omega);intro v337 w12 ho hb hg hat;rw [← Ny336.out] at ho;replace HB:=Aside0.mk (hb);have HO338:=Aside0.mk (ho);clear ho hb hg hat))
      go_roundg k1
      case measure=>have:=HK1.out;omega
      case rel=>exact ⟨(y336),(wrap64 (x4_1 + 1)),zb4,H',⟨zb66⟩,⟨by (with_reducible repeat (first|apply Kd.R_alloc|apply Kd.R_drewN|apply Kd.R_drew));exact HO338.out⟩,⟨zb0⟩⟩
     ·rw [if_neg c11] at H
      exact absurd H zb33
   ·rw [if_neg c5] at H
    exact absurd H zb33
def tollbarref04_same.f (k:Nat) (a0:ByteArray) (a1:ByteArray):Option (Bool):=(tollbarref02_Fold.f k a0).bind fun t342=>((tollbarref02_Fold.f k a1).bind fun t343=>(some (t342.toList == t343.toList)))
set_option maxHeartbeats 8000000 in
set_option maxRecDepth 100000 in
theorem tollbarref04_same.calls (k:Nat) (a0:ByteArray) (a1:ByteArray) (r:Bool) (w:World) (h:tollbarref04_same.f k a0 a1=some r) :
 Calls Tryz.prog 65 #[.string a0,.string a1] w fun e w' => e = .returned (.bool r)∧Below w.heap.size w w' := by
 have HB:=Aside0.mk (Below.refl w.heap.size w)
 unfold tollbarref04_same.f at h
 have H:=h
 clear h
 replace H:=Option.bind_eq_some_iff.mp H
 obtain ⟨t342,A30,H⟩:=H
 try dsimp only at H
 have A3:=Aside0.mk A30
 clear A30
 replace H:=Option.bind_eq_some_iff.mp H
 obtain ⟨t343,A40,H⟩:=H
 try dsimp only at H
 have A4:=Aside0.mk A40
 clear A40
 obtain rfl:=Option.some.inj H
 go_enter Tryz.func65,Tryz.ntmps65
 go_wp2_with (first|((with_reducible refine gate_callee (f:=32) rfl ?_);refine goesL_ (some 6) rfl rfl Tryz.func32 zb10 rfl #[.string a0] rfl zb1 ?_;(with_reducible refine (tollbarref02_Fold.calls k a0 t342 _ A3.out).mono ?_);rintro e w5 ⟨rfl,hb⟩;(try clear A3);refine ⟨_,rfl,?_⟩;replace HB:=Aside0.mk (below_step zb0 hb);(try clear hb))|((with_reducible refine gate_callee (f:=32) rfl ?_);refine goesL_ (some 8) rfl rfl Tryz.func32 zb10 rfl #[.string a1] rfl zb1 ?_;(with_reducible refine (tollbarref02_Fold.calls k a1 t343 _ A4.out).mono ?_);rintro e w6 ⟨rfl,hb⟩;(try clear A4);refine ⟨_,rfl,?_⟩;replace HB:=Aside0.mk (below_step zb0 hb);(try clear hb)))
 go_ret
 exact ⟨zb2,zb0⟩
def tollbarref04_Get.l0:Nat → List (S36) → ByteArray → List ByteArray → Int → Option (List ByteArray)
 | 0,_,_,_,_=>none
 | k + 1,x0,x1,x5,x6=>if x6 < (x0.length:Int) then (if 0 ≤ x6 then ((tollbarref04_same.f k ((rd_T36 x0 x6).f0) x1).bind fun t348=>(if t348=true then (if x5.length < 8796093022208 then (tollbarref04_Get.l0 k x0 x1 (x5 ++ [(rd_T36 x0 x6).f1]) (wrap64 (x6 + 1))) else (none)) else (tollbarref04_Get.l0 k x0 x1 x5 (wrap64 (x6 + 1))))) else (none)) else (some x5)
def tollbarref04_Get.f (k:Nat) (l0:List (S36)) (a1:ByteArray):Option (List ByteArray):=tollbarref04_Get.l0 k l0 a1 (([]:List ByteArray)) 0
set_option maxHeartbeats 8000000 in
set_option maxRecDepth 100000 in
theorem tollbarref04_Get.calls (k:Nat) (A0:Option Addr) (c0:Nat) (l0:List (S36)) (a1:ByteArray) (r:List ByteArray) (w:World) (hr0:Kd.C k36 w A0 l0.length l0) (hc0:l0.length ≤ c0) (h:tollbarref04_Get.f k l0 a1=some r) :
 Calls Tryz.prog 36 #[.slice A0 l0.length c0,.string a1] w fun e w' => ∃ v0_:Value,e = .returned (v0_)∧Kd.R Kd.string 9 w' w.heap.size (fun _=>True) v0_ r∧Below w.heap.size w w' := by
 have HR0:=Aside0.mk hr0
 have HC0:=Aside0.mk hc0
 clear hr0 hc0
 have HB:=Aside0.mk (Below.refl w.heap.size w)
 unfold tollbarref04_Get.f at h
 have H:=h
 clear h
 obtain ⟨y344,hy344⟩ : ∃ y_:List ByteArray,y_=(([]:List ByteArray)):=⟨_,rfl⟩
 replace H:(tollbarref04_Get.l0 k l0 a1 y344 0)=some r:=by first|(rw [hy344];with_reducible exact H)|(have H2_:=(Option.bind_some _ _).symm.trans H;rw [hy344];with_reducible exact H2_)|(have H2_:=(Option.bind_some _ _).symm.trans H;with_reducible exact H2_)|with_reducible exact H|(rw [hy344];exact H)|exact H
 have Ny344:=Aside0.mk hy344
 clear hy344
 have H' := Aside0.mk H
 clear H
 go_enter Tryz.func36,Tryz.ntmps36
 go_wp2_with (first|((with_reducible refine gate_dst (N:=7) rfl ?_);refine Kd.R_lit Kd.string _ 9 ?hg (N:=7) ?hd (xs:=([]:List ByteArray)) (inner:=[]) (ok:=fun _=>True) (okp:=fun _=>True) ?hr ?hp (fun _ hk=>hk) trivial (Below.refl _ _) (Nat.le_refl _) zb33 ?_;(case hd=>rfl);(case hg=>rfl);(case hr=>first|(go_simp;done)|(go_simp;rfl));(case hp=>exact (Reps.none _ _));intro v345 w3 ho4 hb hg_ hnew_;clear hg_ hnew_;(first|rw [← Ny344.out] at ho4|(simp only [Int.reduceToNat] at ho4;rw [← Ny344.out] at ho4));have HO346:=Aside0.mk (Kd.R_lower ho4 (below_size zb0));replace HB:=Aside0.mk (below_step zb0 hb);clear hb ho4))
 go_loopg [5,6] k (fun kq v5 v6 w' => ∃ (x5_1:List ByteArray) (x6_1:Int),v6 = .int .i64 x6_1∧Aside0 (tollbarref04_Get.l0 kq l0 a1 x5_1 x6_1=some r)∧Aside0 (kq ≤ k)∧Aside0 (Kd.R Kd.string 9 w' w.heap.size (fun _=>True) v5 x5_1)∧Aside0 (Below w.heap.size w w'))
 case atStart=>exact ⟨(y344),(0),zb4,H',⟨Nat.le_refl _⟩,⟨by (with_reducible repeat (first|apply Kd.R_alloc|apply Kd.R_drewN|apply Kd.R_drew));exact HO346.out⟩,⟨zb0⟩⟩
 case round =>
  clear H'
  try clear p2
  try clear c3
  obtain ⟨x5_1,x6_1,rfl,HA,HK1,HO_5,HB⟩:=hrel
  cases gk with
  | zero=>exact absurd HA.out (by simp [tollbarref04_Get.l0])
  | succ k1 =>
   have H:=HA.out
   clear HA
   simp only [tollbarref04_Get.l0] at H
   by_cases c5:x6_1 < (l0.length:Int);rotate_left
   ·rw [if_neg c5] at H
    have c5b0:=decide_eq_false c5
    clear c5
    obtain rfl:=Option.some.inj H
    go_wp2
    go_ret
    exact ⟨_,zb2,zb15,zb0⟩
   rw [if_pos c5] at H
   have c5b0:=decide_eq_true c5
   clear c5
   by_cases c6:0 ≤ x6_1
   ·rw [if_pos c6] at H
    have c6b0:=decide_eq_true c6
    clear c6
    replace H:=Option.bind_eq_some_iff.mp H
    obtain ⟨t348,A70,H⟩:=H
    try dsimp only at H
    have A7:=Aside0.mk A70
    clear A70
    by_cases c8:t348=true;rotate_left
    ·replace c8:=Bool.eq_false_iff.mpr c8
     subst c8
     rw [if_neg (show ¬ (false=true) by decide)] at H
     have H' := Aside0.mk H
     clear H
     have p347:0 ≤ (x6_1:Int):=of_decide_eq_true zb5
     have q347:x6_1 < (l0.length:Int):=of_decide_eq_true zb5
     obtain ⟨ad347,e347,hx347_0,hx347_1⟩:=at_T36 HR0.out x6_1 p347 q347
     cases e347
     replace hx347_0:=(HB.out.cell (World.block_lt_of_cell? w _ hx347_0)).trans hx347_0
     replace hx347_1:=(HB.out.cell (World.block_lt_of_cell? w _ hx347_1)).trans hx347_1
     replace p347:=eq_true p347
     replace q347:=eq_true q347
     go_wp2_with (first|((with_reducible refine gate_callee (f:=65) rfl ?_);refine goesL_ (some 20) rfl rfl Tryz.func65 zb10 rfl #[.string ((rd_T36 l0 x6_1).f0),.string a1] rfl zb1 ?_;(with_reducible refine (tollbarref04_same.calls k1 ((rd_T36 l0 x6_1).f0) a1 false _ A7.out).mono ?_);rintro e w12 ⟨rfl,hb⟩;(try clear A7);refine ⟨_,rfl,?_⟩;replace HO_5:=Aside0.mk (Kd.R_below zb15 hb);replace HB:=Aside0.mk (below_step zb0 hb);(try clear hb)))
     go_roundg k1
     case measure=>have:=HK1.out;omega
     case rel=>exact ⟨(x5_1),(wrap64 (x6_1 + 1)),zb4,H',⟨zb66⟩,⟨zb15⟩,⟨zb0⟩⟩
    subst c8
    rw [if_pos rfl] at H
    by_cases c9:x5_1.length < 8796093022208
    ·rw [if_pos c9] at H
     have LMc9:=Aside0.mk c9
     clear c9
     obtain ⟨y350,hy350⟩ : ∃ y_:List ByteArray,y_=(x5_1 ++ [(rd_T36 l0 x6_1).f1]):=⟨_,rfl⟩
     replace H:(tollbarref04_Get.l0 k1 l0 a1 y350 (wrap64 (x6_1 + 1)))=some r:=by first|(rw [hy350];with_reducible exact H)|(have H2_:=(Option.bind_some _ _).symm.trans H;rw [hy350];with_reducible exact H2_)|(have H2_:=(Option.bind_some _ _).symm.trans H;with_reducible exact H2_)|with_reducible exact H|(rw [hy350];exact H)|exact H
     have Ny350:=Aside0.mk hy350
     clear hy350
     have H' := Aside0.mk H
     clear H
     have p347:0 ≤ (x6_1:Int):=of_decide_eq_true zb5
     have q347:x6_1 < (l0.length:Int):=of_decide_eq_true zb5
     obtain ⟨ad347,e347,hx347_0,hx347_1⟩:=at_T36 HR0.out x6_1 p347 q347
     cases e347
     replace hx347_0:=(HB.out.cell (World.block_lt_of_cell? w _ hx347_0)).trans hx347_0
     replace hx347_1:=(HB.out.cell (World.block_lt_of_cell? w _ hx347_1)).trans hx347_1
     replace p347:=eq_true p347
     replace q347:=eq_true q347
     go_wp2_with (first|((with_reducible refine gate_callee (f:=65) rfl ?_);refine goesL_ (some 20) rfl rfl Tryz.func65 zb10 rfl #[.string ((rd_T36 l0 x6_1).f0),.string a1] rfl zb1 ?_;(with_reducible refine (tollbarref04_same.calls k1 ((rd_T36 l0 x6_1).f0) a1 true _ A7.out).mono ?_);rintro e w10 ⟨rfl,hb⟩;(try clear A7);refine ⟨_,rfl,?_⟩;replace HO_5:=Aside0.mk (Kd.R_below zb15 hb);replace HB:=Aside0.mk (below_step zb0 hb);(try clear hb);have p349:0 ≤ (x6_1:Int):=of_decide_eq_true zb5;have q349:x6_1 < (l0.length:Int):=of_decide_eq_true zb5;obtain ⟨ad349,e349,hx349_0,hx349_1⟩:=at_T36 HR0.out x6_1 p349 q349;obtain rfl:ad347=ad349:=(by injection e349);replace hx349_0:=(HB.out.cell (World.block_lt_of_cell? w _ hx349_0)).trans hx349_0;replace hx349_1:=(HB.out.cell (World.block_lt_of_cell? w _ hx349_1)).trans hx349_1;replace p349:=eq_true p349;replace q349:=eq_true q349)|((with_reducible refine gate_builtin (b:=.append) (xs:=#[.tmp 21,.tmp 27]) rfl ?_);at_builtin;refine Kd.R_append Kd.string (w0:=w) w.heap.size rfl (.tmp 21) (.tmp 27) 34 9 (.string ⟨#[]⟩) 16 rfl Tryz.underlying34 info9 rfl zb27 zb18 u5 x5_1 ((rd_T36 l0 x6_1).f1) [.string ((rd_T36 l0 x6_1).f1)] (fun _=>True) (fun _=>False) rfl rfl ?aP (fun _ hk=>hk.elim) ?aF ?aO ?aB ?aS ?aL ?_;(case aP=>exact rfl);(case aB=>exact zb26);(case aF=>exact (fun _ _=>trivial));(case aO=>exact zb67);(case aS=>exact zb21);(case aL=>have:=LMc9.out;omega);intro v351 w11 ho hb hg hat;rw [← Ny350.out] at ho;replace HB:=Aside0.mk (hb);have HO352:=Aside0.mk (ho);clear ho hb hg hat))
     go_roundg k1
     case measure=>have:=HK1.out;omega
     case rel=>exact ⟨(y350),(wrap64 (x6_1 + 1)),zb4,H',⟨zb66⟩,⟨by (with_reducible repeat (first|apply Kd.R_alloc|apply Kd.R_drewN|apply Kd.R_drew));exact HO352.out⟩,⟨zb0⟩⟩
    ·rw [if_neg c9] at H
     exact absurd H zb33
   ·rw [if_neg c6] at H
    exact absurd H zb33
def tollbarref04_In.l0:Nat → List ByteArray → ByteArray → Int → Option (Bool)
 | 0,_,_,_=>none
 | k + 1,x0,x1,x5=>if x5 < (x0.length:Int) then (if 0 ≤ x5 then ((tollbarref04_same.f k (rdOf ByteArray.empty x0 x5) x1).bind fun t607=>(if t607=true then (some true) else (tollbarref04_In.l0 k x0 x1 (wrap64 (x5 + 1))))) else (none)) else (some false)
def tollbarref04_In.f (k:Nat) (l0:List ByteArray) (a1:ByteArray):Option (Bool):=tollbarref04_In.l0 k l0 a1 0
set_option maxHeartbeats 8000000 in
set_option maxRecDepth 100000 in
theorem tollbarref04_In.calls (k:Nat) (A0:Option Addr) (c0:Nat) (l0:List ByteArray) (a1:ByteArray) (r:Bool) (w:World) (hr0:Kd.C Kd.string w A0 l0.length l0) (hc0:l0.length ≤ c0) (h:tollbarref04_In.f k l0 a1=some r) :
 Calls Tryz.prog 34 #[.slice A0 l0.length c0,.string a1] w fun e w' => e = .returned (.bool r)∧Below w.heap.size w w' := by
 have HR0:=Aside0.mk hr0
 have HC0:=Aside0.mk hc0
 clear hr0 hc0
 have HB:=Aside0.mk (Below.refl w.heap.size w)
 unfold tollbarref04_In.f at h
 have H:=h
 clear h
 have H' := Aside0.mk H
 clear H
 go_enter Tryz.func34,Tryz.ntmps34
 go_wp2
 go_loopg [5] k (fun kq v5 w' => ∃ (x5_1:Int),v5 = .int .i64 x5_1∧Aside0 (tollbarref04_In.l0 kq l0 a1 x5_1=some r)∧Aside0 (kq ≤ k)∧Aside0 (Below w.heap.size w w'))
 case atStart=>exact ⟨(0),zb4,H',⟨Nat.le_refl _⟩,⟨zb0⟩⟩
 case round =>
  clear H'
  try clear p2
  obtain ⟨x5_1,rfl,HA,HK1,HB⟩:=hrel
  cases gk with
  | zero=>exact absurd HA.out (by simp [tollbarref04_In.l0])
  | succ k1 =>
   have H:=HA.out
   clear HA
   simp only [tollbarref04_In.l0] at H
   by_cases c3:x5_1 < (l0.length:Int);rotate_left
   ·rw [if_neg c3] at H
    have c3b0:=decide_eq_false c3
    clear c3
    obtain rfl:=Option.some.inj H
    go_wp2
    go_ret
    exact ⟨zb2,zb0⟩
   rw [if_pos c3] at H
   have c3b0:=decide_eq_true c3
   clear c3
   by_cases c4:0 ≤ x5_1
   ·rw [if_pos c4] at H
    have c4b0:=decide_eq_true c4
    clear c4
    replace H:=Option.bind_eq_some_iff.mp H
    obtain ⟨t607,A50,H⟩:=H
    try dsimp only at H
    have A5:=Aside0.mk A50
    clear A50
    by_cases c6:t607=true
    ·subst c6
     rw [if_pos rfl] at H
     obtain rfl:=Option.some.inj H
     have p606:0 ≤ (x5_1:Int):=of_decide_eq_true zb5
     have q606:x5_1 < (l0.length:Int):=of_decide_eq_true zb5
     obtain ⟨ad606,e606,hx606_0⟩:=Kd.at_string HR0.out x5_1 p606 q606
     cases e606
     replace hx606_0:=(HB.out.cell (World.block_lt_of_cell? w _ hx606_0)).trans hx606_0
     replace p606:=eq_true p606
     replace q606:=eq_true q606
     go_wp2_with (first|((with_reducible refine gate_callee (f:=65) rfl ?_);refine goesL_ (some 17) rfl rfl Tryz.func65 zb10 rfl #[.string (rdOf ByteArray.empty l0 x5_1),.string a1] rfl zb1 ?_;(with_reducible refine (tollbarref04_same.calls k1 (rdOf ByteArray.empty l0 x5_1) a1 true _ A5.out).mono ?_);rintro e w7 ⟨rfl,hb⟩;(try clear A5);refine ⟨_,rfl,?_⟩;replace HB:=Aside0.mk (below_step zb0 hb);(try clear hb)))
     go_ret
     exact ⟨zb2,zb0⟩
    replace c6:=Bool.eq_false_iff.mpr c6
    subst c6
    rw [if_neg (show ¬ (false=true) by decide)] at H
    have H' := Aside0.mk H
    clear H
    have p606:0 ≤ (x5_1:Int):=of_decide_eq_true zb5
    have q606:x5_1 < (l0.length:Int):=of_decide_eq_true zb5
    obtain ⟨ad606,e606,hx606_0⟩:=Kd.at_string HR0.out x5_1 p606 q606
    cases e606
    replace hx606_0:=(HB.out.cell (World.block_lt_of_cell? w _ hx606_0)).trans hx606_0
    replace p606:=eq_true p606
    replace q606:=eq_true q606
    go_wp2_with (first|((with_reducible refine gate_callee (f:=65) rfl ?_);refine goesL_ (some 17) rfl rfl Tryz.func65 zb10 rfl #[.string (rdOf ByteArray.empty l0 x5_1),.string a1] rfl zb1 ?_;(with_reducible refine (tollbarref04_same.calls k1 (rdOf ByteArray.empty l0 x5_1) a1 false _ A5.out).mono ?_);rintro e w8 ⟨rfl,hb⟩;(try clear A5);refine ⟨_,rfl,?_⟩;replace HB:=Aside0.mk (below_step zb0 hb);(try clear hb)))
    go_roundg k1
    case measure=>have:=HK1.out;omega
    case rel=>exact ⟨(wrap64 (x5_1 + 1)),zb4,H',⟨zb66⟩,⟨zb0⟩⟩
   ·rw [if_neg c4] at H
    exact absurd H zb33
def tollbarref02_blank.f (a0:Int):Option (Bool):=if a0=32 then (some true) else (some (a0 == 9))
set_option maxHeartbeats 8000000 in
set_option maxRecDepth 100000 in
theorem tollbarref02_blank.calls (a0:Int) (r:Bool) (w:World) (h:tollbarref02_blank.f a0=some r) :
 Calls Tryz.prog 152 #[.int .u8 a0] w fun e w' => e = .returned (.bool r)∧Drawn0 w w' := by
 unfold tollbarref02_blank.f at h
 have H:=h
 clear h
 by_cases c2:a0=32;rotate_left
 ·rw [if_neg c2] at H
  have c2b0:=beq_eq_false_iff_ne.mpr c2
  have c2b1:=bne_iff_ne.mpr c2
  obtain rfl:=Option.some.inj H
  go_enter Tryz.func152,Tryz.ntmps152
  go_wp2
  go_ret
  exact ⟨zb4,zb8⟩
 rw [if_pos c2] at H
 have c2b0:=beq_iff_eq.mpr c2
 have c2b1:=bne_eq_false_iff_eq.mpr c2
 clear c2
 obtain rfl:=Option.some.inj H
 go_enter Tryz.func152,Tryz.ntmps152
 go_wp2
 go_ret
 exact ⟨zb4,zb8⟩
mutual
def tollbarref02_Trim.j1:Nat → ByteArray → Option (ByteArray)
 | 0,_=>none
 | k + 1,x0=>tollbarref02_Trim.l1 k x0
def tollbarref02_Trim.l1:Nat → ByteArray → Option (ByteArray)
 | 0,_=>none
 | k + 1,x0=>if (x0.size:Int) > 0 then (if 0 ≤ (wrap64 ((x0.size:Int) - 1)) then (if (wrap64 ((x0.size:Int) - 1)) < (x0.size:Int) then ((tollbarref02_blank.f (bt x0 (wrap64 ((x0.size:Int) - 1)))).bind fun t415=>(if t415=true then (if (wrap64 ((x0.size:Int) - 1)) ≤ (x0.size:Int) then (tollbarref02_Trim.l1 k (x0.extract 0 ((wrap64 ((x0.size:Int) - 1)):Int).toNat)) else (none)) else (some x0))) else (none)) else (none)) else (some x0)
def tollbarref02_Trim.l0:Nat → ByteArray → Option (ByteArray)
 | 0,_=>none
 | k + 1,x0=>if (x0.size:Int) > 0 then (if 0 < (x0.size:Int) then ((tollbarref02_blank.f (bt x0 0)).bind fun t414=>(if t414=true then (if 1 ≤ (x0.size:Int) then (tollbarref02_Trim.l0 k (x0.extract 1 x0.size)) else (none)) else (tollbarref02_Trim.j1 k x0))) else (none)) else (tollbarref02_Trim.j1 k x0)
end
def tollbarref02_Trim.f (k:Nat) (a0:ByteArray):Option (ByteArray):=tollbarref02_Trim.l0 k a0
set_option maxHeartbeats 8000000 in
set_option maxRecDepth 100000 in
theorem tollbarref02_Trim.calls (k:Nat) (a0:ByteArray) (r:ByteArray) (w:World) (h:tollbarref02_Trim.f k a0=some r) :
 Calls Tryz.prog 106 #[.string a0] w fun e w' => e = .returned (.string r)∧Drawn0 w w' := by
 unfold tollbarref02_Trim.f at h
 have H:=h
 clear h
 have HC2:=Aside0.mk H
 clear H
 go_enter Tryz.func106,Tryz.ntmps106
 go_upto_block 0 with (fail)
 go_cut [0] (fun v0 wc => ∃ (kq:Nat) (x0_1:ByteArray),v0 = .string x0_1∧Aside0 (tollbarref02_Trim.j1 kq x0_1=some r)∧Aside0 (kq ≤ k)∧Drawn0 w wc)
 case first =>
  have H:=HC2.out
  clear HC2
  have H' := Aside0.mk H
  clear H
  go_wp2
  go_loopg [0] k (fun kq v0 w' => ∃ (x0_1:ByteArray),v0 = .string x0_1∧Aside0 (tollbarref02_Trim.l0 kq x0_1=some r)∧Aside0 (kq ≤ k)∧Drawn0 w w')
  case atStart=>exact ⟨(a0),zb4,H',⟨Nat.le_refl _⟩,zb8⟩
  case round =>
   clear H'
   try clear c1
   try clear p2
   obtain ⟨x0_1,rfl,HA,HK1,⟨m1,rfl⟩⟩:=hrel
   cases gk with
   | zero=>exact absurd HA.out (by simp [tollbarref02_Trim.l0])
   | succ k1 =>
    have H:=HA.out
    clear HA
    simp only [tollbarref02_Trim.l0] at H
    by_cases c3:(x0_1.size:Int) > 0;rotate_left
    ·rw [if_neg c3] at H
     have c3b0:decide (0 < (x0_1.size:Int))=false:=decide_eq_false c3
     have c3b1:decide (0 < x0_1.size)=false:=decide_eq_false zb18
     clear c3
     (first|rw [c3b0]|(simp only [i64_w,i32_w];rw [c3b0])|rw [c3b1]|skip)
     have H' := Aside0.mk H
     clear H
     go_wp2
     go_meet
     case rel=>exact ⟨_,(x0_1),zb4,H',⟨zb63⟩,zb8⟩
    rw [if_pos c3] at H
    have c3b0:decide (0 < (x0_1.size:Int))=true:=decide_eq_true c3
    have c3b1:decide (0 < x0_1.size)=true:=decide_eq_true zb18
    clear c3
    (first|rw [c3b0]|(simp only [i64_w,i32_w];rw [c3b0])|rw [c3b1]|skip)
    by_cases c4:0 < (x0_1.size:Int)
    ·rw [if_pos c4] at H
     have c4b0:=decide_eq_true c4
     have c4b1:decide (0 < x0_1.size)=true:=decide_eq_true zb18
     clear c4
     replace H:=Option.bind_eq_some_iff.mp H
     obtain ⟨t414,A60,H⟩:=H
     try dsimp only at H
     have A6:=Aside0.mk A60
     clear A60
     by_cases c7:t414=true;rotate_left
     ·replace c7:=Bool.eq_false_iff.mpr c7
      subst c7
      rw [if_neg (show ¬ (false=true) by decide)] at H
      have H' := Aside0.mk H
      clear H
      have p5:0 ≤ (0:Int):=zb18
      have q5:0 < x0_1.size:=(by have:(0:Int) < (x0_1.size:Int):=of_decide_eq_true (by first|(with_reducible assumption)|assumption);omega)
      have hx5 : ∀ h:0 < x0_1.size,((x0_1[0]'h).toNat:Int)=bt x0_1 0:=bt_at x0_1 0
      clear p5
      have qi5:(0 < (x0_1.size:Int))=True:=eq_true (of_decide_eq_true zb5)
      replace q5:=eq_true q5
      go_wp2_with (first|(go_at_call 152;(with_reducible refine (tollbarref02_blank.calls (bt x0_1 0) false _ A6.out).mono ?_);rintro e w' ⟨rfl,⟨nd,rfl⟩⟩;(try clear A6)))
      go_meet
      case rel=>exact ⟨_,(x0_1),zb4,H',⟨zb63⟩,zb8⟩
     subst c7
     rw [if_pos rfl] at H
     by_cases c8:1 ≤ (x0_1.size:Int)
     ·rw [if_pos c8] at H
      have c8b0:=eq_true c8
      have c8b1:=decide_eq_true c8
      clear c8
      have H' := Aside0.mk H
      clear H
      have p5:0 ≤ (0:Int):=zb18
      have q5:0 < x0_1.size:=(by have:(0:Int) < (x0_1.size:Int):=of_decide_eq_true (by first|(with_reducible assumption)|assumption);omega)
      have hx5 : ∀ h:0 < x0_1.size,((x0_1[0]'h).toNat:Int)=bt x0_1 0:=bt_at x0_1 0
      clear p5
      have qi5:(0 < (x0_1.size:Int))=True:=eq_true (of_decide_eq_true zb5)
      replace q5:=eq_true q5
      go_wp2_with (first|(go_at_call 152;(with_reducible refine (tollbarref02_blank.calls (bt x0_1 0) true _ A6.out).mono ?_);rintro e w' ⟨rfl,⟨nd,rfl⟩⟩;(try clear A6)))
      go_roundg k1
      case measure=>have:=HK1.out;omega
      case rel=>exact ⟨(x0_1.extract 1 x0_1.size),zb4,H',⟨zb66⟩,zb8⟩
     ·rw [if_neg c8] at H
      exact absurd H zb33
    ·rw [if_neg c4] at H
     exact absurd H zb33
 case rest =>
  clear HC2
  try clear c1
  try clear p2
  try clear c3
  try clear c3b0
  try clear c3b1
  try clear c4
  try clear c4b0
  try clear c4b1
  try clear p5
  try clear q5
  try clear hx5
  try clear qi5
  try clear c7
  try clear c8
  try clear c8b0
  try clear c8b1
  try clear p2
  try clear p5
  try clear q5
  obtain ⟨kq,x0_1,rfl,HA,HJ1,⟨mc1,rfl⟩⟩:=hcut
  cases kq with
  | zero=>exact absurd HA.out (by simp [tollbarref02_Trim.j1])
  | succ kj1 =>
   have H:=HA.out
   clear HA
   simp only [tollbarref02_Trim.j1] at H
   have H' := Aside0.mk H
   clear H
   go_wp2
   go_loopg [0] kj1 (fun kq v0 w' => ∃ (x0_2:ByteArray),v0 = .string x0_2∧Aside0 (tollbarref02_Trim.l1 kq x0_2=some r)∧Aside0 (kq ≤ kj1)∧Drawn0 w w')
   case atStart=>exact ⟨(x0_1),zb4,H',⟨Nat.le_refl _⟩,zb8⟩
   case round =>
    clear H'
    try clear c1
    try clear p2
    try clear c3
    try clear c3b0
    try clear c3b1
    try clear c4
    try clear c4b0
    try clear c4b1
    try clear p5
    try clear q5
    try clear hx5
    try clear qi5
    try clear c7
    try clear c8
    try clear c8b0
    try clear c8b1
    try clear p2
    try clear p5
    try clear q5
    obtain ⟨x0_2,rfl,HA,HK2,⟨m2,rfl⟩⟩:=hrel
    cases gk with
    | zero=>exact absurd HA.out (by simp [tollbarref02_Trim.l1])
    | succ k2 =>
     have H:=HA.out
     clear HA
     simp only [tollbarref02_Trim.l1] at H
     by_cases c9:(x0_2.size:Int) > 0;rotate_left
     ·rw [if_neg c9] at H
      have c9b0:decide (0 < (x0_2.size:Int))=false:=decide_eq_false c9
      have c9b1:decide (0 < x0_2.size)=false:=decide_eq_false zb18
      clear c9
      obtain rfl:=Option.some.inj H
      go_wp2
      go_ret
      exact ⟨zb4,zb8⟩
     rw [if_pos c9] at H
     have c9b0:decide (0 < (x0_2.size:Int))=true:=decide_eq_true c9
     have c9b1:decide (0 < x0_2.size)=true:=decide_eq_true zb18
     clear c9
     obtain ⟨ji10,hji10⟩ : ∃ j_:Int,(wrap64 ((x0_2.size:Int) - 1))=j_:=⟨_,rfl⟩
     replace H:(if 0 ≤ (ji10) then (if (ji10) < (x0_2.size:Int) then ((tollbarref02_blank.f (bt x0_2 (ji10))).bind fun t415=>(if t415=true then (if (ji10) ≤ (x0_2.size:Int) then (tollbarref02_Trim.l1 k2 (x0_2.extract 0 ((ji10):Int).toNat)) else (none)) else (some x0_2))) else (none)) else (none))=some r:=by first|(rw [hji10] at H;exact H)|(simp only [hji10] at H ⊢;exact H)
     have hji10w:(IntKind.i64.wrap ((x0_2.size:Int) - 1))=ji10:=(i64_w _).trans hji10
     by_cases c11:0 ≤ (ji10)
     ·rw [if_pos c11] at H
      have c11b0:=decide_eq_true c11
      clear c11
      by_cases c12:(ji10) < (x0_2.size:Int)
      ·rw [if_pos c12] at H
       have c12b0:=decide_eq_true c12
       clear c12
       replace H:=Option.bind_eq_some_iff.mp H
       obtain ⟨t415,A140,H⟩:=H
       try dsimp only at H
       have A14:=Aside0.mk A140
       clear A140
       by_cases c15:t415=true;rotate_left
       ·replace c15:=Bool.eq_false_iff.mpr c15
        subst c15
        rw [if_neg (show ¬ (false=true) by decide)] at H
        obtain rfl:=Option.some.inj H
        have p13:0 ≤ ((ji10):Int):=of_decide_eq_true zb5
        have q13:(ji10) < (x0_2.size:Int):=of_decide_eq_true zb5
        have hx13:=bt_at x0_2 (ji10)
        replace p13:=eq_true p13
        replace q13:=eq_true q13
        go_wp2_with (first|(go_at_call 152;(with_reducible refine (tollbarref02_blank.calls (bt x0_2 (ji10)) false _ A14.out).mono ?_);rintro e w' ⟨rfl,⟨nd,rfl⟩⟩;(try clear A14)))
        go_ret
        exact ⟨by first|rfl|(simp;done)|(simp only [← hji10] <;> (first|rfl|simp))|(simp [*];done),zb8⟩
       subst c15
       rw [if_pos rfl] at H
       have c16b0:=eq_true (of_decide_eq_true zb5:0 ≤ (ji10))
       by_cases c17:(ji10) ≤ (x0_2.size:Int)
       ·rw [if_pos c17] at H
        have c17b0:=eq_true c17
        have c17b1:=decide_eq_true c17
        clear c17
        have H' := Aside0.mk H
        clear H
        have p13:0 ≤ ((ji10):Int):=of_decide_eq_true zb5
        have q13:(ji10) < (x0_2.size:Int):=of_decide_eq_true zb5
        have hx13:=bt_at x0_2 (ji10)
        replace p13:=eq_true p13
        replace q13:=eq_true q13
        go_wp2_with (first|(go_at_call 152;(with_reducible refine (tollbarref02_blank.calls (bt x0_2 (ji10)) true _ A14.out).mono ?_);rintro e w' ⟨rfl,⟨nd,rfl⟩⟩;(try clear A14)))
        go_roundg k2
        case measure=>have:=HJ1.out;have:=HK2.out;omega
        case rel=>exact ⟨(x0_2.extract 0 ((ji10):Int).toNat),(by first|rfl|(simp;done)|(simp only [← hji10] <;> (first|rfl|simp))|(simp [*];done)),H',⟨zb84⟩,zb8⟩
       ·rw [if_neg c17] at H
        exact absurd H zb33
      ·rw [if_neg c12] at H
       exact absurd H zb33
     ·rw [if_neg c11] at H
      exact absurd H zb33
mutual
def tollbarref02_Split.l0:Nat → ByteArray → List ByteArray → Int → Int → Option (List ByteArray)
 | 0,_,_,_,_=>none
 | k + 1,x0,x3,x4,x5=>if x5 ≤ (x0.size:Int) then (if x5=(x0.size:Int) then (tollbarref02_Split.j1 k x0 x3 x4 x5 true) else (if 0 ≤ x5 then (if x5 < (x0.size:Int) then (tollbarref02_Split.j1 k x0 x3 x4 x5 ((bt x0 x5) == 44)) else (none)) else (none))) else (some x3)
def tollbarref02_Split.j1:Nat → ByteArray → List ByteArray → Int → Int → Bool → Option (List ByteArray)
 | 0,_,_,_,_,_=>none
 | k + 1,x0,x3,x4,x5,x23=>if x23=true then (if 0 ≤ x4 then (if x4 ≤ x5 then (if x5 ≤ (x0.size:Int) then ((tollbarref02_Trim.f k (x0.extract (x4:Int).toNat (x5:Int).toNat)).bind fun t441=>(if t441.toList=([]:List UInt8) then (tollbarref02_Split.l0 k x0 x3 (wrap64 (x5 + 1)) (wrap64 (x5 + 1))) else (if x3.length < 8796093022208 then (tollbarref02_Split.l0 k x0 (x3 ++ [t441]) (wrap64 (x5 + 1)) (wrap64 (x5 + 1))) else (none)))) else (none)) else (none)) else (none)) else (tollbarref02_Split.l0 k x0 x3 x4 (wrap64 (x5 + 1)))
end
def tollbarref02_Split.f (k:Nat) (a0:ByteArray):Option (List ByteArray):=tollbarref02_Split.l0 k a0 (([]:List ByteArray)) 0 0
set_option maxHeartbeats 8000000 in
set_option maxRecDepth 100000 in
theorem tollbarref02_Split.calls (k:Nat) (a0:ByteArray) (r:List ByteArray) (w:World) (h:tollbarref02_Split.f k a0=some r) :
 Calls Tryz.prog 63 #[.string a0] w fun e w' => ∃ v0_:Value,e = .returned (v0_)∧Kd.R Kd.string 9 w' w.heap.size (fun _=>True) v0_ r∧Below w.heap.size w w' := by
 have HB:=Aside0.mk (Below.refl w.heap.size w)
 unfold tollbarref02_Split.f at h
 have H:=h
 clear h
 obtain ⟨y438,hy438⟩ : ∃ y_:List ByteArray,y_=(([]:List ByteArray)):=⟨_,rfl⟩
 replace H:(tollbarref02_Split.l0 k a0 y438 0 0)=some r:=by first|(rw [hy438];with_reducible exact H)|(have H2_:=(Option.bind_some _ _).symm.trans H;rw [hy438];with_reducible exact H2_)|(have H2_:=(Option.bind_some _ _).symm.trans H;with_reducible exact H2_)|with_reducible exact H|(rw [hy438];exact H)|exact H
 have Ny438:=Aside0.mk hy438
 clear hy438
 have H' := Aside0.mk H
 clear H
 go_enter Tryz.func63,Tryz.ntmps63
 go_wp2_with (first|((with_reducible refine gate_dst (N:=7) rfl ?_);refine Kd.R_lit Kd.string _ 9 ?hg (N:=7) ?hd (xs:=([]:List ByteArray)) (inner:=[]) (ok:=fun _=>True) (okp:=fun _=>True) ?hr ?hp (fun _ hk=>hk) trivial (Below.refl _ _) (Nat.le_refl _) zb33 ?_;(case hd=>rfl);(case hg=>rfl);(case hr=>first|(go_simp;done)|(go_simp;rfl));(case hp=>exact (Reps.none _ _));intro v439 w2 ho3 hb hg_ hnew_;clear hg_ hnew_;(first|rw [← Ny438.out] at ho3|(simp only [Int.reduceToNat] at ho3;rw [← Ny438.out] at ho3));have HO440:=Aside0.mk (Kd.R_lower ho3 (below_size zb0));replace HB:=Aside0.mk (below_step zb0 hb);clear hb ho3))
 go_loopg [3,4,5] k (fun kq v3 v4 v5 w' => ∃ (x3_1:List ByteArray) (x4_1:Int) (x5_1:Int),v4 = .int .i64 x4_1∧v5 = .int .i64 x5_1∧Aside0 (tollbarref02_Split.l0 kq a0 x3_1 x4_1 x5_1=some r)∧Aside0 (kq ≤ k)∧Aside0 (Kd.R Kd.string 9 w' w.heap.size (fun _=>True) v3 x3_1)∧Aside0 (Below w.heap.size w w'))
 case atStart=>exact ⟨(y438),(0),(0),zb4,zb4,H',⟨Nat.le_refl _⟩,⟨by (with_reducible repeat (first|apply Kd.R_alloc|apply Kd.R_drewN|apply Kd.R_drew));exact HO440.out⟩,⟨zb0⟩⟩
 case round =>
  clear H'
  try clear p2
  obtain ⟨x3_1,x4_1,x5_1,rfl,rfl,HA,HK1,HO_3,HB⟩:=hrel
  cases gk with
  | zero=>exact absurd HA.out (by simp [tollbarref02_Split.l0])
  | succ k1 =>
   have H:=HA.out
   clear HA
   simp only [tollbarref02_Split.l0] at H
   by_cases c4:x5_1 ≤ (a0.size:Int);rotate_left
   ·rw [if_neg c4] at H
    have c4b0:=decide_eq_false c4
    clear c4
    obtain rfl:=Option.some.inj H
    go_wp2
    go_ret
    exact ⟨_,zb2,zb16,zb0⟩
   rw [if_pos c4] at H
   have c4b0:=decide_eq_true c4
   clear c4
   have HC5:=Aside0.mk H
   clear H
   go_upto_region 6 with (fail)
   go_cut [23] (fun v23 wc => ∃ (kq:Nat) (x23_4:Bool),v23 = .bool x23_4∧Aside0 (tollbarref02_Split.j1 kq a0 x3_1 x4_1 x5_1 x23_4=some r)∧Aside0 (kq ≤ k1)∧Aside0 (Kd.R Kd.string 9 wc w.heap.size (fun _=>True) u3 x3_1)∧Aside0 (Below w.heap.size w wc))
   case first =>
    have H:=HC5.out
    clear HC5
    by_cases c6:x5_1=(a0.size:Int)
    ·rw [if_pos c6] at H
     have c6b0:=beq_iff_eq.mpr c6
     have c6b1:=bne_eq_false_iff_eq.mpr c6
     clear c6
     (first|rw [c6b0]|(simp only [i64_w,i32_w];rw [c6b0])|rw [c6b1]|skip)
     have H' := Aside0.mk H
     clear H
     go_wp2
     go_meet
     case rel=>exact ⟨_,(true),zb4,H',⟨zb63⟩,⟨zb16⟩,⟨zb0⟩⟩
    rw [if_neg c6] at H
    have c6b0:=beq_eq_false_iff_ne.mpr c6
    have c6b1:=bne_iff_ne.mpr c6
    (first|rw [c6b0]|(simp only [i64_w,i32_w];rw [c6b0])|rw [c6b1]|skip)
    by_cases c7:0 ≤ x5_1;rotate_left
    ·rw [if_neg c7] at H
     exact absurd H zb33
    rw [if_pos c7] at H
    have c7b0:=decide_eq_true c7
    clear c7
    by_cases c8:x5_1 < (a0.size:Int)
    ·rw [if_pos c8] at H
     have c8b0:=decide_eq_true c8
     clear c8
     have H' := Aside0.mk H
     clear H
     have p9:0 ≤ (x5_1:Int):=of_decide_eq_true zb5
     have q9:x5_1 < (a0.size:Int):=of_decide_eq_true zb5
     have hx9:=bt_at a0 x5_1
     replace p9:=eq_true p9
     replace q9:=eq_true q9
     go_wp2
     go_meet
     case rel=>exact ⟨_,(((bt a0 x5_1) == 44)),zb4,H',⟨zb63⟩,⟨zb16⟩,⟨zb0⟩⟩
    ·rw [if_neg c8] at H
     exact absurd H zb33
   case rest =>
    clear HC5
    try clear p2
    try clear c4
    try clear c4b0
    try clear c6
    try clear c6b0
    try clear c6b1
    try clear c7
    try clear c7b0
    try clear c8
    try clear c8b0
    try clear p9
    try clear q9
    try clear hx9
    try clear p2
    try clear p9
    try clear q9
    obtain ⟨kq,x23_4,rfl,HA,HJ4,HO_3,HB⟩:=hcut
    cases kq with
    | zero=>exact absurd HA.out (by simp [tollbarref02_Split.j1])
    | succ kj4 =>
     have H:=HA.out
     clear HA
     simp only [tollbarref02_Split.j1] at H
     by_cases c10:x23_4=true;rotate_left
     ·replace c10:=Bool.eq_false_iff.mpr c10
      subst c10
      rw [if_neg (show ¬ (false=true) by decide)] at H
      have H' := Aside0.mk H
      clear H
      go_wp2
      go_roundg kj4
      case measure=>have:=HK1.out;have:=HJ4.out;omega
      case rel=>exact ⟨(x3_1),(x4_1),(wrap64 (x5_1 + 1)),zb4,zb4,H',⟨by have:=HK1.out;have:=HJ4.out;omega⟩,⟨zb16⟩,⟨zb0⟩⟩
     subst c10
     rw [if_pos rfl] at H
     by_cases c11:0 ≤ x4_1
     ·rw [if_pos c11] at H
      have c11b0:=eq_true c11
      have c11b1:=decide_eq_true c11
      clear c11
      by_cases c12:x4_1 ≤ x5_1
      ·rw [if_pos c12] at H
       have c12b0:=eq_true c12
       have c12b1:=decide_eq_true c12
       clear c12
       by_cases c13:x5_1 ≤ (a0.size:Int)
       ·rw [if_pos c13] at H
        have c13b0:=eq_true c13
        have c13b1:=decide_eq_true c13
        clear c13
        replace H:=Option.bind_eq_some_iff.mp H
        obtain ⟨t441,A140,H⟩:=H
        try dsimp only at H
        have A14:=Aside0.mk A140
        clear A140
        by_cases c15:t441.toList=([]:List UInt8)
        ·rw [if_pos c15] at H
         have c15b0:=beq_iff_eq.mpr c15
         have c15b1:=bne_eq_false_iff_eq.mpr c15
         clear c15
         have H' := Aside0.mk H
         clear H
         go_wp2_with (first|((with_reducible refine gate_callee (f:=106) rfl ?_);refine goesL_ (some 28) rfl rfl Tryz.func106 zb10 rfl #[.string (a0.extract (x4_1:Int).toNat (x5_1:Int).toNat)] rfl zb1 ?_;(with_reducible refine (tollbarref02_Trim.calls kj4 (a0.extract (x4_1:Int).toNat (x5_1:Int).toNat) t441 _ A14.out).mono ?_);rintro e w' ⟨rfl,⟨nd,rfl⟩⟩;(try clear A14);refine ⟨_,rfl,?_⟩))
         go_roundg kj4
         case measure=>have:=HK1.out;have:=HJ4.out;omega
         case rel=>exact ⟨(x3_1),(wrap64 (x5_1 + 1)),(wrap64 (x5_1 + 1)),zb4,zb4,H',⟨by have:=HK1.out;have:=HJ4.out;omega⟩,⟨zb16⟩,⟨zb0⟩⟩
        rw [if_neg c15] at H
        have c15b0:=beq_eq_false_iff_ne.mpr c15
        have c15b1:=bne_iff_ne.mpr c15
        by_cases c16:x3_1.length < 8796093022208
        ·rw [if_pos c16] at H
         have LMc16:=Aside0.mk c16
         clear c16
         obtain ⟨y442,hy442⟩ : ∃ y_:List ByteArray,y_=(x3_1 ++ [t441]):=⟨_,rfl⟩
         replace H:(tollbarref02_Split.l0 kj4 a0 y442 (wrap64 (x5_1 + 1)) (wrap64 (x5_1 + 1)))=some r:=by first|(rw [hy442];with_reducible exact H)|(have H2_:=(Option.bind_some _ _).symm.trans H;rw [hy442];with_reducible exact H2_)|(have H2_:=(Option.bind_some _ _).symm.trans H;with_reducible exact H2_)|with_reducible exact H|(rw [hy442];exact H)|exact H
         have Ny442:=Aside0.mk hy442
         clear hy442
         have H' := Aside0.mk H
         clear H
         go_wp2_with (first|((with_reducible refine gate_callee (f:=106) rfl ?_);refine goesL_ (some 28) rfl rfl Tryz.func106 zb10 rfl #[.string (a0.extract (x4_1:Int).toNat (x5_1:Int).toNat)] rfl zb1 ?_;(with_reducible refine (tollbarref02_Trim.calls kj4 (a0.extract (x4_1:Int).toNat (x5_1:Int).toNat) t441 _ A14.out).mono ?_);rintro e w' ⟨rfl,⟨nd,rfl⟩⟩;(try clear A14);refine ⟨_,rfl,?_⟩)|((with_reducible refine gate_builtin (b:=.append) (xs:=#[.tmp 31,.tmp 33]) rfl ?_);at_builtin;refine Kd.R_append Kd.string (w0:=w) w.heap.size rfl (.tmp 31) (.tmp 33) 34 9 (.string ⟨#[]⟩) 16 rfl Tryz.underlying34 info9 rfl zb27 zb18 u3 x3_1 t441 [.string t441] (fun _=>True) (fun _=>False) rfl rfl ?aP (fun _ hk=>hk.elim) ?aF ?aO ?aB ?aS ?aL ?_;(case aP=>exact rfl);(case aB=>exact zb26);(case aF=>exact (fun _ _=>trivial));(case aO=>exact zb59);(case aS=>exact zb21);(case aL=>have:=LMc16.out;omega);intro v443 w17 ho hb hg hat;rw [← Ny442.out] at ho;replace HB:=Aside0.mk (hb);have HO444:=Aside0.mk (ho);clear ho hb hg hat))
         go_roundg kj4
         case measure=>have:=HK1.out;have:=HJ4.out;omega
         case rel=>exact ⟨(y442),(wrap64 (x5_1 + 1)),(wrap64 (x5_1 + 1)),zb4,zb4,H',⟨by have:=HK1.out;have:=HJ4.out;omega⟩,⟨by (with_reducible repeat (first|apply Kd.R_alloc|apply Kd.R_drewN|apply Kd.R_drew));exact HO444.out⟩,⟨zb0⟩⟩
        ·rw [if_neg c16] at H
         exact absurd H zb33
       ·rw [if_neg c13] at H
        exact absurd H zb33
      ·rw [if_neg c12] at H
       exact absurd H zb33
     ·rw [if_neg c11] at H
      exact absurd H zb33
mutual
def tollbarref04_List.l0:Nat → List ByteArray → List ByteArray → Int → Option (List ByteArray)
 | 0,_,_,_=>none
 | k + 1,x5,x6,x7=>if x7 < (x6.length:Int) then (if 0 ≤ x7 then ((tollbarref02_Split.f k (rdOf ByteArray.empty x6 x7)).bind fun t452=>(tollbarref04_List.l1 k x5 x6 x7 t452 0)) else (none)) else (some x5)
def tollbarref04_List.l1:Nat → List ByteArray → List ByteArray → Int → List ByteArray → Int → Option (List ByteArray)
 | 0,_,_,_,_,_=>none
 | k + 1,x5,x6,x7,x8,x9=>if x9 < (x8.length:Int) then (if 0 ≤ x9 then (if x5.length < 8796093022208 then (tollbarref04_List.l1 k (x5 ++ [rdOf ByteArray.empty x8 x9]) x6 x7 x8 (wrap64 (x9 + 1))) else (none)) else (none)) else (tollbarref04_List.l0 k x5 x6 (wrap64 (x7 + 1)))
end
def tollbarref04_List.f (k:Nat) (l0:List (S36)) (a1:ByteArray):Option (List ByteArray):=(tollbarref04_Get.f k l0 a1).bind fun t448=>(tollbarref04_List.l0 k (([]:List ByteArray)) t448 0)
set_option maxHeartbeats 8000000 in
set_option maxRecDepth 100000 in
theorem tollbarref04_List.calls (k:Nat) (A0:Option Addr) (c0:Nat) (l0:List (S36)) (a1:ByteArray) (r:List ByteArray) (w:World) (hr0:Kd.C k36 w A0 l0.length l0) (hc0:l0.length ≤ c0) (h:tollbarref04_List.f k l0 a1=some r) :
 Calls Tryz.prog 31 #[.slice A0 l0.length c0,.string a1] w fun e w' => ∃ v0_:Value,e = .returned (v0_)∧Kd.R Kd.string 9 w' w.heap.size (fun _=>True) v0_ r∧Below w.heap.size w w' := by
 have HR0:=Aside0.mk hr0
 have HC0:=Aside0.mk hc0
 clear hr0 hc0
 have HB:=Aside0.mk (Below.refl w.heap.size w)
 unfold tollbarref04_List.f at h
 have H:=h
 clear h
 obtain ⟨y445,hy445⟩ : ∃ y_:List ByteArray,y_=(([]:List ByteArray)):=⟨_,rfl⟩
 replace H:((tollbarref04_Get.f k l0 a1).bind fun t448=>(tollbarref04_List.l0 k y445 t448 0))=some r:=by first|(rw [hy445];with_reducible exact H)|(have H2_:=(Option.bind_some _ _).symm.trans H;rw [hy445];with_reducible exact H2_)|(have H2_:=(Option.bind_some _ _).symm.trans H;with_reducible exact H2_)|with_reducible exact H|(rw [hy445];exact H)|exact H
 have Ny445:=Aside0.mk hy445
 clear hy445
 replace H:=Option.bind_eq_some_iff.mp H
 obtain ⟨t448,A30,H⟩:=H
 try dsimp only at H
 have A3:=Aside0.mk A30
 clear A30
 have H' := Aside0.mk H
 clear H
 go_enter Tryz.func31,Tryz.ntmps31
 go_wp2_with (first|((with_reducible refine gate_dst (N:=10) rfl ?_);refine Kd.R_lit Kd.string _ 9 ?hg (N:=10) ?hd (xs:=([]:List ByteArray)) (inner:=[]) (ok:=fun _=>True) (okp:=fun _=>True) ?hr ?hp (fun _ hk=>hk) trivial (Below.refl _ _) (Nat.le_refl _) zb33 ?_;(case hd=>rfl);(case hg=>rfl);(case hr=>first|(go_simp;done)|(go_simp;rfl));(case hp=>exact (Reps.none _ _));intro v446 w4 ho5 hb hg_ hnew_;clear hg_ hnew_;(first|rw [← Ny445.out] at ho5|(simp only [Int.reduceToNat] at ho5;rw [← Ny445.out] at ho5));have HO447:=Aside0.mk (Kd.R_lower ho5 (below_size zb0));replace HB:=Aside0.mk (below_step zb0 hb);clear hb ho5)|((with_reducible refine gate_callee (f:=36) rfl ?_);refine goesL_ (some 13) rfl rfl Tryz.func36 zb10 rfl #[.slice A0 l0.length c0,.string a1] rfl zb1 ?_;(with_reducible refine (tollbarref04_Get.calls k _ _ l0 a1 t448 _ ?side1 ?side2 A3.out).mono ?_);(case side1=>exact zb53);(case side2=>exact HC0.out);rintro e w6 ⟨v449,rfl,ho0,hb⟩;(try clear A3);refine ⟨_,rfl,?_⟩;have HO450:=Aside0.mk (Kd.R_lower (Kd.R_new' ho0 (Kd.R_lt (by (with_reducible repeat (first|apply Kd.R_alloc|apply Kd.R_drewN|apply Kd.R_drew));exact HO447.out))) (below_size zb0));replace HO447:=Aside0.mk (Kd.R_elder' (by (with_reducible repeat (first|apply Kd.R_alloc|apply Kd.R_drewN|apply Kd.R_drew));exact HO447.out) (Kd.R_base ho0) hb);replace HB:=Aside0.mk (below_step zb0 hb);try clear hb ho0))
 go_loopg [5,7] k (fun kq v5 v7 w' => ∃ (x5_1:List ByteArray) (x7_1:Int),v7 = .int .i64 x7_1∧Aside0 (tollbarref04_List.l0 kq x5_1 t448 x7_1=some r)∧Aside0 (kq ≤ k)∧Aside0 (Kd.R Kd.string 9 w' w.heap.size (fun k_=>some k_ ≠ (v449:Value).ownBlock) v5 x5_1)∧Aside0 (Kd.R Kd.string 9 w' w.heap.size (fun k_=>some k_ ≠ (v5:Value).ownBlock) v449 t448)∧Aside0 (Below w.heap.size w w'))
 case atStart=>exact ⟨(y445),(0),zb4,H',⟨Nat.le_refl _⟩,⟨by (with_reducible repeat (first|apply Kd.R_alloc|apply Kd.R_drewN|apply Kd.R_drew));exact Kd.R_mono HO447.out (fun _ hk=>hk.2)⟩,⟨by (with_reducible repeat (first|apply Kd.R_alloc|apply Kd.R_drewN|apply Kd.R_drew));exact Kd.R_mono HO450.out (fun _ hk=>hk.2)⟩,⟨zb0⟩⟩
 case round =>
  clear H'
  try clear p2
  try clear c3
  obtain ⟨x5_1,x7_1,rfl,HA,HK1,HO_5,HO_6,HB⟩:=hrel
  cases gk with
  | zero=>exact absurd HA.out (by simp [tollbarref04_List.l0])
  | succ k1 =>
   have H:=HA.out
   clear HA
   simp only [tollbarref04_List.l0] at H
   by_cases c7:x7_1 < (t448.length:Int);rotate_left
   ·rw [if_neg c7] at H
    have c7b0:=decide_eq_false c7
    clear c7
    obtain rfl:=Option.some.inj H
    obtain ⟨Ao18,co18,eo18⟩:=Kd.R_slice HO_6.out
    subst eo18
    go_wp2
    go_ret
    exact ⟨_,zb2,zb90,zb0⟩
   rw [if_pos c7] at H
   have c7b0:=decide_eq_true c7
   clear c7
   by_cases c8:0 ≤ x7_1
   ·rw [if_pos c8] at H
    have c8b0:=decide_eq_true c8
    clear c8
    replace H:=Option.bind_eq_some_iff.mp H
    obtain ⟨t452,A90,H⟩:=H
    try dsimp only at H
    have A9:=Aside0.mk A90
    clear A90
    have H' := Aside0.mk H
    clear H
    obtain ⟨Ao10,co10,eo10⟩:=Kd.R_slice HO_6.out
    subst eo10
    have p451:0 ≤ (x7_1:Int):=of_decide_eq_true zb5
    have q451:x7_1 < (t448.length:Int):=of_decide_eq_true zb5
    obtain ⟨ad451,e451,hx451_0⟩:=Kd.at_string (Kd.R_reads' HO_6.out).2.2 x7_1 p451 q451
    cases e451
    replace p451:=eq_true p451
    replace q451:=eq_true q451
    go_wp2_with (first|((with_reducible refine gate_callee (f:=63) rfl ?_);refine goesL_ (some 24) rfl rfl Tryz.func63 zb10 rfl #[.string (rdOf ByteArray.empty t448 x7_1)] rfl zb1 ?_;(with_reducible refine (tollbarref02_Split.calls k1 (rdOf ByteArray.empty t448 x7_1) t452 _ A9.out).mono ?_);rintro e w11 ⟨v453,rfl,ho0,hb⟩;(try clear A9);refine ⟨_,rfl,?_⟩;have HO454:=Aside0.mk (Kd.R_lower (Kd.R_new' (Kd.R_new' ho0 (Kd.R_lt zb15)) (Kd.R_lt zb69)) (below_size zb0));replace HO_5:=Aside0.mk (Kd.R_elder' zb15 (Kd.R_base ho0) hb);replace HO_6:=Aside0.mk (Kd.R_elder' zb69 (Kd.R_base ho0) hb);replace HB:=Aside0.mk (below_step zb0 hb);try clear hb ho0))
    go_loopg [5,9] k1 (fun kq v5 v9 w' => ∃ (x5_2:List ByteArray) (x9_2:Int),v9 = .int .i64 x9_2∧Aside0 (tollbarref04_List.l1 kq x5_2 t448 x7_1 t452 x9_2=some r)∧Aside0 (kq ≤ k1)∧Aside0 (Kd.R Kd.string 9 w' w.heap.size (fun k_=>some k_ ≠ ((.slice (some ad451) t448.length co10):Value).ownBlock∧some k_ ≠ (v453:Value).ownBlock) v5 x5_2)∧Aside0 (Kd.R Kd.string 9 w' w.heap.size (fun k_=>some k_ ≠ (v5:Value).ownBlock∧some k_ ≠ (v453:Value).ownBlock) (.slice (some ad451) t448.length co10) t448)∧Aside0 (Kd.R Kd.string 9 w' w.heap.size (fun k_=>some k_ ≠ (v5:Value).ownBlock∧some k_ ≠ ((.slice (some ad451) t448.length co10):Value).ownBlock) v453 t452)∧Aside0 (Below w.heap.size w w'))
    case atStart=>exact ⟨(x5_1),(0),zb4,H',⟨Nat.le_refl _⟩,⟨zb15⟩,⟨zb69⟩,⟨by (with_reducible repeat (first|apply Kd.R_alloc|apply Kd.R_drewN|apply Kd.R_drew));exact Kd.R_mono HO454.out (fun _ hk=>⟨hk.1.2,hk.2⟩)⟩,⟨zb0⟩⟩
    case round =>
     clear H'
     try clear p2
     try clear c3
     try clear p4
     try clear q4
     try clear hx4
     try clear c6
     try clear c7
     try clear c7b0
     try clear c8
     try clear c8b0
     try clear hx451_0
     try clear p2
     try clear p451
     try clear q451
     obtain ⟨x5_2,x9_2,rfl,HA,HK2,HO_5,HO_6,HO_8,HB⟩:=hrel
     cases gk with
     | zero=>exact absurd HA.out (by simp [tollbarref04_List.l1])
     | succ k2 =>
      have H:=HA.out
      clear HA
      simp only [tollbarref04_List.l1] at H
      by_cases c12:x9_2 < (t452.length:Int);rotate_left
      ·rw [if_neg c12] at H
       have c12b0:=decide_eq_false c12
       clear c12
       have H' := Aside0.mk H
       clear H
       obtain ⟨Ao17,co17,eo17⟩:=Kd.R_slice HO_8.out
       subst eo17
       go_wp2
       go_roundg k2
       case measure=>have:=HK1.out;have:=HK2.out;omega
       case rel=>exact ⟨(x5_2),(wrap64 (x7_1 + 1)),zb4,H',⟨by have:=HK1.out;have:=HK2.out;omega⟩,⟨by (with_reducible repeat (first|apply Kd.R_alloc|apply Kd.R_drewN|apply Kd.R_drew));exact Kd.R_mono HO_5.out (fun _ hk=>hk.1)⟩,⟨by (with_reducible repeat (first|apply Kd.R_alloc|apply Kd.R_drewN|apply Kd.R_drew));exact Kd.R_mono HO_6.out (fun _ hk=>hk.1)⟩,⟨zb0⟩⟩
      rw [if_pos c12] at H
      have c12b0:=decide_eq_true c12
      clear c12
      by_cases c13:0 ≤ x9_2
      ·rw [if_pos c13] at H
       have c13b0:=decide_eq_true c13
       clear c13
       by_cases c14:x5_2.length < 8796093022208
       ·rw [if_pos c14] at H
        have LMc14:=Aside0.mk c14
        clear c14
        obtain ⟨y456,hy456⟩ : ∃ y_:List ByteArray,y_=(x5_2 ++ [rdOf ByteArray.empty t452 x9_2]):=⟨_,rfl⟩
        replace H:(tollbarref04_List.l1 k2 y456 t448 x7_1 t452 (wrap64 (x9_2 + 1)))=some r:=by first|(rw [hy456];with_reducible exact H)|(have H2_:=(Option.bind_some _ _).symm.trans H;rw [hy456];with_reducible exact H2_)|(have H2_:=(Option.bind_some _ _).symm.trans H;with_reducible exact H2_)|with_reducible exact H|(rw [hy456];exact H)|exact H
        have Ny456:=Aside0.mk hy456
        clear hy456
        have H' := Aside0.mk H
        clear H
        obtain ⟨Ao15,co15,eo15⟩:=Kd.R_slice HO_8.out
        subst eo15
        have p455:0 ≤ (x9_2:Int):=of_decide_eq_true zb5
        have q455:x9_2 < (t452.length:Int):=of_decide_eq_true zb5
        obtain ⟨ad455,e455,hx455_0⟩:=Kd.at_string (Kd.R_reads' HO_8.out).2.2 x9_2 p455 q455
        cases e455
        replace p455:=eq_true p455
        replace q455:=eq_true q455
        go_wp2_with (first|((with_reducible refine gate_builtin (b:=.append) (xs:=#[.tmp 31,.tmp 36]) rfl ?_);at_builtin;refine Kd.R_append Kd.string (w0:=w) w.heap.size rfl (.tmp 31) (.tmp 36) 34 9 (.string ⟨#[]⟩) 16 rfl Tryz.underlying34 info9 rfl zb27 zb18 u5 x5_2 (rdOf ByteArray.empty t452 x9_2) [.string (rdOf ByteArray.empty t452 x9_2)] (fun k_=>some k_ ≠ (.slice (some ad451) t448.length co10:Value).ownBlock∧some k_ ≠ (.slice (some ad455) t452.length co15:Value).ownBlock) (fun _=>False) rfl rfl ?aP (fun _ hk=>hk.elim) ?aF ?aO ?aB ?aS ?aL ?_;(case aP=>exact rfl);(case aB=>exact zb26);(case aF=>exact (fun k_ hk=>⟨Kd.fresh' (Kd.R_lt zb69) k_ hk,Kd.fresh' (Kd.R_lt (by (with_reducible repeat (first|apply Kd.R_alloc|apply Kd.R_drewN|apply Kd.R_drew));exact HO_8.out)) k_ hk⟩));(case aO=>exact zb67);(case aS=>exact zb21);(case aL=>have:=LMc14.out;omega);intro v457 w16 ho hb hg hat;rw [← Ny456.out] at ho;replace HO_6:=Aside0.mk (Kd.R_after (ok:=(fun k_=>some k_ ≠ (.slice (some ad455) t452.length co15:Value).ownBlock)) zb87 hg hat);replace HO_8:=Aside0.mk (Kd.R_after (ok:=(fun k_=>some k_ ≠ (.slice (some ad451) t448.length co10:Value).ownBlock)) zb88 hg hat);replace HB:=Aside0.mk (hb);have HO458:=Aside0.mk (ho);clear ho hb hg hat))
        go_roundg k2
        case measure=>have:=HK1.out;have:=HK2.out;omega
        case rel=>exact ⟨(y456),(wrap64 (x9_2 + 1)),zb4,H',⟨by have:=HK1.out;have:=HK2.out;omega⟩,⟨by (with_reducible repeat (first|apply Kd.R_alloc|apply Kd.R_drewN|apply Kd.R_drew));exact HO458.out⟩,⟨zb87⟩,⟨zb88⟩,⟨zb0⟩⟩
       ·rw [if_neg c14] at H
        exact absurd H zb33
      ·rw [if_neg c13] at H
       exact absurd H zb33
   ·rw [if_neg c8] at H
    exact absurd H zb33
end Go.Proofs.YtagffbblalldiaaGreatDoor.P
