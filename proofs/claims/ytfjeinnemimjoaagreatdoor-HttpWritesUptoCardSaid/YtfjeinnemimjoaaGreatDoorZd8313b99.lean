/- Each function below answers as its Lean twin says; plain lemmas; a row where its theorem stands. No further condition. (Laid by this repo's pack.py out of its texts and of the print's words.) -/
import Derived.Test.YtfjeinnemimjoaaGreatDoorZc6af24e6
import Derived.Test.YtfjeinnemimjoaaGreatDoorZd3f7ee2d
namespace Go.Proofs.YtfjeinnemimjoaaGreatDoor.P
open Go.RowKit Go.Proofs.YtfjeinnemimjoaaGreatDoorW.PrintWords Go.Proofs.YtfjeinnemimjoaaGreatDoorW.PrintLast Go.Proofs.YtfjeinnemimjoaaGreatDoorW.PrintMore
attribute [local go_sem] max2_int min2_int max_two min_two max_three min_three max_four min_four
set_option linter.unusedVariables false
set_option linter.unusedSimpArgs false
def tollbarref01_SameBytes.l0:Nat → List Int → List Int → Int → Option (Bool)
 | 0,_,_,_=>none
 | k + 1,x0,x1,x5=>if x5 < (x0.length:Int) then (if 0 ≤ x5 then (if x5 < (x1.length:Int) then (if (rd x0 x5)=(rd x1 x5) then (tollbarref01_SameBytes.l0 k x0 x1 (wrap64 (x5 + 1))) else (some false)) else (none)) else (none)) else (some true)
def tollbarref01_SameBytes.f (k:Nat) (l0:List Int) (l1:List Int):Option (Bool):=if (l0.length:Int)=(l1.length:Int) then (tollbarref01_SameBytes.l0 k l0 l1 0) else (some false)
set_option maxHeartbeats 8000000 in
set_option maxRecDepth 100000 in
theorem tollbarref01_SameBytes.calls (k:Nat) (A0:Option Addr) (c0:Nat) (l0:List Int) (A1:Option Addr) (c1:Nat) (l1:List Int) (r:Bool) (w:World) (hr0:Kd.C (Kd.int .u8) w A0 l0.length l0) (hc0:l0.length ≤ c0) (hr1:Kd.C (Kd.int .u8) w A1 l1.length l1) (hc1:l1.length ≤ c1) (h:tollbarref01_SameBytes.f k l0 l1=some r) :
 Calls Tryz.prog 35 #[.slice A0 l0.length c0,.slice A1 l1.length c1] w fun e w' => e = .returned (.bool r)∧Drawn0 w w' := by
 have HR0:=Aside0.mk hr0
 have HC0:=Aside0.mk hc0
 clear hr0 hc0
 have HR1:=Aside0.mk hr1
 have HC1:=Aside0.mk hc1
 clear hr1 hc1
 unfold tollbarref01_SameBytes.f at h
 have H:=h
 clear h
 by_cases c3:(l0.length:Int)=(l1.length:Int);rotate_left
 ·rw [if_neg c3] at H
  have c3b0:=beq_eq_false_iff_ne.mpr c3
  have c3b1:=bne_iff_ne.mpr c3
  have c3b2:(l0.length == l1.length)=false:=by first|simpa using c3|(simp at c3 ⊢;omega)
  obtain rfl:=Option.some.inj H
  go_enter Tryz.func35,Tryz.ntmps35
  go_wp2
  repeat (go_quiet (fail);try go_wp2)
  go_ret
  exact ⟨zb8,zb17⟩
 rw [if_pos c3] at H
 have c3b0:=beq_iff_eq.mpr c3
 have c3b1:=bne_eq_false_iff_eq.mpr c3
 have c3b2:(l0.length == l1.length)=true:=by first|simpa using c3|(simp at c3 ⊢;omega)
 clear c3
 have H' := Aside0.mk H
 clear H
 go_enter Tryz.func35,Tryz.ntmps35
 go_wp2
 repeat (go_quiet (fail);try go_wp2)
 go_loopg [5] k (fun kq v5 w' => ∃ (x5_1:Int),v5 = .int .i64 x5_1∧Aside0 (tollbarref01_SameBytes.l0 kq l0 l1 x5_1=some r)∧Aside0 (kq ≤ k)∧Drawn0 w w')
 case atStart=>exact ⟨(0),zb8,H',⟨Nat.le_refl _⟩,zb17⟩
 case round =>
  clear H'
  try clear c1
  try clear p2
  try clear c3
  try clear c3b0
  try clear c3b1
  try clear c3b2
  obtain ⟨x5_1,rfl,HA,HK1,⟨m1,rfl⟩⟩:=hrel
  cases gk with
  | zero=>exact absurd HA.out (by simp [tollbarref01_SameBytes.l0])
  | succ k1 =>
   have H:=HA.out
   clear HA
   simp only [tollbarref01_SameBytes.l0] at H
   by_cases c4:x5_1 < (l0.length:Int)
   ·rw [if_pos c4] at H
    have c4b0:=decide_eq_true c4
    clear c4
    by_cases c5:0 ≤ x5_1
    ·rw [if_pos c5] at H
     have c5b0:=decide_eq_true c5
     clear c5
     by_cases c6:x5_1 < (l1.length:Int);rotate_left
     ·rw [if_neg c6] at H
      exact absurd H zb40
     rw [if_pos c6] at H
     have c6b0:=decide_eq_true c6
     clear c6
     by_cases c7:(rd l0 x5_1)=(rd l1 x5_1);rotate_left
     ·rw [if_neg c7] at H
      have c7b0:=beq_eq_false_iff_ne.mpr c7
      have c7b1:=bne_iff_ne.mpr c7
      obtain rfl:=Option.some.inj H
      have p340:0 ≤ (x5_1:Int):=of_decide_eq_true zb5
      have q340:x5_1 < (l0.length:Int):=of_decide_eq_true zb5
      obtain ⟨ad340,e340,hx340_0⟩:=Kd.at_int HR0.out x5_1 p340 q340
      cases e340
      replace p340:=eq_true p340
      replace q340:=eq_true q340
      have p341:0 ≤ (x5_1:Int):=of_decide_eq_true zb5
      have q341:x5_1 < (l1.length:Int):=of_decide_eq_true zb5
      obtain ⟨ad341,e341,hx341_0⟩:=Kd.at_int HR1.out x5_1 p341 q341
      cases e341
      replace p341:=eq_true p341
      replace q341:=eq_true q341
      go_wp2
      repeat (go_quiet (fail);try go_wp2)
      go_ret
      exact ⟨zb8,zb17⟩
     rw [if_pos c7] at H
     have c7b0:=beq_iff_eq.mpr c7
     have c7b1:=bne_eq_false_iff_eq.mpr c7
     clear c7
     have H' := Aside0.mk H
     clear H
     have p340:0 ≤ (x5_1:Int):=of_decide_eq_true zb5
     have q340:x5_1 < (l0.length:Int):=of_decide_eq_true zb5
     obtain ⟨ad340,e340,hx340_0⟩:=Kd.at_int HR0.out x5_1 p340 q340
     cases e340
     replace p340:=eq_true p340
     replace q340:=eq_true q340
     have p341:0 ≤ (x5_1:Int):=of_decide_eq_true zb5
     have q341:x5_1 < (l1.length:Int):=of_decide_eq_true zb5
     obtain ⟨ad341,e341,hx341_0⟩:=Kd.at_int HR1.out x5_1 p341 q341
     cases e341
     replace p341:=eq_true p341
     replace q341:=eq_true q341
     go_wp2
     repeat (go_quiet (fail);try go_wp2)
     go_roundg k1
     case measure=>have:=HK1.out;omega
     case rel=>exact ⟨(wrap64 (x5_1 + 1)),zb8,H',⟨zb136⟩,zb17⟩
    ·rw [if_neg c5] at H
     exact absurd H zb40
   ·rw [if_neg c4] at H
    have c4b0:=decide_eq_false c4
    clear c4
    obtain rfl:=Option.some.inj H
    go_wp2
    repeat (go_quiet (fail);try go_wp2)
    go_ret
    exact ⟨zb8,zb17⟩
def tollbarref02_Digit.f (a0:Int):Option (Bool):=if a0 ≥ 48 then (some (decide (a0 ≤ 57))) else (some false)
set_option maxHeartbeats 8000000 in
set_option maxRecDepth 100000 in
theorem tollbarref02_Digit.calls (a0:Int) (r:Bool) (w:World) (h:tollbarref02_Digit.f a0=some r) :
 Calls Tryz.prog 105 #[.int .u8 a0] w fun e w' => e = .returned (.bool r)∧Drawn0 w w' := by
 unfold tollbarref02_Digit.f at h
 have H:=h
 clear h
 by_cases c2:a0 ≥ 48
 ·rw [if_pos c2] at H
  have c2b0:decide (48 ≤ a0)=true:=decide_eq_true c2
  clear c2
  obtain rfl:=Option.some.inj H
  go_enter Tryz.func105,Tryz.ntmps105
  go_wp2
  go_ret
  exact ⟨zb8,zb17⟩
 rw [if_neg c2] at H
 have c2b0:decide (48 ≤ a0)=false:=decide_eq_false c2
 clear c2
 obtain rfl:=Option.some.inj H
 go_enter Tryz.func105,Tryz.ntmps105
 go_wp2
 go_ret
 exact ⟨zb8,zb17⟩
def tollbarref02_Fold.l0:Nat → ByteArray → List Int → Int → Option (ByteArray)
 | 0,_,_,_=>none
 | k + 1,x0,x3,x4=>if x4 < (x0.size:Int) then (if 0 ≤ x4 then (if (bt x0 x4) ≥ 65 then (if (bt x0 x4) ≤ 90 then (if x3.length < 140737488355328 then (tollbarref02_Fold.l0 k x0 (x3 ++ [((bt x0 x4) + 32) % 256]) (wrap64 (x4 + 1))) else (none)) else (if x3.length < 140737488355328 then (tollbarref02_Fold.l0 k x0 (x3 ++ [bt x0 x4]) (wrap64 (x4 + 1))) else (none))) else (if x3.length < 140737488355328 then (tollbarref02_Fold.l0 k x0 (x3 ++ [bt x0 x4]) (wrap64 (x4 + 1))) else (none))) else (none)) else (some (strOfNums x3))
def tollbarref02_Fold.f (k:Nat) (a0:ByteArray):Option (ByteArray):=tollbarref02_Fold.l0 k a0 (([]:List Int)) 0
set_option maxHeartbeats 8000000 in
set_option maxRecDepth 100000 in
theorem tollbarref02_Fold.calls (k:Nat) (a0:ByteArray) (r:ByteArray) (w:World) (h:tollbarref02_Fold.f k a0=some r) :
 Calls Tryz.prog 106 #[.string a0] w fun e w' => e = .returned (.string r)∧Below w.heap.size w w' := by
 have HB:=Aside0.mk (Below.refl w.heap.size w)
 unfold tollbarref02_Fold.f at h
 have H:=h
 clear h
 obtain ⟨y346,hy346⟩ : ∃ y_:List Int,y_=(([]:List Int)):=⟨_,rfl⟩
 replace H:(tollbarref02_Fold.l0 k a0 y346 0)=some r:=by first|(rw [hy346];with_reducible exact H)|(have H2_:=(Option.bind_some _ _).symm.trans H;rw [hy346];with_reducible exact H2_)|(have H2_:=(Option.bind_some _ _).symm.trans H;with_reducible exact H2_)|with_reducible exact H|(rw [hy346];exact H)|exact H
 have Ny346:=Aside0.mk hy346
 clear hy346
 have H' := Aside0.mk H
 clear H
 go_enter Tryz.func106,Tryz.ntmps106
 go_wp2_with (first|((with_reducible refine gate_dst (N:=6) rfl ?_);refine Kd.R_lit (Kd.int .u8) _ 5 ?hg (N:=6) ?hd (xs:=([]:List Int)) (inner:=[]) (ok:=fun _=>True) (okp:=fun _=>True) ?hr ?hp (fun _ hk=>hk) trivial (Below.refl _ _) (Nat.le_refl _) zb40 ?_;(case hd=>rfl);(case hg=>rfl);(case hr=>first|(go_simp;done)|(go_simp;rfl));(case hp=>exact (Reps.none _ _));intro v347 w2 ho3 hb hg_ hnew_;clear hg_ hnew_;(first|rw [← Ny346.out] at ho3|(simp only [Int.reduceToNat] at ho3;rw [← Ny346.out] at ho3));have HO348:=Aside0.mk (Kd.R_lower ho3 (below_size zb0));replace HB:=Aside0.mk (below_step zb0 hb);clear hb ho3))
 go_loopg [3,4] k (fun kq v3 v4 w' => ∃ (x3_1:List Int) (x4_1:Int),v4 = .int .i64 x4_1∧Aside0 (tollbarref02_Fold.l0 kq a0 x3_1 x4_1=some r)∧Aside0 (kq ≤ k)∧Aside0 (Kd.R (Kd.int .u8) 5 w' w.heap.size (fun _=>True) v3 x3_1)∧Aside0 (Below w.heap.size w w'))
 case atStart=>exact ⟨(y346),(0),zb8,H',⟨Nat.le_refl _⟩,⟨by (with_reducible repeat (first|apply Kd.R_alloc|apply Kd.R_drewN|apply Kd.R_drew));exact HO348.out⟩,⟨zb0⟩⟩
 case round =>
  clear H'
  try clear c1
  try clear p2
  obtain ⟨x3_1,x4_1,rfl,HA,HK1,HO_3,HB⟩:=hrel
  cases gk with
  | zero=>exact absurd HA.out (by simp [tollbarref02_Fold.l0])
  | succ k1 =>
   have H:=HA.out
   clear HA
   simp only [tollbarref02_Fold.l0] at H
   by_cases c4:x4_1 < (a0.size:Int);rotate_left
   ·rw [if_neg c4] at H
    have c4b0:=decide_eq_false c4
    clear c4
    obtain rfl:=Option.some.inj H
    have hcv15:=own_string (P:=Tryz.prog) Tryz.underlying23 Tryz.underlying5 Tryz.underlying9 (Kd.own_of_R HO_3.out)
    go_wp2
    go_ret
    exact ⟨zb3,zb0⟩
   rw [if_pos c4] at H
   have c4b0:=decide_eq_true c4
   clear c4
   by_cases c5:0 ≤ x4_1
   ·rw [if_pos c5] at H
    have c5b0:=decide_eq_true c5
    clear c5
    by_cases c7:(bt a0 x4_1) ≥ 65;rotate_left
    ·rw [if_neg c7] at H
     have c7b0:decide (65 ≤ (bt a0 x4_1))=false:=decide_eq_false c7
     clear c7
     by_cases c13:x3_1.length < 140737488355328;rotate_left
     ·rw [if_neg c13] at H
      exact absurd H zb40
     rw [if_pos c13] at H
     have LMc13:=Aside0.mk c13
     clear c13
     obtain ⟨y355,hy355⟩ : ∃ y_:List Int,y_=(x3_1 ++ [bt a0 x4_1]):=⟨_,rfl⟩
     replace H:(tollbarref02_Fold.l0 k1 a0 y355 (wrap64 (x4_1 + 1)))=some r:=by first|(rw [hy355];with_reducible exact H)|(have H2_:=(Option.bind_some _ _).symm.trans H;rw [hy355];with_reducible exact H2_)|(have H2_:=(Option.bind_some _ _).symm.trans H;with_reducible exact H2_)|with_reducible exact H|(rw [hy355];exact H)|exact H
     have Ny355:=Aside0.mk hy355
     clear hy355
     have H' := Aside0.mk H
     clear H
     have p6:0 ≤ (x4_1:Int):=of_decide_eq_true zb5
     have q6:x4_1 < (a0.size:Int):=of_decide_eq_true zb5
     have hx6:=bt_at a0 x4_1
     replace p6:=eq_true p6
     replace q6:=eq_true q6
     go_wp2_with (first|((with_reducible refine gate_builtin (b:=.append) (xs:=#[.tmp 24,.tmp 26]) rfl ?_);at_builtin;refine Kd.R_append (Kd.int .u8) (w0:=w) w.heap.size rfl (.tmp 24) (.tmp 26) 23 5 (.int .u8 0) 1 rfl Tryz.underlying23 info5 rfl zb46 zb30 u3 x3_1 (bt a0 x4_1) [.int .u8 (bt a0 x4_1)] (fun _=>True) (fun _=>False) rfl rfl ?aP (fun _ hk=>hk.elim) ?aF ?aO ?aB ?aS ?aL ?_;(case aP=>exact rfl);(case aB=>exact zb81);(case aF=>exact (fun _ _=>trivial));(case aO=>exact zb147);(case aS=>exact zb62);(case aL=>have:=LMc13.out;omega);intro v356 w14 ho hb hg hat;rw [← Ny355.out] at ho;replace HB:=Aside0.mk (hb);have HO357:=Aside0.mk (ho);clear ho hb hg hat))
     go_roundg k1
     case measure=>have:=HK1.out;omega
     case rel=>exact ⟨(y355),(wrap64 (x4_1 + 1)),zb8,H',⟨zb136⟩,⟨by (with_reducible repeat (first|apply Kd.R_alloc|apply Kd.R_drewN|apply Kd.R_drew));exact HO357.out⟩,⟨zb0⟩⟩
    rw [if_pos c7] at H
    have c7b0:decide (65 ≤ (bt a0 x4_1))=true:=decide_eq_true c7
    clear c7
    by_cases c8:(bt a0 x4_1) ≤ 90
    ·rw [if_pos c8] at H
     have c8b0:=decide_eq_true c8
     clear c8
     by_cases c9:x3_1.length < 140737488355328;rotate_left
     ·rw [if_neg c9] at H
      exact absurd H zb40
     rw [if_pos c9] at H
     have LMc9:=Aside0.mk c9
     clear c9
     obtain ⟨y349,hy349⟩ : ∃ y_:List Int,y_=(x3_1 ++ [((bt a0 x4_1) + 32) % 256]):=⟨_,rfl⟩
     replace H:(tollbarref02_Fold.l0 k1 a0 y349 (wrap64 (x4_1 + 1)))=some r:=by first|(rw [hy349];with_reducible exact H)|(have H2_:=(Option.bind_some _ _).symm.trans H;rw [hy349];with_reducible exact H2_)|(have H2_:=(Option.bind_some _ _).symm.trans H;with_reducible exact H2_)|with_reducible exact H|(rw [hy349];exact H)|exact H
     have Ny349:=Aside0.mk hy349
     clear hy349
     have H' := Aside0.mk H
     clear H
     have p6:0 ≤ (x4_1:Int):=of_decide_eq_true zb5
     have q6:x4_1 < (a0.size:Int):=of_decide_eq_true zb5
     have hx6:=bt_at a0 x4_1
     replace p6:=eq_true p6
     replace q6:=eq_true q6
     go_wp2_with (first|((with_reducible refine gate_builtin (b:=.append) (xs:=#[.tmp 24,.tmp 26]) rfl ?_);at_builtin;refine Kd.R_append (Kd.int .u8) (w0:=w) w.heap.size rfl (.tmp 24) (.tmp 26) 23 5 (.int .u8 0) 1 rfl Tryz.underlying23 info5 rfl zb46 zb30 u3 x3_1 (((bt a0 x4_1) + 32) % 256) [.int .u8 (((bt a0 x4_1) + 32) % 256)] (fun _=>True) (fun _=>False) rfl rfl ?aP (fun _ hk=>hk.elim) ?aF ?aO ?aB ?aS ?aL ?_;(case aP=>exact rfl);(case aB=>exact zb81);(case aF=>exact (fun _ _=>trivial));(case aO=>exact zb147);(case aS=>exact zb62);(case aL=>have:=LMc9.out;omega);intro v350 w10 ho hb hg hat;rw [← Ny349.out] at ho;replace HB:=Aside0.mk (hb);have HO351:=Aside0.mk (ho);clear ho hb hg hat))
     go_roundg k1
     case measure=>have:=HK1.out;omega
     case rel=>exact ⟨(y349),(wrap64 (x4_1 + 1)),zb8,H',⟨zb136⟩,⟨by (with_reducible repeat (first|apply Kd.R_alloc|apply Kd.R_drewN|apply Kd.R_drew));exact HO351.out⟩,⟨zb0⟩⟩
    ·rw [if_neg c8] at H
     have c8b0:=decide_eq_false c8
     clear c8
     by_cases c11:x3_1.length < 140737488355328
     ·rw [if_pos c11] at H
      have LMc11:=Aside0.mk c11
      clear c11
      obtain ⟨y352,hy352⟩ : ∃ y_:List Int,y_=(x3_1 ++ [bt a0 x4_1]):=⟨_,rfl⟩
      replace H:(tollbarref02_Fold.l0 k1 a0 y352 (wrap64 (x4_1 + 1)))=some r:=by first|(rw [hy352];with_reducible exact H)|(have H2_:=(Option.bind_some _ _).symm.trans H;rw [hy352];with_reducible exact H2_)|(have H2_:=(Option.bind_some _ _).symm.trans H;with_reducible exact H2_)|with_reducible exact H|(rw [hy352];exact H)|exact H
      have Ny352:=Aside0.mk hy352
      clear hy352
      have H' := Aside0.mk H
      clear H
      have p6:0 ≤ (x4_1:Int):=of_decide_eq_true zb5
      have q6:x4_1 < (a0.size:Int):=of_decide_eq_true zb5
      have hx6:=bt_at a0 x4_1
      replace p6:=eq_true p6
      replace q6:=eq_true q6
      go_wp2_with (first|((with_reducible refine gate_builtin (b:=.append) (xs:=#[.tmp 24,.tmp 26]) rfl ?_);at_builtin;refine Kd.R_append (Kd.int .u8) (w0:=w) w.heap.size rfl (.tmp 24) (.tmp 26) 23 5 (.int .u8 0) 1 rfl Tryz.underlying23 info5 rfl zb46 zb30 u3 x3_1 (bt a0 x4_1) [.int .u8 (bt a0 x4_1)] (fun _=>True) (fun _=>False) rfl rfl ?aP (fun _ hk=>hk.elim) ?aF ?aO ?aB ?aS ?aL ?_;(case aP=>exact rfl);(case aB=>exact zb81);(case aF=>exact (fun _ _=>trivial));(case aO=>exact zb147);(case aS=>exact zb62);(case aL=>have:=LMc11.out;omega);intro v353 w12 ho hb hg hat;rw [← Ny352.out] at ho;replace HB:=Aside0.mk (hb);have HO354:=Aside0.mk (ho);clear ho hb hg hat))
      go_roundg k1
      case measure=>have:=HK1.out;omega
      case rel=>exact ⟨(y352),(wrap64 (x4_1 + 1)),zb8,H',⟨zb136⟩,⟨by (with_reducible repeat (first|apply Kd.R_alloc|apply Kd.R_drewN|apply Kd.R_drew));exact HO354.out⟩,⟨zb0⟩⟩
     ·rw [if_neg c11] at H
      exact absurd H zb40
   ·rw [if_neg c5] at H
    exact absurd H zb40
mutual
def tollbarref05_Host.j1:Nat → ByteArray → Int → Int → Option (ByteArray × Bool)
 | 0,_,_,_=>none
 | k + 1,x0,x4,x5=>if x5 ≥ 0 then (if 0 ≤ x5 then (if x5 < (x0.size:Int) then (tollbarref05_Host.j2 k x0 x4 x5 ((bt x0 x5) == 58)) else (none)) else (none)) else (tollbarref05_Host.j2 k x0 x4 x5 false)
def tollbarref05_Host.j2:Nat → ByteArray → Int → Int → Bool → Option (ByteArray × Bool)
 | 0,_,_,_,_=>none
 | k + 1,x0,x4,x5,x31=>if x31=true then (tollbarref05_Host.j3 k x0 x5) else (tollbarref05_Host.j3 k x0 x4)
def tollbarref05_Host.j3:Nat → ByteArray → Int → Option (ByteArray × Bool)
 | 0,_,_=>none
 | k + 1,x0,x4=>if 0 ≤ x4 then (if x4 ≤ (x0.size:Int) then ((tollbarref02_Fold.f k (x0.extract 0 (x4:Int).toNat)).bind fun t628=>(tollbarref05_Host.l1 k t628 0)) else (none)) else (none)
def tollbarref05_Host.l1:Nat → ByteArray → Int → Option (ByteArray × Bool)
 | 0,_,_=>none
 | k + 1,x6,x7=>if x7 < (x6.size:Int) then (if 0 ≤ x7 then (if (bt x6 x7) ≥ 97 then (if ((bt x6 x7) ≤ 122) then (tollbarref05_Host.l1 k x6 (wrap64 (x7 + 1))) else ((tollbarref02_Digit.f (bt x6 x7)).bind fun t629=>(if t629=true then (tollbarref05_Host.l1 k x6 (wrap64 (x7 + 1))) else (if (bt x6 x7)=45 then (tollbarref05_Host.l1 k x6 (wrap64 (x7 + 1))) else (if (bt x6 x7)=46 then (tollbarref05_Host.l1 k x6 (wrap64 (x7 + 1))) else (some ((⟨#[]⟩:ByteArray),false))))))) else ((tollbarref02_Digit.f (bt x6 x7)).bind fun t630=>(if t630=true then (tollbarref05_Host.l1 k x6 (wrap64 (x7 + 1))) else (if (bt x6 x7)=45 then (tollbarref05_Host.l1 k x6 (wrap64 (x7 + 1))) else (if (bt x6 x7)=46 then (tollbarref05_Host.l1 k x6 (wrap64 (x7 + 1))) else (some ((⟨#[]⟩:ByteArray),false))))))) else (none)) else (if (x6.size:Int)=0 then (some ((⟨#[]⟩:ByteArray),false)) else (if (x6.size:Int) > 64 then (some ((⟨#[]⟩:ByteArray),false)) else (some (x6,true))))
def tollbarref05_Host.l0:Nat → ByteArray → Int → Int → Option (ByteArray × Bool)
 | 0,_,_,_=>none
 | k + 1,x0,x4,x5=>if x5 ≥ 0 then (if 0 ≤ x5 then (if x5 < (x0.size:Int) then ((tollbarref02_Digit.f (bt x0 x5)).bind fun t627=>(if t627=true then (tollbarref05_Host.l0 k x0 x4 (wrap64 (x5 - 1))) else (tollbarref05_Host.j1 k x0 x4 x5))) else (none)) else (none)) else (tollbarref05_Host.j1 k x0 x4 x5)
end
def tollbarref05_Host.f (k:Nat) (a0:ByteArray):Option (ByteArray × Bool):=tollbarref05_Host.l0 k a0 (a0.size:Int) (wrap64 ((a0.size:Int) - 1))
set_option maxHeartbeats 8000000 in
set_option maxRecDepth 100000 in
theorem tollbarref05_Host.calls (k:Nat) (a0:ByteArray) (r1:ByteArray) (r2:Bool) (w:World) (h:tollbarref05_Host.f k a0=some (r1,r2)) :
 Calls Tryz.prog 62 #[.string a0] w fun e w' => e = .returned (.tuple #[.string r1,.bool r2])∧Below w.heap.size w w' := by
 have HB:=Aside0.mk (Below.refl w.heap.size w)
 unfold tollbarref05_Host.f at h
 have H:=h
 clear h
 have HC2:=Aside0.mk H
 clear H
 go_enter Tryz.func62,Tryz.ntmps62
 go_upto_block 0 with (fail)
 go_cut [5] (fun v5 wc => ∃ (kq:Nat) (x5_1:Int),v5 = .int .i64 x5_1∧Aside0 (tollbarref05_Host.j1 kq a0 (a0.size:Int) x5_1=some (r1,r2))∧Aside0 (kq ≤ k)∧Aside0 (Below w.heap.size w wc))
 case first =>
  have H:=HC2.out
  clear HC2
  have H' := Aside0.mk H
  clear H
  go_wp2
  go_loopg [5] k (fun kq v5 w' => ∃ (x5_1:Int),v5 = .int .i64 x5_1∧Aside0 (tollbarref05_Host.l0 kq a0 (a0.size:Int) x5_1=some (r1,r2))∧Aside0 (kq ≤ k)∧Aside0 (Below w.heap.size w w'))
  case atStart=>exact ⟨(wrap64 ((a0.size:Int) - 1)),zb8,H',⟨Nat.le_refl _⟩,⟨zb0⟩⟩
  case round =>
   clear H'
   try clear p2
   obtain ⟨x5_1,rfl,HA,HK1,HB⟩:=hrel
   cases gk with
   | zero=>exact absurd HA.out (by simp [tollbarref05_Host.l0])
   | succ k1 =>
    have H:=HA.out
    clear HA
    simp only [tollbarref05_Host.l0] at H
    by_cases c3:x5_1 ≥ 0;rotate_left
    ·rw [if_neg c3] at H
     have c3b0:decide (0 ≤ x5_1)=false:=decide_eq_false c3
     clear c3
     (first|rw [c3b0]|(simp only [i64_w,i32_w];rw [c3b0])|skip)
     have H' := Aside0.mk H
     clear H
     go_wp2
     go_meet
     case rel=>exact ⟨_,(x5_1),zb8,H',⟨zb131⟩,⟨zb0⟩⟩
    rw [if_pos c3] at H
    have c3b0:decide (0 ≤ x5_1)=true:=decide_eq_true c3
    clear c3
    (first|rw [c3b0]|(simp only [i64_w,i32_w];rw [c3b0])|skip)
    by_cases c4:0 ≤ x5_1
    ·rw [if_pos c4] at H
     have c4b0:=decide_eq_true c4
     clear c4
     by_cases c5:x5_1 < (a0.size:Int)
     ·rw [if_pos c5] at H
      have c5b0:=decide_eq_true c5
      clear c5
      replace H:=Option.bind_eq_some_iff.mp H
      obtain ⟨t39,A70,H⟩:=H
      try dsimp only at H
      have A7:=Aside0.mk A70
      clear A70
      by_cases c8:t39=true
      ·subst c8
       rw [if_pos rfl] at H
       have H' := Aside0.mk H
       clear H
       have p6:0 ≤ (x5_1:Int):=of_decide_eq_true zb5
       have q6:x5_1 < (a0.size:Int):=of_decide_eq_true zb5
       have hx6:=bt_at a0 x5_1
       replace p6:=eq_true p6
       replace q6:=eq_true q6
       go_wp2_with (first|(go_at_call 105;(with_reducible refine (tollbarref02_Digit.calls (bt a0 x5_1) true _ A7.out).mono ?_);rintro e w' ⟨rfl,⟨nd,rfl⟩⟩;(try clear A7)))
       go_roundg k1
       case measure=>have:=HK1.out;omega
       case rel=>exact ⟨(wrap64 (x5_1 - 1)),zb8,H',⟨zb136⟩,⟨zb0⟩⟩
      replace c8:=Bool.eq_false_iff.mpr c8
      subst c8
      rw [if_neg (show ¬ (false=true) by decide)] at H
      have H' := Aside0.mk H
      clear H
      have p6:0 ≤ (x5_1:Int):=of_decide_eq_true zb5
      have q6:x5_1 < (a0.size:Int):=of_decide_eq_true zb5
      have hx6:=bt_at a0 x5_1
      replace p6:=eq_true p6
      replace q6:=eq_true q6
      go_wp2_with (first|(go_at_call 105;(with_reducible refine (tollbarref02_Digit.calls (bt a0 x5_1) false _ A7.out).mono ?_);rintro e w' ⟨rfl,⟨nd,rfl⟩⟩;(try clear A7)))
      go_meet
      case rel=>exact ⟨_,(x5_1),zb8,H',⟨zb131⟩,⟨zb0⟩⟩
     ·rw [if_neg c5] at H
      exact absurd H zb40
    ·rw [if_neg c4] at H
     exact absurd H zb40
 case rest =>
  clear HC2
  try clear p2
  try clear c3
  try clear c3b0
  try clear c4
  try clear c4b0
  try clear c5
  try clear c5b0
  try clear c6
  try clear p6
  try clear q6
  try clear hx6
  try clear c8
  try clear p2
  try clear p6
  try clear q6
  obtain ⟨kq,x5_1,rfl,HA,HJ1,HB⟩:=hcut
  cases kq with
  | zero=>exact absurd HA.out (by simp [tollbarref05_Host.j1])
  | succ kj1 =>
   have H:=HA.out
   clear HA
   simp only [tollbarref05_Host.j1] at H
   have HC9:=Aside0.mk H
   clear H
   go_upto_region 5 with (fail)
   go_cut [31] (fun v31 wc => ∃ (kq:Nat) (x31_8:Bool),v31 = .bool x31_8∧Aside0 (tollbarref05_Host.j2 kq a0 (a0.size:Int) x5_1 x31_8=some (r1,r2))∧Aside0 (kq ≤ kj1)∧Aside0 (Below w.heap.size w wc))
   case first =>
    have H:=HC9.out
    clear HC9
    by_cases c10:x5_1 ≥ 0;rotate_left
    ·rw [if_neg c10] at H
     have c10b0:decide (0 ≤ x5_1)=false:=decide_eq_false c10
     clear c10
     (first|rw [c10b0]|(simp only [i64_w,i32_w];rw [c10b0])|skip)
     have H' := Aside0.mk H
     clear H
     go_wp2
     go_meet
     case rel=>exact ⟨_,(false),zb8,H',⟨by have:=HJ1.out;first|omega|exact Nat.le_refl _⟩,⟨zb0⟩⟩
    rw [if_pos c10] at H
    have c10b0:decide (0 ≤ x5_1)=true:=decide_eq_true c10
    clear c10
    (first|rw [c10b0]|(simp only [i64_w,i32_w];rw [c10b0])|skip)
    by_cases c11:0 ≤ x5_1
    ·rw [if_pos c11] at H
     have c11b0:=decide_eq_true c11
     clear c11
     by_cases c12:x5_1 < (a0.size:Int)
     ·rw [if_pos c12] at H
      have c12b0:=decide_eq_true c12
      clear c12
      have H' := Aside0.mk H
      clear H
      have p13:0 ≤ (x5_1:Int):=of_decide_eq_true zb5
      have q13:x5_1 < (a0.size:Int):=of_decide_eq_true zb5
      have hx13:=bt_at a0 x5_1
      replace p13:=eq_true p13
      replace q13:=eq_true q13
      go_wp2
      go_meet
      case rel=>exact ⟨_,(((bt a0 x5_1) == 58)),zb8,H',⟨by have:=HJ1.out;first|omega|exact Nat.le_refl _⟩,⟨zb0⟩⟩
     ·rw [if_neg c12] at H
      exact absurd H zb40
    ·rw [if_neg c11] at H
     exact absurd H zb40
   case rest =>
    clear HC9
    try clear c1
    try clear p1
    try clear q1
    try clear hx1
    try clear p2
    try clear c3
    try clear c3b0
    try clear c4
    try clear c4b0
    try clear c5
    try clear c5b0
    try clear c6
    try clear p6
    try clear q6
    try clear hx6
    try clear c8
    try clear c10
    try clear c10b0
    try clear c11
    try clear c11b0
    try clear c12
    try clear c12b0
    try clear p13
    try clear q13
    try clear hx13
    try clear p13
    try clear p2
    try clear p6
    try clear q13
    try clear q6
    obtain ⟨kq,x31_8,rfl,HA,HJ8,HB⟩:=hcut
    cases kq with
    | zero=>exact absurd HA.out (by simp [tollbarref05_Host.j2])
    | succ kj8 =>
     have H:=HA.out
     clear HA
     simp only [tollbarref05_Host.j2] at H
     have HC14:=Aside0.mk H
     clear H
     go_upto_if 31 with (fail)
     go_cut [4] (fun v4 wc => ∃ (kq:Nat) (x4_13:Int),v4 = .int .i64 x4_13∧Aside0 (tollbarref05_Host.j3 kq a0 x4_13=some (r1,r2))∧Aside0 (kq ≤ kj8)∧Aside0 (Below w.heap.size w wc))
     case first =>
      have H:=HC14.out
      clear HC14
      by_cases c15:x31_8=true
      ·subst c15
       rw [if_pos rfl] at H
       have H' := Aside0.mk H
       clear H
       go_wp2
       go_meet
       case rel=>exact ⟨_,(x5_1),zb8,H',⟨by have:=HJ1.out;have:=HJ8.out;first|omega|exact Nat.le_refl _⟩,⟨zb0⟩⟩
      replace c15:=Bool.eq_false_iff.mpr c15
      subst c15
      rw [if_neg (show ¬ (false=true) by decide)] at H
      have H' := Aside0.mk H
      clear H
      go_wp2
      go_meet
      case rel=>exact ⟨_,((a0.size:Int)),zb8,H',⟨by have:=HJ1.out;have:=HJ8.out;first|omega|exact Nat.le_refl _⟩,⟨zb0⟩⟩
     case rest =>
      clear HC14
      try clear c1
      try clear p1
      try clear q1
      try clear hx1
      try clear p2
      try clear c3
      try clear c3b0
      try clear c4
      try clear c4b0
      try clear c5
      try clear c5b0
      try clear c6
      try clear p6
      try clear q6
      try clear hx6
      try clear c8
      try clear c10
      try clear c10b0
      try clear c11
      try clear c11b0
      try clear c12
      try clear c12b0
      try clear p13
      try clear q13
      try clear hx13
      try clear c15
      try clear p1
      try clear p13
      try clear p2
      try clear p6
      try clear q1
      try clear q13
      try clear q6
      obtain ⟨kq,x4_13,rfl,HA,HJ13,HB⟩:=hcut
      cases kq with
      | zero=>exact absurd HA.out (by simp [tollbarref05_Host.j3])
      | succ kj13 =>
       have H:=HA.out
       clear HA
       simp only [tollbarref05_Host.j3] at H
       by_cases c16:0 ≤ x4_13;rotate_left
       ·rw [if_neg c16] at H
        exact absurd H zb40
       rw [if_pos c16] at H
       have c16b0:=eq_true c16
       have c16b1:=decide_eq_true c16
       clear c16
       by_cases c17:x4_13 ≤ (a0.size:Int)
       ·rw [if_pos c17] at H
        have c17b0:=eq_true c17
        have c17b1:=decide_eq_true c17
        clear c17
        replace H:=Option.bind_eq_some_iff.mp H
        obtain ⟨t35,A36,H⟩:=H
        try dsimp only at H
        have A18:=Aside0.mk A36
        clear A36
        have H' := Aside0.mk H
        clear H
        go_wp2_with (first|((with_reducible refine gate_callee (f:=106) rfl ?_);refine goesL_ (some 36) rfl rfl Tryz.func106 zb10 rfl #[.string (a0.extract 0 (x4_13:Int).toNat)] rfl zb1 ?_;(with_reducible refine (tollbarref02_Fold.calls kj13 (a0.extract 0 (x4_13:Int).toNat) t35 _ A18.out).mono ?_);rintro e w19 ⟨rfl,hb⟩;(try clear A18);refine ⟨_,rfl,?_⟩;replace HB:=Aside0.mk (below_step zb0 hb);(try clear hb)))
        go_loopg [7] kj13 (fun kq v7 w' => ∃ (x7_4:Int),v7 = .int .i64 x7_4∧Aside0 (tollbarref05_Host.l1 kq t35 x7_4=some (r1,r2))∧Aside0 (kq ≤ kj13)∧Aside0 (Below w.heap.size w w'))
        case atStart=>exact ⟨(0),zb8,H',⟨Nat.le_refl _⟩,⟨zb0⟩⟩
        case round =>
         clear H'
         try clear c1
         try clear p1
         try clear q1
         try clear hx1
         try clear p2
         try clear c3
         try clear c3b0
         try clear c4
         try clear c4b0
         try clear c5
         try clear c5b0
         try clear c6
         try clear p6
         try clear q6
         try clear hx6
         try clear c8
         try clear c10
         try clear c10b0
         try clear c11
         try clear c11b0
         try clear c12
         try clear c12b0
         try clear p13
         try clear q13
         try clear hx13
         try clear c15
         try clear c16
         try clear c16b0
         try clear c16b1
         try clear c17
         try clear c17b0
         try clear c17b1
         try clear p1
         try clear p13
         try clear p2
         try clear p6
         try clear q1
         try clear q13
         try clear q6
         obtain ⟨x7_4,rfl,HA,HK4,HB⟩:=hrel
         cases gk with
         | zero=>exact absurd HA.out (by simp [tollbarref05_Host.l1])
         | succ k4 =>
          have H:=HA.out
          clear HA
          simp only [tollbarref05_Host.l1] at H
          by_cases c20:x7_4 < (t35.size:Int);rotate_left
          ·rw [if_neg c20] at H
           have c20b0:=decide_eq_false c20
           clear c20
           by_cases c33:(t35.size:Int)=0
           ·rw [if_pos c33] at H
            have c33b0:=beq_iff_eq.mpr c33
            have c33b1:=bne_eq_false_iff_eq.mpr c33
            clear c33
            simp only [Option.some.injEq,Prod.mk.injEq] at H
            obtain ⟨rfl,rfl⟩:=H
            go_wp2
            go_ret2
            exact ⟨zb3,zb0⟩
           rw [if_neg c33] at H
           have c33b0:=beq_eq_false_iff_ne.mpr c33
           have c33b1:=bne_iff_ne.mpr c33
           by_cases c34:(t35.size:Int) > 64
           ·rw [if_pos c34] at H
            have c34b0:decide (64 < (t35.size:Int))=true:=decide_eq_true c34
            have c34b1:decide (64 < t35.size)=true:=decide_eq_true zb30
            clear c34
            simp only [Option.some.injEq,Prod.mk.injEq] at H
            obtain ⟨rfl,rfl⟩:=H
            go_wp2
            go_ret2
            exact ⟨zb3,zb0⟩
           rw [if_neg c34] at H
           have c34b0:decide (64 < (t35.size:Int))=false:=decide_eq_false c34
           have c34b1:decide (64 < t35.size)=false:=decide_eq_false zb30
           clear c34
           simp only [Option.some.injEq,Prod.mk.injEq] at H
           obtain ⟨rfl,rfl⟩:=H
           go_wp2
           go_ret2
           exact ⟨zb3,zb0⟩
          rw [if_pos c20] at H
          have c20b0:=decide_eq_true c20
          clear c20
          by_cases c21:0 ≤ x7_4
          ·rw [if_pos c21] at H
           have c21b0:=decide_eq_true c21
           clear c21
           by_cases c23:(bt t35 x7_4) ≥ 97;rotate_left
           ·rw [if_neg c23] at H
            have c23b0:decide (97 ≤ (bt t35 x7_4))=false:=decide_eq_false c23
            clear c23
            replace H:=Option.bind_eq_some_iff.mp H
            obtain ⟨t41,A38,H⟩:=H
            try dsimp only at H
            have A29:=Aside0.mk A38
            clear A38
            by_cases c30:t41=true
            ·subst c30
             rw [if_pos rfl] at H
             have H' := Aside0.mk H
             clear H
             have p22:0 ≤ (x7_4:Int):=of_decide_eq_true zb5
             have q22:x7_4 < (t35.size:Int):=of_decide_eq_true zb5
             have hx22:=bt_at t35 x7_4
             replace p22:=eq_true p22
             replace q22:=eq_true q22
             go_wp2_with (first|(go_at_call 105;(with_reducible refine (tollbarref02_Digit.calls (bt t35 x7_4) true _ A29.out).mono ?_);rintro e w' ⟨rfl,⟨nd,rfl⟩⟩;(try clear A29)))
             go_roundg k4
             case measure=>have:=HJ1.out;have:=HJ8.out;have:=HJ13.out;have:=HK4.out;omega
             case rel=>exact ⟨(wrap64 (x7_4 + 1)),zb8,H',⟨zb135⟩,⟨zb0⟩⟩
            replace c30:=Bool.eq_false_iff.mpr c30
            subst c30
            rw [if_neg (show ¬ (false=true) by decide)] at H
            by_cases c31:(bt t35 x7_4)=45
            ·rw [if_pos c31] at H
             have c31b0:=beq_iff_eq.mpr c31
             have c31b1:=bne_eq_false_iff_eq.mpr c31
             clear c31
             have H' := Aside0.mk H
             clear H
             have p22:0 ≤ (x7_4:Int):=of_decide_eq_true zb5
             have q22:x7_4 < (t35.size:Int):=of_decide_eq_true zb5
             have hx22:=bt_at t35 x7_4
             replace p22:=eq_true p22
             replace q22:=eq_true q22
             go_wp2_with (first|(go_at_call 105;(with_reducible refine (tollbarref02_Digit.calls (bt t35 x7_4) false _ A29.out).mono ?_);rintro e w' ⟨rfl,⟨nd,rfl⟩⟩;(try clear A29)))
             go_roundg k4
             case measure=>have:=HJ1.out;have:=HJ8.out;have:=HJ13.out;have:=HK4.out;omega
             case rel=>exact ⟨(wrap64 (x7_4 + 1)),zb8,H',⟨zb135⟩,⟨zb0⟩⟩
            rw [if_neg c31] at H
            have c31b0:=beq_eq_false_iff_ne.mpr c31
            have c31b1:=bne_iff_ne.mpr c31
            by_cases c32:(bt t35 x7_4)=46;rotate_left
            ·rw [if_neg c32] at H
             have c32b0:=beq_eq_false_iff_ne.mpr c32
             have c32b1:=bne_iff_ne.mpr c32
             simp only [Option.some.injEq,Prod.mk.injEq] at H
             obtain ⟨rfl,rfl⟩:=H
             have p22:0 ≤ (x7_4:Int):=of_decide_eq_true zb5
             have q22:x7_4 < (t35.size:Int):=of_decide_eq_true zb5
             have hx22:=bt_at t35 x7_4
             replace p22:=eq_true p22
             replace q22:=eq_true q22
             go_wp2_with (first|(go_at_call 105;(with_reducible refine (tollbarref02_Digit.calls (bt t35 x7_4) false _ A29.out).mono ?_);rintro e w' ⟨rfl,⟨nd,rfl⟩⟩;(try clear A29)))
             go_ret2
             exact ⟨zb3,zb0⟩
            rw [if_pos c32] at H
            have c32b0:=beq_iff_eq.mpr c32
            have c32b1:=bne_eq_false_iff_eq.mpr c32
            clear c32
            have H' := Aside0.mk H
            clear H
            have p22:0 ≤ (x7_4:Int):=of_decide_eq_true zb5
            have q22:x7_4 < (t35.size:Int):=of_decide_eq_true zb5
            have hx22:=bt_at t35 x7_4
            replace p22:=eq_true p22
            replace q22:=eq_true q22
            go_wp2_with (first|(go_at_call 105;(with_reducible refine (tollbarref02_Digit.calls (bt t35 x7_4) false _ A29.out).mono ?_);rintro e w' ⟨rfl,⟨nd,rfl⟩⟩;(try clear A29)))
            go_roundg k4
            case measure=>have:=HJ1.out;have:=HJ8.out;have:=HJ13.out;have:=HK4.out;omega
            case rel=>exact ⟨(wrap64 (x7_4 + 1)),zb8,H',⟨zb135⟩,⟨zb0⟩⟩
           rw [if_pos c23] at H
           have c23b0:decide (97 ≤ (bt t35 x7_4))=true:=decide_eq_true c23
           clear c23
           by_cases c24:((bt t35 x7_4) ≤ 122)
           ·rw [if_pos c24] at H
            have c24b0:decide ((bt t35 x7_4) ≤ 122)=true:=decide_eq_true c24
            clear c24
            have H' := Aside0.mk H
            clear H
            have p22:0 ≤ (x7_4:Int):=of_decide_eq_true zb5
            have q22:x7_4 < (t35.size:Int):=of_decide_eq_true zb5
            have hx22:=bt_at t35 x7_4
            replace p22:=eq_true p22
            replace q22:=eq_true q22
            go_wp2
            go_roundg k4
            case measure=>have:=HJ1.out;have:=HJ8.out;have:=HJ13.out;have:=HK4.out;omega
            case rel=>exact ⟨(wrap64 (x7_4 + 1)),zb8,H',⟨zb135⟩,⟨zb0⟩⟩
           ·rw [if_neg c24] at H
            have c24b0:decide ((bt t35 x7_4) ≤ 122)=false:=decide_eq_false c24
            clear c24
            replace H:=Option.bind_eq_some_iff.mp H
            obtain ⟨t40,A37,H⟩:=H
            try dsimp only at H
            have A25:=Aside0.mk A37
            clear A37
            by_cases c26:t40=true
            ·subst c26
             rw [if_pos rfl] at H
             have H' := Aside0.mk H
             clear H
             have p22:0 ≤ (x7_4:Int):=of_decide_eq_true zb5
             have q22:x7_4 < (t35.size:Int):=of_decide_eq_true zb5
             have hx22:=bt_at t35 x7_4
             replace p22:=eq_true p22
             replace q22:=eq_true q22
             go_wp2_with (first|(go_at_call 105;(with_reducible refine (tollbarref02_Digit.calls (bt t35 x7_4) true _ A25.out).mono ?_);rintro e w' ⟨rfl,⟨nd,rfl⟩⟩;(try clear A25)))
             go_roundg k4
             case measure=>have:=HJ1.out;have:=HJ8.out;have:=HJ13.out;have:=HK4.out;omega
             case rel=>exact ⟨(wrap64 (x7_4 + 1)),zb8,H',⟨zb135⟩,⟨zb0⟩⟩
            ·replace c26:=Bool.eq_false_iff.mpr c26
             subst c26
             rw [if_neg (show ¬ (false=true) by decide)] at H
             by_cases c27:(bt t35 x7_4)=45
             ·rw [if_pos c27] at H
              have c27b0:=beq_iff_eq.mpr c27
              have c27b1:=bne_eq_false_iff_eq.mpr c27
              clear c27
              have H' := Aside0.mk H
              clear H
              have p22:0 ≤ (x7_4:Int):=of_decide_eq_true zb5
              have q22:x7_4 < (t35.size:Int):=of_decide_eq_true zb5
              have hx22:=bt_at t35 x7_4
              replace p22:=eq_true p22
              replace q22:=eq_true q22
              go_wp2_with (first|(go_at_call 105;(with_reducible refine (tollbarref02_Digit.calls (bt t35 x7_4) false _ A25.out).mono ?_);rintro e w' ⟨rfl,⟨nd,rfl⟩⟩;(try clear A25)))
              go_roundg k4
              case measure=>have:=HJ1.out;have:=HJ8.out;have:=HJ13.out;have:=HK4.out;omega
              case rel=>exact ⟨(wrap64 (x7_4 + 1)),zb8,H',⟨zb135⟩,⟨zb0⟩⟩
             ·rw [if_neg c27] at H
              have c27b0:=beq_eq_false_iff_ne.mpr c27
              have c27b1:=bne_iff_ne.mpr c27
              by_cases c28:(bt t35 x7_4)=46
              ·rw [if_pos c28] at H
               have c28b0:=beq_iff_eq.mpr c28
               have c28b1:=bne_eq_false_iff_eq.mpr c28
               clear c28
               have H' := Aside0.mk H
               clear H
               have p22:0 ≤ (x7_4:Int):=of_decide_eq_true zb5
               have q22:x7_4 < (t35.size:Int):=of_decide_eq_true zb5
               have hx22:=bt_at t35 x7_4
               replace p22:=eq_true p22
               replace q22:=eq_true q22
               go_wp2_with (first|(go_at_call 105;(with_reducible refine (tollbarref02_Digit.calls (bt t35 x7_4) false _ A25.out).mono ?_);rintro e w' ⟨rfl,⟨nd,rfl⟩⟩;(try clear A25)))
               go_roundg k4
               case measure=>have:=HJ1.out;have:=HJ8.out;have:=HJ13.out;have:=HK4.out;omega
               case rel=>exact ⟨(wrap64 (x7_4 + 1)),zb8,H',⟨zb135⟩,⟨zb0⟩⟩
              ·rw [if_neg c28] at H
               have c28b0:=beq_eq_false_iff_ne.mpr c28
               have c28b1:=bne_iff_ne.mpr c28
               simp only [Option.some.injEq,Prod.mk.injEq] at H
               obtain ⟨rfl,rfl⟩:=H
               have p22:0 ≤ (x7_4:Int):=of_decide_eq_true zb5
               have q22:x7_4 < (t35.size:Int):=of_decide_eq_true zb5
               have hx22:=bt_at t35 x7_4
               replace p22:=eq_true p22
               replace q22:=eq_true q22
               go_wp2_with (first|(go_at_call 105;(with_reducible refine (tollbarref02_Digit.calls (bt t35 x7_4) false _ A25.out).mono ?_);rintro e w' ⟨rfl,⟨nd,rfl⟩⟩;(try clear A25)))
               go_ret2
               exact ⟨zb3,zb0⟩
          ·rw [if_neg c21] at H
           exact absurd H zb40
       ·rw [if_neg c17] at H
        exact absurd H zb40
def tollbarref04_Same.l0:Nat → List (S55) → List (S55) → Int → Option (Bool)
 | 0,_,_,_=>none
 | k + 1,x0,x1,x5=>if x5 < (x0.length:Int) then (if 0 ≤ x5 then (if x5 < (x1.length:Int) then (if ((rd_T55 x0 x5).f0).toList=((rd_T55 x1 x5).f0).toList then (if ((rd_T55 x0 x5).f1).toList=((rd_T55 x1 x5).f1).toList then (tollbarref04_Same.l0 k x0 x1 (wrap64 (x5 + 1))) else (some false)) else (some false)) else (none)) else (none)) else (some true)
def tollbarref04_Same.f (k:Nat) (l0:List (S55)) (l1:List (S55)):Option (Bool):=if (l0.length:Int)=(l1.length:Int) then (tollbarref04_Same.l0 k l0 l1 0) else (some false)
set_option maxHeartbeats 8000000 in
set_option maxRecDepth 100000 in
theorem tollbarref04_Same.calls (k:Nat) (A0:Option Addr) (c0:Nat) (l0:List (S55)) (A1:Option Addr) (c1:Nat) (l1:List (S55)) (r:Bool) (w:World) (hr0:Kd.C k55 w A0 l0.length l0) (hc0:l0.length ≤ c0) (hr1:Kd.C k55 w A1 l1.length l1) (hc1:l1.length ≤ c1) (h:tollbarref04_Same.f k l0 l1=some r) :
 Calls Tryz.prog 41 #[.slice A0 l0.length c0,.slice A1 l1.length c1] w fun e w' => e = .returned (.bool r)∧Drawn0 w w' := by
 have HR0:=Aside0.mk hr0
 have HC0:=Aside0.mk hc0
 clear hr0 hc0
 have HR1:=Aside0.mk hr1
 have HC1:=Aside0.mk hc1
 clear hr1 hc1
 unfold tollbarref04_Same.f at h
 have H:=h
 clear h
 by_cases c3:(l0.length:Int)=(l1.length:Int);rotate_left
 ·rw [if_neg c3] at H
  have c3b0:=beq_eq_false_iff_ne.mpr c3
  have c3b1:=bne_iff_ne.mpr c3
  have c3b2:(l0.length == l1.length)=false:=by first|simpa using c3|(simp at c3 ⊢;omega)
  obtain rfl:=Option.some.inj H
  go_enter Tryz.func41,Tryz.ntmps41
  go_wp2
  repeat (go_quiet (fail);try go_wp2)
  go_ret
  exact ⟨zb8,zb17⟩
 rw [if_pos c3] at H
 have c3b0:=beq_iff_eq.mpr c3
 have c3b1:=bne_eq_false_iff_eq.mpr c3
 have c3b2:(l0.length == l1.length)=true:=by first|simpa using c3|(simp at c3 ⊢;omega)
 clear c3
 have H' := Aside0.mk H
 clear H
 go_enter Tryz.func41,Tryz.ntmps41
 go_wp2
 repeat (go_quiet (fail);try go_wp2)
 go_loopg [5] k (fun kq v5 w' => ∃ (x5_1:Int),v5 = .int .i64 x5_1∧Aside0 (tollbarref04_Same.l0 kq l0 l1 x5_1=some r)∧Aside0 (kq ≤ k)∧Drawn0 w w')
 case atStart=>exact ⟨(0),zb8,H',⟨Nat.le_refl _⟩,zb17⟩
 case round =>
  clear H'
  try clear c1
  try clear p2
  try clear c3
  try clear c3b0
  try clear c3b1
  try clear c3b2
  obtain ⟨x5_1,rfl,HA,HK1,⟨m1,rfl⟩⟩:=hrel
  cases gk with
  | zero=>exact absurd HA.out (by simp [tollbarref04_Same.l0])
  | succ k1 =>
   have H:=HA.out
   clear HA
   simp only [tollbarref04_Same.l0] at H
   by_cases c4:x5_1 < (l0.length:Int)
   ·rw [if_pos c4] at H
    have c4b0:=decide_eq_true c4
    clear c4
    by_cases c5:0 ≤ x5_1
    ·rw [if_pos c5] at H
     have c5b0:=decide_eq_true c5
     clear c5
     by_cases c6:x5_1 < (l1.length:Int);rotate_left
     ·rw [if_neg c6] at H
      exact absurd H zb40
     rw [if_pos c6] at H
     have c6b0:=decide_eq_true c6
     clear c6
     by_cases c7:((rd_T55 l0 x5_1).f0).toList=((rd_T55 l1 x5_1).f0).toList;rotate_left
     ·rw [if_neg c7] at H
      have c7b0:=beq_eq_false_iff_ne.mpr c7
      have c7b1:=bne_iff_ne.mpr c7
      obtain rfl:=Option.some.inj H
      have p336:0 ≤ (x5_1:Int):=of_decide_eq_true zb5
      have q336:x5_1 < (l0.length:Int):=of_decide_eq_true zb5
      obtain ⟨ad336,e336,hx336_0,hx336_1⟩:=at_T55 HR0.out x5_1 p336 q336
      cases e336
      replace p336:=eq_true p336
      replace q336:=eq_true q336
      have p337:0 ≤ (x5_1:Int):=of_decide_eq_true zb5
      have q337:x5_1 < (l1.length:Int):=of_decide_eq_true zb5
      obtain ⟨ad337,e337,hx337_0,hx337_1⟩:=at_T55 HR1.out x5_1 p337 q337
      cases e337
      replace p337:=eq_true p337
      replace q337:=eq_true q337
      go_wp2
      repeat (go_quiet (fail);try go_wp2)
      go_ret
      exact ⟨zb8,zb17⟩
     rw [if_pos c7] at H
     have c7b0:=beq_iff_eq.mpr c7
     have c7b1:=bne_eq_false_iff_eq.mpr c7
     clear c7
     by_cases c8:((rd_T55 l0 x5_1).f1).toList=((rd_T55 l1 x5_1).f1).toList;rotate_left
     ·rw [if_neg c8] at H
      have c8b0:=beq_eq_false_iff_ne.mpr c8
      have c8b1:=bne_iff_ne.mpr c8
      obtain rfl:=Option.some.inj H
      have p336:0 ≤ (x5_1:Int):=of_decide_eq_true zb5
      have q336:x5_1 < (l0.length:Int):=of_decide_eq_true zb5
      obtain ⟨ad336,e336,hx336_0,hx336_1⟩:=at_T55 HR0.out x5_1 p336 q336
      cases e336
      replace p336:=eq_true p336
      replace q336:=eq_true q336
      have p337:0 ≤ (x5_1:Int):=of_decide_eq_true zb5
      have q337:x5_1 < (l1.length:Int):=of_decide_eq_true zb5
      obtain ⟨ad337,e337,hx337_0,hx337_1⟩:=at_T55 HR1.out x5_1 p337 q337
      cases e337
      replace p337:=eq_true p337
      replace q337:=eq_true q337
      have p338:0 ≤ (x5_1:Int):=of_decide_eq_true zb5
      have q338:x5_1 < (l0.length:Int):=of_decide_eq_true zb5
      obtain ⟨ad338,e338,hx338_0,hx338_1⟩:=at_T55 HR0.out x5_1 p338 q338
      obtain rfl:ad336=ad338:=(by injection e338)
      replace p338:=eq_true p338
      replace q338:=eq_true q338
      have p339:0 ≤ (x5_1:Int):=of_decide_eq_true zb5
      have q339:x5_1 < (l1.length:Int):=of_decide_eq_true zb5
      obtain ⟨ad339,e339,hx339_0,hx339_1⟩:=at_T55 HR1.out x5_1 p339 q339
      obtain rfl:ad337=ad339:=(by injection e339)
      replace p339:=eq_true p339
      replace q339:=eq_true q339
      go_wp2
      repeat (go_quiet (fail);try go_wp2)
      go_ret
      exact ⟨zb8,zb17⟩
     rw [if_pos c8] at H
     have c8b0:=beq_iff_eq.mpr c8
     have c8b1:=bne_eq_false_iff_eq.mpr c8
     clear c8
     have H' := Aside0.mk H
     clear H
     have p336:0 ≤ (x5_1:Int):=of_decide_eq_true zb5
     have q336:x5_1 < (l0.length:Int):=of_decide_eq_true zb5
     obtain ⟨ad336,e336,hx336_0,hx336_1⟩:=at_T55 HR0.out x5_1 p336 q336
     cases e336
     replace p336:=eq_true p336
     replace q336:=eq_true q336
     have p337:0 ≤ (x5_1:Int):=of_decide_eq_true zb5
     have q337:x5_1 < (l1.length:Int):=of_decide_eq_true zb5
     obtain ⟨ad337,e337,hx337_0,hx337_1⟩:=at_T55 HR1.out x5_1 p337 q337
     cases e337
     replace p337:=eq_true p337
     replace q337:=eq_true q337
     have p338:0 ≤ (x5_1:Int):=of_decide_eq_true zb5
     have q338:x5_1 < (l0.length:Int):=of_decide_eq_true zb5
     obtain ⟨ad338,e338,hx338_0,hx338_1⟩:=at_T55 HR0.out x5_1 p338 q338
     obtain rfl:ad336=ad338:=(by injection e338)
     replace p338:=eq_true p338
     replace q338:=eq_true q338
     have p339:0 ≤ (x5_1:Int):=of_decide_eq_true zb5
     have q339:x5_1 < (l1.length:Int):=of_decide_eq_true zb5
     obtain ⟨ad339,e339,hx339_0,hx339_1⟩:=at_T55 HR1.out x5_1 p339 q339
     obtain rfl:ad337=ad339:=(by injection e339)
     replace p339:=eq_true p339
     replace q339:=eq_true q339
     go_wp2
     repeat (go_quiet (fail);try go_wp2)
     go_roundg k1
     case measure=>have:=HK1.out;omega
     case rel=>exact ⟨(wrap64 (x5_1 + 1)),zb8,H',⟨zb136⟩,zb17⟩
    ·rw [if_neg c5] at H
     exact absurd H zb40
   ·rw [if_neg c4] at H
    have c4b0:=decide_eq_false c4
    clear c4
    obtain rfl:=Option.some.inj H
    go_wp2
    repeat (go_quiet (fail);try go_wp2)
    go_ret
    exact ⟨zb8,zb17⟩
def tollbarref08_SameReq.f (k:Nat) (a0_0:ByteArray) (a0_1:ByteArray) (a0_2:Int) (l0_3:List (S55)) (l0_4:List Int) (a1_0:ByteArray) (a1_1:ByteArray) (a1_2:Int) (l1_3:List (S55)) (l1_4:List Int):Option (Bool):=if a0_0.toList=a1_0.toList then (if a0_1.toList=a1_1.toList then (if a0_2=a1_2 then ((tollbarref04_Same.f k l0_3 l1_3).bind fun t788=>(if t788=true then ((tollbarref01_SameBytes.f k l0_4 l1_4).bind fun t789=>(some t789)) else (some false))) else (some false)) else (some false)) else (some false)
set_option maxHeartbeats 8000000 in
set_option maxRecDepth 100000 in
theorem tollbarref08_SameReq.calls (k:Nat) (a0_0:ByteArray) (a0_1:ByteArray) (a0_2:Int) (A0_3:Option Addr) (c0_3:Nat) (l0_3:List (S55)) (A0_4:Option Addr) (c0_4:Nat) (l0_4:List Int) (a1_0:ByteArray) (a1_1:ByteArray) (a1_2:Int) (A1_3:Option Addr) (c1_3:Nat) (l1_3:List (S55)) (A1_4:Option Addr) (c1_4:Nat) (l1_4:List Int) (r:Bool) (w:World) (hr0_3:Kd.C k55 w A0_3 l0_3.length l0_3) (hc0_3:l0_3.length ≤ c0_3) (hr0_4:Kd.C (Kd.int .u8) w A0_4 l0_4.length l0_4) (hc0_4:l0_4.length ≤ c0_4) (hr1_3:Kd.C k55 w A1_3 l1_3.length l1_3) (hc1_3:l1_3.length ≤ c1_3) (hr1_4:Kd.C (Kd.int .u8) w A1_4 l1_4.length l1_4) (hc1_4:l1_4.length ≤ c1_4) (h:tollbarref08_SameReq.f k a0_0 a0_1 a0_2 l0_3 l0_4 a1_0 a1_1 a1_2 l1_3 l1_4=some r) :
 Calls Tryz.prog 24 #[.agg #[.string a0_0,.string a0_1,.int .i64 a0_2,.slice A0_3 l0_3.length c0_3,.slice A0_4 l0_4.length c0_4],.agg #[.string a1_0,.string a1_1,.int .i64 a1_2,.slice A1_3 l1_3.length c1_3,.slice A1_4 l1_4.length c1_4]] w fun e w' => e = .returned (.bool r)∧Below w.heap.size w w' := by
 have hu33:=Tryz.underlying33
 have HR0_3:=Aside0.mk hr0_3
 have HC0_3:=Aside0.mk hc0_3
 clear hr0_3 hc0_3
 have HR0_4:=Aside0.mk hr0_4
 have HC0_4:=Aside0.mk hc0_4
 clear hr0_4 hc0_4
 have HR1_3:=Aside0.mk hr1_3
 have HC1_3:=Aside0.mk hc1_3
 clear hr1_3 hc1_3
 have HR1_4:=Aside0.mk hr1_4
 have HC1_4:=Aside0.mk hc1_4
 clear hr1_4 hc1_4
 have HB:=Aside0.mk (Below.refl w.heap.size w)
 unfold tollbarref08_SameReq.f at h
 have H:=h
 clear h
 by_cases c3:a0_0.toList=a1_0.toList;rotate_left
 ·rw [if_neg c3] at H
  have c3b0:=beq_eq_false_iff_ne.mpr c3
  have c3b1:=bne_iff_ne.mpr c3
  obtain rfl:=Option.some.inj H
  go_enter Tryz.func24,Tryz.ntmps24
  go_wp2_with (first|((with_reducible refine gate_dst (N:=2) rfl ?_);refine box_event rfl (N:=2) rfl (cs:=#[.string a0_0,.string a0_1,.int .i64 a0_2,.slice A0_3 l0_3.length c0_3,.slice A0_4 l0_4.length c0_4]) (t:=33) zS ?_;intro gb34 hg w29 hbox hb;have GW34:=zG hg zb0;have GE34:=GW34;have BK34:=Aside0.mk hbox;replace HB:=Aside0.mk (below_step zb0 hb);clear hb hbox hg)|((with_reducible refine gate_dst (N:=3) rfl ?_);refine box_event rfl (N:=3) rfl (cs:=#[.string a1_0,.string a1_1,.int .i64 a1_2,.slice A1_3 l1_3.length c1_3,.slice A1_4 l1_4.length c1_4]) (t:=33) zS ?_;intro gb35 hg w30 hbox hb;have BK35:=Aside0.mk (hbox);have GW35:=zG hg zb45;have GE35:=GW35;replace HB:=Aside0.mk (below_step zb45 hb);have NB34_787:=Aside0.mk ((by rw [hg];exact Nat.ne_of_lt (blk_lt (g:=gb34) (o:=.cells #[.string a0_0,.string a0_1,.int .i64 a0_2,.slice A0_3 l0_3.length c0_3,.slice A0_4 l0_4.length c0_4] 33 (0,0)) zb41):gb34 ≠ gb35));have NB35_786:=Aside0.mk ((by rw [hg];exact Nat.ne_of_gt (blk_lt (g:=gb34) (o:=.cells #[.string a0_0,.string a0_1,.int .i64 a0_2,.slice A0_3 l0_3.length c0_3,.slice A0_4 l0_4.length c0_4] 33 (0,0)) zb41):gb35 ≠ gb34));replace BK34:=Aside0.mk (blk_below (g:=gb34) (o:=.cells #[.string a0_0,.string a0_1,.int .i64 a0_2,.slice A0_3 l0_3.length c0_3,.slice A0_4 l0_4.length c0_4] 33 (0,0)) zb41 hb);clear hb hbox hg;have hnb31:=NB34_787.out;have hnc31:=NB35_786.out;obtain ⟨hcz32_0,hcz32_1,hcz32_2,hcz32_3,hcz32_4,hfz32_0,hfz32_1,hfz32_2,hfz32_3,hfz32_4⟩:=zq5 BK34.out;obtain ⟨hcz33_0,hcz33_1,hcz33_2,hcz33_3,hcz33_4,hfz33_0,hfz33_1,hfz33_2,hfz33_3,hfz33_4⟩:=zq5 BK35.out))
  go_ret
  exact ⟨zb3,zb58⟩
 rw [if_pos c3] at H
 have c3b0:=beq_iff_eq.mpr c3
 have c3b1:=bne_eq_false_iff_eq.mpr c3
 clear c3
 by_cases c4:a0_1.toList=a1_1.toList
 ·rw [if_pos c4] at H
  have c4b0:=beq_iff_eq.mpr c4
  have c4b1:=bne_eq_false_iff_eq.mpr c4
  clear c4
  by_cases c5:a0_2=a1_2;rotate_left
  ·rw [if_neg c5] at H
   have c5b0:=beq_eq_false_iff_ne.mpr c5
   have c5b1:=bne_iff_ne.mpr c5
   obtain rfl:=Option.some.inj H
   go_enter Tryz.func24,Tryz.ntmps24
   go_wp2_with (first|((with_reducible refine gate_dst (N:=2) rfl ?_);refine box_event rfl (N:=2) rfl (cs:=#[.string a0_0,.string a0_1,.int .i64 a0_2,.slice A0_3 l0_3.length c0_3,.slice A0_4 l0_4.length c0_4]) (t:=33) zS ?_;intro gb34 hg w19 hbox hb;have GW34:=zG hg zb0;have GE34:=GW34;have BK34:=Aside0.mk hbox;replace HB:=Aside0.mk (below_step zb0 hb);clear hb hbox hg)|((with_reducible refine gate_dst (N:=3) rfl ?_);refine box_event rfl (N:=3) rfl (cs:=#[.string a1_0,.string a1_1,.int .i64 a1_2,.slice A1_3 l1_3.length c1_3,.slice A1_4 l1_4.length c1_4]) (t:=33) zS ?_;intro gb35 hg w20 hbox hb;have BK35:=Aside0.mk (hbox);have GW35:=zG hg zb45;have GE35:=GW35;replace HB:=Aside0.mk (below_step zb45 hb);have NB34_787:=Aside0.mk ((by rw [hg];exact Nat.ne_of_lt (blk_lt (g:=gb34) (o:=.cells #[.string a0_0,.string a0_1,.int .i64 a0_2,.slice A0_3 l0_3.length c0_3,.slice A0_4 l0_4.length c0_4] 33 (0,0)) zb41):gb34 ≠ gb35));have NB35_786:=Aside0.mk ((by rw [hg];exact Nat.ne_of_gt (blk_lt (g:=gb34) (o:=.cells #[.string a0_0,.string a0_1,.int .i64 a0_2,.slice A0_3 l0_3.length c0_3,.slice A0_4 l0_4.length c0_4] 33 (0,0)) zb41):gb35 ≠ gb34));replace BK34:=Aside0.mk (blk_below (g:=gb34) (o:=.cells #[.string a0_0,.string a0_1,.int .i64 a0_2,.slice A0_3 l0_3.length c0_3,.slice A0_4 l0_4.length c0_4] 33 (0,0)) zb41 hb);clear hb hbox hg;have hnb21:=NB34_787.out;have hnc21:=NB35_786.out;obtain ⟨hcz22_0,hcz22_1,hcz22_2,hcz22_3,hcz22_4,hfz22_0,hfz22_1,hfz22_2,hfz22_3,hfz22_4⟩:=zq5 BK34.out;obtain ⟨hcz23_0,hcz23_1,hcz23_2,hcz23_3,hcz23_4,hfz23_0,hfz23_1,hfz23_2,hfz23_3,hfz23_4⟩:=zq5 BK35.out))
   go_ret
   exact ⟨zb3,zb58⟩
  rw [if_pos c5] at H
  have c5b0:=beq_iff_eq.mpr c5
  have c5b1:=bne_eq_false_iff_eq.mpr c5
  clear c5
  replace H:=Option.bind_eq_some_iff.mp H
  obtain ⟨t37,A60,H⟩:=H
  try dsimp only at H
  have A6:=Aside0.mk A60
  clear A60
  by_cases c7:t37=true
  ·subst c7
   rw [if_pos rfl] at H
   replace H:=Option.bind_eq_some_iff.mp H
   obtain ⟨t36,A80,H⟩:=H
   try dsimp only at H
   have A8:=Aside0.mk A80
   clear A80
   obtain rfl:=Option.some.inj H
   go_enter Tryz.func24,Tryz.ntmps24
   go_wp2_with (first|((with_reducible refine gate_dst (N:=2) rfl ?_);refine box_event rfl (N:=2) rfl (cs:=#[.string a0_0,.string a0_1,.int .i64 a0_2,.slice A0_3 l0_3.length c0_3,.slice A0_4 l0_4.length c0_4]) (t:=33) zS ?_;intro gb34 hg w9 hbox hb;have GW34:=zG hg zb0;have GE34:=GW34;have BK34:=Aside0.mk hbox;replace HB:=Aside0.mk (below_step zb0 hb);clear hb hbox hg)|((with_reducible refine gate_dst (N:=3) rfl ?_);refine box_event rfl (N:=3) rfl (cs:=#[.string a1_0,.string a1_1,.int .i64 a1_2,.slice A1_3 l1_3.length c1_3,.slice A1_4 l1_4.length c1_4]) (t:=33) zS ?_;intro gb35 hg w10 hbox hb;have BK35:=Aside0.mk (hbox);have GW35:=zG hg zb45;have GE35:=GW35;replace HB:=Aside0.mk (below_step zb45 hb);have NB34_787:=Aside0.mk ((by rw [hg];exact Nat.ne_of_lt (blk_lt (g:=gb34) (o:=.cells #[.string a0_0,.string a0_1,.int .i64 a0_2,.slice A0_3 l0_3.length c0_3,.slice A0_4 l0_4.length c0_4] 33 (0,0)) zb41):gb34 ≠ gb35));have NB35_786:=Aside0.mk ((by rw [hg];exact Nat.ne_of_gt (blk_lt (g:=gb34) (o:=.cells #[.string a0_0,.string a0_1,.int .i64 a0_2,.slice A0_3 l0_3.length c0_3,.slice A0_4 l0_4.length c0_4] 33 (0,0)) zb41):gb35 ≠ gb34));replace BK34:=Aside0.mk (blk_below (g:=gb34) (o:=.cells #[.string a0_0,.string a0_1,.int .i64 a0_2,.slice A0_3 l0_3.length c0_3,.slice A0_4 l0_4.length c0_4] 33 (0,0)) zb41 hb);clear hb hbox hg;have hnb11:=NB34_787.out;have hnc11:=NB35_786.out;obtain ⟨hcz12_0,hcz12_1,hcz12_2,hcz12_3,hcz12_4,hfz12_0,hfz12_1,hfz12_2,hfz12_3,hfz12_4⟩:=zq5 BK34.out;obtain ⟨hcz13_0,hcz13_1,hcz13_2,hcz13_3,hcz13_4,hfz13_0,hfz13_1,hfz13_2,hfz13_3,hfz13_4⟩:=zq5 BK35.out)|(go_at_call 41;(with_reducible refine (tollbarref04_Same.calls k _ _ l0_3 _ _ l1_3 true _ ?side1 ?side2 ?side3 ?side4 A6.out).mono ?_);(case side1=>exact zb34);(case side2=>exact HC0_3.out);(case side3=>exact zb57);(case side4=>exact HC1_3.out);rintro e w' ⟨rfl,⟨nd,rfl⟩⟩;(try clear A6))|(go_at_call 35;(with_reducible refine (tollbarref01_SameBytes.calls k _ _ l0_4 _ _ l1_4 t36 _ ?side1 ?side2 ?side3 ?side4 A8.out).mono ?_);(case side1=>repeat (first|exact (Kd.C_below HR0_4.out zb58)|(with_reducible refine Kd.C_alloc ?_ _)|(with_reducible refine Kd.C_drewN ?_ _)|(with_reducible refine Kd.C_drew ?_)));(case side2=>exact HC0_4.out);(case side3=>repeat (first|exact (Kd.C_below HR1_4.out zb58)|(with_reducible refine Kd.C_alloc ?_ _)|(with_reducible refine Kd.C_drewN ?_ _)|(with_reducible refine Kd.C_drew ?_)));(case side4=>exact HC1_4.out);rintro e w' ⟨rfl,⟨nd,rfl⟩⟩;(try clear A8)))
   go_ret
   exact ⟨zb3,zb58⟩
  ·replace c7:=Bool.eq_false_iff.mpr c7
   subst c7
   rw [if_neg (show ¬ (false=true) by decide)] at H
   obtain rfl:=Option.some.inj H
   go_enter Tryz.func24,Tryz.ntmps24
   go_wp2_with (first|((with_reducible refine gate_dst (N:=2) rfl ?_);refine box_event rfl (N:=2) rfl (cs:=#[.string a0_0,.string a0_1,.int .i64 a0_2,.slice A0_3 l0_3.length c0_3,.slice A0_4 l0_4.length c0_4]) (t:=33) zS ?_;intro gb34 hg w14 hbox hb;have GW34:=zG hg zb0;have GE34:=GW34;have BK34:=Aside0.mk hbox;replace HB:=Aside0.mk (below_step zb0 hb);clear hb hbox hg)|((with_reducible refine gate_dst (N:=3) rfl ?_);refine box_event rfl (N:=3) rfl (cs:=#[.string a1_0,.string a1_1,.int .i64 a1_2,.slice A1_3 l1_3.length c1_3,.slice A1_4 l1_4.length c1_4]) (t:=33) zS ?_;intro gb35 hg w15 hbox hb;have BK35:=Aside0.mk (hbox);have GW35:=zG hg zb45;have GE35:=GW35;replace HB:=Aside0.mk (below_step zb45 hb);have NB34_787:=Aside0.mk ((by rw [hg];exact Nat.ne_of_lt (blk_lt (g:=gb34) (o:=.cells #[.string a0_0,.string a0_1,.int .i64 a0_2,.slice A0_3 l0_3.length c0_3,.slice A0_4 l0_4.length c0_4] 33 (0,0)) zb41):gb34 ≠ gb35));have NB35_786:=Aside0.mk ((by rw [hg];exact Nat.ne_of_gt (blk_lt (g:=gb34) (o:=.cells #[.string a0_0,.string a0_1,.int .i64 a0_2,.slice A0_3 l0_3.length c0_3,.slice A0_4 l0_4.length c0_4] 33 (0,0)) zb41):gb35 ≠ gb34));replace BK34:=Aside0.mk (blk_below (g:=gb34) (o:=.cells #[.string a0_0,.string a0_1,.int .i64 a0_2,.slice A0_3 l0_3.length c0_3,.slice A0_4 l0_4.length c0_4] 33 (0,0)) zb41 hb);clear hb hbox hg;have hnb16:=NB34_787.out;have hnc16:=NB35_786.out;obtain ⟨hcz17_0,hcz17_1,hcz17_2,hcz17_3,hcz17_4,hfz17_0,hfz17_1,hfz17_2,hfz17_3,hfz17_4⟩:=zq5 BK34.out;obtain ⟨hcz18_0,hcz18_1,hcz18_2,hcz18_3,hcz18_4,hfz18_0,hfz18_1,hfz18_2,hfz18_3,hfz18_4⟩:=zq5 BK35.out)|(go_at_call 41;(with_reducible refine (tollbarref04_Same.calls k _ _ l0_3 _ _ l1_3 false _ ?side1 ?side2 ?side3 ?side4 A6.out).mono ?_);(case side1=>exact zb34);(case side2=>exact HC0_3.out);(case side3=>exact zb57);(case side4=>exact HC1_3.out);rintro e w' ⟨rfl,⟨nd,rfl⟩⟩;(try clear A6)))
   go_ret
   exact ⟨zb3,zb58⟩
 ·rw [if_neg c4] at H
  have c4b0:=beq_eq_false_iff_ne.mpr c4
  have c4b1:=bne_iff_ne.mpr c4
  obtain rfl:=Option.some.inj H
  go_enter Tryz.func24,Tryz.ntmps24
  go_wp2_with (first|((with_reducible refine gate_dst (N:=2) rfl ?_);refine box_event rfl (N:=2) rfl (cs:=#[.string a0_0,.string a0_1,.int .i64 a0_2,.slice A0_3 l0_3.length c0_3,.slice A0_4 l0_4.length c0_4]) (t:=33) zS ?_;intro gb34 hg w24 hbox hb;have GW34:=zG hg zb0;have GE34:=GW34;have BK34:=Aside0.mk hbox;replace HB:=Aside0.mk (below_step zb0 hb);clear hb hbox hg)|((with_reducible refine gate_dst (N:=3) rfl ?_);refine box_event rfl (N:=3) rfl (cs:=#[.string a1_0,.string a1_1,.int .i64 a1_2,.slice A1_3 l1_3.length c1_3,.slice A1_4 l1_4.length c1_4]) (t:=33) zS ?_;intro gb35 hg w25 hbox hb;have BK35:=Aside0.mk (hbox);have GW35:=zG hg zb45;have GE35:=GW35;replace HB:=Aside0.mk (below_step zb45 hb);have NB34_787:=Aside0.mk ((by rw [hg];exact Nat.ne_of_lt (blk_lt (g:=gb34) (o:=.cells #[.string a0_0,.string a0_1,.int .i64 a0_2,.slice A0_3 l0_3.length c0_3,.slice A0_4 l0_4.length c0_4] 33 (0,0)) zb41):gb34 ≠ gb35));have NB35_786:=Aside0.mk ((by rw [hg];exact Nat.ne_of_gt (blk_lt (g:=gb34) (o:=.cells #[.string a0_0,.string a0_1,.int .i64 a0_2,.slice A0_3 l0_3.length c0_3,.slice A0_4 l0_4.length c0_4] 33 (0,0)) zb41):gb35 ≠ gb34));replace BK34:=Aside0.mk (blk_below (g:=gb34) (o:=.cells #[.string a0_0,.string a0_1,.int .i64 a0_2,.slice A0_3 l0_3.length c0_3,.slice A0_4 l0_4.length c0_4] 33 (0,0)) zb41 hb);clear hb hbox hg;have hnb26:=NB34_787.out;have hnc26:=NB35_786.out;obtain ⟨hcz27_0,hcz27_1,hcz27_2,hcz27_3,hcz27_4,hfz27_0,hfz27_1,hfz27_2,hfz27_3,hfz27_4⟩:=zq5 BK34.out;obtain ⟨hcz28_0,hcz28_1,hcz28_2,hcz28_3,hcz28_4,hfz28_0,hfz28_1,hfz28_2,hfz28_3,hfz28_4⟩:=zq5 BK35.out))
  go_ret
  exact ⟨zb3,zb58⟩
def tollbarref04_same.f (k:Nat) (a0:ByteArray) (a1:ByteArray):Option (Bool):=(tollbarref02_Fold.f k a0).bind fun t358=>((tollbarref02_Fold.f k a1).bind fun t359=>(some (t358.toList == t359.toList)))
set_option maxHeartbeats 8000000 in
set_option maxRecDepth 100000 in
theorem tollbarref04_same.calls (k:Nat) (a0:ByteArray) (a1:ByteArray) (r:Bool) (w:World) (h:tollbarref04_same.f k a0 a1=some r) :
 Calls Tryz.prog 104 #[.string a0,.string a1] w fun e w' => e = .returned (.bool r)∧Below w.heap.size w w' := by
 have HB:=Aside0.mk (Below.refl w.heap.size w)
 unfold tollbarref04_same.f at h
 have H:=h
 clear h
 replace H:=Option.bind_eq_some_iff.mp H
 obtain ⟨t358,A30,H⟩:=H
 try dsimp only at H
 have A3:=Aside0.mk A30
 clear A30
 replace H:=Option.bind_eq_some_iff.mp H
 obtain ⟨t359,A40,H⟩:=H
 try dsimp only at H
 have A4:=Aside0.mk A40
 clear A40
 obtain rfl:=Option.some.inj H
 go_enter Tryz.func104,Tryz.ntmps104
 go_wp2_with (first|((with_reducible refine gate_callee (f:=106) rfl ?_);refine goesL_ (some 6) rfl rfl Tryz.func106 zb10 rfl #[.string a0] rfl zb1 ?_;(with_reducible refine (tollbarref02_Fold.calls k a0 t358 _ A3.out).mono ?_);rintro e w5 ⟨rfl,hb⟩;(try clear A3);refine ⟨_,rfl,?_⟩;replace HB:=Aside0.mk (below_step zb0 hb);(try clear hb))|((with_reducible refine gate_callee (f:=106) rfl ?_);refine goesL_ (some 8) rfl rfl Tryz.func106 zb10 rfl #[.string a1] rfl zb1 ?_;(with_reducible refine (tollbarref02_Fold.calls k a1 t359 _ A4.out).mono ?_);rintro e w6 ⟨rfl,hb⟩;(try clear A4);refine ⟨_,rfl,?_⟩;replace HB:=Aside0.mk (below_step zb0 hb);(try clear hb)))
 go_ret
 exact ⟨zb3,zb0⟩
def tollbarref04_Get.l0:Nat → List (S55) → ByteArray → List ByteArray → Int → Option (List ByteArray)
 | 0,_,_,_,_=>none
 | k + 1,x0,x1,x5,x6=>if x6 < (x0.length:Int) then (if 0 ≤ x6 then ((tollbarref04_same.f k ((rd_T55 x0 x6).f0) x1).bind fun t364=>(if t364=true then (if x5.length < 8796093022208 then (tollbarref04_Get.l0 k x0 x1 (x5 ++ [(rd_T55 x0 x6).f1]) (wrap64 (x6 + 1))) else (none)) else (tollbarref04_Get.l0 k x0 x1 x5 (wrap64 (x6 + 1))))) else (none)) else (some x5)
def tollbarref04_Get.f (k:Nat) (l0:List (S55)) (a1:ByteArray):Option (List ByteArray):=tollbarref04_Get.l0 k l0 a1 (([]:List ByteArray)) 0
set_option maxHeartbeats 8000000 in
set_option maxRecDepth 100000 in
theorem tollbarref04_Get.calls (k:Nat) (A0:Option Addr) (c0:Nat) (l0:List (S55)) (a1:ByteArray) (r:List ByteArray) (w:World) (hr0:Kd.C k55 w A0 l0.length l0) (hc0:l0.length ≤ c0) (h:tollbarref04_Get.f k l0 a1=some r) :
 Calls Tryz.prog 61 #[.slice A0 l0.length c0,.string a1] w fun e w' => ∃ v0_:Value,e = .returned (v0_)∧Kd.R Kd.string 9 w' w.heap.size (fun _=>True) v0_ r∧Below w.heap.size w w' := by
 have HR0:=Aside0.mk hr0
 have HC0:=Aside0.mk hc0
 clear hr0 hc0
 have HB:=Aside0.mk (Below.refl w.heap.size w)
 unfold tollbarref04_Get.f at h
 have H:=h
 clear h
 obtain ⟨y360,hy360⟩ : ∃ y_:List ByteArray,y_=(([]:List ByteArray)):=⟨_,rfl⟩
 replace H:(tollbarref04_Get.l0 k l0 a1 y360 0)=some r:=by first|(rw [hy360];with_reducible exact H)|(have H2_:=(Option.bind_some _ _).symm.trans H;rw [hy360];with_reducible exact H2_)|(have H2_:=(Option.bind_some _ _).symm.trans H;with_reducible exact H2_)|with_reducible exact H|(rw [hy360];exact H)|exact H
 have Ny360:=Aside0.mk hy360
 clear hy360
 have H' := Aside0.mk H
 clear H
 go_enter Tryz.func61,Tryz.ntmps61
 go_wp2_with (first|((with_reducible refine gate_dst (N:=7) rfl ?_);refine Kd.R_lit Kd.string _ 9 ?hg (N:=7) ?hd (xs:=([]:List ByteArray)) (inner:=[]) (ok:=fun _=>True) (okp:=fun _=>True) ?hr ?hp (fun _ hk=>hk) trivial (Below.refl _ _) (Nat.le_refl _) zb40 ?_;(case hd=>rfl);(case hg=>rfl);(case hr=>first|(go_simp;done)|(go_simp;rfl));(case hp=>exact (Reps.none _ _));intro v361 w3 ho4 hb hg_ hnew_;clear hg_ hnew_;(first|rw [← Ny360.out] at ho4|(simp only [Int.reduceToNat] at ho4;rw [← Ny360.out] at ho4));have HO362:=Aside0.mk (Kd.R_lower ho4 (below_size zb0));replace HB:=Aside0.mk (below_step zb0 hb);clear hb ho4))
 go_loopg [5,6] k (fun kq v5 v6 w' => ∃ (x5_1:List ByteArray) (x6_1:Int),v6 = .int .i64 x6_1∧Aside0 (tollbarref04_Get.l0 kq l0 a1 x5_1 x6_1=some r)∧Aside0 (kq ≤ k)∧Aside0 (Kd.R Kd.string 9 w' w.heap.size (fun _=>True) v5 x5_1)∧Aside0 (Below w.heap.size w w'))
 case atStart=>exact ⟨(y360),(0),zb8,H',⟨Nat.le_refl _⟩,⟨by (with_reducible repeat (first|apply Kd.R_alloc|apply Kd.R_drewN|apply Kd.R_drew));exact HO362.out⟩,⟨zb0⟩⟩
 case round =>
  clear H'
  try clear p2
  obtain ⟨x5_1,x6_1,rfl,HA,HK1,HO_5,HB⟩:=hrel
  cases gk with
  | zero=>exact absurd HA.out (by simp [tollbarref04_Get.l0])
  | succ k1 =>
   have H:=HA.out
   clear HA
   simp only [tollbarref04_Get.l0] at H
   by_cases c5:x6_1 < (l0.length:Int);rotate_left
   ·rw [if_neg c5] at H
    have c5b0:=decide_eq_false c5
    clear c5
    obtain rfl:=Option.some.inj H
    go_wp2
    go_ret
    exact ⟨_,zb3,zb42,zb0⟩
   rw [if_pos c5] at H
   have c5b0:=decide_eq_true c5
   clear c5
   by_cases c6:0 ≤ x6_1
   ·rw [if_pos c6] at H
    have c6b0:=decide_eq_true c6
    clear c6
    replace H:=Option.bind_eq_some_iff.mp H
    obtain ⟨t364,A70,H⟩:=H
    try dsimp only at H
    have A7:=Aside0.mk A70
    clear A70
    by_cases c8:t364=true;rotate_left
    ·replace c8:=Bool.eq_false_iff.mpr c8
     subst c8
     rw [if_neg (show ¬ (false=true) by decide)] at H
     have H' := Aside0.mk H
     clear H
     have p363:0 ≤ (x6_1:Int):=of_decide_eq_true zb5
     have q363:x6_1 < (l0.length:Int):=of_decide_eq_true zb5
     obtain ⟨ad363,e363,hx363_0,hx363_1⟩:=at_T55 HR0.out x6_1 p363 q363
     cases e363
     replace hx363_0:=(HB.out.cell (World.block_lt_of_cell? w _ hx363_0)).trans hx363_0
     replace hx363_1:=(HB.out.cell (World.block_lt_of_cell? w _ hx363_1)).trans hx363_1
     replace p363:=eq_true p363
     replace q363:=eq_true q363
     go_wp2_with (first|((with_reducible refine gate_callee (f:=104) rfl ?_);refine goesL_ (some 20) rfl rfl Tryz.func104 zb10 rfl #[.string ((rd_T55 l0 x6_1).f0),.string a1] rfl zb1 ?_;(with_reducible refine (tollbarref04_same.calls k1 ((rd_T55 l0 x6_1).f0) a1 false _ A7.out).mono ?_);rintro e w12 ⟨rfl,hb⟩;(try clear A7);refine ⟨_,rfl,?_⟩;replace HO_5:=Aside0.mk (Kd.R_below zb42 hb);replace HB:=Aside0.mk (below_step zb0 hb);(try clear hb)))
     go_roundg k1
     case measure=>have:=HK1.out;omega
     case rel=>exact ⟨(x5_1),(wrap64 (x6_1 + 1)),zb8,H',⟨zb136⟩,⟨zb42⟩,⟨zb0⟩⟩
    subst c8
    rw [if_pos rfl] at H
    by_cases c9:x5_1.length < 8796093022208
    ·rw [if_pos c9] at H
     have LMc9:=Aside0.mk c9
     clear c9
     obtain ⟨y366,hy366⟩ : ∃ y_:List ByteArray,y_=(x5_1 ++ [(rd_T55 l0 x6_1).f1]):=⟨_,rfl⟩
     replace H:(tollbarref04_Get.l0 k1 l0 a1 y366 (wrap64 (x6_1 + 1)))=some r:=by first|(rw [hy366];with_reducible exact H)|(have H2_:=(Option.bind_some _ _).symm.trans H;rw [hy366];with_reducible exact H2_)|(have H2_:=(Option.bind_some _ _).symm.trans H;with_reducible exact H2_)|with_reducible exact H|(rw [hy366];exact H)|exact H
     have Ny366:=Aside0.mk hy366
     clear hy366
     have H' := Aside0.mk H
     clear H
     have p363:0 ≤ (x6_1:Int):=of_decide_eq_true zb5
     have q363:x6_1 < (l0.length:Int):=of_decide_eq_true zb5
     obtain ⟨ad363,e363,hx363_0,hx363_1⟩:=at_T55 HR0.out x6_1 p363 q363
     cases e363
     replace hx363_0:=(HB.out.cell (World.block_lt_of_cell? w _ hx363_0)).trans hx363_0
     replace hx363_1:=(HB.out.cell (World.block_lt_of_cell? w _ hx363_1)).trans hx363_1
     replace p363:=eq_true p363
     replace q363:=eq_true q363
     go_wp2_with (first|((with_reducible refine gate_callee (f:=104) rfl ?_);refine goesL_ (some 20) rfl rfl Tryz.func104 zb10 rfl #[.string ((rd_T55 l0 x6_1).f0),.string a1] rfl zb1 ?_;(with_reducible refine (tollbarref04_same.calls k1 ((rd_T55 l0 x6_1).f0) a1 true _ A7.out).mono ?_);rintro e w10 ⟨rfl,hb⟩;(try clear A7);refine ⟨_,rfl,?_⟩;replace HO_5:=Aside0.mk (Kd.R_below zb42 hb);replace HB:=Aside0.mk (below_step zb0 hb);(try clear hb);have p365:0 ≤ (x6_1:Int):=of_decide_eq_true zb5;have q365:x6_1 < (l0.length:Int):=of_decide_eq_true zb5;obtain ⟨ad365,e365,hx365_0,hx365_1⟩:=at_T55 HR0.out x6_1 p365 q365;obtain rfl:ad363=ad365:=(by injection e365);replace hx365_0:=(HB.out.cell (World.block_lt_of_cell? w _ hx365_0)).trans hx365_0;replace hx365_1:=(HB.out.cell (World.block_lt_of_cell? w _ hx365_1)).trans hx365_1;replace p365:=eq_true p365;replace q365:=eq_true q365)|((with_reducible refine gate_builtin (b:=.append) (xs:=#[.tmp 21,.tmp 27]) rfl ?_);at_builtin;refine Kd.R_append Kd.string (w0:=w) w.heap.size rfl (.tmp 21) (.tmp 27) 44 9 (.string ⟨#[]⟩) 16 rfl Tryz.underlying44 info9 rfl zb46 zb30 u5 x5_1 ((rd_T55 l0 x6_1).f1) [.string ((rd_T55 l0 x6_1).f1)] (fun _=>True) (fun _=>False) rfl rfl ?aP (fun _ hk=>hk.elim) ?aF ?aO ?aB ?aS ?aL ?_;(case aP=>exact rfl);(case aB=>exact zb81);(case aF=>exact (fun _ _=>trivial));(case aO=>exact zb127);(case aS=>exact zb62);(case aL=>have:=LMc9.out;omega);intro v367 w11 ho hb hg hat;rw [← Ny366.out] at ho;replace HB:=Aside0.mk (hb);have HO368:=Aside0.mk (ho);clear ho hb hg hat))
     go_roundg k1
     case measure=>have:=HK1.out;omega
     case rel=>exact ⟨(y366),(wrap64 (x6_1 + 1)),zb8,H',⟨zb136⟩,⟨by (with_reducible repeat (first|apply Kd.R_alloc|apply Kd.R_drewN|apply Kd.R_drew));exact HO368.out⟩,⟨zb0⟩⟩
    ·rw [if_neg c9] at H
     exact absurd H zb40
   ·rw [if_neg c6] at H
    exact absurd H zb40
def tollbarref08_Host.f (k:Nat) (a0_0:ByteArray) (a0_1:ByteArray) (a0_2:Int) (l0_3:List (S55)) (l0_4:List Int):Option (ByteArray):=(tollbarref04_Get.f k l0_3 (⟨#[104,111,115,116]⟩:ByteArray)).bind fun t818=>(if (t818.length:Int)=0 then (some (⟨#[]⟩:ByteArray)) else (if 0 < (t818.length:Int) then ((tollbarref05_Host.f k (rdOf ByteArray.empty t818 0)).bind fun bt822=>(some bt822.1)) else (none)))
set_option maxHeartbeats 8000000 in
set_option maxRecDepth 100000 in
theorem tollbarref08_Host.calls (k:Nat) (a0_0:ByteArray) (a0_1:ByteArray) (a0_2:Int) (A0_3:Option Addr) (c0_3:Nat) (l0_3:List (S55)) (A0_4:Option Addr) (c0_4:Nat) (l0_4:List Int) (r:ByteArray) (w:World) (hr0_3:Kd.C k55 w A0_3 l0_3.length l0_3) (hc0_3:l0_3.length ≤ c0_3) (hr0_4:Kd.C (Kd.int .u8) w A0_4 l0_4.length l0_4) (hc0_4:l0_4.length ≤ c0_4) (h:tollbarref08_Host.f k a0_0 a0_1 a0_2 l0_3 l0_4=some r) :
 Calls Tryz.prog 28 #[.agg #[.string a0_0,.string a0_1,.int .i64 a0_2,.slice A0_3 l0_3.length c0_3,.slice A0_4 l0_4.length c0_4]] w fun e w' => e = .returned (.string r)∧Below w.heap.size w w' := by
 have hu33:=Tryz.underlying33
 have HR0_3:=Aside0.mk hr0_3
 have HC0_3:=Aside0.mk hc0_3
 clear hr0_3 hc0_3
 have HR0_4:=Aside0.mk hr0_4
 have HC0_4:=Aside0.mk hc0_4
 clear hr0_4 hc0_4
 have HB:=Aside0.mk (Below.refl w.heap.size w)
 unfold tollbarref08_Host.f at h
 have H:=h
 clear h
 replace H:=Option.bind_eq_some_iff.mp H
 obtain ⟨t818,A20,H⟩:=H
 try dsimp only at H
 have A2:=Aside0.mk A20
 clear A20
 by_cases c3:(t818.length:Int)=0
 ·rw [if_pos c3] at H
  have c3b0:=beq_iff_eq.mpr c3
  have c3b1:=bne_eq_false_iff_eq.mpr c3
  clear c3
  obtain rfl:=Option.some.inj H
  go_enter Tryz.func28,Tryz.ntmps28
  go_wp2_with (first|((with_reducible refine gate_dst (N:=1) rfl ?_);refine box_event rfl (N:=1) rfl (cs:=#[.string a0_0,.string a0_1,.int .i64 a0_2,.slice A0_3 l0_3.length c0_3,.slice A0_4 l0_4.length c0_4]) (t:=33) zS ?_;intro gb817 hg w4 hbox hb;have GW817:=zG hg zb0;have GE817:=GW817;have BK817:=Aside0.mk hbox;replace HB:=Aside0.mk (below_step zb0 hb);clear hb hbox hg;obtain ⟨hcz5_0,hcz5_1,hcz5_2,hcz5_3,hcz5_4,hfz5_0,hfz5_1,hfz5_2,hfz5_3,hfz5_4⟩:=zq5 BK817.out)|((with_reducible refine gate_callee (f:=61) rfl ?_);refine goesL_ (some 8) rfl rfl Tryz.func61 zb10 rfl #[.slice A0_3 l0_3.length c0_3,.string (⟨#[104,111,115,116]⟩:ByteArray)] rfl zb1 ?_;(with_reducible refine (tollbarref04_Get.calls k _ _ l0_3 (⟨#[104,111,115,116]⟩:ByteArray) t818 _ ?side1 ?side2 A2.out).mono ?_);(case side1=>exact zb34);(case side2=>exact HC0_3.out);rintro e w6 ⟨v819,rfl,ho0,hb⟩;(try clear A2);refine ⟨_,rfl,?_⟩;have HO820:=Aside0.mk (Kd.R_lower ho0 (below_size zb67));replace BK817:=Aside0.mk (blk_below (g:=gb817) (o:=.cells #[.string a0_0,.string a0_1,.int .i64 a0_2,.slice A0_3 l0_3.length c0_3,.slice A0_4 l0_4.length c0_4] 33 (0,0)) zb152 hb);replace HB:=Aside0.mk (below_step zb67 hb);try clear hb ho0;obtain ⟨Ao7,co7,eo7⟩:=Kd.R_slice HO820.out;subst eo7))
  go_ret
  exact ⟨zb3,zb67⟩
 rw [if_neg c3] at H
 have c3b0:=beq_eq_false_iff_ne.mpr c3
 have c3b1:=bne_iff_ne.mpr c3
 have c3b2 : ¬ (t818=[]):=fun h_=>c3 (by rw [h_];rfl)
 by_cases c8:0 < (t818.length:Int);rotate_left
 ·rw [if_neg c8] at H
  exact absurd H zb40
 rw [if_pos c8] at H
 have c8b0:=decide_eq_true c8
 have c8b1:decide (0 < t818.length)=true:=decide_eq_true zb30
 clear c8
 replace H:=Option.bind_eq_some_iff.mp H
 obtain ⟨⟨t822,t823⟩,A90,H⟩:=H
 try dsimp only at H
 have A9:=Aside0.mk A90
 clear A90
 obtain rfl:=Option.some.inj H
 go_enter Tryz.func28,Tryz.ntmps28
 go_wp2_with (first|((with_reducible refine gate_dst (N:=1) rfl ?_);refine box_event rfl (N:=1) rfl (cs:=#[.string a0_0,.string a0_1,.int .i64 a0_2,.slice A0_3 l0_3.length c0_3,.slice A0_4 l0_4.length c0_4]) (t:=33) zS ?_;intro gb817 hg w10 hbox hb;have GW817:=zG hg zb0;have GE817:=GW817;have BK817:=Aside0.mk hbox;replace HB:=Aside0.mk (below_step zb0 hb);clear hb hbox hg;obtain ⟨hcz11_0,hcz11_1,hcz11_2,hcz11_3,hcz11_4,hfz11_0,hfz11_1,hfz11_2,hfz11_3,hfz11_4⟩:=zq5 BK817.out)|((with_reducible refine gate_callee (f:=61) rfl ?_);refine goesL_ (some 8) rfl rfl Tryz.func61 zb10 rfl #[.slice A0_3 l0_3.length c0_3,.string (⟨#[104,111,115,116]⟩:ByteArray)] rfl zb1 ?_;(with_reducible refine (tollbarref04_Get.calls k _ _ l0_3 (⟨#[104,111,115,116]⟩:ByteArray) t818 _ ?side1 ?side2 A2.out).mono ?_);(case side1=>exact zb34);(case side2=>exact HC0_3.out);rintro e w12 ⟨v819,rfl,ho0,hb⟩;(try clear A2);refine ⟨_,rfl,?_⟩;have HO820:=Aside0.mk (Kd.R_lower ho0 (below_size zb67));replace BK817:=Aside0.mk (blk_below (g:=gb817) (o:=.cells #[.string a0_0,.string a0_1,.int .i64 a0_2,.slice A0_3 l0_3.length c0_3,.slice A0_4 l0_4.length c0_4] 33 (0,0)) zb152 hb);replace HB:=Aside0.mk (below_step zb67 hb);try clear hb ho0;obtain ⟨Ao13,co13,eo13⟩:=Kd.R_slice HO820.out;subst eo13;have p821:0 ≤ (0:Int):=zb30;have q821:0 < (t818.length:Int):=of_decide_eq_true zb5;obtain ⟨ad821,e821,hx821_0⟩:=Kd.at_string (Kd.R_reads' HO820.out).2.2 0 p821 q821;cases e821;have qi821:(0 < t818.length)=True:=eq_true zb30;(try rw [show ((0:Int)).toNat=0 from rfl] at hx821_0);(try rw [Addr.add_zero'] at hx821_0);replace p821:=eq_true p821;replace q821:=eq_true q821)|((with_reducible refine gate_callee (f:=62) rfl ?_);refine goesL_ (some 16) rfl rfl Tryz.func62 zb10 rfl #[.string (rdOf ByteArray.empty t818 0)] rfl zb1 ?_;(with_reducible refine (tollbarref05_Host.calls k (rdOf ByteArray.empty t818 0) t822 t823 _ A9.out).mono ?_);rintro e w14 ⟨rfl,hb⟩;(try clear A9);refine ⟨_,rfl,?_⟩;replace HO820:=Aside0.mk (Kd.R_below (by (with_reducible repeat (first|apply Kd.R_alloc|apply Kd.R_drewN|apply Kd.R_drew));exact HO820.out) hb);replace BK817:=Aside0.mk (blk_below (g:=gb817) (o:=.cells #[.string a0_0,.string a0_1,.int .i64 a0_2,.slice A0_3 l0_3.length c0_3,.slice A0_4 l0_4.length c0_4] 33 (0,0)) zb152 hb);replace HB:=Aside0.mk (below_step zb67 hb);(try clear hb)))
 go_ret
 exact ⟨zb3,zb67⟩
mutual
def tollbarref02_Text.l0:Nat → Int → ByteArray → Option (ByteArray)
 | 0,_,_=>none
 | k + 1,x0,x3=>if x3.toList=([]:List UInt8) then ((some (([(wrap64 (48 + (Int.tmod x0 10))) % 256]:List Int):List Int)).bind fun y449=>(if (strOfNums y449).size + x3.size ≤ 9223372036854775807 then (tollbarref02_Text.l0 k (wrap64 (Int.tdiv x0 10)) ((strOfNums y449) ++ x3)) else (none))) else (if x0 > 0 then ((some (([(wrap64 (48 + (Int.tmod x0 10))) % 256]:List Int):List Int)).bind fun y452=>(if (strOfNums y452).size + x3.size ≤ 9223372036854775807 then (tollbarref02_Text.l0 k (wrap64 (Int.tdiv x0 10)) ((strOfNums y452) ++ x3)) else (none))) else (some x3))
def tollbarref02_Text.f:Nat → Int → Option (ByteArray)
 | 0,_=>none
 | k + 1,a0=>if a0=(-9223372036854775808) then (some (⟨#[45,57,50,50,51,51,55,50,48,51,54,56,53,52,55,55,53,56,48,56]⟩:ByteArray)) else (if a0 < 0 then ((tollbarref02_Text.f k (wrap64 (-a0))).bind fun t448=>(if 1 + t448.size ≤ 9223372036854775807 then (some ((⟨#[45]⟩:ByteArray) ++ t448)) else (none))) else (tollbarref02_Text.l0 k a0 (⟨#[]⟩:ByteArray)))
end
set_option maxHeartbeats 8000000 in
set_option maxRecDepth 100000 in
theorem tollbarref02_Text.calls (k:Nat) : ∀ (a0:Int) (r:ByteArray) (w:World) (h:tollbarref02_Text.f k a0=some r),
 Calls Tryz.prog 91 #[.int .i64 a0] w fun e w' => e = .returned (.string r)∧Below w.heap.size w w' := by
 induction k using Nat.strongRecOn with
 | _ k ih =>
 intro a0 r w h
 cases k with
 | zero=>exact absurd h (by simp [tollbarref02_Text.f])
 | succ k =>
 simp only [tollbarref02_Text.f] at h
 have HB:=Aside0.mk (Below.refl w.heap.size w)
 have H:(if a0=(-9223372036854775808) then (some (⟨#[45,57,50,50,51,51,55,50,48,51,54,56,53,52,55,55,53,56,48,56]⟩:ByteArray)) else (if a0 < 0 then ((tollbarref02_Text.f k (wrap64 (-a0))).bind fun t448=>(if 1 + t448.size ≤ 9223372036854775807 then (some ((⟨#[45]⟩:ByteArray) ++ t448)) else (none))) else (tollbarref02_Text.l0 k a0 (⟨#[]⟩:ByteArray))))=some r:=h
 clear h
 by_cases c2:a0=(-9223372036854775808)
 ·rw [if_pos c2] at H
  have c2b0:=beq_iff_eq.mpr c2
  have c2b1:=bne_eq_false_iff_eq.mpr c2
  clear c2
  obtain rfl:=Option.some.inj H
  go_enter Tryz.func91,Tryz.ntmps91
  go_wp2
  go_ret
  exact ⟨zb3,zb0⟩
 rw [if_neg c2] at H
 have c2b0:=beq_eq_false_iff_ne.mpr c2
 have c2b1:=bne_iff_ne.mpr c2
 by_cases c3:a0 < 0
 ·rw [if_pos c3] at H
  have c3b0:=decide_eq_true c3
  clear c3
  replace H:=Option.bind_eq_some_iff.mp H
  obtain ⟨t448,A40,H⟩:=H
  try dsimp only at H
  have A4:=Aside0.mk A40
  clear A40
  by_cases c5:1 + t448.size ≤ 9223372036854775807;rotate_left
  ·rw [if_neg c5] at H
   exact absurd H zb40
  rw [if_pos c5] at H
  have c5b0:=eq_true c5
  have c5b1:=decide_eq_true c5
  try have c5b2:(9223372036854775807 < 1 + t448.size)=False:=eq_false (Nat.not_lt.2 c5)
  obtain rfl:=Option.some.inj H
  go_enter Tryz.func91,Tryz.ntmps91
  go_wp2_with (first|((with_reducible refine gate_callee (f:=91) rfl ?_);refine goesL_ (some 10) rfl rfl Tryz.func91 zb10 rfl #[.int .i64 (wrap64 (-a0))] rfl zb1 ?_;(with_reducible refine (ih k (by omega) (wrap64 (-a0)) t448 _ A4.out).mono ?_);rintro e w6 ⟨rfl,hb⟩;(try clear A4);refine ⟨_,rfl,?_⟩;replace HB:=Aside0.mk (below_step zb0 hb);(try clear hb)))
  go_ret
  exact ⟨zb3,zb0⟩
 rw [if_neg c3] at H
 have c3b0:=decide_eq_false c3
 clear c3
 have H' := Aside0.mk H
 clear H
 go_enter Tryz.func91,Tryz.ntmps91
 go_wp2
 go_loopg [0,3] k (fun kq v0 v3 w' => ∃ (x0_1:Int) (x3_1:ByteArray),v0 = .int .i64 x0_1∧v3 = .string x3_1∧Aside0 (tollbarref02_Text.l0 kq x0_1 x3_1=some r)∧Aside0 (kq ≤ k)∧Aside0 (Below w.heap.size w w'))
 case atStart=>exact ⟨(a0),((⟨#[]⟩:ByteArray)),zb8,zb8,H',⟨Nat.le_refl _⟩,⟨zb0⟩⟩
 case round =>
  clear H'
  try clear c2
  try clear c2b0
  try clear c2b1
  try clear p2
  try clear c3
  try clear c3b0
  try clear c5
  try clear c5b0
  try clear c5b1
  try clear c5b2
  try clear p6
  obtain ⟨x0_1,x3_1,rfl,rfl,HA,HK1,HB⟩:=hrel
  cases gk with
  | zero=>exact absurd HA.out (by simp [tollbarref02_Text.l0])
  | succ k1 =>
   have H:=HA.out
   clear HA
   simp only [tollbarref02_Text.l0] at H
   by_cases c7:x3_1.toList=([]:List UInt8)
   ·rw [if_pos c7] at H
    have c7b0:=beq_iff_eq.mpr c7
    have c7b1:=bne_eq_false_iff_eq.mpr c7
    clear c7
    obtain ⟨y449,hy449⟩ : ∃ y_:List Int,y_=(([(wrap64 (48 + (Int.tmod x0_1 10))) % 256]:List Int)):=⟨_,rfl⟩
    replace H:(if (strOfNums y449).size + x3_1.size ≤ 9223372036854775807 then (tollbarref02_Text.l0 k1 (wrap64 (Int.tdiv x0_1 10)) ((strOfNums y449) ++ x3_1)) else (none))=some r:=by first|(rw [hy449];with_reducible exact H)|(have H2_:=(Option.bind_some _ _).symm.trans H;rw [hy449];with_reducible exact H2_)|(have H2_:=(Option.bind_some _ _).symm.trans H;with_reducible exact H2_)|with_reducible exact H|(rw [hy449];exact H)|exact H
    have Ny449:=Aside0.mk hy449
    clear hy449
    by_cases c8:(strOfNums y449).size + x3_1.size ≤ 9223372036854775807;rotate_left
    ·rw [if_neg c8] at H
     exact absurd H zb40
    rw [if_pos c8] at H
    have c8b0:=eq_true c8
    have c8b1:=decide_eq_true c8
    try have c8b2:(9223372036854775807 < (strOfNums y449).size + x3_1.size)=False:=eq_false (Nat.not_lt.2 c8)
    have H' := Aside0.mk H
    clear H
    go_wp2_with (first|((with_reducible refine gate_dst (N:=22) rfl ?_);refine Kd.R_lit (Kd.int .u8) _ 5 ?hg (N:=22) ?hd (xs:=([(wrap64 (48 + (Int.tmod x0_1 10))) % 256]:List Int)) (inner:=[.int .u8 ((wrap64 (48 + (Int.tmod x0_1 10))) % 256)]) (ok:=fun _=>True) (okp:=fun _=>True) ?hr ?hp (fun _ hk=>hk) trivial (Below.refl _ _) (Nat.le_refl _) zb40 ?_;(case hd=>rfl);(case hg=>rfl);(case hr=>first|(go_simp;done)|(go_simp;rfl));(case hp=>exact (Reps.one (show Kd.M (Kd.int .u8) _ _ _ ((wrap64 (48 + (Int.tmod x0_1 10))) % 256) [.int .u8 ((wrap64 (48 + (Int.tmod x0_1 10))) % 256)] from rfl) (Reps.none _ _)));intro v450 w9 ho10 hb hg_ hnew_;clear hg_ hnew_;(first|rw [← Ny449.out] at ho10|(simp only [Int.reduceToNat] at ho10;rw [← Ny449.out] at ho10));have HO451:=Aside0.mk (Kd.R_lower ho10 (below_size zb0));replace HB:=Aside0.mk (below_step zb0 hb);clear hb ho10;have hcv11:=own_string (P:=Tryz.prog) Tryz.underlying23 Tryz.underlying5 Tryz.underlying9 (Kd.own_of_R HO451.out)))
    go_roundg k1
    case measure=>have:=HK1.out;omega
    case rel=>exact ⟨(wrap64 (Int.tdiv x0_1 10)),((strOfNums y449) ++ x3_1),zb8,zb8,H',⟨zb136⟩,⟨zb0⟩⟩
   rw [if_neg c7] at H
   have c7b0:=beq_eq_false_iff_ne.mpr c7
   have c7b1:=bne_iff_ne.mpr c7
   by_cases c12:x0_1 > 0;rotate_left
   ·rw [if_neg c12] at H
    have c12b0:decide (0 < x0_1)=false:=decide_eq_false c12
    clear c12
    obtain rfl:=Option.some.inj H
    go_wp2
    go_ret
    exact ⟨zb3,zb0⟩
   rw [if_pos c12] at H
   have c12b0:decide (0 < x0_1)=true:=decide_eq_true c12
   clear c12
   obtain ⟨y452,hy452⟩ : ∃ y_:List Int,y_=(([(wrap64 (48 + (Int.tmod x0_1 10))) % 256]:List Int)):=⟨_,rfl⟩
   replace H:(if (strOfNums y452).size + x3_1.size ≤ 9223372036854775807 then (tollbarref02_Text.l0 k1 (wrap64 (Int.tdiv x0_1 10)) ((strOfNums y452) ++ x3_1)) else (none))=some r:=by first|(rw [hy452];with_reducible exact H)|(have H2_:=(Option.bind_some _ _).symm.trans H;rw [hy452];with_reducible exact H2_)|(have H2_:=(Option.bind_some _ _).symm.trans H;with_reducible exact H2_)|with_reducible exact H|(rw [hy452];exact H)|exact H
   have Ny452:=Aside0.mk hy452
   clear hy452
   by_cases c13:(strOfNums y452).size + x3_1.size ≤ 9223372036854775807
   ·rw [if_pos c13] at H
    have c13b0:=eq_true c13
    have c13b1:=decide_eq_true c13
    try have c13b2:(9223372036854775807 < (strOfNums y452).size + x3_1.size)=False:=eq_false (Nat.not_lt.2 c13)
    have H' := Aside0.mk H
    clear H
    go_wp2_with (first|((with_reducible refine gate_dst (N:=22) rfl ?_);refine Kd.R_lit (Kd.int .u8) _ 5 ?hg (N:=22) ?hd (xs:=([(wrap64 (48 + (Int.tmod x0_1 10))) % 256]:List Int)) (inner:=[.int .u8 ((wrap64 (48 + (Int.tmod x0_1 10))) % 256)]) (ok:=fun _=>True) (okp:=fun _=>True) ?hr ?hp (fun _ hk=>hk) trivial (Below.refl _ _) (Nat.le_refl _) zb40 ?_;(case hd=>rfl);(case hg=>rfl);(case hr=>first|(go_simp;done)|(go_simp;rfl));(case hp=>exact (Reps.one (show Kd.M (Kd.int .u8) _ _ _ ((wrap64 (48 + (Int.tmod x0_1 10))) % 256) [.int .u8 ((wrap64 (48 + (Int.tmod x0_1 10))) % 256)] from rfl) (Reps.none _ _)));intro v453 w14 ho15 hb hg_ hnew_;clear hg_ hnew_;(first|rw [← Ny452.out] at ho15|(simp only [Int.reduceToNat] at ho15;rw [← Ny452.out] at ho15));have HO454:=Aside0.mk (Kd.R_lower ho15 (below_size zb0));replace HB:=Aside0.mk (below_step zb0 hb);clear hb ho15;have hcv16:=own_string (P:=Tryz.prog) Tryz.underlying23 Tryz.underlying5 Tryz.underlying9 (Kd.own_of_R HO454.out)))
    go_roundg k1
    case measure=>have:=HK1.out;omega
    case rel=>exact ⟨(wrap64 (Int.tdiv x0_1 10)),((strOfNums y452) ++ x3_1),zb8,zb8,H',⟨zb136⟩,⟨zb0⟩⟩
   ·rw [if_neg c13] at H
    exact absurd H zb40
def tollbarref05_RequestLine.f (k:Nat) (a0_0:ByteArray) (a0_1:ByteArray) (a0_2:Int) (l0_3:List (S55)) (l0_4:List Int):Option (ByteArray):=if a0_0.size + 1 ≤ 9223372036854775807 then (if (a0_0 ++ (⟨#[32]⟩:ByteArray)).size + a0_1.size ≤ 9223372036854775807 then (if ((a0_0 ++ (⟨#[32]⟩:ByteArray)) ++ a0_1).size + 8 ≤ 9223372036854775807 then ((tollbarref02_Text.f k a0_2).bind fun t1057=>(if (((a0_0 ++ (⟨#[32]⟩:ByteArray)) ++ a0_1) ++ (⟨#[32,72,84,84,80,47,49,46]⟩:ByteArray)).size + t1057.size ≤ 9223372036854775807 then (if ((((a0_0 ++ (⟨#[32]⟩:ByteArray)) ++ a0_1) ++ (⟨#[32,72,84,84,80,47,49,46]⟩:ByteArray)) ++ t1057).size + 2 ≤ 9223372036854775807 then (some (((((a0_0 ++ (⟨#[32]⟩:ByteArray)) ++ a0_1) ++ (⟨#[32,72,84,84,80,47,49,46]⟩:ByteArray)) ++ t1057) ++ (⟨#[13,10]⟩:ByteArray))) else (none)) else (none))) else (none)) else (none)) else (none)
def tollbarref05_RequestLine.T1:Bool × List (List Nat × List Nat):=(true,[([],[]),([0],[0]),([1],[1]),([],[]),([3],[3]),([2,4],[2,4]),([5],[5]),([],[]),([7],[7]),([8],[8]),([6,9],[6,9]),([10],[10]),([11,9,0,1,2,3,4,5,6,7,8,9,10,11],[11])])
def tollbarref05_RequestLine.B1:List Nat:=[0,1,3,0,8,31,63,0,128,384,1023,2047,4095]
theorem tollbarref05_RequestLine.tab1:rtab .any (opsOf Tryz.f77 1)=tollbarref05_RequestLine.T1:=by kernel_rfl
theorem tollbarref05_RequestLine.bits1:waitsOk tollbarref05_RequestLine.T1.2 tollbarref05_RequestLine.B1=true:=by kernel_rfl
set_option maxHeartbeats 8000000 in
set_option maxRecDepth 100000 in
theorem tollbarref05_RequestLine.calls (k:Nat) (a0_0:ByteArray) (a0_1:ByteArray) (a0_2:Int) (A0_3:Option Addr) (c0_3:Nat) (l0_3:List (S55)) (A0_4:Option Addr) (c0_4:Nat) (l0_4:List Int) (r:ByteArray) (w:World) (hr0_3:Kd.C k55 w A0_3 l0_3.length l0_3) (hc0_3:l0_3.length ≤ c0_3) (hr0_4:Kd.C (Kd.int .u8) w A0_4 l0_4.length l0_4) (hc0_4:l0_4.length ≤ c0_4) (h:tollbarref05_RequestLine.f k a0_0 a0_1 a0_2 l0_3 l0_4=some r) :
 Calls Tryz.prog 77 #[.agg #[.string a0_0,.string a0_1,.int .i64 a0_2,.slice A0_3 l0_3.length c0_3,.slice A0_4 l0_4.length c0_4]] w fun e w' => e = .returned (.string r)∧Below w.heap.size w w' := by
 have hu33:=Tryz.underlying33
 have HR0_3:=Aside0.mk hr0_3
 have HC0_3:=Aside0.mk hc0_3
 clear hr0_3 hc0_3
 have HR0_4:=Aside0.mk hr0_4
 have HC0_4:=Aside0.mk hc0_4
 clear hr0_4 hc0_4
 have HB:=Aside0.mk (Below.refl w.heap.size w)
 unfold tollbarref05_RequestLine.f at h
 have H:=h
 clear h
 by_cases c2:a0_0.size + 1 ≤ 9223372036854775807;rotate_left
 ·rw [if_neg c2] at H
  exact absurd H zb40
 rw [if_pos c2] at H
 have c2b0:=eq_true c2
 have c2b1:=decide_eq_true c2
 try have c2b2:(9223372036854775807 < a0_0.size + 1)=False:=eq_false (Nat.not_lt.2 c2)
 by_cases c3:(a0_0 ++ (⟨#[32]⟩:ByteArray)).size + a0_1.size ≤ 9223372036854775807
 ·rw [if_pos c3] at H
  have c3b0:=eq_true c3
  have c3b1:=decide_eq_true c3
  try have c3b2:(9223372036854775807 < (a0_0 ++ (⟨#[32]⟩:ByteArray)).size + a0_1.size)=False:=eq_false (Nat.not_lt.2 c3)
  try (have c3b3:=c3b0;simp only [ByteArray.size_append] at c3b3;have c3b4:=c3b2;simp only [ByteArray.size_append] at c3b4)
  try have c3b5:(9223372036854775807 < a0_0.size + 1 + a0_1.size)=False:=eq_false zb141
  try have c3b6:(a0_0.size + 1 + a0_1.size ≤ 9223372036854775807)=True:=eq_true zb141
  by_cases c4:((a0_0 ++ (⟨#[32]⟩:ByteArray)) ++ a0_1).size + 8 ≤ 9223372036854775807;rotate_left
  ·rw [if_neg c4] at H
   exact absurd H zb40
  rw [if_pos c4] at H
  have c4b0:=eq_true c4
  have c4b1:=decide_eq_true c4
  try have c4b2:(9223372036854775807 < ((a0_0 ++ (⟨#[32]⟩:ByteArray)) ++ a0_1).size + 8)=False:=eq_false (Nat.not_lt.2 c4)
  try (have c4b3:=c4b0;simp only [ByteArray.size_append] at c4b3;have c4b4:=c4b2;simp only [ByteArray.size_append] at c4b4)
  try have c4b5:(9223372036854775807 < a0_0.size + 1 + a0_1.size + 8)=False:=eq_false zb142
  try have c4b6:(a0_0.size + 1 + a0_1.size + 8 ≤ 9223372036854775807)=True:=eq_true zb142
  replace H:=Option.bind_eq_some_iff.mp H
  obtain ⟨t1057,A50,H⟩:=H
  try dsimp only at H
  have A5:=Aside0.mk A50
  clear A50
  by_cases c6:(((a0_0 ++ (⟨#[32]⟩:ByteArray)) ++ a0_1) ++ (⟨#[32,72,84,84,80,47,49,46]⟩:ByteArray)).size + t1057.size ≤ 9223372036854775807
  ·rw [if_pos c6] at H
   have c6b0:=eq_true c6
   have c6b1:=decide_eq_true c6
   try have c6b2:(9223372036854775807 < (((a0_0 ++ (⟨#[32]⟩:ByteArray)) ++ a0_1) ++ (⟨#[32,72,84,84,80,47,49,46]⟩:ByteArray)).size + t1057.size)=False:=eq_false (Nat.not_lt.2 c6)
   try (have c6b3:=c6b0;simp only [ByteArray.size_append] at c6b3;have c6b4:=c6b2;simp only [ByteArray.size_append] at c6b4)
   try have c6b5:(9223372036854775807 < a0_0.size + 1 + a0_1.size + 8 + t1057.size)=False:=eq_false zb103
   try have c6b6:(a0_0.size + 1 + a0_1.size + 8 + t1057.size ≤ 9223372036854775807)=True:=eq_true zb103
   by_cases c7:((((a0_0 ++ (⟨#[32]⟩:ByteArray)) ++ a0_1) ++ (⟨#[32,72,84,84,80,47,49,46]⟩:ByteArray)) ++ t1057).size + 2 ≤ 9223372036854775807;rotate_left
   ·rw [if_neg c7] at H
    exact absurd H zb40
   rw [if_pos c7] at H
   have c7b0:=eq_true c7
   have c7b1:=decide_eq_true c7
   try have c7b2:(9223372036854775807 < ((((a0_0 ++ (⟨#[32]⟩:ByteArray)) ++ a0_1) ++ (⟨#[32,72,84,84,80,47,49,46]⟩:ByteArray)) ++ t1057).size + 2)=False:=eq_false (Nat.not_lt.2 c7)
   try (have c7b3:=c7b0;simp only [ByteArray.size_append] at c7b3;have c7b4:=c7b2;simp only [ByteArray.size_append] at c7b4)
   try have c7b5:(9223372036854775807 < a0_0.size + 1 + a0_1.size + 8 + t1057.size + 2)=False:=eq_false zb104
   try have c7b6:(a0_0.size + 1 + a0_1.size + 8 + t1057.size + 2 ≤ 9223372036854775807)=True:=eq_true zb104
   obtain rfl:=Option.some.inj H
   go_enter Tryz.func77,Tryz.ntmps77
   try go_wp2_with (first|((with_reducible refine gate_dst (N:=1) rfl ?_);refine box_event rfl (N:=1) rfl (cs:=#[.string a0_0,.string a0_1,.int .i64 a0_2,.slice A0_3 l0_3.length c0_3,.slice A0_4 l0_4.length c0_4]) (t:=33) zS ?_;intro gb1056 hg w8 hbox hb;have GW1056:=zG hg zb0;have GE1056:=GW1056;have BK1056:=Aside0.mk hbox;replace HB:=Aside0.mk (below_step zb0 hb);clear hb hbox hg))
   replace BK1056:=Aside0.mk (blk_drew BK1056.out)
   replace HB:=Aside0.mk (below_drew1 HB.out)
   refine start_ (n:=13) (S:=fun w' => w'.cell? ⟨gb1056,0,none⟩=some (.string a0_0)∧w'.cell? ⟨gb1056,1,none⟩=some (.string a0_1)∧w'.cell? ⟨gb1056,2,none⟩=some (.int .i64 a0_2)∧w'.cell? ⟨gb1056,3,none⟩=some (.slice A0_3 l0_3.length c0_3)∧w'.cell? ⟨gb1056,4,none⟩=some (.slice A0_4 l0_4.length c0_4)) (ds:=[]) (zl 13 0) zb10 rfl rfl ⟨(blk_cell BK1056.out 0).trans rfl,(blk_cell BK1056.out 1).trans rfl,(blk_cell BK1056.out 2).trans rfl,(blk_cell BK1056.out 3).trans rfl,(blk_cell BK1056.out 4).trans rfl⟩ (fun hHeld=>?_);refine with_tabW tollbarref05_RequestLine.tab1 tollbarref05_RequestLine.bits1 (fun HT_ HW_=>?_)
   generalize w8.drew=w9 at BK1056 HB hHeld ⊢
   refine zpu 0 (N:=some 3) (zl 13 1) HT_.out rfl rfl ?_
   refine zpu 3 (N:=some 6) (zl 13 9) HT_.out rfl rfl ?_
   refine zpu 7 (N:=some 10) (zl 13 137) HT_.out rfl rfl ?_
   refine take_ (i:=1) (N:=some 4) (v:=?_) (a' := ?_) (zl 13 139) rfl rfl (take_ofW HT_.out HW_.out zb10) (fun _ _ _ h=>h) (Or.inl ⟨zb63,?_⟩) hHeld ?_ ?_
   rotate_left
   ·rintro w' ⟨s0,s1,s2,s3,s4⟩;go_simp;with_reducible rfl
   rotate_left
   ·simp only [Act.put,zqA,zqB,zqC,i64_w,i32_w];rfl
   refine zpu 2 (N:=some 5) (zl 13 143) HT_.out rfl rfl ?_
   refine take_ (i:=4) (N:=some 7) (v:=?_) (a' := ?_) (zl 13 159) rfl rfl (take_ofW HT_.out HW_.out zb10) (fun _ _ _ h=>h) (Or.inl ⟨zb63,?_⟩) hHeld ?_ ?_
   rotate_left
   ·rintro w' ⟨s0,s1,s2,s3,s4⟩;go_simp;with_reducible rfl
   rotate_left
   ·simp only [Act.put,zqA,zqB,zqC,i64_w,i32_w];rfl
   refine zpu 5 (N:=some 8) (zl 13 191) HT_.out rfl rfl ?_
   refine zpu 6 (N:=some 9) (zl 13 255) HT_.out rfl rfl ?_
   refine take_ (i:=8) (N:=some 11) (v:=?_) (a' := ?_) (zl 13 511) rfl rfl (take_ofW HT_.out HW_.out zb10) (fun _ _ _ h=>h) (Or.inl ⟨zb63,?_⟩) hHeld ?_ ?_
   rotate_left
   ·rintro w' ⟨s0,s1,s2,s3,s4⟩;go_simp;with_reducible rfl
   rotate_left
   ·simp only [Act.put,zqA,zqB,zqC,i64_w,i32_w];rfl
   refine one_ (i:=9) (N:=some 12) (zl 13 1023) rfl rfl (one_of HT_.out zb10) zb46 (fun K hK=>?_)
   refine goes_ Tryz.func91 zb10 rfl #[.int .i64 a0_2] zb63 rfl rfl zb1 ?_
   with_reducible refine (tollbarref02_Text.calls k a0_2 t1057 _ A5.out).mono ?_
   rintro e w10 ⟨rfl,hb⟩
   refine ⟨_,rfl,?_⟩
   replace BK1056:=Aside0.mk (blk_below (g:=gb1056) (o:=.cells #[.string a0_0,.string a0_1,.int .i64 a0_2,.slice A0_3 l0_3.length c0_3,.slice A0_4 l0_4.length c0_4] 33 (0,0)) (by (with_reducible repeat (first|refine blk_drewN ?_ _|refine blk_drew ?_|refine blk_alloc ?_ _));exact BK1056.out) hb)
   replace HB:=Aside0.mk (below_step zb159 hb)
   (try clear hb)
   (try clear hb2)
   (try clear hk)
   (try clear hi)
   refine hK.out _ _ ⟨(blk_cell BK1056.out 0).trans rfl,(blk_cell BK1056.out 1).trans rfl,(blk_cell BK1056.out 2).trans rfl,(blk_cell BK1056.out 3).trans rfl,(blk_cell BK1056.out 4).trans rfl⟩ (fun hHeld=>?_)
   clear hK K
   refine norm_ (a' := ?_) ?_ ?_
   rotate_left
   ·show Act.put _ (some 12) _=_
    simp only [Act.put,zqA,zqB,zqC,i64_w,i32_w]
    rfl
   refine zpu 10 (N:=some 13) (zl 13 2047) HT_.out rfl rfl ?_
   refine zpu 11 (N:=some 14) (zl 13 4095) HT_.out rfl rfl ?_
   refine zpu 12 (N:=some 2) (zl 13 8191) HT_.out rfl rfl ?_
   refine done_ (done_of HT_.out zb10) ?_
   try go_wp2
   go_ret
   exact ⟨zb3,zb159⟩
  ·rw [if_neg c6] at H
   exact absurd H zb40
 ·rw [if_neg c3] at H
  exact absurd H zb40
mutual
def tollbarref01_Join.l0:Nat → List Int → List Int → List Int → Int → Option (List Int)
 | 0,_,_,_,_=>none
 | k + 1,x0,x1,x5,x6=>if x6 < (x0.length:Int) then (if 0 ≤ x6 then (if x5.length < 140737488355328 then (tollbarref01_Join.l0 k x0 x1 (x5 ++ [rd x0 x6]) (wrap64 (x6 + 1))) else (none)) else (none)) else (tollbarref01_Join.l1 k x1 x5 0)
def tollbarref01_Join.l1:Nat → List Int → List Int → Int → Option (List Int)
 | 0,_,_,_=>none
 | k + 1,x1,x5,x7=>if x7 < (x1.length:Int) then (if 0 ≤ x7 then (if x5.length < 140737488355328 then (tollbarref01_Join.l1 k x1 (x5 ++ [rd x1 x7]) (wrap64 (x7 + 1))) else (none)) else (none)) else (some x5)
end
def tollbarref01_Join.f (k:Nat) (l0:List Int) (l1:List Int):Option (List Int):=tollbarref01_Join.l0 k l0 l1 (([]:List Int)) 0
set_option maxHeartbeats 8000000 in
set_option maxRecDepth 100000 in
theorem tollbarref01_Join.calls (k:Nat) (A0:Option Addr) (c0:Nat) (l0:List Int) (A1:Option Addr) (c1:Nat) (l1:List Int) (r:List Int) (w:World) (hr0:Kd.C (Kd.int .u8) w A0 l0.length l0) (hc0:l0.length ≤ c0) (hr1:Kd.C (Kd.int .u8) w A1 l1.length l1) (hc1:l1.length ≤ c1) (h:tollbarref01_Join.f k l0 l1=some r) :
 Calls Tryz.prog 50 #[.slice A0 l0.length c0,.slice A1 l1.length c1] w fun e w' => ∃ v0_:Value,e = .returned (v0_)∧Kd.R (Kd.int .u8) 5 w' w.heap.size (fun _=>True) v0_ r∧Below w.heap.size w w' := by
 have HR0:=Aside0.mk hr0
 have HC0:=Aside0.mk hc0
 clear hr0 hc0
 have HR1:=Aside0.mk hr1
 have HC1:=Aside0.mk hc1
 clear hr1 hc1
 have HB:=Aside0.mk (Below.refl w.heap.size w)
 unfold tollbarref01_Join.f at h
 have H:=h
 clear h
 obtain ⟨y437,hy437⟩ : ∃ y_:List Int,y_=(([]:List Int)):=⟨_,rfl⟩
 replace H:(tollbarref01_Join.l0 k l0 l1 y437 0)=some r:=by first|(rw [hy437];with_reducible exact H)|(have H2_:=(Option.bind_some _ _).symm.trans H;rw [hy437];with_reducible exact H2_)|(have H2_:=(Option.bind_some _ _).symm.trans H;with_reducible exact H2_)|with_reducible exact H|(rw [hy437];exact H)|exact H
 have Ny437:=Aside0.mk hy437
 clear hy437
 have H' := Aside0.mk H
 clear H
 go_enter Tryz.func50,Tryz.ntmps50
 go_wp2_with (first|((with_reducible refine gate_dst (N:=8) rfl ?_);refine Kd.R_lit (Kd.int .u8) _ 5 ?hg (N:=8) ?hd (xs:=([]:List Int)) (inner:=[]) (ok:=fun _=>True) (okp:=fun _=>True) ?hr ?hp (fun _ hk=>hk) trivial (Below.refl _ _) (Nat.le_refl _) zb40 ?_;(case hd=>rfl);(case hg=>rfl);(case hr=>first|(go_simp;done)|(go_simp;rfl));(case hp=>exact (Reps.none _ _));intro v438 w3 ho4 hb hg_ hnew_;clear hg_ hnew_;(first|rw [← Ny437.out] at ho4|(simp only [Int.reduceToNat] at ho4;rw [← Ny437.out] at ho4));have HO439:=Aside0.mk (Kd.R_lower ho4 (below_size zb0));replace HB:=Aside0.mk (below_step zb0 hb);clear hb ho4))
 go_loopg [5,6] k (fun kq v5 v6 w' => ∃ (x5_1:List Int) (x6_1:Int),v6 = .int .i64 x6_1∧Aside0 (tollbarref01_Join.l0 kq l0 l1 x5_1 x6_1=some r)∧Aside0 (kq ≤ k)∧Aside0 (Kd.R (Kd.int .u8) 5 w' w.heap.size (fun _=>True) v5 x5_1)∧Aside0 (Below w.heap.size w w'))
 case atStart=>exact ⟨(y437),(0),zb8,H',⟨Nat.le_refl _⟩,⟨by (with_reducible repeat (first|apply Kd.R_alloc|apply Kd.R_drewN|apply Kd.R_drew));exact HO439.out⟩,⟨zb0⟩⟩
 case round =>
  clear H'
  try clear c1
  try clear p2
  obtain ⟨x5_1,x6_1,rfl,HA,HK1,HO_5,HB⟩:=hrel
  cases gk with
  | zero=>exact absurd HA.out (by simp [tollbarref01_Join.l0])
  | succ k1 =>
   have H:=HA.out
   clear HA
   simp only [tollbarref01_Join.l0] at H
   by_cases c5:x6_1 < (l0.length:Int)
   ·rw [if_pos c5] at H
    have c5b0:=decide_eq_true c5
    clear c5
    by_cases c6:0 ≤ x6_1;rotate_left
    ·rw [if_neg c6] at H
     exact absurd H zb40
    rw [if_pos c6] at H
    have c6b0:=decide_eq_true c6
    clear c6
    by_cases c7:x5_1.length < 140737488355328
    ·rw [if_pos c7] at H
     have LMc7:=Aside0.mk c7
     clear c7
     obtain ⟨y441,hy441⟩ : ∃ y_:List Int,y_=(x5_1 ++ [rd l0 x6_1]):=⟨_,rfl⟩
     replace H:(tollbarref01_Join.l0 k1 l0 l1 y441 (wrap64 (x6_1 + 1)))=some r:=by first|(rw [hy441];with_reducible exact H)|(have H2_:=(Option.bind_some _ _).symm.trans H;rw [hy441];with_reducible exact H2_)|(have H2_:=(Option.bind_some _ _).symm.trans H;with_reducible exact H2_)|with_reducible exact H|(rw [hy441];exact H)|exact H
     have Ny441:=Aside0.mk hy441
     clear hy441
     have H' := Aside0.mk H
     clear H
     have p440:0 ≤ (x6_1:Int):=of_decide_eq_true zb5
     have q440:x6_1 < (l0.length:Int):=of_decide_eq_true zb5
     obtain ⟨ad440,e440,hx440_0⟩:=Kd.at_int HR0.out x6_1 p440 q440
     cases e440
     replace hx440_0:=(HB.out.cell (World.block_lt_of_cell? w _ hx440_0)).trans hx440_0
     replace p440:=eq_true p440
     replace q440:=eq_true q440
     go_wp2_with (first|((with_reducible refine gate_builtin (b:=.append) (xs:=#[.tmp 15,.tmp 20]) rfl ?_);at_builtin;refine Kd.R_append (Kd.int .u8) (w0:=w) w.heap.size rfl (.tmp 15) (.tmp 20) 23 5 (.int .u8 0) 1 rfl Tryz.underlying23 info5 rfl zb46 zb30 u5 x5_1 (rd l0 x6_1) [.int .u8 (rd l0 x6_1)] (fun _=>True) (fun _=>False) rfl rfl ?aP (fun _ hk=>hk.elim) ?aF ?aO ?aB ?aS ?aL ?_;(case aP=>exact rfl);(case aB=>exact zb81);(case aF=>exact (fun _ _=>trivial));(case aO=>exact zb127);(case aS=>exact zb62);(case aL=>have:=LMc7.out;omega);intro v442 w8 ho hb hg hat;rw [← Ny441.out] at ho;replace HB:=Aside0.mk (hb);have HO443:=Aside0.mk (ho);clear ho hb hg hat))
     go_roundg k1
     case measure=>have:=HK1.out;omega
     case rel=>exact ⟨(y441),(wrap64 (x6_1 + 1)),zb8,H',⟨zb136⟩,⟨by (with_reducible repeat (first|apply Kd.R_alloc|apply Kd.R_drewN|apply Kd.R_drew));exact HO443.out⟩,⟨zb0⟩⟩
    ·rw [if_neg c7] at H
     exact absurd H zb40
   rw [if_neg c5] at H
   have c5b0:=decide_eq_false c5
   clear c5
   have H' := Aside0.mk H
   clear H
   go_wp2
   go_loopg [5,7] k1 (fun kq v5 v7 w' => ∃ (x5_2:List Int) (x7_2:Int),v7 = .int .i64 x7_2∧Aside0 (tollbarref01_Join.l1 kq l1 x5_2 x7_2=some r)∧Aside0 (kq ≤ k1)∧Aside0 (Kd.R (Kd.int .u8) 5 w' w.heap.size (fun _=>True) v5 x5_2)∧Aside0 (Below w.heap.size w w'))
   case atStart=>exact ⟨(x5_1),(0),zb8,H',⟨Nat.le_refl _⟩,⟨zb42⟩,⟨zb0⟩⟩
   case round =>
    clear H'
    try clear c1
    try clear p2
    try clear p4
    try clear q4
    try clear hx4
    try clear c5
    try clear c5b0
    try clear c6
    try clear c6b0
    try clear p6
    try clear c7
    try clear hx440_0
    try clear p2
    try clear p440
    try clear q440
    obtain ⟨x5_2,x7_2,rfl,HA,HK2,HO_5,HB⟩:=hrel
    cases gk with
    | zero=>exact absurd HA.out (by simp [tollbarref01_Join.l1])
    | succ k2 =>
     have H:=HA.out
     clear HA
     simp only [tollbarref01_Join.l1] at H
     by_cases c9:x7_2 < (l1.length:Int);rotate_left
     ·rw [if_neg c9] at H
      have c9b0:=decide_eq_false c9
      clear c9
      obtain rfl:=Option.some.inj H
      go_wp2
      go_ret
      exact ⟨_,zb3,zb42,zb0⟩
     rw [if_pos c9] at H
     have c9b0:=decide_eq_true c9
     clear c9
     by_cases c10:0 ≤ x7_2
     ·rw [if_pos c10] at H
      have c10b0:=decide_eq_true c10
      clear c10
      by_cases c11:x5_2.length < 140737488355328
      ·rw [if_pos c11] at H
       have LMc11:=Aside0.mk c11
       clear c11
       obtain ⟨y445,hy445⟩ : ∃ y_:List Int,y_=(x5_2 ++ [rd l1 x7_2]):=⟨_,rfl⟩
       replace H:(tollbarref01_Join.l1 k2 l1 y445 (wrap64 (x7_2 + 1)))=some r:=by first|(rw [hy445];with_reducible exact H)|(have H2_:=(Option.bind_some _ _).symm.trans H;rw [hy445];with_reducible exact H2_)|(have H2_:=(Option.bind_some _ _).symm.trans H;with_reducible exact H2_)|with_reducible exact H|(rw [hy445];exact H)|exact H
       have Ny445:=Aside0.mk hy445
       clear hy445
       have H' := Aside0.mk H
       clear H
       have p444:0 ≤ (x7_2:Int):=of_decide_eq_true zb5
       have q444:x7_2 < (l1.length:Int):=of_decide_eq_true zb5
       obtain ⟨ad444,e444,hx444_0⟩:=Kd.at_int HR1.out x7_2 p444 q444
       cases e444
       replace hx444_0:=(HB.out.cell (World.block_lt_of_cell? w _ hx444_0)).trans hx444_0
       replace p444:=eq_true p444
       replace q444:=eq_true q444
       go_wp2_with (first|((with_reducible refine gate_builtin (b:=.append) (xs:=#[.tmp 28,.tmp 33]) rfl ?_);at_builtin;refine Kd.R_append (Kd.int .u8) (w0:=w) w.heap.size rfl (.tmp 28) (.tmp 33) 23 5 (.int .u8 0) 1 rfl Tryz.underlying23 info5 rfl zb46 zb30 u5 x5_2 (rd l1 x7_2) [.int .u8 (rd l1 x7_2)] (fun _=>True) (fun _=>False) rfl rfl ?aP (fun _ hk=>hk.elim) ?aF ?aO ?aB ?aS ?aL ?_;(case aP=>exact rfl);(case aB=>exact zb81);(case aF=>exact (fun _ _=>trivial));(case aO=>exact zb127);(case aS=>exact zb62);(case aL=>have:=LMc11.out;omega);intro v446 w12 ho hb hg hat;rw [← Ny445.out] at ho;replace HB:=Aside0.mk (hb);have HO447:=Aside0.mk (ho);clear ho hb hg hat))
       go_roundg k2
       case measure=>have:=HK1.out;have:=HK2.out;omega
       case rel=>exact ⟨(y445),(wrap64 (x7_2 + 1)),zb8,H',⟨by have:=HK1.out;have:=HK2.out;omega⟩,⟨by (with_reducible repeat (first|apply Kd.R_alloc|apply Kd.R_drewN|apply Kd.R_drew));exact HO447.out⟩,⟨zb0⟩⟩
      ·rw [if_neg c11] at H
       exact absurd H zb40
     ·rw [if_neg c10] at H
      exact absurd H zb40
def tollbarref04_Line.f (a0_0:ByteArray) (a0_1:ByteArray):Option (ByteArray):=if a0_0.size + 2 ≤ 9223372036854775807 then (if (a0_0 ++ (⟨#[58,32]⟩:ByteArray)).size + a0_1.size ≤ 9223372036854775807 then (if ((a0_0 ++ (⟨#[58,32]⟩:ByteArray)) ++ a0_1).size + 2 ≤ 9223372036854775807 then (some (((a0_0 ++ (⟨#[58,32]⟩:ByteArray)) ++ a0_1) ++ (⟨#[13,10]⟩:ByteArray))) else (none)) else (none)) else (none)
set_option maxHeartbeats 8000000 in
set_option maxRecDepth 100000 in
theorem tollbarref04_Line.calls (a0_0:ByteArray) (a0_1:ByteArray) (r:ByteArray) (w:World) (h:tollbarref04_Line.f a0_0 a0_1=some r) :
 Calls Tryz.prog 126 #[.agg #[.string a0_0,.string a0_1]] w fun e w' => e = .returned (.string r)∧Below w.heap.size w w' := by
 have hu55:=Tryz.underlying55
 have HB:=Aside0.mk (Below.refl w.heap.size w)
 unfold tollbarref04_Line.f at h
 have H:=h
 clear h
 by_cases c2:a0_0.size + 2 ≤ 9223372036854775807;rotate_left
 ·rw [if_neg c2] at H
  exact absurd H zb40
 rw [if_pos c2] at H
 have c2b0:=eq_true c2
 have c2b1:=decide_eq_true c2
 try have c2b2:(9223372036854775807 < a0_0.size + 2)=False:=eq_false (Nat.not_lt.2 c2)
 by_cases c3:(a0_0 ++ (⟨#[58,32]⟩:ByteArray)).size + a0_1.size ≤ 9223372036854775807
 ·rw [if_pos c3] at H
  have c3b0:=eq_true c3
  have c3b1:=decide_eq_true c3
  try have c3b2:(9223372036854775807 < (a0_0 ++ (⟨#[58,32]⟩:ByteArray)).size + a0_1.size)=False:=eq_false (Nat.not_lt.2 c3)
  try (have c3b3:=c3b0;simp only [ByteArray.size_append] at c3b3;have c3b4:=c3b2;simp only [ByteArray.size_append] at c3b4)
  try have c3b5:(9223372036854775807 < a0_0.size + 2 + a0_1.size)=False:=eq_false zb137
  try have c3b6:(a0_0.size + 2 + a0_1.size ≤ 9223372036854775807)=True:=eq_true zb137
  by_cases c4:((a0_0 ++ (⟨#[58,32]⟩:ByteArray)) ++ a0_1).size + 2 ≤ 9223372036854775807;rotate_left
  ·rw [if_neg c4] at H
   exact absurd H zb40
  rw [if_pos c4] at H
  have c4b0:=eq_true c4
  have c4b1:=decide_eq_true c4
  try have c4b2:(9223372036854775807 < ((a0_0 ++ (⟨#[58,32]⟩:ByteArray)) ++ a0_1).size + 2)=False:=eq_false (Nat.not_lt.2 c4)
  try (have c4b3:=c4b0;simp only [ByteArray.size_append] at c4b3;have c4b4:=c4b2;simp only [ByteArray.size_append] at c4b4)
  try have c4b5:(9223372036854775807 < a0_0.size + 2 + a0_1.size + 2)=False:=eq_false zb138
  try have c4b6:(a0_0.size + 2 + a0_1.size + 2 ≤ 9223372036854775807)=True:=eq_true zb138
  obtain rfl:=Option.some.inj H
  go_enter Tryz.func126,Tryz.ntmps126
  go_wp2_with (first|((with_reducible refine gate_dst (N:=1) rfl ?_);refine box_event rfl (N:=1) rfl (cs:=#[.string a0_0,.string a0_1]) (t:=55) zS ?_;intro gb1055 hg w5 hbox hb;have GW1055:=zG hg zb0;have GE1055:=GW1055;have BK1055:=Aside0.mk hbox;replace HB:=Aside0.mk (below_step zb0 hb);clear hb hbox hg;obtain ⟨hcz6_0,hcz6_1,hfz6_0,hfz6_1⟩:=zq2 BK1055.out))
  go_ret
  exact ⟨zb3,by repeat (first|(with_reducible first|exact HB.out|apply below_alloc|apply pw_below_drewN|apply below_drew1|refine below_set ?_ GE1055.out)|exact HB.out)⟩
 ·rw [if_neg c3] at H
  exact absurd H zb40
def tollbarref08_write.l:Nat → List (S55) → Int → ByteArray → Option ByteArray
 | 0,_,_,_=>none
 | k + 1,fs,i,s=>if i < (fs.length:Int) then (if 0 ≤ i then ((tollbarref04_Line.f (rd_T55 fs i).f0 (rd_T55 fs i).f1).bind fun t=>if s.size + t.size ≤ 9223372036854775807 then tollbarref08_write.l k fs (wrap64 (i + 1)) (s ++ t) else none) else none) else some s
def tollbarref08_write.f (k:Nat) (a0:ByteArray) (l1:List (S55)) (l2:List Int):Option (List Int):=(tollbarref08_write.l k l1 0 a0).bind fun s=>if s.size + 2 ≤ 9223372036854775807 then (if (s ++ (⟨#[13,10]⟩:ByteArray)).size ≤ 140737488355328 then tollbarref01_Join.f k (bytesOf (s ++ (⟨#[13,10]⟩:ByteArray))) l2 else none) else none
set_option maxHeartbeats 8000000 in
set_option maxRecDepth 100000 in
theorem tollbarref08_write.calls (k:Nat) (a0:ByteArray) (A1:Option Addr) (c1:Nat) (l1:List (S55)) (A2:Option Addr) (c2:Nat) (l2:List Int) (r:List Int) (w:World) (hr1:Kd.C k55 w A1 l1.length l1) (hc1:l1.length ≤ c1) (hr2:Kd.C (Kd.int .u8) w A2 l2.length l2) (hc2:l2.length ≤ c2) (h:tollbarref08_write.f k a0 l1 l2=some r) :
 Calls Tryz.prog 76 #[.string a0,.slice A1 l1.length c1,.slice A2 l2.length c2] w fun e w' => ∃ v0_:Value,e = .returned (v0_)∧Kd.R (Kd.int .u8) 5 w' w.heap.size (fun _=>True) v0_ r∧Below w.heap.size w w' := by
 have hu:=Tryz.underlying55
 unfold tollbarref08_write.f at h
 obtain ⟨z,hz,h'⟩:=Option.bind_eq_some_iff.1 h
 clear h
 by_cases g1:z.size + 2 ≤ 9223372036854775807;rotate_left
 ·rw [if_neg g1] at h'
  cases h'
 rw [if_pos g1] at h'
 by_cases g2:(z ++ (⟨#[13,10]⟩:ByteArray)).size ≤ 140737488355328
 ·rw [if_pos g2] at h'
  have HZ:=Aside0.mk hz
  have HJ:=Aside0.mk h'
  have HR1:=Aside0.mk hr1
  have HR2:=Aside0.mk hr2
  have HC2:=Aside0.mk hc2
  have G1:=Aside0.mk g1
  have G2:=Aside0.mk g2
  clear hz h' hr1 hr2 hc1 hc2 g1 g2
  go_enter Tryz.func76,Tryz.ntmps76
  go_wp2
  go_loopg [7,8] k (fun kq v7 v8 w' => ∃ (i:Int) (s:ByteArray),v8 = .int .i64 i∧v7 = .string s∧Aside0 (tollbarref08_write.l kq l1 i s=some z)∧Aside0 (Below w.heap.size w w'))
  case atStart=>exact ⟨0,a0,rfl,rfl,HZ,⟨Below.refl _ _⟩⟩
  case round =>
   clear HZ
   obtain ⟨i,s,rfl,rfl,HA,HB⟩:=hrel
   cases gk with
   | zero=>exact absurd HA.out (by simp [tollbarref08_write.l])
   | succ k1 =>
    have h:=HA.out
    clear HA
    simp only [tollbarref08_write.l] at h
    by_cases b0:i < (l1.length:Int);rotate_left
    ·rw [if_neg b0] at h
     have d0:decide (i < (l1.length:Int))=false:=decide_eq_false b0
     replace b0:=eq_false b0
     simp only [Option.some.injEq] at h
     subst h
     have d2:(9223372036854775807 < s.size + 2)=False:=eq_false (Nat.not_lt.2 G1.out)
     have d3:decide (s.size + 2 ≤ 9223372036854775807)=true:=decide_eq_true G1.out
     have b2:=eq_true G1.out
     obtain ⟨y,hy⟩ : ∃ y,y=s ++ (⟨#[13,10]⟩:ByteArray):=⟨_,rfl⟩
     have HY:=Aside0.mk hy
     have hconv : ∀ W:World,(convert 9 23 (.string (s ++ (⟨#[13,10]⟩:ByteArray)))).run Tryz.prog W = .ok (.slice (some ⟨W.heap.size,0,none⟩) y.size (grownCap W y.size 0 5)) (Lib.bytesWorld W 5 y):=fun W=>by rw [← HY.out];exact Lib.run_convert_string_bytes W _ _ _ y Tryz.underlying9 Tryz.underlying23 Tryz.underlying5
     clear hy
     have HJ2:=Aside0.mk (show tollbarref01_Join.f k (bytesOf y) l2=some r by rw [HY.out];exact HJ.out)
     have LB:=Aside0.mk (bytes_below HB.out HB.out.size 5 y)
     have BC:=Aside0.mk (BufM.reads' (bufM_conv wr 5 y) (by rw [bufM_len,HY.out];have z:=G2.out;omega))
     go_wp2_with (first
      | (go_at_call 50;refine calls_of_args (args' := #[.slice (some ⟨wr.heap.size,0,none⟩) (bytesOf y).length (grownCap wr y.size 0 5),.slice A2 l2.length c2]) (by rw [bufM_len]) ?_;refine (tollbarref01_Join.calls k _ _ (bytesOf y) A2 c2 l2 r _ BC.out.2.2 BC.out.2.1 (Kd.C_below HR2.out LB.out) HC2.out HJ2.out).mono ?_;rintro E w3 ⟨v0,rfl,hR3,hb3⟩;have R3:=Aside0.mk hR3;have L3:=Aside0.mk hb3;clear hR3 hb3))
     go_ret
     exact ⟨_,rfl,Kd.R_lower R3.out LB.out.size,LB.out.trans (hbase2 LB.out.size L3.out)⟩
    rw [if_pos b0] at h
    by_cases b1:0 ≤ i
    ·rw [if_pos b1] at h
     obtain ⟨t,hl,h'⟩:=Option.bind_eq_some_iff.1 h
     clear h
     by_cases b2:s.size + t.size ≤ 9223372036854775807
     ·rw [if_pos b2] at h'
      have H2:=Aside0.mk h'
      have HL:=Aside0.mk hl
      clear h' hl
      obtain ⟨ad,e1,hx0,hx1⟩:=at_T55 HR1.out i b1 b0
      cases e1
      replace hx0:=(HB.out.cell (World.block_lt_of_cell? w _ hx0)).trans hx0
      replace hx1:=(HB.out.cell (World.block_lt_of_cell? w _ hx1)).trans hx1
      have d0:decide (i < (l1.length:Int))=true:=decide_eq_true b0
      replace b0:=eq_true b0
      replace b1:=eq_true b1
      have d2:(9223372036854775807 < s.size + t.size)=False:=eq_false (Nat.not_lt.2 b2)
      have d3:decide (s.size + t.size ≤ 9223372036854775807)=true:=decide_eq_true b2
      replace b2:=eq_true b2
      go_wp2_with (first
       | (go_at_call 126;refine (tollbarref04_Line.calls _ _ t _ HL.out).mono ?_;rintro E w2 ⟨rfl,hb2⟩;have L2:=Aside0.mk (HB.out.trans (Below.mk hb2.os hb2.tape hb2.output hb2.size (fun i hi=>hb2.block i (Nat.lt_of_lt_of_le hi HB.out.size))));clear hb2))
      go_roundg k1
      case rel=>exact ⟨wrap64 (i + 1),s ++ t,zb183,rfl,H2,L2⟩
      case measure=>exact Nat.lt_succ_self k1
     ·rw [if_neg b2] at h'
      cases h'
    ·rw [if_neg b1] at h
     cases h
 ·rw [if_neg g2] at h'
  cases h'
def tollbarref08_WriteRequest.f (k:Nat) (a0_0:ByteArray) (a0_1:ByteArray) (a0_2:Int) (l0_3:List (S55)) (l0_4:List Int):Option (List Int):=(tollbarref05_RequestLine.f k a0_0 a0_1 a0_2 l0_3 l0_4).bind fun t1059=>((tollbarref08_write.f k t1059 l0_3 l0_4).bind fun t1060=>(some t1060))
def tollbarref08_WriteRequest.T1:Bool × List (List Nat × List Nat):=(true,[([],[]),([0],[0]),([],[]),([2],[2]),([],[]),([4],[4]),([1,3,5,1],[1,3,5]),([6,6,0,1,2,3,4,5,6],[6])])
def tollbarref08_WriteRequest.B1:List Nat:=[0,1,0,4,0,16,63,127]
theorem tollbarref08_WriteRequest.tab1:rtab .any (opsOf Tryz.f37 1)=tollbarref08_WriteRequest.T1:=by kernel_rfl
theorem tollbarref08_WriteRequest.bits1:waitsOk tollbarref08_WriteRequest.T1.2 tollbarref08_WriteRequest.B1=true:=by kernel_rfl
set_option maxHeartbeats 8000000 in
set_option maxRecDepth 100000 in
theorem tollbarref08_WriteRequest.calls (k:Nat) (a0_0:ByteArray) (a0_1:ByteArray) (a0_2:Int) (A0_3:Option Addr) (c0_3:Nat) (l0_3:List (S55)) (A0_4:Option Addr) (c0_4:Nat) (l0_4:List Int) (r:List Int) (w:World) (hr0_3:Kd.C k55 w A0_3 l0_3.length l0_3) (hc0_3:l0_3.length ≤ c0_3) (hr0_4:Kd.C (Kd.int .u8) w A0_4 l0_4.length l0_4) (hc0_4:l0_4.length ≤ c0_4) (h:tollbarref08_WriteRequest.f k a0_0 a0_1 a0_2 l0_3 l0_4=some r) :
 Calls Tryz.prog 37 #[.agg #[.string a0_0,.string a0_1,.int .i64 a0_2,.slice A0_3 l0_3.length c0_3,.slice A0_4 l0_4.length c0_4]] w fun e w' => ∃ v0_:Value,e = .returned (v0_)∧Kd.R (Kd.int .u8) 5 w' w.heap.size (fun _=>True) v0_ r∧Below w.heap.size w w' := by
 have hu33:=Tryz.underlying33
 have HR0_3:=Aside0.mk hr0_3
 have HC0_3:=Aside0.mk hc0_3
 clear hr0_3 hc0_3
 have HR0_4:=Aside0.mk hr0_4
 have HC0_4:=Aside0.mk hc0_4
 clear hr0_4 hc0_4
 have HB:=Aside0.mk (Below.refl w.heap.size w)
 unfold tollbarref08_WriteRequest.f at h
 have H:=h
 clear h
 replace H:=Option.bind_eq_some_iff.mp H
 obtain ⟨t1059,A20,H⟩:=H
 try dsimp only at H
 have A2:=Aside0.mk A20
 clear A20
 replace H:=Option.bind_eq_some_iff.mp H
 obtain ⟨t1060,A30,H⟩:=H
 try dsimp only at H
 have A3:=Aside0.mk A30
 clear A30
 obtain rfl:=Option.some.inj H
 go_enter Tryz.func37,Tryz.ntmps37
 try go_wp2_with (first|((with_reducible refine gate_dst (N:=1) rfl ?_);refine box_event rfl (N:=1) rfl (cs:=#[.string a0_0,.string a0_1,.int .i64 a0_2,.slice A0_3 l0_3.length c0_3,.slice A0_4 l0_4.length c0_4]) (t:=33) zS ?_;intro gb1058 hg w4 hbox hb;have GW1058:=zG hg zb0;have GE1058:=GW1058;have BK1058:=Aside0.mk hbox;replace HB:=Aside0.mk (below_step zb0 hb);clear hb hbox hg))
 replace BK1058:=Aside0.mk (blk_drew BK1058.out)
 replace HB:=Aside0.mk (below_drew1 HB.out)
 refine start_ (n:=8) (S:=fun w' => w'.cell? ⟨gb1058,0,none⟩=some (.string a0_0)∧w'.cell? ⟨gb1058,1,none⟩=some (.string a0_1)∧w'.cell? ⟨gb1058,2,none⟩=some (.int .i64 a0_2)∧w'.cell? ⟨gb1058,3,none⟩=some (.slice A0_3 l0_3.length c0_3)∧w'.cell? ⟨gb1058,4,none⟩=some (.slice A0_4 l0_4.length c0_4)) (ds:=[]) (zl 8 0) zb10 rfl rfl ⟨(blk_cell BK1058.out 0).trans rfl,(blk_cell BK1058.out 1).trans rfl,(blk_cell BK1058.out 2).trans rfl,(blk_cell BK1058.out 3).trans rfl,(blk_cell BK1058.out 4).trans rfl⟩ (fun hHeld=>?_);refine with_tabW tollbarref08_WriteRequest.tab1 tollbarref08_WriteRequest.bits1 (fun HT_ HW_=>?_)
 generalize w4.drew=w5 at BK1058 HB hHeld ⊢
 refine zpu 2 (N:=some 5) (zl 8 4) HT_.out rfl rfl ?_
 refine zpu 4 (N:=some 7) (zl 8 20) HT_.out rfl rfl ?_
 refine take_ (i:=0) (N:=some 3) (v:=?_) (a' := ?_) (zl 8 21) rfl rfl (take_ofW HT_.out HW_.out zb10) (fun _ _ _ h=>h) (Or.inl ⟨zb63,?_⟩) hHeld ?_ ?_
 rotate_left
 ·rintro w' ⟨s0,s1,s2,s3,s4⟩;go_simp;with_reducible rfl
 rotate_left
 ·simp only [Act.put,zqA,zqB,zqC,i64_w,i32_w];rfl
 refine take_ (i:=3) (N:=some 6) (v:=?_) (a' := ?_) (zl 8 29) rfl rfl (take_ofW HT_.out HW_.out zb10) (fun _ _ _ h=>h) (Or.inl ⟨zb63,?_⟩) hHeld ?_ ?_
 rotate_left
 ·rintro w' ⟨s0,s1,s2,s3,s4⟩;go_simp;with_reducible rfl
 rotate_left
 ·simp only [Act.put,zqA,zqB,zqC,i64_w,i32_w];rfl
 refine take_ (i:=5) (N:=some 8) (v:=?_) (a' := ?_) (zl 8 61) rfl rfl (take_ofW HT_.out HW_.out zb10) (fun _ _ _ h=>h) (Or.inl ⟨zb63,?_⟩) hHeld ?_ ?_
 rotate_left
 ·rintro w' ⟨s0,s1,s2,s3,s4⟩;go_simp;with_reducible rfl
 rotate_left
 ·simp only [Act.put,zqA,zqB,zqC,i64_w,i32_w];rfl
 refine one_ (i:=1) (N:=some 4) (zl 8 63) rfl rfl (one_of HT_.out zb10) zb46 (fun K hK=>?_)
 refine goes_ Tryz.func77 zb10 rfl #[.agg #[.string a0_0,.string a0_1,.int .i64 a0_2,.slice A0_3 l0_3.length c0_3,.slice A0_4 l0_4.length c0_4]] zb63 rfl rfl zb1 ?_
 with_reducible refine (tollbarref05_RequestLine.calls k a0_0 a0_1 a0_2 _ _ l0_3 _ _ l0_4 t1059 _ ?side1 ?side2 ?side3 ?side4 A2.out).mono ?_
 (case side1=>exact zb34)
 (case side2=>exact HC0_3.out)
 (case side3=>exact zb110)
 (case side4=>exact HC0_4.out)
 rintro e w6 ⟨rfl,hb⟩
 refine ⟨_,rfl,?_⟩
 replace BK1058:=Aside0.mk (blk_below (g:=gb1058) (o:=.cells #[.string a0_0,.string a0_1,.int .i64 a0_2,.slice A0_3 l0_3.length c0_3,.slice A0_4 l0_4.length c0_4] 33 (0,0)) zb185 hb)
 replace HB:=Aside0.mk (below_step zb112 hb)
 (try clear hb)
 (try clear hb2)
 (try clear hk)
 (try clear hi)
 refine hK.out _ _ ⟨(blk_cell BK1058.out 0).trans rfl,(blk_cell BK1058.out 1).trans rfl,(blk_cell BK1058.out 2).trans rfl,(blk_cell BK1058.out 3).trans rfl,(blk_cell BK1058.out 4).trans rfl⟩ (fun hHeld=>?_)
 clear hK K
 refine norm_ (a' := ?_) ?_ ?_
 rotate_left
 ·show Act.put _ (some 4) _=_
  simp only [Act.put,zqA,zqB,zqC,i64_w,i32_w]
  rfl
 refine one_ (i:=6) (N:=some 9) (zl 8 127) rfl rfl (one_of HT_.out zb10) zb46 (fun K hK=>?_)
 refine goes_ Tryz.func76 zb10 rfl #[.string t1059,.slice A0_3 l0_3.length c0_3,.slice A0_4 l0_4.length c0_4] zb63 rfl rfl zb1 ?_
 with_reducible refine (tollbarref08_write.calls k t1059 _ _ l0_3 _ _ l0_4 t1060 _ ?side1 ?side2 ?side3 ?side4 A3.out).mono ?_
 (case side1=>exact zb34)
 (case side2=>exact HC0_3.out)
 (case side3=>exact zb110)
 (case side4=>exact HC0_4.out)
 rintro e w7 ⟨v1061,rfl,ho0,hb⟩
 refine ⟨_,rfl,?_⟩
 have n0_:=Aside0.mk (Kd.R_lower ho0 (below_size zb112))
 have n1_:=Aside0.mk (blk_below (g:=gb1058) (o:=.cells #[.string a0_0,.string a0_1,.int .i64 a0_2,.slice A0_3 l0_3.length c0_3,.slice A0_4 l0_4.length c0_4] 33 (0,0)) zb185 hb)
 have n2_:=Aside0.mk (below_step zb112 hb)
 clear BK1058 HB
 have HO1062:=n0_
 have BK1058:=n1_
 have HB:=n2_
 clear n0_ n1_ n2_
 (try clear hb)
 (try clear hb2)
 (try clear hk)
 (try clear hi)
 (try clear ho0)
 refine hK.out _ _ ⟨(blk_cell BK1058.out 0).trans rfl,(blk_cell BK1058.out 1).trans rfl,(blk_cell BK1058.out 2).trans rfl,(blk_cell BK1058.out 3).trans rfl,(blk_cell BK1058.out 4).trans rfl⟩ (fun hHeld=>?_)
 clear hK K
 refine norm_ (a' := ?_) ?_ ?_
 rotate_left
 ·show Act.put _ (some 9) _=_
  simp only [Act.put,zqA,zqB,zqC,i64_w,i32_w]
  rfl
 refine zpu 7 (N:=some 2) (zl 8 255) HT_.out rfl rfl ?_
 refine done_ (done_of HT_.out zb10) ?_
 try go_wp2
 go_ret
 exact ⟨_,zb3,by (with_reducible repeat (first|apply Kd.R_alloc|apply Kd.R_drewN|apply Kd.R_drew));exact HO1062.out,zb112⟩
def tollbarref05_StatusLine.l0:Nat → ByteArray → Int → ByteArray → Int → List (S55) → List Int → Option (ByteArray)
 | 0,_,_,_,_,_,_=>none
 | k + 1,x3,x1064000,x1064001,x1064002,x1064003,x1064004=>if (x3.size:Int) < 3 then (if 1 + x3.size ≤ 9223372036854775807 then (tollbarref05_StatusLine.l0 k ((⟨#[48]⟩:ByteArray) ++ x3) x1064000 x1064001 x1064002 x1064003 x1064004) else (none)) else ((tollbarref02_Text.f k x1064002).bind fun t1065=>(if 7 + t1065.size ≤ 9223372036854775807 then (if ((⟨#[72,84,84,80,47,49,46]⟩:ByteArray) ++ t1065).size + 1 ≤ 9223372036854775807 then (if (((⟨#[72,84,84,80,47,49,46]⟩:ByteArray) ++ t1065) ++ (⟨#[32]⟩:ByteArray)).size + x3.size ≤ 9223372036854775807 then (if ((((⟨#[72,84,84,80,47,49,46]⟩:ByteArray) ++ t1065) ++ (⟨#[32]⟩:ByteArray)) ++ x3).size + 1 ≤ 9223372036854775807 then (if (((((⟨#[72,84,84,80,47,49,46]⟩:ByteArray) ++ t1065) ++ (⟨#[32]⟩:ByteArray)) ++ x3) ++ (⟨#[32]⟩:ByteArray)).size + x1064001.size ≤ 9223372036854775807 then (if ((((((⟨#[72,84,84,80,47,49,46]⟩:ByteArray) ++ t1065) ++ (⟨#[32]⟩:ByteArray)) ++ x3) ++ (⟨#[32]⟩:ByteArray)) ++ x1064001).size + 2 ≤ 9223372036854775807 then (some (((((((⟨#[72,84,84,80,47,49,46]⟩:ByteArray) ++ t1065) ++ (⟨#[32]⟩:ByteArray)) ++ x3) ++ (⟨#[32]⟩:ByteArray)) ++ x1064001) ++ (⟨#[13,10]⟩:ByteArray))) else (none)) else (none)) else (none)) else (none)) else (none)) else (none)))
def tollbarref05_StatusLine.f (k:Nat) (a0_0:Int) (a0_1:ByteArray) (a0_2:Int) (l0_3:List (S55)) (l0_4:List Int):Option (ByteArray):=(tollbarref02_Text.f k a0_0).bind fun t1064=>(tollbarref05_StatusLine.l0 k t1064 a0_0 a0_1 a0_2 l0_3 l0_4)
def tollbarref05_StatusLine.T4:Bool × List (List Nat × List Nat):=(true,[([],[]),([0],[0]),([1],[1]),([2],[2]),([3],[3]),([],[]),([4,5],[4,5]),([6],[6]),([],[]),([8],[8]),([7,9],[7,9]),([10],[10]),([11,2,0,1,2,3,4,5,6,7,8,9,10,11],[11])])
def tollbarref05_StatusLine.B4:List Nat:=[0,1,3,7,15,0,63,127,0,256,1023,2047,4095]
theorem tollbarref05_StatusLine.tab4:rtab .any (opsOf Tryz.f79 4)=tollbarref05_StatusLine.T4:=by kernel_rfl
theorem tollbarref05_StatusLine.bits4:waitsOk tollbarref05_StatusLine.T4.2 tollbarref05_StatusLine.B4=true:=by kernel_rfl
set_option maxHeartbeats 8000000 in
set_option maxRecDepth 100000 in
theorem tollbarref05_StatusLine.calls (k:Nat) (a0_0:Int) (a0_1:ByteArray) (a0_2:Int) (A0_3:Option Addr) (c0_3:Nat) (l0_3:List (S55)) (A0_4:Option Addr) (c0_4:Nat) (l0_4:List Int) (r:ByteArray) (w:World) (hr0_3:Kd.C k55 w A0_3 l0_3.length l0_3) (hc0_3:l0_3.length ≤ c0_3) (hr0_4:Kd.C (Kd.int .u8) w A0_4 l0_4.length l0_4) (hc0_4:l0_4.length ≤ c0_4) (h:tollbarref05_StatusLine.f k a0_0 a0_1 a0_2 l0_3 l0_4=some r) :
 Calls Tryz.prog 79 #[.agg #[.int .i64 a0_0,.string a0_1,.int .i64 a0_2,.slice A0_3 l0_3.length c0_3,.slice A0_4 l0_4.length c0_4]] w fun e w' => e = .returned (.string r)∧Below w.heap.size w w' := by
 have hu25:=Tryz.underlying25
 have HR0_3:=Aside0.mk hr0_3
 have HC0_3:=Aside0.mk hc0_3
 clear hr0_3 hc0_3
 have HR0_4:=Aside0.mk hr0_4
 have HC0_4:=Aside0.mk hc0_4
 clear hr0_4 hc0_4
 have HB:=Aside0.mk (Below.refl w.heap.size w)
 unfold tollbarref05_StatusLine.f at h
 have H:=h
 clear h
 replace H:=Option.bind_eq_some_iff.mp H
 obtain ⟨t19,A20,H⟩:=H
 try dsimp only at H
 have A2:=Aside0.mk A20
 clear A20
 have H' := Aside0.mk H
 clear H
 go_enter Tryz.func79,Tryz.ntmps79
 go_wp2_with (first|((with_reducible refine gate_dst (N:=1) rfl ?_);refine box_event rfl (N:=1) rfl (cs:=#[.int .i64 a0_0,.string a0_1,.int .i64 a0_2,.slice A0_3 l0_3.length c0_3,.slice A0_4 l0_4.length c0_4]) (t:=25) zS ?_;intro gb17 hg w3 hbox hb;have GW17:=zG hg zb0;have GE17:=GW17;have BK17:=Aside0.mk hbox;replace HB:=Aside0.mk (below_step zb0 hb);clear hb hbox hg;obtain ⟨hcz4_0,hcz4_1,hcz4_2,hcz4_3,hcz4_4,hfz4_0,hfz4_1,hfz4_2,hfz4_3,hfz4_4⟩:=zq5 BK17.out)|((with_reducible refine gate_callee (f:=91) rfl ?_);refine goesL_ (some 6) rfl rfl Tryz.func91 zb10 rfl #[.int .i64 a0_0] rfl zb1 ?_;(with_reducible refine (tollbarref02_Text.calls k a0_0 t19 _ A2.out).mono ?_);rintro e w5 ⟨rfl,hb⟩;(try clear A2);refine ⟨_,rfl,?_⟩;replace BK17:=Aside0.mk (blk_below (g:=gb17) (o:=.cells #[.int .i64 a0_0,.string a0_1,.int .i64 a0_2,.slice A0_3 l0_3.length c0_3,.slice A0_4 l0_4.length c0_4] 25 (0,0)) zb91 hb);replace HB:=Aside0.mk (below_step zb39 hb);(try clear hb)))
 go_loopg [3] k (fun kq v3 w' => ∃ (x3_1:ByteArray),v3 = .string x3_1∧Aside0 (tollbarref05_StatusLine.l0 kq x3_1 a0_0 a0_1 a0_2 l0_3 l0_4=some r)∧Aside0 (kq ≤ k)∧Aside0 (w'.heap[gb17]? = some (.cells #[.int .i64 a0_0,.string a0_1,.int .i64 a0_2,(.slice A0_3 l0_3.length c0_3),(.slice A0_4 l0_4.length c0_4)] 25 (0,0)))∧Aside0 (Below w.heap.size w w'))
 case atStart=>exact ⟨(t19),zb8,H',⟨Nat.le_refl _⟩,⟨zb91⟩,⟨zb39⟩⟩
 case round =>
  clear H'
  try clear p2
  try clear hcz4_0
  try clear hcz4_1
  try clear hcz4_2
  try clear hcz4_3
  try clear hcz4_4
  try clear hfz4_0
  try clear hfz4_1
  try clear hfz4_2
  try clear hfz4_3
  try clear hfz4_4
  obtain ⟨x3_1,rfl,HA,HK1,BK17,HB⟩:=hrel
  cases gk with
  | zero=>exact absurd HA.out (by simp [tollbarref05_StatusLine.l0])
  | succ k1 =>
   have H:=HA.out
   clear HA
   simp only [tollbarref05_StatusLine.l0] at H
   by_cases c6:(x3_1.size:Int) < 3
   ·rw [if_pos c6] at H
    have c6b0:=decide_eq_true c6
    have c6b1:decide (x3_1.size < 3)=true:=decide_eq_true zb30
    clear c6
    by_cases c7:1 + x3_1.size ≤ 9223372036854775807;rotate_left
    ·rw [if_neg c7] at H
     exact absurd H zb40
    rw [if_pos c7] at H
    have c7b0:=eq_true c7
    have c7b1:=decide_eq_true c7
    try have c7b2:(9223372036854775807 < 1 + x3_1.size)=False:=eq_false (Nat.not_lt.2 c7)
    have H' := Aside0.mk H
    clear H
    go_wp2
    go_roundg k1
    case measure=>have:=HK1.out;omega
    case rel=>exact ⟨((⟨#[48]⟩:ByteArray) ++ x3_1),zb8,H',⟨zb136⟩,⟨zb91⟩,⟨zb39⟩⟩
   rw [if_neg c6] at H
   have c6b0:=decide_eq_false c6
   have c6b1:decide (x3_1.size < 3)=false:=decide_eq_false zb30
   clear c6
   replace H:=Option.bind_eq_some_iff.mp H
   obtain ⟨t18,A80,H⟩:=H
   try dsimp only at H
   have A8:=Aside0.mk A80
   clear A80
   by_cases c9:7 + t18.size ≤ 9223372036854775807;rotate_left
   ·rw [if_neg c9] at H
    exact absurd H zb40
   rw [if_pos c9] at H
   have c9b0:=eq_true c9
   have c9b1:=decide_eq_true c9
   try have c9b2:(9223372036854775807 < 7 + t18.size)=False:=eq_false (Nat.not_lt.2 c9)
   by_cases c10:((⟨#[72,84,84,80,47,49,46]⟩:ByteArray) ++ t18).size + 1 ≤ 9223372036854775807
   ·rw [if_pos c10] at H
    have c10b0:=eq_true c10
    have c10b1:=decide_eq_true c10
    try have c10b2:(9223372036854775807 < ((⟨#[72,84,84,80,47,49,46]⟩:ByteArray) ++ t18).size + 1)=False:=eq_false (Nat.not_lt.2 c10)
    try (have c10b3:=c10b0;simp only [ByteArray.size_append] at c10b3;have c10b4:=c10b2;simp only [ByteArray.size_append] at c10b4)
    try have c10b5:(9223372036854775807 < 7 + t18.size + 1)=False:=eq_false zb128
    try have c10b6:(7 + t18.size + 1 ≤ 9223372036854775807)=True:=eq_true zb128
    by_cases c11:(((⟨#[72,84,84,80,47,49,46]⟩:ByteArray) ++ t18) ++ (⟨#[32]⟩:ByteArray)).size + x3_1.size ≤ 9223372036854775807;rotate_left
    ·rw [if_neg c11] at H
     exact absurd H zb40
    rw [if_pos c11] at H
    have c11b0:=eq_true c11
    have c11b1:=decide_eq_true c11
    try have c11b2:(9223372036854775807 < (((⟨#[72,84,84,80,47,49,46]⟩:ByteArray) ++ t18) ++ (⟨#[32]⟩:ByteArray)).size + x3_1.size)=False:=eq_false (Nat.not_lt.2 c11)
    try (have c11b3:=c11b0;simp only [ByteArray.size_append] at c11b3;have c11b4:=c11b2;simp only [ByteArray.size_append] at c11b4)
    try have c11b5:(9223372036854775807 < 7 + t18.size + 1 + x3_1.size)=False:=eq_false zb106
    try have c11b6:(7 + t18.size + 1 + x3_1.size ≤ 9223372036854775807)=True:=eq_true zb106
    by_cases c12:((((⟨#[72,84,84,80,47,49,46]⟩:ByteArray) ++ t18) ++ (⟨#[32]⟩:ByteArray)) ++ x3_1).size + 1 ≤ 9223372036854775807
    ·rw [if_pos c12] at H
     have c12b0:=eq_true c12
     have c12b1:=decide_eq_true c12
     try have c12b2:(9223372036854775807 < ((((⟨#[72,84,84,80,47,49,46]⟩:ByteArray) ++ t18) ++ (⟨#[32]⟩:ByteArray)) ++ x3_1).size + 1)=False:=eq_false (Nat.not_lt.2 c12)
     try (have c12b3:=c12b0;simp only [ByteArray.size_append] at c12b3;have c12b4:=c12b2;simp only [ByteArray.size_append] at c12b4)
     try have c12b5:(9223372036854775807 < 7 + t18.size + 1 + x3_1.size + 1)=False:=eq_false zb107
     try have c12b6:(7 + t18.size + 1 + x3_1.size + 1 ≤ 9223372036854775807)=True:=eq_true zb107
     by_cases c13:(((((⟨#[72,84,84,80,47,49,46]⟩:ByteArray) ++ t18) ++ (⟨#[32]⟩:ByteArray)) ++ x3_1) ++ (⟨#[32]⟩:ByteArray)).size + a0_1.size ≤ 9223372036854775807;rotate_left
     ·rw [if_neg c13] at H
      exact absurd H zb40
     rw [if_pos c13] at H
     have c13b0:=eq_true c13
     have c13b1:=decide_eq_true c13
     try have c13b2:(9223372036854775807 < (((((⟨#[72,84,84,80,47,49,46]⟩:ByteArray) ++ t18) ++ (⟨#[32]⟩:ByteArray)) ++ x3_1) ++ (⟨#[32]⟩:ByteArray)).size + a0_1.size)=False:=eq_false (Nat.not_lt.2 c13)
     try (have c13b3:=c13b0;simp only [ByteArray.size_append] at c13b3;have c13b4:=c13b2;simp only [ByteArray.size_append] at c13b4)
     try have c13b5:(9223372036854775807 < 7 + t18.size + 1 + x3_1.size + 1 + a0_1.size)=False:=eq_false zb108
     try have c13b6:(7 + t18.size + 1 + x3_1.size + 1 + a0_1.size ≤ 9223372036854775807)=True:=eq_true zb108
     by_cases c14:((((((⟨#[72,84,84,80,47,49,46]⟩:ByteArray) ++ t18) ++ (⟨#[32]⟩:ByteArray)) ++ x3_1) ++ (⟨#[32]⟩:ByteArray)) ++ a0_1).size + 2 ≤ 9223372036854775807
     ·rw [if_pos c14] at H
      have c14b0:=eq_true c14
      have c14b1:=decide_eq_true c14
      try have c14b2:(9223372036854775807 < ((((((⟨#[72,84,84,80,47,49,46]⟩:ByteArray) ++ t18) ++ (⟨#[32]⟩:ByteArray)) ++ x3_1) ++ (⟨#[32]⟩:ByteArray)) ++ a0_1).size + 2)=False:=eq_false (Nat.not_lt.2 c14)
      try (have c14b3:=c14b0;simp only [ByteArray.size_append] at c14b3;have c14b4:=c14b2;simp only [ByteArray.size_append] at c14b4)
      try have c14b5:(9223372036854775807 < 7 + t18.size + 1 + x3_1.size + 1 + a0_1.size + 2)=False:=eq_false zb109
      try have c14b6:(7 + t18.size + 1 + x3_1.size + 1 + a0_1.size + 2 ≤ 9223372036854775807)=True:=eq_true zb109
      obtain rfl:=Option.some.inj H
      try go_wp2
      replace BK17:=Aside0.mk (blk_drew BK17.out)
      replace HB:=Aside0.mk (below_drew1 HB.out)
      refine start_ (n:=13) (S:=fun w' => w'.cell? ⟨gb17,0,none⟩=some (.int .i64 a0_0)∧w'.cell? ⟨gb17,1,none⟩=some (.string a0_1)∧w'.cell? ⟨gb17,2,none⟩=some (.int .i64 a0_2)∧w'.cell? ⟨gb17,3,none⟩=some (.slice A0_3 l0_3.length c0_3)∧w'.cell? ⟨gb17,4,none⟩=some (.slice A0_4 l0_4.length c0_4)) (ds:=[]) (zl 13 0) zb10 rfl rfl ⟨(blk_cell BK17.out 0).trans rfl,(blk_cell BK17.out 1).trans rfl,(blk_cell BK17.out 2).trans rfl,(blk_cell BK17.out 3).trans rfl,(blk_cell BK17.out 4).trans rfl⟩ (fun hHeld=>?_);refine with_tabW tollbarref05_StatusLine.tab4 tollbarref05_StatusLine.bits4 (fun HT_ HW_=>?_)
      generalize wr.drew=w15 at BK17 HB hHeld ⊢
      refine zpu 0 (N:=some 12) (zl 13 1) HT_.out rfl rfl ?_
      refine zpu 5 (N:=some 17) (zl 13 33) HT_.out rfl rfl ?_
      refine zpu 8 (N:=some 20) (zl 13 289) HT_.out rfl rfl ?_
      refine take_ (i:=1) (N:=some 13) (v:=?_) (a' := ?_) (zl 13 291) rfl rfl (take_ofW HT_.out HW_.out zb10) (fun _ _ _ h=>h) (Or.inl ⟨zb63,?_⟩) hHeld ?_ ?_
      rotate_left
      ·rintro w' ⟨s0,s1,s2,s3,s4⟩;go_simp;with_reducible rfl
      rotate_left
      ·simp only [Act.put,zqA,zqB,zqC,i64_w,i32_w];rfl
      refine take_ (i:=9) (N:=some 21) (v:=?_) (a' := ?_) (zl 13 803) rfl rfl (take_ofW HT_.out HW_.out zb10) (fun _ _ _ h=>h) (Or.inl ⟨zb63,?_⟩) hHeld ?_ ?_
      rotate_left
      ·rintro w' ⟨s0,s1,s2,s3,s4⟩;go_simp;with_reducible rfl
      rotate_left
      ·simp only [Act.put,zqA,zqB,zqC,i64_w,i32_w];rfl
      refine one_ (i:=2) (N:=some 14) (zl 13 807) rfl rfl (one_of HT_.out zb10) zb46 (fun K hK=>?_)
      refine goes_ Tryz.func91 zb10 rfl #[.int .i64 a0_2] zb63 rfl rfl zb1 ?_
      with_reducible refine (tollbarref02_Text.calls k1 a0_2 t18 _ A8.out).mono ?_
      rintro e w16 ⟨rfl,hb⟩
      refine ⟨_,rfl,?_⟩
      replace BK17:=Aside0.mk (blk_below (g:=gb17) (o:=.cells #[.int .i64 a0_0,.string a0_1,.int .i64 a0_2,.slice A0_3 l0_3.length c0_3,.slice A0_4 l0_4.length c0_4] 25 (0,0)) zb91 hb)
      replace HB:=Aside0.mk (below_step zb39 hb)
      (try clear hb)
      (try clear hb2)
      (try clear hk)
      (try clear hi)
      refine hK.out _ _ ⟨(blk_cell BK17.out 0).trans rfl,(blk_cell BK17.out 1).trans rfl,(blk_cell BK17.out 2).trans rfl,(blk_cell BK17.out 3).trans rfl,(blk_cell BK17.out 4).trans rfl⟩ (fun hHeld=>?_)
      clear hK K
      refine norm_ (a' := ?_) ?_ ?_
      rotate_left
      ·show Act.put _ (some 14) _=_
       simp only [Act.put,zqA,zqB,zqC,i64_w,i32_w]
       rfl
      refine zpu 3 (N:=some 15) (zl 13 815) HT_.out rfl rfl ?_
      refine zpu 4 (N:=some 16) (zl 13 831) HT_.out rfl rfl ?_
      refine zpu 6 (N:=some 18) (zl 13 895) HT_.out rfl rfl ?_
      refine zpu 7 (N:=some 19) (zl 13 1023) HT_.out rfl rfl ?_
      refine zpu 10 (N:=some 22) (zl 13 2047) HT_.out rfl rfl ?_
      refine zpu 11 (N:=some 23) (zl 13 4095) HT_.out rfl rfl ?_
      refine zpu 12 (N:=some 2) (zl 13 8191) HT_.out rfl rfl ?_
      refine done_ (done_of HT_.out zb10) ?_
      try go_wp2
      go_ret
      exact ⟨zb3,zb39⟩
     ·rw [if_neg c14] at H
      exact absurd H zb40
    ·rw [if_neg c12] at H
     exact absurd H zb40
   ·rw [if_neg c10] at H
    exact absurd H zb40
def tollbarref08_WriteResponse.f (k:Nat) (a0_0:Int) (a0_1:ByteArray) (a0_2:Int) (l0_3:List (S55)) (l0_4:List Int):Option (List Int):=(tollbarref05_StatusLine.f k a0_0 a0_1 a0_2 l0_3 l0_4).bind fun t1067=>((tollbarref08_write.f k t1067 l0_3 l0_4).bind fun t1068=>(some t1068))
def tollbarref08_WriteResponse.T1:Bool × List (List Nat × List Nat):=(true,[([],[]),([0],[0]),([],[]),([2],[2]),([],[]),([4],[4]),([1,3,5,1],[1,3,5]),([6,6,0,1,2,3,4,5,6],[6])])
def tollbarref08_WriteResponse.B1:List Nat:=[0,1,0,4,0,16,63,127]
theorem tollbarref08_WriteResponse.tab1:rtab .any (opsOf Tryz.f39 1)=tollbarref08_WriteResponse.T1:=by kernel_rfl
theorem tollbarref08_WriteResponse.bits1:waitsOk tollbarref08_WriteResponse.T1.2 tollbarref08_WriteResponse.B1=true:=by kernel_rfl
set_option maxHeartbeats 8000000 in
set_option maxRecDepth 100000 in
theorem tollbarref08_WriteResponse.calls (k:Nat) (a0_0:Int) (a0_1:ByteArray) (a0_2:Int) (A0_3:Option Addr) (c0_3:Nat) (l0_3:List (S55)) (A0_4:Option Addr) (c0_4:Nat) (l0_4:List Int) (r:List Int) (w:World) (hr0_3:Kd.C k55 w A0_3 l0_3.length l0_3) (hc0_3:l0_3.length ≤ c0_3) (hr0_4:Kd.C (Kd.int .u8) w A0_4 l0_4.length l0_4) (hc0_4:l0_4.length ≤ c0_4) (h:tollbarref08_WriteResponse.f k a0_0 a0_1 a0_2 l0_3 l0_4=some r) :
 Calls Tryz.prog 39 #[.agg #[.int .i64 a0_0,.string a0_1,.int .i64 a0_2,.slice A0_3 l0_3.length c0_3,.slice A0_4 l0_4.length c0_4]] w fun e w' => ∃ v0_:Value,e = .returned (v0_)∧Kd.R (Kd.int .u8) 5 w' w.heap.size (fun _=>True) v0_ r∧Below w.heap.size w w' := by
 have hu25:=Tryz.underlying25
 have HR0_3:=Aside0.mk hr0_3
 have HC0_3:=Aside0.mk hc0_3
 clear hr0_3 hc0_3
 have HR0_4:=Aside0.mk hr0_4
 have HC0_4:=Aside0.mk hc0_4
 clear hr0_4 hc0_4
 have HB:=Aside0.mk (Below.refl w.heap.size w)
 unfold tollbarref08_WriteResponse.f at h
 have H:=h
 clear h
 replace H:=Option.bind_eq_some_iff.mp H
 obtain ⟨t1067,A20,H⟩:=H
 try dsimp only at H
 have A2:=Aside0.mk A20
 clear A20
 replace H:=Option.bind_eq_some_iff.mp H
 obtain ⟨t1068,A30,H⟩:=H
 try dsimp only at H
 have A3:=Aside0.mk A30
 clear A30
 obtain rfl:=Option.some.inj H
 go_enter Tryz.func39,Tryz.ntmps39
 try go_wp2_with (first|((with_reducible refine gate_dst (N:=1) rfl ?_);refine box_event rfl (N:=1) rfl (cs:=#[.int .i64 a0_0,.string a0_1,.int .i64 a0_2,.slice A0_3 l0_3.length c0_3,.slice A0_4 l0_4.length c0_4]) (t:=25) zS ?_;intro gb1066 hg w4 hbox hb;have GW1066:=zG hg zb0;have GE1066:=GW1066;have BK1066:=Aside0.mk hbox;replace HB:=Aside0.mk (below_step zb0 hb);clear hb hbox hg))
 replace BK1066:=Aside0.mk (blk_drew BK1066.out)
 replace HB:=Aside0.mk (below_drew1 HB.out)
 refine start_ (n:=8) (S:=fun w' => w'.cell? ⟨gb1066,0,none⟩=some (.int .i64 a0_0)∧w'.cell? ⟨gb1066,1,none⟩=some (.string a0_1)∧w'.cell? ⟨gb1066,2,none⟩=some (.int .i64 a0_2)∧w'.cell? ⟨gb1066,3,none⟩=some (.slice A0_3 l0_3.length c0_3)∧w'.cell? ⟨gb1066,4,none⟩=some (.slice A0_4 l0_4.length c0_4)) (ds:=[]) (zl 8 0) zb10 rfl rfl ⟨(blk_cell BK1066.out 0).trans rfl,(blk_cell BK1066.out 1).trans rfl,(blk_cell BK1066.out 2).trans rfl,(blk_cell BK1066.out 3).trans rfl,(blk_cell BK1066.out 4).trans rfl⟩ (fun hHeld=>?_);refine with_tabW tollbarref08_WriteResponse.tab1 tollbarref08_WriteResponse.bits1 (fun HT_ HW_=>?_)
 generalize w4.drew=w5 at BK1066 HB hHeld ⊢
 refine zpu 2 (N:=some 5) (zl 8 4) HT_.out rfl rfl ?_
 refine zpu 4 (N:=some 7) (zl 8 20) HT_.out rfl rfl ?_
 refine take_ (i:=0) (N:=some 3) (v:=?_) (a' := ?_) (zl 8 21) rfl rfl (take_ofW HT_.out HW_.out zb10) (fun _ _ _ h=>h) (Or.inl ⟨zb63,?_⟩) hHeld ?_ ?_
 rotate_left
 ·rintro w' ⟨s0,s1,s2,s3,s4⟩;go_simp;with_reducible rfl
 rotate_left
 ·simp only [Act.put,zqA,zqB,zqC,i64_w,i32_w];rfl
 refine take_ (i:=3) (N:=some 6) (v:=?_) (a' := ?_) (zl 8 29) rfl rfl (take_ofW HT_.out HW_.out zb10) (fun _ _ _ h=>h) (Or.inl ⟨zb63,?_⟩) hHeld ?_ ?_
 rotate_left
 ·rintro w' ⟨s0,s1,s2,s3,s4⟩;go_simp;with_reducible rfl
 rotate_left
 ·simp only [Act.put,zqA,zqB,zqC,i64_w,i32_w];rfl
 refine take_ (i:=5) (N:=some 8) (v:=?_) (a' := ?_) (zl 8 61) rfl rfl (take_ofW HT_.out HW_.out zb10) (fun _ _ _ h=>h) (Or.inl ⟨zb63,?_⟩) hHeld ?_ ?_
 rotate_left
 ·rintro w' ⟨s0,s1,s2,s3,s4⟩;go_simp;with_reducible rfl
 rotate_left
 ·simp only [Act.put,zqA,zqB,zqC,i64_w,i32_w];rfl
 refine one_ (i:=1) (N:=some 4) (zl 8 63) rfl rfl (one_of HT_.out zb10) zb46 (fun K hK=>?_)
 refine goes_ Tryz.func79 zb10 rfl #[.agg #[.int .i64 a0_0,.string a0_1,.int .i64 a0_2,.slice A0_3 l0_3.length c0_3,.slice A0_4 l0_4.length c0_4]] zb63 rfl rfl zb1 ?_
 with_reducible refine (tollbarref05_StatusLine.calls k a0_0 a0_1 a0_2 _ _ l0_3 _ _ l0_4 t1067 _ ?side1 ?side2 ?side3 ?side4 A2.out).mono ?_
 (case side1=>exact zb34)
 (case side2=>exact HC0_3.out)
 (case side3=>exact zb110)
 (case side4=>exact HC0_4.out)
 rintro e w6 ⟨rfl,hb⟩
 refine ⟨_,rfl,?_⟩
 replace BK1066:=Aside0.mk (blk_below (g:=gb1066) (o:=.cells #[.int .i64 a0_0,.string a0_1,.int .i64 a0_2,.slice A0_3 l0_3.length c0_3,.slice A0_4 l0_4.length c0_4] 25 (0,0)) zb186 hb)
 replace HB:=Aside0.mk (below_step zb113 hb)
 (try clear hb)
 (try clear hb2)
 (try clear hk)
 (try clear hi)
 refine hK.out _ _ ⟨(blk_cell BK1066.out 0).trans rfl,(blk_cell BK1066.out 1).trans rfl,(blk_cell BK1066.out 2).trans rfl,(blk_cell BK1066.out 3).trans rfl,(blk_cell BK1066.out 4).trans rfl⟩ (fun hHeld=>?_)
 clear hK K
 refine norm_ (a' := ?_) ?_ ?_
 rotate_left
 ·show Act.put _ (some 4) _=_
  simp only [Act.put,zqA,zqB,zqC,i64_w,i32_w]
  rfl
 refine one_ (i:=6) (N:=some 9) (zl 8 127) rfl rfl (one_of HT_.out zb10) zb46 (fun K hK=>?_)
 refine goes_ Tryz.func76 zb10 rfl #[.string t1067,.slice A0_3 l0_3.length c0_3,.slice A0_4 l0_4.length c0_4] zb63 rfl rfl zb1 ?_
 with_reducible refine (tollbarref08_write.calls k t1067 _ _ l0_3 _ _ l0_4 t1068 _ ?side1 ?side2 ?side3 ?side4 A3.out).mono ?_
 (case side1=>exact zb34)
 (case side2=>exact HC0_3.out)
 (case side3=>exact zb110)
 (case side4=>exact HC0_4.out)
 rintro e w7 ⟨v1069,rfl,ho0,hb⟩
 refine ⟨_,rfl,?_⟩
 have n0_:=Aside0.mk (Kd.R_lower ho0 (below_size zb113))
 have n1_:=Aside0.mk (blk_below (g:=gb1066) (o:=.cells #[.int .i64 a0_0,.string a0_1,.int .i64 a0_2,.slice A0_3 l0_3.length c0_3,.slice A0_4 l0_4.length c0_4] 25 (0,0)) zb186 hb)
 have n2_:=Aside0.mk (below_step zb113 hb)
 clear BK1066 HB
 have HO1070:=n0_
 have BK1066:=n1_
 have HB:=n2_
 clear n0_ n1_ n2_
 (try clear hb)
 (try clear hb2)
 (try clear hk)
 (try clear hi)
 (try clear ho0)
 refine hK.out _ _ ⟨(blk_cell BK1066.out 0).trans rfl,(blk_cell BK1066.out 1).trans rfl,(blk_cell BK1066.out 2).trans rfl,(blk_cell BK1066.out 3).trans rfl,(blk_cell BK1066.out 4).trans rfl⟩ (fun hHeld=>?_)
 clear hK K
 refine norm_ (a' := ?_) ?_ ?_
 rotate_left
 ·show Act.put _ (some 9) _=_
  simp only [Act.put,zqA,zqB,zqC,i64_w,i32_w]
  rfl
 refine zpu 7 (N:=some 2) (zl 8 255) HT_.out rfl rfl ?_
 refine done_ (done_of HT_.out zb10) ?_
 try go_wp2
 go_ret
 exact ⟨_,zb3,by (with_reducible repeat (first|apply Kd.R_alloc|apply Kd.R_drewN|apply Kd.R_drew));exact HO1070.out,zb113⟩
end Go.Proofs.YtfjeinnemimjoaaGreatDoor.P
