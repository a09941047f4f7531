/- Each function below answers as its Lean twin says; plain lemmas; a row where its theorem stands. No further condition. (Laid by this repo's pack.py out of its texts and of the print's words.) -/
import Derived.Test.YtagffbblalldiaaGreatDoorZ8a043510
set_option maxRecDepth 100000
set_option maxHeartbeats 16000000
namespace Go.Proofs.YtagffbblalldiaaGreatDoor.P
open Go.RowKit Go.Proofs.YtagffbblalldiaaGreatDoorW.PrintWords Go.Proofs.YtagffbblalldiaaGreatDoorW.PrintLast Go.Proofs.YtagffbblalldiaaGreatDoorW.PrintMore
attribute [local go_sem] max2_int min2_int max_two min_two max_three min_three max_four min_four
set_option linter.unusedVariables false
set_option linter.unusedSimpArgs false
def tollbarref01_SameBytes.l0:Nat → List Int → List Int → Int → Option (Bool)
 | 0,_,_,_=>none
 | k + 1,x0,x1,x5=>if x5 < (x0.length:Int) then (if 0 ≤ x5 then (if x5 < (x1.length:Int) then (if (rd x0 x5)=(rd x1 x5) then (tollbarref01_SameBytes.l0 k x0 x1 (wrap64 (x5 + 1))) else (some false)) else (none)) else (none)) else (some true)
def tollbarref01_SameBytes.f (k:Nat) (l0:List Int) (l1:List Int):Option (Bool):=if (l0.length:Int)=(l1.length:Int) then (tollbarref01_SameBytes.l0 k l0 l1 0) else (some false)
theorem tollbarref01_SameBytes.calls (k:Nat) (A0:Option Addr) (c0:Nat) (l0:List Int) (A1:Option Addr) (c1:Nat) (l1:List Int) (r:Bool) (w:World) (hr0:Kd.C (Kd.int .u8) w A0 l0.length l0) (hc0:l0.length ≤ c0) (hr1:Kd.C (Kd.int .u8) w A1 l1.length l1) (hc1:l1.length ≤ c1) (h:tollbarref01_SameBytes.f k l0 l1=some r) :
 Calls Tryz.prog 25 #[.slice A0 l0.length c0,.slice A1 l1.length c1] w fun e w' => e = .returned (.bool r)∧Drawn0 w w' := by
 have HR0:=Aside0.mk hr0
 have HC0:=Aside0.mk hc0
 clear hr0 hc0
 have HR1:=Aside0.mk hr1
 have HC1:=Aside0.mk hc1
 clear hr1 hc1
 unfold tollbarref01_SameBytes.f at h
 have H:=h
 clear h
 by_cases c3:(l0.length:Int)=(l1.length:Int);rotate_left
 ·rw [if_neg c3] at H
  have c3b0:=beq_eq_false_iff_ne.mpr c3
  have c3b1:=bne_iff_ne.mpr c3
  have c3b2:(l0.length == l1.length)=false:=by first|simpa using c3|(simp at c3 ⊢;omega)
  obtain rfl:=Option.some.inj H
  go_enter Tryz.func25,Tryz.ntmps25
  go_wp2
  repeat (go_quiet (fail);try go_wp2)
  go_ret
  exact ⟨zb4,zb5⟩
 rw [if_pos c3] at H
 have c3b0:=beq_iff_eq.mpr c3
 have c3b1:=bne_eq_false_iff_eq.mpr c3
 have c3b2:(l0.length == l1.length)=true:=by first|simpa using c3|(simp at c3 ⊢;omega)
 clear c3
 have H' := Aside0.mk H
 clear H
 go_enter Tryz.func25,Tryz.ntmps25
 go_wp2
 repeat (go_quiet (fail);try go_wp2)
 go_loopg [5] k (fun kq v5 w' => ∃ (x5_1:Int),v5 = .int .i64 x5_1∧Aside0 (tollbarref01_SameBytes.l0 kq l0 l1 x5_1=some r)∧Aside0 (kq ≤ k)∧Drawn0 w w')
 case atStart=>exact ⟨(0),zb4,H',⟨Nat.le_refl _⟩,zb5⟩
 case round =>
  clear H'
  try clear c1
  try clear c2
  try clear p2
  try clear c3
  try clear c3b0
  try clear c3b1
  try clear c3b2
  obtain ⟨x5_1,rfl,HA,HK1,⟨m1,rfl⟩⟩:=hrel
  cases gk with
  | zero=>exact absurd HA.out (by simp [tollbarref01_SameBytes.l0])
  | succ k1 =>
   have H:=HA.out
   clear HA
   simp only [tollbarref01_SameBytes.l0] at H
   by_cases c4:x5_1 < (l0.length:Int)
   ·rw [if_pos c4] at H
    have c4b0:=decide_eq_true c4
    clear c4
    by_cases c5:0 ≤ x5_1
    ·rw [if_pos c5] at H
     have c5b0:=decide_eq_true c5
     clear c5
     by_cases c6:x5_1 < (l1.length:Int);rotate_left
     ·rw [if_neg c6] at H
      exact absurd H zb24
     rw [if_pos c6] at H
     have c6b0:=decide_eq_true c6
     clear c6
     by_cases c7:(rd l0 x5_1)=(rd l1 x5_1);rotate_left
     ·rw [if_neg c7] at H
      have c7b0:=beq_eq_false_iff_ne.mpr c7
      have c7b1:=bne_iff_ne.mpr c7
      obtain rfl:=Option.some.inj H
      have p328:0 ≤ (x5_1:Int):=of_decide_eq_true zb1
      have q328:x5_1 < (l0.length:Int):=of_decide_eq_true zb1
      obtain ⟨ad328,e328,hx328_0⟩:=Kd.at_int HR0.out x5_1 p328 q328
      cases e328
      replace p328:=eq_true p328
      replace q328:=eq_true q328
      have p329:0 ≤ (x5_1:Int):=of_decide_eq_true zb1
      have q329:x5_1 < (l1.length:Int):=of_decide_eq_true zb1
      obtain ⟨ad329,e329,hx329_0⟩:=Kd.at_int HR1.out x5_1 p329 q329
      cases e329
      replace p329:=eq_true p329
      replace q329:=eq_true q329
      go_wp2
      repeat (go_quiet (fail);try go_wp2)
      go_ret
      exact ⟨zb4,zb5⟩
     rw [if_pos c7] at H
     have c7b0:=beq_iff_eq.mpr c7
     have c7b1:=bne_eq_false_iff_eq.mpr c7
     clear c7
     have H' := Aside0.mk H
     clear H
     have p328:0 ≤ (x5_1:Int):=of_decide_eq_true zb1
     have q328:x5_1 < (l0.length:Int):=of_decide_eq_true zb1
     obtain ⟨ad328,e328,hx328_0⟩:=Kd.at_int HR0.out x5_1 p328 q328
     cases e328
     replace p328:=eq_true p328
     replace q328:=eq_true q328
     have p329:0 ≤ (x5_1:Int):=of_decide_eq_true zb1
     have q329:x5_1 < (l1.length:Int):=of_decide_eq_true zb1
     obtain ⟨ad329,e329,hx329_0⟩:=Kd.at_int HR1.out x5_1 p329 q329
     cases e329
     replace p329:=eq_true p329
     replace q329:=eq_true q329
     go_wp2
     repeat (go_quiet (fail);try go_wp2)
     go_roundg k1
     case measure=>have:=HK1.out;omega
     case rel=>exact ⟨(wrap64 (x5_1 + 1)),zb4,H',⟨zb80⟩,zb5⟩
    ·rw [if_neg c5] at H
     exact absurd H zb24
   ·rw [if_neg c4] at H
    have c4b0:=decide_eq_false c4
    clear c4
    obtain rfl:=Option.some.inj H
    go_wp2
    repeat (go_quiet (fail);try go_wp2)
    go_ret
    exact ⟨zb4,zb5⟩
def tollbarref02_Fold.l0:Nat → ByteArray → List Int → Int → Option (ByteArray)
 | 0,_,_,_=>none
 | k + 1,x0,x3,x4=>if x4 < (x0.size:Int) then (if 0 ≤ x4 then (if (bt x0 x4) ≥ 65 then (if (bt x0 x4) ≤ 90 then (if x3.length < 140737488355328 then (tollbarref02_Fold.l0 k x0 (x3 ++ [((bt x0 x4) + 32) % 256]) (wrap64 (x4 + 1))) else (none)) else (if x3.length < 140737488355328 then (tollbarref02_Fold.l0 k x0 (x3 ++ [bt x0 x4]) (wrap64 (x4 + 1))) else (none))) else (if x3.length < 140737488355328 then (tollbarref02_Fold.l0 k x0 (x3 ++ [bt x0 x4]) (wrap64 (x4 + 1))) else (none))) else (none)) else (some (strOfNums x3))
def tollbarref02_Fold.f (k:Nat) (a0:ByteArray):Option (ByteArray):=tollbarref02_Fold.l0 k a0 (([]:List Int)) 0
theorem tollbarref02_Fold.calls (k:Nat) (a0:ByteArray) (r:ByteArray) (w:World) (h:tollbarref02_Fold.f k a0=some r) :
 Calls Tryz.prog 32 #[.string a0] w fun e w' => e = .returned (.string r)∧Below w.heap.size w w' := by
 have HB:=zB w
 unfold tollbarref02_Fold.f at h
 have H:=h
 clear h
 obtain ⟨y330,hy330⟩ : ∃ y_:List Int,y_=(([]:List Int)):=⟨_,rfl⟩
 replace H:(tollbarref02_Fold.l0 k a0 y330 0)=some r:=by first|(rw [hy330];with_reducible exact H)|(have H2_:=(Option.bind_some _ _).symm.trans H;rw [hy330];with_reducible exact H2_)|(have H2_:=(Option.bind_some _ _).symm.trans H;with_reducible exact H2_)|with_reducible exact H|(rw [hy330];exact H)|exact H
 have Ny330:=Aside0.mk hy330
 clear hy330
 have H' := Aside0.mk H
 clear H
 go_enter Tryz.func32,Tryz.ntmps32
 go_wp2_with (first|((with_reducible refine gate_dst (N:=6) rfl ?_);refine Kd.R_lit (Kd.int .u8) _ 5 ?hg (N:=6) ?hd (xs:=([]:List Int)) (inner:=[]) (ok:=fun _=>True) (okp:=fun _=>True) ?hr ?hp (fun _ hk=>hk) trivial (Below.refl _ _) (Nat.le_refl _) zb24 ?_;(case hd=>rfl);(case hg=>rfl);(case hr=>first|(go_simp;done)|(go_simp;rfl));(case hp=>exact (Reps.none _ _));intro v331 w2 ho3 hb hg_ hnew_;clear hg_ hnew_;(first|rw [← Ny330.out] at ho3|(simp only [Int.reduceToNat] at ho3;rw [← Ny330.out] at ho3));have HO332:=Aside0.mk (Kd.R_lower ho3 (below_size zb0));replace HB:=Aside0.mk (below_step zb0 hb);clear hb ho3))
 go_loopg [3,4] k (fun kq v3 v4 w' => ∃ (x3_1:List Int) (x4_1:Int),v4 = .int .i64 x4_1∧Aside0 (tollbarref02_Fold.l0 kq a0 x3_1 x4_1=some r)∧Aside0 (kq ≤ k)∧Aside0 (Kd.R (Kd.int .u8) 5 w' w.heap.size (fun _=>True) v3 x3_1)∧Aside0 (Below w.heap.size w w'))
 case atStart=>exact ⟨(y330),(0),zb4,H',⟨Nat.le_refl _⟩,⟨by (with_reducible repeat (first|apply Kd.R_alloc|apply Kd.R_drewN|apply Kd.R_drew));exact HO332.out⟩,⟨zb0⟩⟩
 case round =>
  clear H'
  try clear p2
  try clear c3
  obtain ⟨x3_1,x4_1,rfl,HA,HK1,HO_3,HB⟩:=hrel
  cases gk with
  | zero=>exact absurd HA.out (by simp [tollbarref02_Fold.l0])
  | succ k1 =>
   have H:=HA.out
   clear HA
   simp only [tollbarref02_Fold.l0] at H
   by_cases c4:x4_1 < (a0.size:Int);rotate_left
   ·rw [if_neg c4] at H
    have c4b0:=decide_eq_false c4
    clear c4
    obtain rfl:=Option.some.inj H
    have hcv15:=own_string (P:=Tryz.prog) Tryz.underlying22 Tryz.underlying5 Tryz.underlying9 (Kd.own_of_R HO_3.out)
    go_wp2
    go_ret
    exact ⟨zb3,zb0⟩
   rw [if_pos c4] at H
   have c4b0:=decide_eq_true c4
   clear c4
   by_cases c5:0 ≤ x4_1
   ·rw [if_pos c5] at H
    have c5b0:=decide_eq_true c5
    clear c5
    by_cases c7:(bt a0 x4_1) ≥ 65;rotate_left
    ·rw [if_neg c7] at H
     have c7b0:decide (65 ≤ (bt a0 x4_1))=false:=decide_eq_false c7
     clear c7
     by_cases c13:x3_1.length < 140737488355328;rotate_left
     ·rw [if_neg c13] at H
      exact absurd H zb24
     rw [if_pos c13] at H
     have LMc13:=Aside0.mk c13
     clear c13
     obtain ⟨y339,hy339⟩ : ∃ y_:List Int,y_=(x3_1 ++ [bt a0 x4_1]):=⟨_,rfl⟩
     replace H:(tollbarref02_Fold.l0 k1 a0 y339 (wrap64 (x4_1 + 1)))=some r:=by first|(rw [hy339];with_reducible exact H)|(have H2_:=(Option.bind_some _ _).symm.trans H;rw [hy339];with_reducible exact H2_)|(have H2_:=(Option.bind_some _ _).symm.trans H;with_reducible exact H2_)|with_reducible exact H|(rw [hy339];exact H)|exact H
     have Ny339:=Aside0.mk hy339
     clear hy339
     have H' := Aside0.mk H
     clear H
     have p6:0 ≤ (x4_1:Int):=of_decide_eq_true zb1
     have q6:x4_1 < (a0.size:Int):=of_decide_eq_true zb1
     have hx6:=bt_at a0 x4_1
     replace p6:=eq_true p6
     replace q6:=eq_true q6
     go_wp2_with (first|((with_reducible refine gate_builtin (b:=.append) (xs:=#[.tmp 24,.tmp 26]) rfl ?_);at_builtin;refine Kd.R_append (Kd.int .u8) (w0:=w) w.heap.size rfl (.tmp 24) (.tmp 26) 22 5 (.int .u8 0) 1 rfl Tryz.underlying22 info5 rfl zb78 zb10 u3 x3_1 (bt a0 x4_1) [.int .u8 (bt a0 x4_1)] (fun _=>True) (fun _=>False) rfl rfl ?aP (fun _ hk=>hk.elim) ?aF ?aO ?aB ?aS ?aL ?_;(case aP=>exact rfl);(case aB=>exact zb23);(case aF=>exact (fun _ _=>trivial));(case aO=>exact zb74);(case aS=>exact zb20);(case aL=>have:=LMc13.out;omega);intro v340 w14 ho hb hg hat;rw [← Ny339.out] at ho;replace HB:=Aside0.mk (hb);have HO341:=Aside0.mk (ho);clear ho hb hg hat))
     go_roundg k1
     case measure=>have:=HK1.out;omega
     case rel=>exact ⟨(y339),(wrap64 (x4_1 + 1)),zb4,H',⟨zb80⟩,⟨by (with_reducible repeat (first|apply Kd.R_alloc|apply Kd.R_drewN|apply Kd.R_drew));exact HO341.out⟩,⟨zb0⟩⟩
    rw [if_pos c7] at H
    have c7b0:decide (65 ≤ (bt a0 x4_1))=true:=decide_eq_true c7
    clear c7
    by_cases c8:(bt a0 x4_1) ≤ 90
    ·rw [if_pos c8] at H
     have c8b0:=decide_eq_true c8
     clear c8
     by_cases c9:x3_1.length < 140737488355328;rotate_left
     ·rw [if_neg c9] at H
      exact absurd H zb24
     rw [if_pos c9] at H
     have LMc9:=Aside0.mk c9
     clear c9
     obtain ⟨y333,hy333⟩ : ∃ y_:List Int,y_=(x3_1 ++ [((bt a0 x4_1) + 32) % 256]):=⟨_,rfl⟩
     replace H:(tollbarref02_Fold.l0 k1 a0 y333 (wrap64 (x4_1 + 1)))=some r:=by first|(rw [hy333];with_reducible exact H)|(have H2_:=(Option.bind_some _ _).symm.trans H;rw [hy333];with_reducible exact H2_)|(have H2_:=(Option.bind_some _ _).symm.trans H;with_reducible exact H2_)|with_reducible exact H|(rw [hy333];exact H)|exact H
     have Ny333:=Aside0.mk hy333
     clear hy333
     have H' := Aside0.mk H
     clear H
     have p6:0 ≤ (x4_1:Int):=of_decide_eq_true zb1
     have q6:x4_1 < (a0.size:Int):=of_decide_eq_true zb1
     have hx6:=bt_at a0 x4_1
     replace p6:=eq_true p6
     replace q6:=eq_true q6
     go_wp2_with (first|((with_reducible refine gate_builtin (b:=.append) (xs:=#[.tmp 24,.tmp 26]) rfl ?_);at_builtin;refine Kd.R_append (Kd.int .u8) (w0:=w) w.heap.size rfl (.tmp 24) (.tmp 26) 22 5 (.int .u8 0) 1 rfl Tryz.underlying22 info5 rfl zb78 zb10 u3 x3_1 (((bt a0 x4_1) + 32) % 256) [.int .u8 (((bt a0 x4_1) + 32) % 256)] (fun _=>True) (fun _=>False) rfl rfl ?aP (fun _ hk=>hk.elim) ?aF ?aO ?aB ?aS ?aL ?_;(case aP=>exact rfl);(case aB=>exact zb23);(case aF=>exact (fun _ _=>trivial));(case aO=>exact zb74);(case aS=>exact zb20);(case aL=>have:=LMc9.out;omega);intro v334 w10 ho hb hg hat;rw [← Ny333.out] at ho;replace HB:=Aside0.mk (hb);have HO335:=Aside0.mk (ho);clear ho hb hg hat))
     go_roundg k1
     case measure=>have:=HK1.out;omega
     case rel=>exact ⟨(y333),(wrap64 (x4_1 + 1)),zb4,H',⟨zb80⟩,⟨by (with_reducible repeat (first|apply Kd.R_alloc|apply Kd.R_drewN|apply Kd.R_drew));exact HO335.out⟩,⟨zb0⟩⟩
    ·rw [if_neg c8] at H
     have c8b0:=decide_eq_false c8
     clear c8
     by_cases c11:x3_1.length < 140737488355328
     ·rw [if_pos c11] at H
      have LMc11:=Aside0.mk c11
      clear c11
      obtain ⟨y336,hy336⟩ : ∃ y_:List Int,y_=(x3_1 ++ [bt a0 x4_1]):=⟨_,rfl⟩
      replace H:(tollbarref02_Fold.l0 k1 a0 y336 (wrap64 (x4_1 + 1)))=some r:=by first|(rw [hy336];with_reducible exact H)|(have H2_:=(Option.bind_some _ _).symm.trans H;rw [hy336];with_reducible exact H2_)|(have H2_:=(Option.bind_some _ _).symm.trans H;with_reducible exact H2_)|with_reducible exact H|(rw [hy336];exact H)|exact H
      have Ny336:=Aside0.mk hy336
      clear hy336
      have H' := Aside0.mk H
      clear H
      have p6:0 ≤ (x4_1:Int):=of_decide_eq_true zb1
      have q6:x4_1 < (a0.size:Int):=of_decide_eq_true zb1
      have hx6:=bt_at a0 x4_1
      replace p6:=eq_true p6
      replace q6:=eq_true q6
      go_wp2_with (first|((with_reducible refine gate_builtin (b:=.append) (xs:=#[.tmp 24,.tmp 26]) rfl ?_);at_builtin;refine Kd.R_append (Kd.int .u8) (w0:=w) w.heap.size rfl (.tmp 24) (.tmp 26) 22 5 (.int .u8 0) 1 rfl Tryz.underlying22 info5 rfl zb78 zb10 u3 x3_1 (bt a0 x4_1) [.int .u8 (bt a0 x4_1)] (fun _=>True) (fun _=>False) rfl rfl ?aP (fun _ hk=>hk.elim) ?aF ?aO ?aB ?aS ?aL ?_;(case aP=>exact rfl);(case aB=>exact zb23);(case aF=>exact (fun _ _=>trivial));(case aO=>exact zb74);(case aS=>exact zb20);(case aL=>have:=LMc11.out;omega);intro v337 w12 ho hb hg hat;rw [← Ny336.out] at ho;replace HB:=Aside0.mk (hb);have HO338:=Aside0.mk (ho);clear ho hb hg hat))
      go_roundg k1
      case measure=>have:=HK1.out;omega
      case rel=>exact ⟨(y336),(wrap64 (x4_1 + 1)),zb4,H',⟨zb80⟩,⟨by (with_reducible repeat (first|apply Kd.R_alloc|apply Kd.R_drewN|apply Kd.R_drew));exact HO338.out⟩,⟨zb0⟩⟩
     ·rw [if_neg c11] at H
      exact absurd H zb24
   ·rw [if_neg c5] at H
    exact absurd H zb24
def tollbarref04_same.f (k:Nat) (a0:ByteArray) (a1:ByteArray):Option (Bool):=(tollbarref02_Fold.f k a0).bind fun t342=>((tollbarref02_Fold.f k a1).bind fun t343=>(some (t342.toList == t343.toList)))
theorem tollbarref04_same.calls (k:Nat) (a0:ByteArray) (a1:ByteArray) (r:Bool) (w:World) (h:tollbarref04_same.f k a0 a1=some r) :
 Calls Tryz.prog 65 #[.string a0,.string a1] w fun e w' => e = .returned (.bool r)∧Below w.heap.size w w' := by
 have HB:=zB w
 unfold tollbarref04_same.f at h
 have H:=h
 clear h
 replace H:=Option.bind_eq_some_iff.mp H
 obtain ⟨t342,A30,H⟩:=H
 try dsimp only at H
 have A3:=Aside0.mk A30
 clear A30
 replace H:=Option.bind_eq_some_iff.mp H
 obtain ⟨t343,A40,H⟩:=H
 try dsimp only at H
 have A4:=Aside0.mk A40
 clear A40
 obtain rfl:=Option.some.inj H
 go_enter Tryz.func65,Tryz.ntmps65
 go_wp2_with (first|((with_reducible refine gate_callee (f:=32) rfl ?_);refine goesL_ (some 6) rfl rfl Tryz.func32 zb7 rfl #[.string a0] rfl zb2 ?_;(with_reducible refine (tollbarref02_Fold.calls k a0 t342 _ A3.out).mono ?_);rintro e w5 ⟨rfl,hb⟩;(try clear A3);refine ⟨_,rfl,?_⟩;replace HB:=Aside0.mk (below_step zb0 hb);(try clear hb))|((with_reducible refine gate_callee (f:=32) rfl ?_);refine goesL_ (some 8) rfl rfl Tryz.func32 zb7 rfl #[.string a1] rfl zb2 ?_;(with_reducible refine (tollbarref02_Fold.calls k a1 t343 _ A4.out).mono ?_);rintro e w6 ⟨rfl,hb⟩;(try clear A4);refine ⟨_,rfl,?_⟩;replace HB:=Aside0.mk (below_step zb0 hb);(try clear hb)))
 go_ret
 exact ⟨zb3,zb0⟩
def tollbarref04_Get.l0:Nat → List (S36) → ByteArray → List ByteArray → Int → Option (List ByteArray)
 | 0,_,_,_,_=>none
 | k + 1,x0,x1,x5,x6=>if x6 < (x0.length:Int) then (if 0 ≤ x6 then ((tollbarref04_same.f k ((rd_T36 x0 x6).f0) x1).bind fun t348=>(if t348=true then (if x5.length < 8796093022208 then (tollbarref04_Get.l0 k x0 x1 (x5 ++ [(rd_T36 x0 x6).f1]) (wrap64 (x6 + 1))) else (none)) else (tollbarref04_Get.l0 k x0 x1 x5 (wrap64 (x6 + 1))))) else (none)) else (some x5)
def tollbarref04_Get.f (k:Nat) (l0:List (S36)) (a1:ByteArray):Option (List ByteArray):=tollbarref04_Get.l0 k l0 a1 (([]:List ByteArray)) 0
theorem tollbarref04_Get.calls (k:Nat) (A0:Option Addr) (c0:Nat) (l0:List (S36)) (a1:ByteArray) (r:List ByteArray) (w:World) (hr0:Kd.C k36 w A0 l0.length l0) (hc0:l0.length ≤ c0) (h:tollbarref04_Get.f k l0 a1=some r) :
 Calls Tryz.prog 36 #[.slice A0 l0.length c0,.string a1] w fun e w' => ∃ v0_:Value,e = .returned (v0_)∧Kd.R Kd.string 9 w' w.heap.size (fun _=>True) v0_ r∧Below w.heap.size w w' := by
 have HR0:=Aside0.mk hr0
 have HC0:=Aside0.mk hc0
 clear hr0 hc0
 have HB:=zB w
 unfold tollbarref04_Get.f at h
 have H:=h
 clear h
 obtain ⟨y344,hy344⟩ : ∃ y_:List ByteArray,y_=(([]:List ByteArray)):=⟨_,rfl⟩
 replace H:(tollbarref04_Get.l0 k l0 a1 y344 0)=some r:=by first|(rw [hy344];with_reducible exact H)|(have H2_:=(Option.bind_some _ _).symm.trans H;rw [hy344];with_reducible exact H2_)|(have H2_:=(Option.bind_some _ _).symm.trans H;with_reducible exact H2_)|with_reducible exact H|(rw [hy344];exact H)|exact H
 have Ny344:=Aside0.mk hy344
 clear hy344
 have H' := Aside0.mk H
 clear H
 go_enter Tryz.func36,Tryz.ntmps36
 go_wp2_with (first|((with_reducible refine gate_dst (N:=7) rfl ?_);refine Kd.R_lit Kd.string _ 9 ?hg (N:=7) ?hd (xs:=([]:List ByteArray)) (inner:=[]) (ok:=fun _=>True) (okp:=fun _=>True) ?hr ?hp (fun _ hk=>hk) trivial (Below.refl _ _) (Nat.le_refl _) zb24 ?_;(case hd=>rfl);(case hg=>rfl);(case hr=>first|(go_simp;done)|(go_simp;rfl));(case hp=>exact (Reps.none _ _));intro v345 w3 ho4 hb hg_ hnew_;clear hg_ hnew_;(first|rw [← Ny344.out] at ho4|(simp only [Int.reduceToNat] at ho4;rw [← Ny344.out] at ho4));have HO346:=Aside0.mk (Kd.R_lower ho4 (below_size zb0));replace HB:=Aside0.mk (below_step zb0 hb);clear hb ho4))
 go_loopg [5,6] k (fun kq v5 v6 w' => ∃ (x5_1:List ByteArray) (x6_1:Int),v6 = .int .i64 x6_1∧Aside0 (tollbarref04_Get.l0 kq l0 a1 x5_1 x6_1=some r)∧Aside0 (kq ≤ k)∧Aside0 (Kd.R Kd.string 9 w' w.heap.size (fun _=>True) v5 x5_1)∧Aside0 (Below w.heap.size w w'))
 case atStart=>exact ⟨(y344),(0),zb4,H',⟨Nat.le_refl _⟩,⟨by (with_reducible repeat (first|apply Kd.R_alloc|apply Kd.R_drewN|apply Kd.R_drew));exact HO346.out⟩,⟨zb0⟩⟩
 case round =>
  clear H'
  try clear p2
  try clear c3
  obtain ⟨x5_1,x6_1,rfl,HA,HK1,HO_5,HB⟩:=hrel
  cases gk with
  | zero=>exact absurd HA.out (by simp [tollbarref04_Get.l0])
  | succ k1 =>
   have H:=HA.out
   clear HA
   simp only [tollbarref04_Get.l0] at H
   by_cases c5:x6_1 < (l0.length:Int);rotate_left
   ·rw [if_neg c5] at H
    have c5b0:=decide_eq_false c5
    clear c5
    obtain rfl:=Option.some.inj H
    go_wp2
    go_ret
    exact ⟨_,zb3,zb15,zb0⟩
   rw [if_pos c5] at H
   have c5b0:=decide_eq_true c5
   clear c5
   by_cases c6:0 ≤ x6_1
   ·rw [if_pos c6] at H
    have c6b0:=decide_eq_true c6
    clear c6
    replace H:=Option.bind_eq_some_iff.mp H
    obtain ⟨t348,A70,H⟩:=H
    try dsimp only at H
    have A7:=Aside0.mk A70
    clear A70
    by_cases c8:t348=true;rotate_left
    ·replace c8:=Bool.eq_false_iff.mpr c8
     subst c8
     rw [if_neg zf] at H
     have H' := Aside0.mk H
     clear H
     have p347:0 ≤ (x6_1:Int):=of_decide_eq_true zb1
     have q347:x6_1 < (l0.length:Int):=of_decide_eq_true zb1
     obtain ⟨ad347,e347,hx347_0,hx347_1⟩:=at_T36 HR0.out x6_1 p347 q347
     cases e347
     replace hx347_0:=(HB.out.cell (World.block_lt_of_cell? w _ hx347_0)).trans hx347_0
     replace hx347_1:=(HB.out.cell (World.block_lt_of_cell? w _ hx347_1)).trans hx347_1
     replace p347:=eq_true p347
     replace q347:=eq_true q347
     go_wp2_with (first|((with_reducible refine gate_callee (f:=65) rfl ?_);refine goesL_ (some 20) rfl rfl Tryz.func65 zb7 rfl #[.string ((rd_T36 l0 x6_1).f0),.string a1] rfl zb2 ?_;(with_reducible refine (tollbarref04_same.calls k1 ((rd_T36 l0 x6_1).f0) a1 false _ A7.out).mono ?_);rintro e w12 ⟨rfl,hb⟩;(try clear A7);refine ⟨_,rfl,?_⟩;replace HO_5:=Aside0.mk (Kd.R_below zb15 hb);replace HB:=Aside0.mk (below_step zb0 hb);(try clear hb)))
     go_roundg k1
     case measure=>have:=HK1.out;omega
     case rel=>exact ⟨(x5_1),(wrap64 (x6_1 + 1)),zb4,H',⟨zb80⟩,⟨zb15⟩,⟨zb0⟩⟩
    subst c8
    rw [if_pos rfl] at H
    by_cases c9:x5_1.length < 8796093022208
    ·rw [if_pos c9] at H
     have LMc9:=Aside0.mk c9
     clear c9
     obtain ⟨y350,hy350⟩ : ∃ y_:List ByteArray,y_=(x5_1 ++ [(rd_T36 l0 x6_1).f1]):=⟨_,rfl⟩
     replace H:(tollbarref04_Get.l0 k1 l0 a1 y350 (wrap64 (x6_1 + 1)))=some r:=by first|(rw [hy350];with_reducible exact H)|(have H2_:=(Option.bind_some _ _).symm.trans H;rw [hy350];with_reducible exact H2_)|(have H2_:=(Option.bind_some _ _).symm.trans H;with_reducible exact H2_)|with_reducible exact H|(rw [hy350];exact H)|exact H
     have Ny350:=Aside0.mk hy350
     clear hy350
     have H' := Aside0.mk H
     clear H
     have p347:0 ≤ (x6_1:Int):=of_decide_eq_true zb1
     have q347:x6_1 < (l0.length:Int):=of_decide_eq_true zb1
     obtain ⟨ad347,e347,hx347_0,hx347_1⟩:=at_T36 HR0.out x6_1 p347 q347
     cases e347
     replace hx347_0:=(HB.out.cell (World.block_lt_of_cell? w _ hx347_0)).trans hx347_0
     replace hx347_1:=(HB.out.cell (World.block_lt_of_cell? w _ hx347_1)).trans hx347_1
     replace p347:=eq_true p347
     replace q347:=eq_true q347
     go_wp2_with (first|((with_reducible refine gate_callee (f:=65) rfl ?_);refine goesL_ (some 20) rfl rfl Tryz.func65 zb7 rfl #[.string ((rd_T36 l0 x6_1).f0),.string a1] rfl zb2 ?_;(with_reducible refine (tollbarref04_same.calls k1 ((rd_T36 l0 x6_1).f0) a1 true _ A7.out).mono ?_);rintro e w10 ⟨rfl,hb⟩;(try clear A7);refine ⟨_,rfl,?_⟩;replace HO_5:=Aside0.mk (Kd.R_below zb15 hb);replace HB:=Aside0.mk (below_step zb0 hb);(try clear hb);have p349:0 ≤ (x6_1:Int):=of_decide_eq_true zb1;have q349:x6_1 < (l0.length:Int):=of_decide_eq_true zb1;obtain ⟨ad349,e349,hx349_0,hx349_1⟩:=at_T36 HR0.out x6_1 p349 q349;obtain rfl:ad347=ad349:=(by injection e349);replace hx349_0:=(HB.out.cell (World.block_lt_of_cell? w _ hx349_0)).trans hx349_0;replace hx349_1:=(HB.out.cell (World.block_lt_of_cell? w _ hx349_1)).trans hx349_1;replace p349:=eq_true p349;replace q349:=eq_true q349)|((with_reducible refine gate_builtin (b:=.append) (xs:=#[.tmp 21,.tmp 27]) rfl ?_);at_builtin;refine Kd.R_append Kd.string (w0:=w) w.heap.size rfl (.tmp 21) (.tmp 27) 34 9 (.string ⟨#[]⟩) 16 rfl Tryz.underlying34 info9 rfl zb78 zb10 u5 x5_1 ((rd_T36 l0 x6_1).f1) [.string ((rd_T36 l0 x6_1).f1)] (fun _=>True) (fun _=>False) rfl rfl ?aP (fun _ hk=>hk.elim) ?aF ?aO ?aB ?aS ?aL ?_;(case aP=>exact rfl);(case aB=>exact zb23);(case aF=>exact (fun _ _=>trivial));(case aO=>exact zb66);(case aS=>exact zb20);(case aL=>have:=LMc9.out;omega);intro v351 w11 ho hb hg hat;rw [← Ny350.out] at ho;replace HB:=Aside0.mk (hb);have HO352:=Aside0.mk (ho);clear ho hb hg hat))
     go_roundg k1
     case measure=>have:=HK1.out;omega
     case rel=>exact ⟨(y350),(wrap64 (x6_1 + 1)),zb4,H',⟨zb80⟩,⟨by (with_reducible repeat (first|apply Kd.R_alloc|apply Kd.R_drewN|apply Kd.R_drew));exact HO352.out⟩,⟨zb0⟩⟩
    ·rw [if_neg c9] at H
     exact absurd H zb24
   ·rw [if_neg c6] at H
    exact absurd H zb24
def tollbarref02_Digit.f (a0:Int):Option (Bool):=if a0 ≥ 48 then (some (decide (a0 ≤ 57))) else (some false)
theorem tollbarref02_Digit.calls (a0:Int) (r:Bool) (w:World) (h:tollbarref02_Digit.f a0=some r) :
 Calls Tryz.prog 92 #[.int .u8 a0] w fun e w' => e = .returned (.bool r)∧Drawn0 w w' := by
 unfold tollbarref02_Digit.f at h
 have H:=h
 clear h
 by_cases c2:a0 ≥ 48
 ·rw [if_pos c2] at H
  have c2b0:decide (48 ≤ a0)=true:=decide_eq_true c2
  clear c2
  obtain rfl:=Option.some.inj H
  go_enter Tryz.func92,Tryz.ntmps92
  go_wp2
  go_ret
  exact ⟨zb4,zb5⟩
 rw [if_neg c2] at H
 have c2b0:decide (48 ≤ a0)=false:=decide_eq_false c2
 clear c2
 obtain rfl:=Option.some.inj H
 go_enter Tryz.func92,Tryz.ntmps92
 go_wp2
 go_ret
 exact ⟨zb4,zb5⟩
mutual
def tollbarref05_Host.j1:Nat → ByteArray → Int → Int → Option (ByteArray × Bool)
 | 0,_,_,_=>none
 | k + 1,x0,x4,x5=>if x5 ≥ 0 then (if 0 ≤ x5 then (if x5 < (x0.size:Int) then (tollbarref05_Host.j2 k x0 x4 x5 ((bt x0 x5) == 58)) else (none)) else (none)) else (tollbarref05_Host.j2 k x0 x4 x5 false)
def tollbarref05_Host.j2:Nat → ByteArray → Int → Int → Bool → Option (ByteArray × Bool)
 | 0,_,_,_,_=>none
 | k + 1,x0,x4,x5,x31=>if x31=true then (tollbarref05_Host.j3 k x0 x5) else (tollbarref05_Host.j3 k x0 x4)
def tollbarref05_Host.j3:Nat → ByteArray → Int → Option (ByteArray × Bool)
 | 0,_,_=>none
 | k + 1,x0,x4=>if 0 ≤ x4 then (if x4 ≤ (x0.size:Int) then ((tollbarref02_Fold.f k (x0.extract 0 (x4:Int).toNat)).bind fun t354=>(tollbarref05_Host.l1 k t354 0)) else (none)) else (none)
def tollbarref05_Host.l1:Nat → ByteArray → Int → Option (ByteArray × Bool)
 | 0,_,_=>none
 | k + 1,x6,x7=>if x7 < (x6.size:Int) then (if 0 ≤ x7 then (if (bt x6 x7) ≥ 97 then (if ((bt x6 x7) ≤ 122) then (tollbarref05_Host.l1 k x6 (wrap64 (x7 + 1))) else ((tollbarref02_Digit.f (bt x6 x7)).bind fun t355=>(if t355=true then (tollbarref05_Host.l1 k x6 (wrap64 (x7 + 1))) else (if (bt x6 x7)=45 then (tollbarref05_Host.l1 k x6 (wrap64 (x7 + 1))) else (if (bt x6 x7)=46 then (tollbarref05_Host.l1 k x6 (wrap64 (x7 + 1))) else (some ((⟨#[]⟩:ByteArray),false))))))) else ((tollbarref02_Digit.f (bt x6 x7)).bind fun t356=>(if t356=true then (tollbarref05_Host.l1 k x6 (wrap64 (x7 + 1))) else (if (bt x6 x7)=45 then (tollbarref05_Host.l1 k x6 (wrap64 (x7 + 1))) else (if (bt x6 x7)=46 then (tollbarref05_Host.l1 k x6 (wrap64 (x7 + 1))) else (some ((⟨#[]⟩:ByteArray),false))))))) else (none)) else (if (x6.size:Int)=0 then (some ((⟨#[]⟩:ByteArray),false)) else (if (x6.size:Int) > 64 then (some ((⟨#[]⟩:ByteArray),false)) else (some (x6,true))))
def tollbarref05_Host.l0:Nat → ByteArray → Int → Int → Option (ByteArray × Bool)
 | 0,_,_,_=>none
 | k + 1,x0,x4,x5=>if x5 ≥ 0 then (if 0 ≤ x5 then (if x5 < (x0.size:Int) then ((tollbarref02_Digit.f (bt x0 x5)).bind fun t353=>(if t353=true then (tollbarref05_Host.l0 k x0 x4 (wrap64 (x5 - 1))) else (tollbarref05_Host.j1 k x0 x4 x5))) else (none)) else (none)) else (tollbarref05_Host.j1 k x0 x4 x5)
end
def tollbarref05_Host.f (k:Nat) (a0:ByteArray):Option (ByteArray × Bool):=tollbarref05_Host.l0 k a0 (a0.size:Int) (wrap64 ((a0.size:Int) - 1))
theorem tollbarref05_Host.calls (k:Nat) (a0:ByteArray) (r1:ByteArray) (r2:Bool) (w:World) (h:tollbarref05_Host.f k a0=some (r1,r2)) :
 Calls Tryz.prog 52 #[.string a0] w fun e w' => e = .returned (.tuple #[.string r1,.bool r2])∧Below w.heap.size w w' := by
 have HB:=zB w
 unfold tollbarref05_Host.f at h
 have H:=h
 clear h
 have HC2:=Aside0.mk H
 clear H
 go_enter Tryz.func52,Tryz.ntmps52
 go_upto_block 0 with (fail)
 go_cut [5] (fun v5 wc => ∃ (kq:Nat) (x5_1:Int),v5 = .int .i64 x5_1∧Aside0 (tollbarref05_Host.j1 kq a0 (a0.size:Int) x5_1=some (r1,r2))∧Aside0 (kq ≤ k)∧Aside0 (Below w.heap.size w wc))
 case first =>
  have H:=HC2.out
  clear HC2
  have H' := Aside0.mk H
  clear H
  go_wp2
  go_loopg [5] k (fun kq v5 w' => ∃ (x5_1:Int),v5 = .int .i64 x5_1∧Aside0 (tollbarref05_Host.l0 kq a0 (a0.size:Int) x5_1=some (r1,r2))∧Aside0 (kq ≤ k)∧Aside0 (Below w.heap.size w w'))
  case atStart=>exact ⟨(wrap64 ((a0.size:Int) - 1)),zb4,H',⟨Nat.le_refl _⟩,⟨zb0⟩⟩
  case round =>
   clear H'
   try clear p2
   obtain ⟨x5_1,rfl,HA,HK1,HB⟩:=hrel
   cases gk with
   | zero=>exact absurd HA.out (by simp [tollbarref05_Host.l0])
   | succ k1 =>
    have H:=HA.out
    clear HA
    simp only [tollbarref05_Host.l0] at H
    by_cases c3:x5_1 ≥ 0;rotate_left
    ·rw [if_neg c3] at H
     have c3b0:decide (0 ≤ x5_1)=false:=decide_eq_false c3
     clear c3
     (first|rw [c3b0]|(simp only [i64_w,i32_w];rw [c3b0])|skip)
     have H' := Aside0.mk H
     clear H
     go_wp2
     go_meet
     case rel=>exact ⟨_,(x5_1),zb4,H',⟨zb70⟩,⟨zb0⟩⟩
    rw [if_pos c3] at H
    have c3b0:decide (0 ≤ x5_1)=true:=decide_eq_true c3
    clear c3
    (first|rw [c3b0]|(simp only [i64_w,i32_w];rw [c3b0])|skip)
    by_cases c4:0 ≤ x5_1
    ·rw [if_pos c4] at H
     have c4b0:=decide_eq_true c4
     clear c4
     by_cases c5:x5_1 < (a0.size:Int)
     ·rw [if_pos c5] at H
      have c5b0:=decide_eq_true c5
      clear c5
      replace H:=Option.bind_eq_some_iff.mp H
      obtain ⟨t39,A70,H⟩:=H
      try dsimp only at H
      have A7:=Aside0.mk A70
      clear A70
      by_cases c8:t39=true
      ·subst c8
       rw [if_pos rfl] at H
       have H' := Aside0.mk H
       clear H
       have p6:0 ≤ (x5_1:Int):=of_decide_eq_true zb1
       have q6:x5_1 < (a0.size:Int):=of_decide_eq_true zb1
       have hx6:=bt_at a0 x5_1
       replace p6:=eq_true p6
       replace q6:=eq_true q6
       go_wp2_with (first|(go_at_call 92;(with_reducible refine (tollbarref02_Digit.calls (bt a0 x5_1) true _ A7.out).mono ?_);rintro e w' ⟨rfl,⟨nd,rfl⟩⟩;(try clear A7)))
       go_roundg k1
       case measure=>have:=HK1.out;omega
       case rel=>exact ⟨(wrap64 (x5_1 - 1)),zb4,H',⟨zb80⟩,⟨zb0⟩⟩
      replace c8:=Bool.eq_false_iff.mpr c8
      subst c8
      rw [if_neg zf] at H
      have H' := Aside0.mk H
      clear H
      have p6:0 ≤ (x5_1:Int):=of_decide_eq_true zb1
      have q6:x5_1 < (a0.size:Int):=of_decide_eq_true zb1
      have hx6:=bt_at a0 x5_1
      replace p6:=eq_true p6
      replace q6:=eq_true q6
      go_wp2_with (first|(go_at_call 92;(with_reducible refine (tollbarref02_Digit.calls (bt a0 x5_1) false _ A7.out).mono ?_);rintro e w' ⟨rfl,⟨nd,rfl⟩⟩;(try clear A7)))
      go_meet
      case rel=>exact ⟨_,(x5_1),zb4,H',⟨zb70⟩,⟨zb0⟩⟩
     ·rw [if_neg c5] at H
      exact absurd H zb24
    ·rw [if_neg c4] at H
     exact absurd H zb24
 case rest =>
  clear HC2
  try clear p2
  try clear c3
  try clear c3b0
  try clear c4
  try clear c4b0
  try clear c5
  try clear c5b0
  try clear p6
  try clear q6
  try clear hx6
  try clear c8
  try clear p2
  try clear p6
  try clear q6
  obtain ⟨kq,x5_1,rfl,HA,HJ1,HB⟩:=hcut
  cases kq with
  | zero=>exact absurd HA.out (by simp [tollbarref05_Host.j1])
  | succ kj1 =>
   have H:=HA.out
   clear HA
   simp only [tollbarref05_Host.j1] at H
   have HC9:=Aside0.mk H
   clear H
   go_upto_region 5 with (fail)
   go_cut [31] (fun v31 wc => ∃ (kq:Nat) (x31_8:Bool),v31 = .bool x31_8∧Aside0 (tollbarref05_Host.j2 kq a0 (a0.size:Int) x5_1 x31_8=some (r1,r2))∧Aside0 (kq ≤ kj1)∧Aside0 (Below w.heap.size w wc))
   case first =>
    have H:=HC9.out
    clear HC9
    by_cases c10:x5_1 ≥ 0;rotate_left
    ·rw [if_neg c10] at H
     have c10b0:decide (0 ≤ x5_1)=false:=decide_eq_false c10
     clear c10
     (first|rw [c10b0]|(simp only [i64_w,i32_w];rw [c10b0])|skip)
     have H' := Aside0.mk H
     clear H
     go_wp2
     go_meet
     case rel=>exact ⟨_,(false),zb4,H',⟨by have:=HJ1.out;first|omega|exact Nat.le_refl _⟩,⟨zb0⟩⟩
    rw [if_pos c10] at H
    have c10b0:decide (0 ≤ x5_1)=true:=decide_eq_true c10
    clear c10
    (first|rw [c10b0]|(simp only [i64_w,i32_w];rw [c10b0])|skip)
    by_cases c11:0 ≤ x5_1
    ·rw [if_pos c11] at H
     have c11b0:=decide_eq_true c11
     clear c11
     by_cases c12:x5_1 < (a0.size:Int)
     ·rw [if_pos c12] at H
      have c12b0:=decide_eq_true c12
      clear c12
      have H' := Aside0.mk H
      clear H
      have p13:0 ≤ (x5_1:Int):=of_decide_eq_true zb1
      have q13:x5_1 < (a0.size:Int):=of_decide_eq_true zb1
      have hx13:=bt_at a0 x5_1
      replace p13:=eq_true p13
      replace q13:=eq_true q13
      go_wp2
      go_meet
      case rel=>exact ⟨_,(((bt a0 x5_1) == 58)),zb4,H',⟨by have:=HJ1.out;first|omega|exact Nat.le_refl _⟩,⟨zb0⟩⟩
     ·rw [if_neg c12] at H
      exact absurd H zb24
    ·rw [if_neg c11] at H
     exact absurd H zb24
   case rest =>
    clear HC9
    try clear c1
    try clear p1
    try clear q1
    try clear hx1
    try clear p2
    try clear c3
    try clear c3b0
    try clear c4
    try clear c4b0
    try clear c5
    try clear c5b0
    try clear p6
    try clear q6
    try clear hx6
    try clear c8
    try clear c10
    try clear c10b0
    try clear c11
    try clear c11b0
    try clear c12
    try clear c12b0
    try clear p13
    try clear q13
    try clear hx13
    try clear p13
    try clear p2
    try clear p6
    try clear q13
    try clear q6
    obtain ⟨kq,x31_8,rfl,HA,HJ8,HB⟩:=hcut
    cases kq with
    | zero=>exact absurd HA.out (by simp [tollbarref05_Host.j2])
    | succ kj8 =>
     have H:=HA.out
     clear HA
     simp only [tollbarref05_Host.j2] at H
     have HC14:=Aside0.mk H
     clear H
     go_upto_if 31 with (fail)
     go_cut [4] (fun v4 wc => ∃ (kq:Nat) (x4_13:Int),v4 = .int .i64 x4_13∧Aside0 (tollbarref05_Host.j3 kq a0 x4_13=some (r1,r2))∧Aside0 (kq ≤ kj8)∧Aside0 (Below w.heap.size w wc))
     case first =>
      have H:=HC14.out
      clear HC14
      by_cases c15:x31_8=true
      ·subst c15
       rw [if_pos rfl] at H
       have H' := Aside0.mk H
       clear H
       go_wp2
       go_meet
       case rel=>exact ⟨_,(x5_1),zb4,H',⟨by have:=HJ1.out;have:=HJ8.out;first|omega|exact Nat.le_refl _⟩,⟨zb0⟩⟩
      replace c15:=Bool.eq_false_iff.mpr c15
      subst c15
      rw [if_neg zf] at H
      have H' := Aside0.mk H
      clear H
      go_wp2
      go_meet
      case rel=>exact ⟨_,((a0.size:Int)),zb4,H',⟨by have:=HJ1.out;have:=HJ8.out;first|omega|exact Nat.le_refl _⟩,⟨zb0⟩⟩
     case rest =>
      clear HC14
      try clear c1
      try clear p1
      try clear q1
      try clear hx1
      try clear p2
      try clear c3
      try clear c3b0
      try clear c4
      try clear c4b0
      try clear c5
      try clear c5b0
      try clear p6
      try clear q6
      try clear hx6
      try clear c8
      try clear c10
      try clear c10b0
      try clear c11
      try clear c11b0
      try clear c12
      try clear c12b0
      try clear p13
      try clear q13
      try clear hx13
      try clear c15
      try clear p1
      try clear p13
      try clear p2
      try clear p6
      try clear q1
      try clear q13
      try clear q6
      obtain ⟨kq,x4_13,rfl,HA,HJ13,HB⟩:=hcut
      cases kq with
      | zero=>exact absurd HA.out (by simp [tollbarref05_Host.j3])
      | succ kj13 =>
       have H:=HA.out
       clear HA
       simp only [tollbarref05_Host.j3] at H
       by_cases c16:0 ≤ x4_13;rotate_left
       ·rw [if_neg c16] at H
        exact absurd H zb24
       rw [if_pos c16] at H
       have c16b0:=eq_true c16
       have c16b1:=decide_eq_true c16
       clear c16
       by_cases c17:x4_13 ≤ (a0.size:Int)
       ·rw [if_pos c17] at H
        have c17b0:=eq_true c17
        have c17b1:=decide_eq_true c17
        clear c17
        replace H:=Option.bind_eq_some_iff.mp H
        obtain ⟨t35,A36,H⟩:=H
        try dsimp only at H
        have A18:=Aside0.mk A36
        clear A36
        have H' := Aside0.mk H
        clear H
        go_wp2_with (first|((with_reducible refine gate_callee (f:=32) rfl ?_);refine goesL_ (some 36) rfl rfl Tryz.func32 zb7 rfl #[.string (a0.extract 0 (x4_13:Int).toNat)] rfl zb2 ?_;(with_reducible refine (tollbarref02_Fold.calls kj13 (a0.extract 0 (x4_13:Int).toNat) t35 _ A18.out).mono ?_);rintro e w19 ⟨rfl,hb⟩;(try clear A18);refine ⟨_,rfl,?_⟩;replace HB:=Aside0.mk (below_step zb0 hb);(try clear hb)))
        go_loopg [7] kj13 (fun kq v7 w' => ∃ (x7_4:Int),v7 = .int .i64 x7_4∧Aside0 (tollbarref05_Host.l1 kq t35 x7_4=some (r1,r2))∧Aside0 (kq ≤ kj13)∧Aside0 (Below w.heap.size w w'))
        case atStart=>exact ⟨(0),zb4,H',⟨Nat.le_refl _⟩,⟨zb0⟩⟩
        case round =>
         clear H'
         try clear c1
         try clear p1
         try clear q1
         try clear hx1
         try clear p2
         try clear c3
         try clear c3b0
         try clear c4
         try clear c4b0
         try clear c5
         try clear c5b0
         try clear p6
         try clear q6
         try clear hx6
         try clear c8
         try clear c10
         try clear c10b0
         try clear c11
         try clear c11b0
         try clear c12
         try clear c12b0
         try clear p13
         try clear q13
         try clear hx13
         try clear c15
         try clear c16
         try clear c16b0
         try clear c16b1
         try clear c17
         try clear c17b0
         try clear c17b1
         try clear p1
         try clear p13
         try clear p2
         try clear p6
         try clear q1
         try clear q13
         try clear q6
         obtain ⟨x7_4,rfl,HA,HK4,HB⟩:=hrel
         cases gk with
         | zero=>exact absurd HA.out (by simp [tollbarref05_Host.l1])
         | succ k4 =>
          have H:=HA.out
          clear HA
          simp only [tollbarref05_Host.l1] at H
          by_cases c20:x7_4 < (t35.size:Int);rotate_left
          ·rw [if_neg c20] at H
           have c20b0:=decide_eq_false c20
           clear c20
           by_cases c33:(t35.size:Int)=0
           ·rw [if_pos c33] at H
            have c33b0:=beq_iff_eq.mpr c33
            have c33b1:=bne_eq_false_iff_eq.mpr c33
            clear c33
            simp only [zi,zj] at H
            obtain ⟨rfl,rfl⟩:=H
            go_wp2
            go_ret2
            exact ⟨zb3,zb0⟩
           rw [if_neg c33] at H
           have c33b0:=beq_eq_false_iff_ne.mpr c33
           have c33b1:=bne_iff_ne.mpr c33
           by_cases c34:(t35.size:Int) > 64
           ·rw [if_pos c34] at H
            have c34b0:decide (64 < (t35.size:Int))=true:=decide_eq_true c34
            have c34b1:decide (64 < t35.size)=true:=decide_eq_true zb10
            clear c34
            simp only [zi,zj] at H
            obtain ⟨rfl,rfl⟩:=H
            go_wp2
            go_ret2
            exact ⟨zb3,zb0⟩
           rw [if_neg c34] at H
           have c34b0:decide (64 < (t35.size:Int))=false:=decide_eq_false c34
           have c34b1:decide (64 < t35.size)=false:=decide_eq_false zb10
           clear c34
           simp only [zi,zj] at H
           obtain ⟨rfl,rfl⟩:=H
           go_wp2
           go_ret2
           exact ⟨zb3,zb0⟩
          rw [if_pos c20] at H
          have c20b0:=decide_eq_true c20
          clear c20
          by_cases c21:0 ≤ x7_4
          ·rw [if_pos c21] at H
           have c21b0:=decide_eq_true c21
           clear c21
           by_cases c23:(bt t35 x7_4) ≥ 97;rotate_left
           ·rw [if_neg c23] at H
            have c23b0:decide (97 ≤ (bt t35 x7_4))=false:=decide_eq_false c23
            clear c23
            replace H:=Option.bind_eq_some_iff.mp H
            obtain ⟨t41,A38,H⟩:=H
            try dsimp only at H
            have A29:=Aside0.mk A38
            clear A38
            by_cases c30:t41=true
            ·subst c30
             rw [if_pos rfl] at H
             have H' := Aside0.mk H
             clear H
             have p22:0 ≤ (x7_4:Int):=of_decide_eq_true zb1
             have q22:x7_4 < (t35.size:Int):=of_decide_eq_true zb1
             have hx22:=bt_at t35 x7_4
             replace p22:=eq_true p22
             replace q22:=eq_true q22
             go_wp2_with (first|(go_at_call 92;(with_reducible refine (tollbarref02_Digit.calls (bt t35 x7_4) true _ A29.out).mono ?_);rintro e w' ⟨rfl,⟨nd,rfl⟩⟩;(try clear A29)))
             go_roundg k4
             case measure=>have:=HJ1.out;have:=HJ8.out;have:=HJ13.out;have:=HK4.out;omega
             case rel=>exact ⟨(wrap64 (x7_4 + 1)),zb4,H',⟨zb101⟩,⟨zb0⟩⟩
            replace c30:=Bool.eq_false_iff.mpr c30
            subst c30
            rw [if_neg zf] at H
            by_cases c31:(bt t35 x7_4)=45
            ·rw [if_pos c31] at H
             have c31b0:=beq_iff_eq.mpr c31
             have c31b1:=bne_eq_false_iff_eq.mpr c31
             clear c31
             have H' := Aside0.mk H
             clear H
             have p22:0 ≤ (x7_4:Int):=of_decide_eq_true zb1
             have q22:x7_4 < (t35.size:Int):=of_decide_eq_true zb1
             have hx22:=bt_at t35 x7_4
             replace p22:=eq_true p22
             replace q22:=eq_true q22
             go_wp2_with (first|(go_at_call 92;(with_reducible refine (tollbarref02_Digit.calls (bt t35 x7_4) false _ A29.out).mono ?_);rintro e w' ⟨rfl,⟨nd,rfl⟩⟩;(try clear A29)))
             go_roundg k4
             case measure=>have:=HJ1.out;have:=HJ8.out;have:=HJ13.out;have:=HK4.out;omega
             case rel=>exact ⟨(wrap64 (x7_4 + 1)),zb4,H',⟨zb101⟩,⟨zb0⟩⟩
            rw [if_neg c31] at H
            have c31b0:=beq_eq_false_iff_ne.mpr c31
            have c31b1:=bne_iff_ne.mpr c31
            by_cases c32:(bt t35 x7_4)=46;rotate_left
            ·rw [if_neg c32] at H
             have c32b0:=beq_eq_false_iff_ne.mpr c32
             have c32b1:=bne_iff_ne.mpr c32
             simp only [zi,zj] at H
             obtain ⟨rfl,rfl⟩:=H
             have p22:0 ≤ (x7_4:Int):=of_decide_eq_true zb1
             have q22:x7_4 < (t35.size:Int):=of_decide_eq_true zb1
             have hx22:=bt_at t35 x7_4
             replace p22:=eq_true p22
             replace q22:=eq_true q22
             go_wp2_with (first|(go_at_call 92;(with_reducible refine (tollbarref02_Digit.calls (bt t35 x7_4) false _ A29.out).mono ?_);rintro e w' ⟨rfl,⟨nd,rfl⟩⟩;(try clear A29)))
             go_ret2
             exact ⟨zb3,zb0⟩
            rw [if_pos c32] at H
            have c32b0:=beq_iff_eq.mpr c32
            have c32b1:=bne_eq_false_iff_eq.mpr c32
            clear c32
            have H' := Aside0.mk H
            clear H
            have p22:0 ≤ (x7_4:Int):=of_decide_eq_true zb1
            have q22:x7_4 < (t35.size:Int):=of_decide_eq_true zb1
            have hx22:=bt_at t35 x7_4
            replace p22:=eq_true p22
            replace q22:=eq_true q22
            go_wp2_with (first|(go_at_call 92;(with_reducible refine (tollbarref02_Digit.calls (bt t35 x7_4) false _ A29.out).mono ?_);rintro e w' ⟨rfl,⟨nd,rfl⟩⟩;(try clear A29)))
            go_roundg k4
            case measure=>have:=HJ1.out;have:=HJ8.out;have:=HJ13.out;have:=HK4.out;omega
            case rel=>exact ⟨(wrap64 (x7_4 + 1)),zb4,H',⟨zb101⟩,⟨zb0⟩⟩
           rw [if_pos c23] at H
           have c23b0:decide (97 ≤ (bt t35 x7_4))=true:=decide_eq_true c23
           clear c23
           by_cases c24:((bt t35 x7_4) ≤ 122)
           ·rw [if_pos c24] at H
            have c24b0:decide ((bt t35 x7_4) ≤ 122)=true:=decide_eq_true c24
            clear c24
            have H' := Aside0.mk H
            clear H
            have p22:0 ≤ (x7_4:Int):=of_decide_eq_true zb1
            have q22:x7_4 < (t35.size:Int):=of_decide_eq_true zb1
            have hx22:=bt_at t35 x7_4
            replace p22:=eq_true p22
            replace q22:=eq_true q22
            go_wp2
            go_roundg k4
            case measure=>have:=HJ1.out;have:=HJ8.out;have:=HJ13.out;have:=HK4.out;omega
            case rel=>exact ⟨(wrap64 (x7_4 + 1)),zb4,H',⟨zb101⟩,⟨zb0⟩⟩
           ·rw [if_neg c24] at H
            have c24b0:decide ((bt t35 x7_4) ≤ 122)=false:=decide_eq_false c24
            clear c24
            replace H:=Option.bind_eq_some_iff.mp H
            obtain ⟨t40,A37,H⟩:=H
            try dsimp only at H
            have A25:=Aside0.mk A37
            clear A37
            by_cases c26:t40=true
            ·subst c26
             rw [if_pos rfl] at H
             have H' := Aside0.mk H
             clear H
             have p22:0 ≤ (x7_4:Int):=of_decide_eq_true zb1
             have q22:x7_4 < (t35.size:Int):=of_decide_eq_true zb1
             have hx22:=bt_at t35 x7_4
             replace p22:=eq_true p22
             replace q22:=eq_true q22
             go_wp2_with (first|(go_at_call 92;(with_reducible refine (tollbarref02_Digit.calls (bt t35 x7_4) true _ A25.out).mono ?_);rintro e w' ⟨rfl,⟨nd,rfl⟩⟩;(try clear A25)))
             go_roundg k4
             case measure=>have:=HJ1.out;have:=HJ8.out;have:=HJ13.out;have:=HK4.out;omega
             case rel=>exact ⟨(wrap64 (x7_4 + 1)),zb4,H',⟨zb101⟩,⟨zb0⟩⟩
            ·replace c26:=Bool.eq_false_iff.mpr c26
             subst c26
             rw [if_neg zf] at H
             by_cases c27:(bt t35 x7_4)=45
             ·rw [if_pos c27] at H
              have c27b0:=beq_iff_eq.mpr c27
              have c27b1:=bne_eq_false_iff_eq.mpr c27
              clear c27
              have H' := Aside0.mk H
              clear H
              have p22:0 ≤ (x7_4:Int):=of_decide_eq_true zb1
              have q22:x7_4 < (t35.size:Int):=of_decide_eq_true zb1
              have hx22:=bt_at t35 x7_4
              replace p22:=eq_true p22
              replace q22:=eq_true q22
              go_wp2_with (first|(go_at_call 92;(with_reducible refine (tollbarref02_Digit.calls (bt t35 x7_4) false _ A25.out).mono ?_);rintro e w' ⟨rfl,⟨nd,rfl⟩⟩;(try clear A25)))
              go_roundg k4
              case measure=>have:=HJ1.out;have:=HJ8.out;have:=HJ13.out;have:=HK4.out;omega
              case rel=>exact ⟨(wrap64 (x7_4 + 1)),zb4,H',⟨zb101⟩,⟨zb0⟩⟩
             ·rw [if_neg c27] at H
              have c27b0:=beq_eq_false_iff_ne.mpr c27
              have c27b1:=bne_iff_ne.mpr c27
              by_cases c28:(bt t35 x7_4)=46
              ·rw [if_pos c28] at H
               have c28b0:=beq_iff_eq.mpr c28
               have c28b1:=bne_eq_false_iff_eq.mpr c28
               clear c28
               have H' := Aside0.mk H
               clear H
               have p22:0 ≤ (x7_4:Int):=of_decide_eq_true zb1
               have q22:x7_4 < (t35.size:Int):=of_decide_eq_true zb1
               have hx22:=bt_at t35 x7_4
               replace p22:=eq_true p22
               replace q22:=eq_true q22
               go_wp2_with (first|(go_at_call 92;(with_reducible refine (tollbarref02_Digit.calls (bt t35 x7_4) false _ A25.out).mono ?_);rintro e w' ⟨rfl,⟨nd,rfl⟩⟩;(try clear A25)))
               go_roundg k4
               case measure=>have:=HJ1.out;have:=HJ8.out;have:=HJ13.out;have:=HK4.out;omega
               case rel=>exact ⟨(wrap64 (x7_4 + 1)),zb4,H',⟨zb101⟩,⟨zb0⟩⟩
              ·rw [if_neg c28] at H
               have c28b0:=beq_eq_false_iff_ne.mpr c28
               have c28b1:=bne_iff_ne.mpr c28
               simp only [zi,zj] at H
               obtain ⟨rfl,rfl⟩:=H
               have p22:0 ≤ (x7_4:Int):=of_decide_eq_true zb1
               have q22:x7_4 < (t35.size:Int):=of_decide_eq_true zb1
               have hx22:=bt_at t35 x7_4
               replace p22:=eq_true p22
               replace q22:=eq_true q22
               go_wp2_with (first|(go_at_call 92;(with_reducible refine (tollbarref02_Digit.calls (bt t35 x7_4) false _ A25.out).mono ?_);rintro e w' ⟨rfl,⟨nd,rfl⟩⟩;(try clear A25)))
               go_ret2
               exact ⟨zb3,zb0⟩
          ·rw [if_neg c21] at H
           exact absurd H zb24
       ·rw [if_neg c17] at H
        exact absurd H zb24
def tollbarref02_Target.l0:Nat → ByteArray → Int → Option (Bool)
 | 0,_,_=>none
 | k + 1,x0,x3=>if x3 < (x0.size:Int) then (if 0 ≤ x3 then (if (bt x0 x3) ≤ 32 then (some false) else (if (bt x0 x3) ≥ 127 then (some false) else (tollbarref02_Target.l0 k x0 (wrap64 (x3 + 1))))) else (none)) else (some (decide ((x0.size:Int) > 0)))
def tollbarref02_Target.f (k:Nat) (a0:ByteArray):Option (Bool):=tollbarref02_Target.l0 k a0 0
theorem tollbarref02_Target.calls (k:Nat) (a0:ByteArray) (r:Bool) (w:World) (h:tollbarref02_Target.f k a0=some r) :
 Calls Tryz.prog 128 #[.string a0] w fun e w' => e = .returned (.bool r)∧Drawn0 w w' := by
 unfold tollbarref02_Target.f at h
 have H:=h
 clear h
 have H' := Aside0.mk H
 clear H
 go_enter Tryz.func128,Tryz.ntmps128
 go_wp2
 go_loopg [3] k (fun kq v3 w' => ∃ (x3_1:Int),v3 = .int .i64 x3_1∧Aside0 (tollbarref02_Target.l0 kq a0 x3_1=some r)∧Aside0 (kq ≤ k)∧Drawn0 w w')
 case atStart=>exact ⟨(0),zb4,H',⟨Nat.le_refl _⟩,zb5⟩
 case round =>
  clear H'
  try clear c1
  obtain ⟨x3_1,rfl,HA,HK1,⟨m1,rfl⟩⟩:=hrel
  cases gk with
  | zero=>exact absurd HA.out (by simp [tollbarref02_Target.l0])
  | succ k1 =>
   have H:=HA.out
   clear HA
   simp only [tollbarref02_Target.l0] at H
   by_cases c2:x3_1 < (a0.size:Int);rotate_left
   ·rw [if_neg c2] at H
    have c2b0:=decide_eq_false c2
    clear c2
    obtain rfl:=Option.some.inj H
    go_wp2
    go_ret
    exact ⟨zb4,zb5⟩
   rw [if_pos c2] at H
   have c2b0:=decide_eq_true c2
   clear c2
   by_cases c3:0 ≤ x3_1
   ·rw [if_pos c3] at H
    have c3b0:=decide_eq_true c3
    clear c3
    by_cases c5:(bt a0 x3_1) ≤ 32
    ·rw [if_pos c5] at H
     have c5b0:=decide_eq_true c5
     clear c5
     obtain rfl:=Option.some.inj H
     have p4:0 ≤ (x3_1:Int):=of_decide_eq_true zb1
     have q4:x3_1 < (a0.size:Int):=of_decide_eq_true zb1
     have hx4:=bt_at a0 x3_1
     replace p4:=eq_true p4
     replace q4:=eq_true q4
     go_wp2
     go_ret
     exact ⟨zb4,zb5⟩
    rw [if_neg c5] at H
    have c5b0:=decide_eq_false c5
    clear c5
    by_cases c7:(bt a0 x3_1) ≥ 127
    ·rw [if_pos c7] at H
     have c7b0:decide (127 ≤ (bt a0 x3_1))=true:=decide_eq_true c7
     clear c7
     obtain rfl:=Option.some.inj H
     have p4:0 ≤ (x3_1:Int):=of_decide_eq_true zb1
     have q4:x3_1 < (a0.size:Int):=of_decide_eq_true zb1
     have hx4:=bt_at a0 x3_1
     replace p4:=eq_true p4
     replace q4:=eq_true q4
     have p6:0 ≤ (x3_1:Int):=of_decide_eq_true zb1
     have q6:x3_1 < (a0.size:Int):=of_decide_eq_true zb1
     have hx6:=bt_at a0 x3_1
     replace p6:=eq_true p6
     replace q6:=eq_true q6
     go_wp2
     go_ret
     exact ⟨zb4,zb5⟩
    rw [if_neg c7] at H
    have c7b0:decide (127 ≤ (bt a0 x3_1))=false:=decide_eq_false c7
    clear c7
    have H' := Aside0.mk H
    clear H
    have p4:0 ≤ (x3_1:Int):=of_decide_eq_true zb1
    have q4:x3_1 < (a0.size:Int):=of_decide_eq_true zb1
    have hx4:=bt_at a0 x3_1
    replace p4:=eq_true p4
    replace q4:=eq_true q4
    have p6:0 ≤ (x3_1:Int):=of_decide_eq_true zb1
    have q6:x3_1 < (a0.size:Int):=of_decide_eq_true zb1
    have hx6:=bt_at a0 x3_1
    replace p6:=eq_true p6
    replace q6:=eq_true q6
    go_wp2
    go_roundg k1
    case measure=>have:=HK1.out;omega
    case rel=>exact ⟨(wrap64 (x3_1 + 1)),zb4,H',⟨zb80⟩,zb5⟩
   ·rw [if_neg c3] at H
    exact absurd H zb24
def tollbarref02_Letter.f (a0:Int):Option (Bool):=if a0 ≥ 97 then (if a0 ≤ 122 then (some true) else (if a0 ≥ 65 then (some (decide (a0 ≤ 90))) else (some false))) else (if a0 ≥ 65 then (some (decide (a0 ≤ 90))) else (some false))
theorem tollbarref02_Letter.calls (a0:Int) (r:Bool) (w:World) (h:tollbarref02_Letter.f a0=some r) :
 Calls Tryz.prog 189 #[.int .u8 a0] w fun e w' => e = .returned (.bool r)∧Drawn0 w w' := by
 unfold tollbarref02_Letter.f at h
 have H:=h
 clear h
 by_cases c2:a0 ≥ 97;rotate_left
 ·rw [if_neg c2] at H
  have c2b0:decide (97 ≤ a0)=false:=decide_eq_false c2
  clear c2
  by_cases c5:a0 ≥ 65
  ·rw [if_pos c5] at H
   have c5b0:decide (65 ≤ a0)=true:=decide_eq_true c5
   clear c5
   obtain rfl:=Option.some.inj H
   go_enter Tryz.func189,Tryz.ntmps189
   go_wp2
   go_ret
   exact ⟨zb4,zb5⟩
  rw [if_neg c5] at H
  have c5b0:decide (65 ≤ a0)=false:=decide_eq_false c5
  clear c5
  obtain rfl:=Option.some.inj H
  go_enter Tryz.func189,Tryz.ntmps189
  go_wp2
  go_ret
  exact ⟨zb4,zb5⟩
 rw [if_pos c2] at H
 have c2b0:decide (97 ≤ a0)=true:=decide_eq_true c2
 clear c2
 by_cases c3:a0 ≤ 122
 ·rw [if_pos c3] at H
  have c3b0:=decide_eq_true c3
  clear c3
  obtain rfl:=Option.some.inj H
  go_enter Tryz.func189,Tryz.ntmps189
  go_wp2
  go_ret
  exact ⟨zb4,zb5⟩
 ·rw [if_neg c3] at H
  have c3b0:=decide_eq_false c3
  clear c3
  by_cases c4:a0 ≥ 65
  ·rw [if_pos c4] at H
   have c4b0:decide (65 ≤ a0)=true:=decide_eq_true c4
   clear c4
   obtain rfl:=Option.some.inj H
   go_enter Tryz.func189,Tryz.ntmps189
   go_wp2
   go_ret
   exact ⟨zb4,zb5⟩
  ·rw [if_neg c4] at H
   have c4b0:decide (65 ≤ a0)=false:=decide_eq_false c4
   clear c4
   obtain rfl:=Option.some.inj H
   go_enter Tryz.func189,Tryz.ntmps189
   go_wp2
   go_ret
   exact ⟨zb4,zb5⟩
def tollbarref02_tokenByte.j0:Nat → Int → Bool → Option (Bool)
 | 0,_,_=>none
 | k + 1,x0,x4=>if x4=true then (some true) else ((tollbarref02_Letter.f x0).bind fun t390=>(if t390=true then (some true) else ((tollbarref02_Digit.f x0).bind fun t391=>(some t391))))
def tollbarref02_tokenByte.f (k:Nat) (a0:Int):Option (Bool):=if a0=33 then (tollbarref02_tokenByte.j0 k a0 (a0 == 33)) else (if a0=35 then (tollbarref02_tokenByte.j0 k a0 (a0 == 35)) else (if a0=36 then (tollbarref02_tokenByte.j0 k a0 (a0 == 36)) else (if a0=37 then (tollbarref02_tokenByte.j0 k a0 (a0 == 37)) else (if a0=38 then (tollbarref02_tokenByte.j0 k a0 (a0 == 38)) else (if a0=39 then (tollbarref02_tokenByte.j0 k a0 (a0 == 39)) else (if a0=42 then (tollbarref02_tokenByte.j0 k a0 (a0 == 42)) else (if a0=43 then (tollbarref02_tokenByte.j0 k a0 (a0 == 43)) else (if a0=45 then (tollbarref02_tokenByte.j0 k a0 (a0 == 45)) else (if a0=46 then (tollbarref02_tokenByte.j0 k a0 (a0 == 46)) else (if a0=94 then (tollbarref02_tokenByte.j0 k a0 (a0 == 94)) else (if a0=95 then (tollbarref02_tokenByte.j0 k a0 (a0 == 95)) else (if a0=96 then (tollbarref02_tokenByte.j0 k a0 (a0 == 96)) else (if a0=124 then (tollbarref02_tokenByte.j0 k a0 (a0 == 124)) else (tollbarref02_tokenByte.j0 k a0 (a0 == 126)))))))))))))))
theorem tollbarref02_tokenByte.mono_l : ∀ k,(∀ y0 y1,LeO (tollbarref02_tokenByte.j0 k y0 y1) (tollbarref02_tokenByte.j0 (k + 1) y0 y1))
 | 0=>fun _ _ r h=>by simp [tollbarref02_tokenByte.j0] at h
 | k + 1=>by
  have ih0:=tollbarref02_tokenByte.mono_l k
  ·intro y0 y1
   unfold tollbarref02_tokenByte.j0
   repeat' first
   | (with_reducible exact ih0 _ _)
   | (with_reducible exact LeO.refl _)
   | (with_reducible exact LeO.none _)
   | (with_reducible refine LeO.ite ?_ ?_)
   | (with_reducible refine LeO.bind ?_ (fun _=>?_))
   | exact ih0 _ _
   | exact LeO.none _
   | refine LeO.ite ?_ ?_
   | refine LeO.bind ?_ (fun _=>?_)
theorem tollbarref02_tokenByte.mono : ∀ a0 k,LeO (tollbarref02_tokenByte.f k a0) (tollbarref02_tokenByte.f (k + 1) a0):=by
 intro a0 k
 have ih0:=tollbarref02_tokenByte.mono_l k
 unfold tollbarref02_tokenByte.f
 repeat' first
  | (with_reducible exact ih0 _ _)
  | (with_reducible exact LeO.refl _)
  | (with_reducible exact LeO.none _)
  | (with_reducible refine LeO.ite ?_ ?_)
  | (with_reducible refine LeO.bind ?_ (fun _=>?_))
  | exact ih0 _ _
  | exact LeO.none _
  | refine LeO.ite ?_ ?_
  | refine LeO.bind ?_ (fun _=>?_)
theorem tollbarref02_tokenByte.calls (k:Nat) (a0:Int) (r:Bool) (w:World) (h:tollbarref02_tokenByte.f k a0=some r) :
 Calls Tryz.prog 168 #[.int .u8 a0] w fun e w' => e = .returned (.bool r)∧Drawn0 w w' := by
 unfold tollbarref02_tokenByte.f at h
 have H:=h
 clear h
 have HC2:=Aside0.mk H
 clear H
 go_enter Tryz.func168,Tryz.ntmps168
 go_upto_if 4 with (fail)
 go_cut [4] (fun v4 wc => ∃ (kq:Nat) (x4_1:Bool),v4 = .bool x4_1∧Aside0 (tollbarref02_tokenByte.j0 kq a0 x4_1=some r)∧Aside0 (kq ≤ k)∧Drawn0 w wc)
 case first =>
  have H:=HC2.out
  clear HC2
  by_cases c3:a0=33
  ·rw [if_pos c3] at H
   have c3b0:=beq_iff_eq.mpr c3
   have c3b1:=bne_eq_false_iff_eq.mpr c3
   clear c3
   (first|rw [c3b0]|(simp only [i64_w,i32_w];rw [c3b0])|rw [c3b1]|skip)
   have H' := Aside0.mk H
   clear H
   go_wp2
   go_meet
   case rel=>exact ⟨_,((a0 == 33)),zb4,H',⟨zb37⟩,zb5⟩
  rw [if_neg c3] at H
  have c3b0:=beq_eq_false_iff_ne.mpr c3
  have c3b1:=bne_iff_ne.mpr c3
  (first|rw [c3b0]|(simp only [i64_w,i32_w];rw [c3b0])|rw [c3b1]|skip)
  by_cases c4:a0=35
  ·rw [if_pos c4] at H
   have c4b0:=beq_iff_eq.mpr c4
   have c4b1:=bne_eq_false_iff_eq.mpr c4
   clear c4
   have H' := Aside0.mk H
   clear H
   go_wp2
   go_meet
   case rel=>exact ⟨_,((a0 == 35)),zb4,H',⟨zb37⟩,zb5⟩
  rw [if_neg c4] at H
  have c4b0:=beq_eq_false_iff_ne.mpr c4
  have c4b1:=bne_iff_ne.mpr c4
  by_cases c5:a0=36
  ·rw [if_pos c5] at H
   have c5b0:=beq_iff_eq.mpr c5
   have c5b1:=bne_eq_false_iff_eq.mpr c5
   clear c5
   have H' := Aside0.mk H
   clear H
   go_wp2
   go_meet
   case rel=>exact ⟨_,((a0 == 36)),zb4,H',⟨zb37⟩,zb5⟩
  rw [if_neg c5] at H
  have c5b0:=beq_eq_false_iff_ne.mpr c5
  have c5b1:=bne_iff_ne.mpr c5
  by_cases c6:a0=37
  ·rw [if_pos c6] at H
   have c6b0:=beq_iff_eq.mpr c6
   have c6b1:=bne_eq_false_iff_eq.mpr c6
   clear c6
   have H' := Aside0.mk H
   clear H
   go_wp2
   go_meet
   case rel=>exact ⟨_,((a0 == 37)),zb4,H',⟨zb37⟩,zb5⟩
  rw [if_neg c6] at H
  have c6b0:=beq_eq_false_iff_ne.mpr c6
  have c6b1:=bne_iff_ne.mpr c6
  by_cases c7:a0=38
  ·rw [if_pos c7] at H
   have c7b0:=beq_iff_eq.mpr c7
   have c7b1:=bne_eq_false_iff_eq.mpr c7
   clear c7
   have H' := Aside0.mk H
   clear H
   go_wp2
   go_meet
   case rel=>exact ⟨_,((a0 == 38)),zb4,H',⟨zb37⟩,zb5⟩
  rw [if_neg c7] at H
  have c7b0:=beq_eq_false_iff_ne.mpr c7
  have c7b1:=bne_iff_ne.mpr c7
  by_cases c8:a0=39
  ·rw [if_pos c8] at H
   have c8b0:=beq_iff_eq.mpr c8
   have c8b1:=bne_eq_false_iff_eq.mpr c8
   clear c8
   have H' := Aside0.mk H
   clear H
   go_wp2
   go_meet
   case rel=>exact ⟨_,((a0 == 39)),zb4,H',⟨zb37⟩,zb5⟩
  rw [if_neg c8] at H
  have c8b0:=beq_eq_false_iff_ne.mpr c8
  have c8b1:=bne_iff_ne.mpr c8
  by_cases c9:a0=42
  ·rw [if_pos c9] at H
   have c9b0:=beq_iff_eq.mpr c9
   have c9b1:=bne_eq_false_iff_eq.mpr c9
   clear c9
   have H' := Aside0.mk H
   clear H
   go_wp2
   go_meet
   case rel=>exact ⟨_,((a0 == 42)),zb4,H',⟨zb37⟩,zb5⟩
  rw [if_neg c9] at H
  have c9b0:=beq_eq_false_iff_ne.mpr c9
  have c9b1:=bne_iff_ne.mpr c9
  by_cases c10:a0=43
  ·rw [if_pos c10] at H
   have c10b0:=beq_iff_eq.mpr c10
   have c10b1:=bne_eq_false_iff_eq.mpr c10
   clear c10
   have H' := Aside0.mk H
   clear H
   go_wp2
   go_meet
   case rel=>exact ⟨_,((a0 == 43)),zb4,H',⟨zb37⟩,zb5⟩
  rw [if_neg c10] at H
  have c10b0:=beq_eq_false_iff_ne.mpr c10
  have c10b1:=bne_iff_ne.mpr c10
  by_cases c11:a0=45
  ·rw [if_pos c11] at H
   have c11b0:=beq_iff_eq.mpr c11
   have c11b1:=bne_eq_false_iff_eq.mpr c11
   clear c11
   have H' := Aside0.mk H
   clear H
   go_wp2
   go_meet
   case rel=>exact ⟨_,((a0 == 45)),zb4,H',⟨zb37⟩,zb5⟩
  rw [if_neg c11] at H
  have c11b0:=beq_eq_false_iff_ne.mpr c11
  have c11b1:=bne_iff_ne.mpr c11
  by_cases c12:a0=46
  ·rw [if_pos c12] at H
   have c12b0:=beq_iff_eq.mpr c12
   have c12b1:=bne_eq_false_iff_eq.mpr c12
   clear c12
   have H' := Aside0.mk H
   clear H
   go_wp2
   go_meet
   case rel=>exact ⟨_,((a0 == 46)),zb4,H',⟨zb37⟩,zb5⟩
  rw [if_neg c12] at H
  have c12b0:=beq_eq_false_iff_ne.mpr c12
  have c12b1:=bne_iff_ne.mpr c12
  by_cases c13:a0=94
  ·rw [if_pos c13] at H
   have c13b0:=beq_iff_eq.mpr c13
   have c13b1:=bne_eq_false_iff_eq.mpr c13
   clear c13
   have H' := Aside0.mk H
   clear H
   go_wp2
   go_meet
   case rel=>exact ⟨_,((a0 == 94)),zb4,H',⟨zb37⟩,zb5⟩
  rw [if_neg c13] at H
  have c13b0:=beq_eq_false_iff_ne.mpr c13
  have c13b1:=bne_iff_ne.mpr c13
  by_cases c14:a0=95
  ·rw [if_pos c14] at H
   have c14b0:=beq_iff_eq.mpr c14
   have c14b1:=bne_eq_false_iff_eq.mpr c14
   clear c14
   have H' := Aside0.mk H
   clear H
   go_wp2
   go_meet
   case rel=>exact ⟨_,((a0 == 95)),zb4,H',⟨zb37⟩,zb5⟩
  rw [if_neg c14] at H
  have c14b0:=beq_eq_false_iff_ne.mpr c14
  have c14b1:=bne_iff_ne.mpr c14
  by_cases c15:a0=96
  ·rw [if_pos c15] at H
   have c15b0:=beq_iff_eq.mpr c15
   have c15b1:=bne_eq_false_iff_eq.mpr c15
   clear c15
   have H' := Aside0.mk H
   clear H
   go_wp2
   go_meet
   case rel=>exact ⟨_,((a0 == 96)),zb4,H',⟨zb37⟩,zb5⟩
  rw [if_neg c15] at H
  have c15b0:=beq_eq_false_iff_ne.mpr c15
  have c15b1:=bne_iff_ne.mpr c15
  by_cases c16:a0=124;rotate_left
  ·rw [if_neg c16] at H
   have c16b0:=beq_eq_false_iff_ne.mpr c16
   have c16b1:=bne_iff_ne.mpr c16
   have H' := Aside0.mk H
   clear H
   go_wp2
   go_meet
   case rel=>exact ⟨_,((a0 == 126)),zb4,H',⟨zb37⟩,zb5⟩
  rw [if_pos c16] at H
  have c16b0:=beq_iff_eq.mpr c16
  have c16b1:=bne_eq_false_iff_eq.mpr c16
  clear c16
  have H' := Aside0.mk H
  clear H
  go_wp2
  go_meet
  case rel=>exact ⟨_,((a0 == 124)),zb4,H',⟨zb37⟩,zb5⟩
 case rest =>
  clear HC2
  try clear c1
  try clear p2
  try clear c3
  try clear c3b0
  try clear c3b1
  try clear c4
  try clear c4b0
  try clear c4b1
  try clear c5
  try clear c5b0
  try clear c5b1
  try clear c6
  try clear c6b0
  try clear c6b1
  try clear c7
  try clear c7b0
  try clear c7b1
  try clear c8
  try clear c8b0
  try clear c8b1
  try clear c9
  try clear c9b0
  try clear c9b1
  try clear c10
  try clear c10b0
  try clear c10b1
  try clear c11
  try clear c11b0
  try clear c11b1
  try clear c12
  try clear c12b0
  try clear c12b1
  try clear c13
  try clear c13b0
  try clear c13b1
  try clear c14
  try clear c14b0
  try clear c14b1
  try clear c15
  try clear c15b0
  try clear c15b1
  try clear c16
  try clear c16b0
  try clear c16b1
  obtain ⟨kq,x4_1,rfl,HA,HJ1,⟨mc1,rfl⟩⟩:=hcut
  cases kq with
  | zero=>exact absurd HA.out (by simp [tollbarref02_tokenByte.j0])
  | succ kj1 =>
   have H:=HA.out
   clear HA
   simp only [tollbarref02_tokenByte.j0] at H
   by_cases c17:x4_1=true
   ·subst c17
    rw [if_pos rfl] at H
    obtain rfl:=Option.some.inj H
    go_wp2
    go_ret
    exact ⟨zb4,zb5⟩
   replace c17:=Bool.eq_false_iff.mpr c17
   subst c17
   rw [if_neg zf] at H
   replace H:=Option.bind_eq_some_iff.mp H
   obtain ⟨t390,A180,H⟩:=H
   try dsimp only at H
   have A18:=Aside0.mk A180
   clear A180
   by_cases c19:t390=true
   ·subst c19
    rw [if_pos rfl] at H
    obtain rfl:=Option.some.inj H
    go_wp2_with (first|((with_reducible refine gate_callee (f:=189) rfl ?_);refine goesL_ (some 21) rfl rfl Tryz.func189 zb7 rfl #[.int .u8 a0] rfl zb2 ?_;(with_reducible refine (tollbarref02_Letter.calls a0 true _ A18.out).mono ?_);rintro e w' ⟨rfl,⟨nd,rfl⟩⟩;(try clear A18);refine ⟨_,rfl,?_⟩))
    go_ret
    exact ⟨zb4,zb5⟩
   replace c19:=Bool.eq_false_iff.mpr c19
   subst c19
   rw [if_neg zf] at H
   replace H:=Option.bind_eq_some_iff.mp H
   obtain ⟨t391,A200,H⟩:=H
   try dsimp only at H
   have A20:=Aside0.mk A200
   clear A200
   obtain rfl:=Option.some.inj H
   go_wp2_with (first|((with_reducible refine gate_callee (f:=189) rfl ?_);refine goesL_ (some 21) rfl rfl Tryz.func189 zb7 rfl #[.int .u8 a0] rfl zb2 ?_;(with_reducible refine (tollbarref02_Letter.calls a0 false _ A18.out).mono ?_);rintro e w' ⟨rfl,⟨nd,rfl⟩⟩;(try clear A18);refine ⟨_,rfl,?_⟩)|(go_at_call 92;(with_reducible refine (tollbarref02_Digit.calls a0 t391 _ A20.out).mono ?_);rintro e w' ⟨rfl,⟨nd,rfl⟩⟩;(try clear A20)))
   go_ret
   exact ⟨zb4,zb5⟩
def tollbarref02_Token.l0:Nat → ByteArray → Int → Option (Bool)
 | 0,_,_=>none
 | k + 1,x0,x3=>if x3 < (x0.size:Int) then (if 0 ≤ x3 then ((tollbarref02_tokenByte.f k (bt x0 x3)).bind fun t392=>(if t392=true then (tollbarref02_Token.l0 k x0 (wrap64 (x3 + 1))) else (some false))) else (none)) else (some (decide ((x0.size:Int) > 0)))
def tollbarref02_Token.f (k:Nat) (a0:ByteArray):Option (Bool):=tollbarref02_Token.l0 k a0 0
theorem tollbarref02_Token.calls (k:Nat) (a0:ByteArray) (r:Bool) (w:World) (h:tollbarref02_Token.f k a0=some r) :
 Calls Tryz.prog 127 #[.string a0] w fun e w' => e = .returned (.bool r)∧Drawn0 w w' := by
 unfold tollbarref02_Token.f at h
 have H:=h
 clear h
 have H' := Aside0.mk H
 clear H
 go_enter Tryz.func127,Tryz.ntmps127
 go_wp2
 go_loopg [3] k (fun kq v3 w' => ∃ (x3_1:Int),v3 = .int .i64 x3_1∧Aside0 (tollbarref02_Token.l0 kq a0 x3_1=some r)∧Aside0 (kq ≤ k)∧Drawn0 w w')
 case atStart=>exact ⟨(0),zb4,H',⟨Nat.le_refl _⟩,zb5⟩
 case round =>
  clear H'
  try clear c1
  obtain ⟨x3_1,rfl,HA,HK1,⟨m1,rfl⟩⟩:=hrel
  cases gk with
  | zero=>exact absurd HA.out (by simp [tollbarref02_Token.l0])
  | succ k1 =>
   have H:=HA.out
   clear HA
   simp only [tollbarref02_Token.l0] at H
   by_cases c2:x3_1 < (a0.size:Int);rotate_left
   ·rw [if_neg c2] at H
    have c2b0:=decide_eq_false c2
    clear c2
    obtain rfl:=Option.some.inj H
    go_wp2
    go_ret
    exact ⟨zb4,zb5⟩
   rw [if_pos c2] at H
   have c2b0:=decide_eq_true c2
   clear c2
   by_cases c3:0 ≤ x3_1
   ·rw [if_pos c3] at H
    have c3b0:=decide_eq_true c3
    clear c3
    replace H:=Option.bind_eq_some_iff.mp H
    obtain ⟨t392,A50,H⟩:=H
    try dsimp only at H
    have A5:=Aside0.mk A50
    clear A50
    by_cases c6:t392=true;rotate_left
    ·replace c6:=Bool.eq_false_iff.mpr c6
     subst c6
     rw [if_neg zf] at H
     obtain rfl:=Option.some.inj H
     have p4:0 ≤ (x3_1:Int):=of_decide_eq_true zb1
     have q4:x3_1 < (a0.size:Int):=of_decide_eq_true zb1
     have hx4:=bt_at a0 x3_1
     replace p4:=eq_true p4
     replace q4:=eq_true q4
     go_wp2_with (first|((with_reducible refine gate_callee (f:=168) rfl ?_);refine goesL_ (some 13) rfl rfl Tryz.func168 zb7 rfl #[.int .u8 (bt a0 x3_1)] rfl zb2 ?_;(with_reducible refine (tollbarref02_tokenByte.calls k1 (bt a0 x3_1) false _ A5.out).mono ?_);rintro e w' ⟨rfl,⟨nd,rfl⟩⟩;(try clear A5);refine ⟨_,rfl,?_⟩))
     go_ret
     exact ⟨zb4,zb5⟩
    subst c6
    rw [if_pos rfl] at H
    have H' := Aside0.mk H
    clear H
    have p4:0 ≤ (x3_1:Int):=of_decide_eq_true zb1
    have q4:x3_1 < (a0.size:Int):=of_decide_eq_true zb1
    have hx4:=bt_at a0 x3_1
    replace p4:=eq_true p4
    replace q4:=eq_true q4
    go_wp2_with (first|((with_reducible refine gate_callee (f:=168) rfl ?_);refine goesL_ (some 13) rfl rfl Tryz.func168 zb7 rfl #[.int .u8 (bt a0 x3_1)] rfl zb2 ?_;(with_reducible refine (tollbarref02_tokenByte.calls k1 (bt a0 x3_1) true _ A5.out).mono ?_);rintro e w' ⟨rfl,⟨nd,rfl⟩⟩;(try clear A5);refine ⟨_,rfl,?_⟩))
    go_roundg k1
    case measure=>have:=HK1.out;omega
    case rel=>exact ⟨(wrap64 (x3_1 + 1)),zb4,H',⟨zb80⟩,zb5⟩
   ·rw [if_neg c3] at H
    exact absurd H zb24
def tollbarref05_Version.f (a0:ByteArray):Option (Int × Int × Bool):=if (a0.size:Int)=8 then (if 0 ≤ 5 then (if 5 ≤ (a0.size:Int) then (if (a0.extract 0 5).toList=([72,84,84,80,47]:List UInt8) then (if 5 < (a0.size:Int) then ((tollbarref02_Digit.f (bt a0 5)).bind fun t393=>(if t393=true then (if 6 < (a0.size:Int) then (if (bt a0 6)=46 then (if 7 < (a0.size:Int) then ((tollbarref02_Digit.f (bt a0 7)).bind fun t394=>(if t394=true then (some (((bt a0 5) - 48) % 256,((bt a0 7) - 48) % 256,true)) else (some (0,0,false)))) else (none)) else (some (0,0,false))) else (none)) else (some (0,0,false)))) else (none)) else (some (0,0,false))) else (none)) else (none)) else (some (0,0,false))
theorem tollbarref05_Version.calls (a0:ByteArray) (r1:Int) (r2:Int) (r3:Bool) (w:World) (h:tollbarref05_Version.f a0=some (r1,r2,r3)) :
 Calls Tryz.prog 129 #[.string a0] w fun e w' => e = .returned (.tuple #[.int .i64 r1,.int .i64 r2,.bool r3])∧Drawn0 w w' := by
 unfold tollbarref05_Version.f at h
 have H:=h
 clear h
 by_cases c2:(a0.size:Int)=8;rotate_left
 ·rw [if_neg c2] at H
  have c2b0:=beq_eq_false_iff_ne.mpr c2
  have c2b1:=bne_iff_ne.mpr c2
  simp only [zi,zj] at H
  obtain ⟨rfl,rfl,rfl⟩:=H
  go_enter Tryz.func129,Tryz.ntmps129
  go_wp2
  repeat (go_quiet (fail);try go_wp2)
  go_ret3
  exact ⟨zb4,zb5⟩
 rw [if_pos c2] at H
 have c2b0:=beq_iff_eq.mpr c2
 have c2b1:=bne_eq_false_iff_eq.mpr c2
 clear c2
 by_cases c3:0 ≤ 5
 ·rw [if_pos c3] at H
  have c3b0:=eq_true c3
  have c3b1:=decide_eq_true c3
  clear c3
  by_cases c4:5 ≤ (a0.size:Int)
  ·rw [if_pos c4] at H
   have c4b0:=eq_true c4
   have c4b1:=decide_eq_true c4
   clear c4
   by_cases c5:(a0.extract 0 5).toList=([72,84,84,80,47]:List UInt8);rotate_left
   ·rw [if_neg c5] at H
    have c5b0:=beq_eq_false_iff_ne.mpr c5
    have c5b1:=bne_iff_ne.mpr c5
    simp only [zi,zj] at H
    obtain ⟨rfl,rfl,rfl⟩:=H
    go_enter Tryz.func129,Tryz.ntmps129
    go_wp2
    repeat (go_quiet (fail);try go_wp2)
    go_ret3
    exact ⟨zb4,zb5⟩
   rw [if_pos c5] at H
   have c5b0:=beq_iff_eq.mpr c5
   have c5b1:=bne_eq_false_iff_eq.mpr c5
   clear c5
   by_cases c6:5 < (a0.size:Int)
   ·rw [if_pos c6] at H
    have c6b0:=decide_eq_true c6
    have c6b1:decide (5 < a0.size)=true:=decide_eq_true zb10
    clear c6
    replace H:=Option.bind_eq_some_iff.mp H
    obtain ⟨t20,A80,H⟩:=H
    try dsimp only at H
    have A8:=Aside0.mk A80
    clear A80
    by_cases c9:t20=true;rotate_left
    ·replace c9:=Bool.eq_false_iff.mpr c9
     subst c9
     rw [if_neg zf] at H
     simp only [zi,zj] at H
     obtain ⟨rfl,rfl,rfl⟩:=H
     have p7:0 ≤ (5:Int):=zb10
     have q7:5 < a0.size:=(zN (n:=5) zb1)
     have hx7 : ∀ h:5 < a0.size,((a0[5]'h).toNat:Int)=bt a0 5:=bt_at a0 5
     clear p7
     have qi7:(5 < (a0.size:Int))=True:=eq_true (of_decide_eq_true zb1)
     replace q7:=eq_true q7
     go_enter Tryz.func129,Tryz.ntmps129
     go_wp2_with (first|(go_at_call 92;(with_reducible refine (tollbarref02_Digit.calls (bt a0 5) false _ A8.out).mono ?_);rintro e w' ⟨rfl,⟨nd,rfl⟩⟩;(try clear A8);(try first|exact ⟨rfl,_,World.drewN_drewN _ _ _⟩|exact ⟨rfl,_,Eq.trans (World.drewN_drewN _ _ _) (congrArg (World.drewN _) (Nat.add_assoc _ _ _))⟩)))
     repeat (go_quiet (first|(go_at_call 92;(with_reducible refine (tollbarref02_Digit.calls (bt a0 5) false _ A8.out).mono ?_);rintro e w' ⟨rfl,⟨nd,rfl⟩⟩;(try clear A8);(try first|exact ⟨rfl,_,World.drewN_drewN _ _ _⟩|exact ⟨rfl,_,Eq.trans (World.drewN_drewN _ _ _) (congrArg (World.drewN _) (Nat.add_assoc _ _ _))⟩)));try go_wp2_with (first|(go_at_call 92;(with_reducible refine (tollbarref02_Digit.calls (bt a0 5) false _ A8.out).mono ?_);rintro e w' ⟨rfl,⟨nd,rfl⟩⟩;(try clear A8);(try first|exact ⟨rfl,_,World.drewN_drewN _ _ _⟩|exact ⟨rfl,_,Eq.trans (World.drewN_drewN _ _ _) (congrArg (World.drewN _) (Nat.add_assoc _ _ _))⟩))))
     go_ret3
     exact ⟨zb4,zb5⟩
    subst c9
    rw [if_pos rfl] at H
    by_cases c10:6 < (a0.size:Int)
    ·rw [if_pos c10] at H
     have c10b0:=decide_eq_true c10
     have c10b1:decide (6 < a0.size)=true:=decide_eq_true zb10
     clear c10
     by_cases c12:(bt a0 6)=46;rotate_left
     ·rw [if_neg c12] at H
      have c12b0:=beq_eq_false_iff_ne.mpr c12
      have c12b1:=bne_iff_ne.mpr c12
      simp only [zi,zj] at H
      obtain ⟨rfl,rfl,rfl⟩:=H
      have p7:0 ≤ (5:Int):=zb10
      have q7:5 < a0.size:=(zN (n:=5) zb1)
      have hx7 : ∀ h:5 < a0.size,((a0[5]'h).toNat:Int)=bt a0 5:=bt_at a0 5
      clear p7
      have qi7:(5 < (a0.size:Int))=True:=eq_true (of_decide_eq_true zb1)
      replace q7:=eq_true q7
      go_enter Tryz.func129,Tryz.ntmps129
      go_wp2_with (first|(go_at_call 92;(with_reducible refine (tollbarref02_Digit.calls (bt a0 5) true _ A8.out).mono ?_);rintro e w' ⟨rfl,⟨nd,rfl⟩⟩;(try clear A8);(try first|exact ⟨rfl,_,World.drewN_drewN _ _ _⟩|exact ⟨rfl,_,Eq.trans (World.drewN_drewN _ _ _) (congrArg (World.drewN _) (Nat.add_assoc _ _ _))⟩);have p11:0 ≤ (6:Int):=zb10;have q11:6 < a0.size:=(zN (n:=6) zb1);have hx11 : ∀ h:6 < a0.size,((a0[6]'h).toNat:Int)=bt a0 6:=bt_at a0 6;clear p11;have qi11:(6 < (a0.size:Int))=True:=eq_true (of_decide_eq_true zb1);replace q11:=eq_true q11))
      repeat (go_quiet (first|(go_at_call 92;(with_reducible refine (tollbarref02_Digit.calls (bt a0 5) true _ A8.out).mono ?_);rintro e w' ⟨rfl,⟨nd,rfl⟩⟩;(try clear A8);(try first|exact ⟨rfl,_,World.drewN_drewN _ _ _⟩|exact ⟨rfl,_,Eq.trans (World.drewN_drewN _ _ _) (congrArg (World.drewN _) (Nat.add_assoc _ _ _))⟩);have p11:0 ≤ (6:Int):=zb10;have q11:6 < a0.size:=(zN (n:=6) zb1);have hx11 : ∀ h:6 < a0.size,((a0[6]'h).toNat:Int)=bt a0 6:=bt_at a0 6;clear p11;have qi11:(6 < (a0.size:Int))=True:=eq_true (of_decide_eq_true zb1);replace q11:=eq_true q11));try go_wp2_with (first|(go_at_call 92;(with_reducible refine (tollbarref02_Digit.calls (bt a0 5) true _ A8.out).mono ?_);rintro e w' ⟨rfl,⟨nd,rfl⟩⟩;(try clear A8);(try first|exact ⟨rfl,_,World.drewN_drewN _ _ _⟩|exact ⟨rfl,_,Eq.trans (World.drewN_drewN _ _ _) (congrArg (World.drewN _) (Nat.add_assoc _ _ _))⟩);have p11:0 ≤ (6:Int):=zb10;have q11:6 < a0.size:=(zN (n:=6) zb1);have hx11 : ∀ h:6 < a0.size,((a0[6]'h).toNat:Int)=bt a0 6:=bt_at a0 6;clear p11;have qi11:(6 < (a0.size:Int))=True:=eq_true (of_decide_eq_true zb1);replace q11:=eq_true q11)))
      go_ret3
      exact ⟨zb4,zb5⟩
     rw [if_pos c12] at H
     have c12b0:=beq_iff_eq.mpr c12
     have c12b1:=bne_eq_false_iff_eq.mpr c12
     clear c12
     by_cases c13:7 < (a0.size:Int)
     ·rw [if_pos c13] at H
      have c13b0:=decide_eq_true c13
      have c13b1:decide (7 < a0.size)=true:=decide_eq_true zb10
      clear c13
      replace H:=Option.bind_eq_some_iff.mp H
      obtain ⟨t19,A21,H⟩:=H
      try dsimp only at H
      have A15:=Aside0.mk A21
      clear A21
      by_cases c16:t19=true
      ·subst c16
       rw [if_pos rfl] at H
       simp only [zi,zj] at H
       obtain ⟨rfl,rfl,rfl⟩:=H
       have p7:0 ≤ (5:Int):=zb10
       have q7:5 < a0.size:=(zN (n:=5) zb1)
       have hx7 : ∀ h:5 < a0.size,((a0[5]'h).toNat:Int)=bt a0 5:=bt_at a0 5
       clear p7
       have qi7:(5 < (a0.size:Int))=True:=eq_true (of_decide_eq_true zb1)
       replace q7:=eq_true q7
       go_enter Tryz.func129,Tryz.ntmps129
       go_wp2_with (first|(go_at_call 92;(with_reducible refine (tollbarref02_Digit.calls (bt a0 5) true _ A8.out).mono ?_);rintro e w' ⟨rfl,⟨nd,rfl⟩⟩;(try clear A8);(try first|exact ⟨rfl,_,World.drewN_drewN _ _ _⟩|exact ⟨rfl,_,Eq.trans (World.drewN_drewN _ _ _) (congrArg (World.drewN _) (Nat.add_assoc _ _ _))⟩);have p11:0 ≤ (6:Int):=zb10;have q11:6 < a0.size:=(zN (n:=6) zb1);have hx11 : ∀ h:6 < a0.size,((a0[6]'h).toNat:Int)=bt a0 6:=bt_at a0 6;clear p11;have qi11:(6 < (a0.size:Int))=True:=eq_true (of_decide_eq_true zb1);replace q11:=eq_true q11;have p14:0 ≤ (7:Int):=zb10;have q14:7 < a0.size:=(zN (n:=7) zb1);have hx14 : ∀ h:7 < a0.size,((a0[7]'h).toNat:Int)=bt a0 7:=bt_at a0 7;clear p14;have qi14:(7 < (a0.size:Int))=True:=eq_true (of_decide_eq_true zb1);replace q14:=eq_true q14)|(go_at_call 92;(with_reducible refine (tollbarref02_Digit.calls (bt a0 7) true _ A15.out).mono ?_);rintro e w' ⟨rfl,⟨nd,rfl⟩⟩;(try clear A15);(try first|exact ⟨rfl,_,World.drewN_drewN _ _ _⟩|exact ⟨rfl,_,Eq.trans (World.drewN_drewN _ _ _) (congrArg (World.drewN _) (Nat.add_assoc _ _ _))⟩);have p17:0 ≤ (5:Int):=zb10;have q17:5 < a0.size:=(zN (n:=5) zb1);have hx17 : ∀ h:5 < a0.size,((a0[5]'h).toNat:Int)=bt a0 5:=bt_at a0 5;clear p17;have qi17:(5 < (a0.size:Int))=True:=eq_true (of_decide_eq_true zb1);replace q17:=eq_true q17;have p18:0 ≤ (7:Int):=zb10;have q18:7 < a0.size:=(zN (n:=7) zb1);have hx18 : ∀ h:7 < a0.size,((a0[7]'h).toNat:Int)=bt a0 7:=bt_at a0 7;clear p18;have qi18:(7 < (a0.size:Int))=True:=eq_true (of_decide_eq_true zb1);replace q18:=eq_true q18))
       repeat (go_quiet (first|(go_at_call 92;(with_reducible refine (tollbarref02_Digit.calls (bt a0 5) true _ A8.out).mono ?_);rintro e w' ⟨rfl,⟨nd,rfl⟩⟩;(try clear A8);(try first|exact ⟨rfl,_,World.drewN_drewN _ _ _⟩|exact ⟨rfl,_,Eq.trans (World.drewN_drewN _ _ _) (congrArg (World.drewN _) (Nat.add_assoc _ _ _))⟩);have p11:0 ≤ (6:Int):=zb10;have q11:6 < a0.size:=(zN (n:=6) zb1);have hx11 : ∀ h:6 < a0.size,((a0[6]'h).toNat:Int)=bt a0 6:=bt_at a0 6;clear p11;have qi11:(6 < (a0.size:Int))=True:=eq_true (of_decide_eq_true zb1);replace q11:=eq_true q11;have p14:0 ≤ (7:Int):=zb10;have q14:7 < a0.size:=(zN (n:=7) zb1);have hx14 : ∀ h:7 < a0.size,((a0[7]'h).toNat:Int)=bt a0 7:=bt_at a0 7;clear p14;have qi14:(7 < (a0.size:Int))=True:=eq_true (of_decide_eq_true zb1);replace q14:=eq_true q14)|(go_at_call 92;(with_reducible refine (tollbarref02_Digit.calls (bt a0 7) true _ A15.out).mono ?_);rintro e w' ⟨rfl,⟨nd,rfl⟩⟩;(try clear A15);(try first|exact ⟨rfl,_,World.drewN_drewN _ _ _⟩|exact ⟨rfl,_,Eq.trans (World.drewN_drewN _ _ _) (congrArg (World.drewN _) (Nat.add_assoc _ _ _))⟩);have p17:0 ≤ (5:Int):=zb10;have q17:5 < a0.size:=(zN (n:=5) zb1);have hx17 : ∀ h:5 < a0.size,((a0[5]'h).toNat:Int)=bt a0 5:=bt_at a0 5;clear p17;have qi17:(5 < (a0.size:Int))=True:=eq_true (of_decide_eq_true zb1);replace q17:=eq_true q17;have p18:0 ≤ (7:Int):=zb10;have q18:7 < a0.size:=(zN (n:=7) zb1);have hx18 : ∀ h:7 < a0.size,((a0[7]'h).toNat:Int)=bt a0 7:=bt_at a0 7;clear p18;have qi18:(7 < (a0.size:Int))=True:=eq_true (of_decide_eq_true zb1);replace q18:=eq_true q18));try go_wp2_with (first|(go_at_call 92;(with_reducible refine (tollbarref02_Digit.calls (bt a0 5) true _ A8.out).mono ?_);rintro e w' ⟨rfl,⟨nd,rfl⟩⟩;(try clear A8);(try first|exact ⟨rfl,_,World.drewN_drewN _ _ _⟩|exact ⟨rfl,_,Eq.trans (World.drewN_drewN _ _ _) (congrArg (World.drewN _) (Nat.add_assoc _ _ _))⟩);have p11:0 ≤ (6:Int):=zb10;have q11:6 < a0.size:=(zN (n:=6) zb1);have hx11 : ∀ h:6 < a0.size,((a0[6]'h).toNat:Int)=bt a0 6:=bt_at a0 6;clear p11;have qi11:(6 < (a0.size:Int))=True:=eq_true (of_decide_eq_true zb1);replace q11:=eq_true q11;have p14:0 ≤ (7:Int):=zb10;have q14:7 < a0.size:=(zN (n:=7) zb1);have hx14 : ∀ h:7 < a0.size,((a0[7]'h).toNat:Int)=bt a0 7:=bt_at a0 7;clear p14;have qi14:(7 < (a0.size:Int))=True:=eq_true (of_decide_eq_true zb1);replace q14:=eq_true q14)|(go_at_call 92;(with_reducible refine (tollbarref02_Digit.calls (bt a0 7) true _ A15.out).mono ?_);rintro e w' ⟨rfl,⟨nd,rfl⟩⟩;(try clear A15);(try first|exact ⟨rfl,_,World.drewN_drewN _ _ _⟩|exact ⟨rfl,_,Eq.trans (World.drewN_drewN _ _ _) (congrArg (World.drewN _) (Nat.add_assoc _ _ _))⟩);have p17:0 ≤ (5:Int):=zb10;have q17:5 < a0.size:=(zN (n:=5) zb1);have hx17 : ∀ h:5 < a0.size,((a0[5]'h).toNat:Int)=bt a0 5:=bt_at a0 5;clear p17;have qi17:(5 < (a0.size:Int))=True:=eq_true (of_decide_eq_true zb1);replace q17:=eq_true q17;have p18:0 ≤ (7:Int):=zb10;have q18:7 < a0.size:=(zN (n:=7) zb1);have hx18 : ∀ h:7 < a0.size,((a0[7]'h).toNat:Int)=bt a0 7:=bt_at a0 7;clear p18;have qi18:(7 < (a0.size:Int))=True:=eq_true (of_decide_eq_true zb1);replace q18:=eq_true q18)))
       go_ret3
       exact ⟨zb4,zb5⟩
      replace c16:=Bool.eq_false_iff.mpr c16
      subst c16
      rw [if_neg zf] at H
      simp only [zi,zj] at H
      obtain ⟨rfl,rfl,rfl⟩:=H
      have p7:0 ≤ (5:Int):=zb10
      have q7:5 < a0.size:=(zN (n:=5) zb1)
      have hx7 : ∀ h:5 < a0.size,((a0[5]'h).toNat:Int)=bt a0 5:=bt_at a0 5
      clear p7
      have qi7:(5 < (a0.size:Int))=True:=eq_true (of_decide_eq_true zb1)
      replace q7:=eq_true q7
      go_enter Tryz.func129,Tryz.ntmps129
      go_wp2_with (first|(go_at_call 92;(with_reducible refine (tollbarref02_Digit.calls (bt a0 5) true _ A8.out).mono ?_);rintro e w' ⟨rfl,⟨nd,rfl⟩⟩;(try clear A8);(try first|exact ⟨rfl,_,World.drewN_drewN _ _ _⟩|exact ⟨rfl,_,Eq.trans (World.drewN_drewN _ _ _) (congrArg (World.drewN _) (Nat.add_assoc _ _ _))⟩);have p11:0 ≤ (6:Int):=zb10;have q11:6 < a0.size:=(zN (n:=6) zb1);have hx11 : ∀ h:6 < a0.size,((a0[6]'h).toNat:Int)=bt a0 6:=bt_at a0 6;clear p11;have qi11:(6 < (a0.size:Int))=True:=eq_true (of_decide_eq_true zb1);replace q11:=eq_true q11;have p14:0 ≤ (7:Int):=zb10;have q14:7 < a0.size:=(zN (n:=7) zb1);have hx14 : ∀ h:7 < a0.size,((a0[7]'h).toNat:Int)=bt a0 7:=bt_at a0 7;clear p14;have qi14:(7 < (a0.size:Int))=True:=eq_true (of_decide_eq_true zb1);replace q14:=eq_true q14)|(go_at_call 92;(with_reducible refine (tollbarref02_Digit.calls (bt a0 7) false _ A15.out).mono ?_);rintro e w' ⟨rfl,⟨nd,rfl⟩⟩;(try clear A15);(try first|exact ⟨rfl,_,World.drewN_drewN _ _ _⟩|exact ⟨rfl,_,Eq.trans (World.drewN_drewN _ _ _) (congrArg (World.drewN _) (Nat.add_assoc _ _ _))⟩)))
      repeat (go_quiet (first|(go_at_call 92;(with_reducible refine (tollbarref02_Digit.calls (bt a0 5) true _ A8.out).mono ?_);rintro e w' ⟨rfl,⟨nd,rfl⟩⟩;(try clear A8);(try first|exact ⟨rfl,_,World.drewN_drewN _ _ _⟩|exact ⟨rfl,_,Eq.trans (World.drewN_drewN _ _ _) (congrArg (World.drewN _) (Nat.add_assoc _ _ _))⟩);have p11:0 ≤ (6:Int):=zb10;have q11:6 < a0.size:=(zN (n:=6) zb1);have hx11 : ∀ h:6 < a0.size,((a0[6]'h).toNat:Int)=bt a0 6:=bt_at a0 6;clear p11;have qi11:(6 < (a0.size:Int))=True:=eq_true (of_decide_eq_true zb1);replace q11:=eq_true q11;have p14:0 ≤ (7:Int):=zb10;have q14:7 < a0.size:=(zN (n:=7) zb1);have hx14 : ∀ h:7 < a0.size,((a0[7]'h).toNat:Int)=bt a0 7:=bt_at a0 7;clear p14;have qi14:(7 < (a0.size:Int))=True:=eq_true (of_decide_eq_true zb1);replace q14:=eq_true q14)|(go_at_call 92;(with_reducible refine (tollbarref02_Digit.calls (bt a0 7) false _ A15.out).mono ?_);rintro e w' ⟨rfl,⟨nd,rfl⟩⟩;(try clear A15);(try first|exact ⟨rfl,_,World.drewN_drewN _ _ _⟩|exact ⟨rfl,_,Eq.trans (World.drewN_drewN _ _ _) (congrArg (World.drewN _) (Nat.add_assoc _ _ _))⟩)));try go_wp2_with (first|(go_at_call 92;(with_reducible refine (tollbarref02_Digit.calls (bt a0 5) true _ A8.out).mono ?_);rintro e w' ⟨rfl,⟨nd,rfl⟩⟩;(try clear A8);(try first|exact ⟨rfl,_,World.drewN_drewN _ _ _⟩|exact ⟨rfl,_,Eq.trans (World.drewN_drewN _ _ _) (congrArg (World.drewN _) (Nat.add_assoc _ _ _))⟩);have p11:0 ≤ (6:Int):=zb10;have q11:6 < a0.size:=(zN (n:=6) zb1);have hx11 : ∀ h:6 < a0.size,((a0[6]'h).toNat:Int)=bt a0 6:=bt_at a0 6;clear p11;have qi11:(6 < (a0.size:Int))=True:=eq_true (of_decide_eq_true zb1);replace q11:=eq_true q11;have p14:0 ≤ (7:Int):=zb10;have q14:7 < a0.size:=(zN (n:=7) zb1);have hx14 : ∀ h:7 < a0.size,((a0[7]'h).toNat:Int)=bt a0 7:=bt_at a0 7;clear p14;have qi14:(7 < (a0.size:Int))=True:=eq_true (of_decide_eq_true zb1);replace q14:=eq_true q14)|(go_at_call 92;(with_reducible refine (tollbarref02_Digit.calls (bt a0 7) false _ A15.out).mono ?_);rintro e w' ⟨rfl,⟨nd,rfl⟩⟩;(try clear A15);(try first|exact ⟨rfl,_,World.drewN_drewN _ _ _⟩|exact ⟨rfl,_,Eq.trans (World.drewN_drewN _ _ _) (congrArg (World.drewN _) (Nat.add_assoc _ _ _))⟩))))
      go_ret3
      exact ⟨zb4,zb5⟩
     ·rw [if_neg c13] at H
      exact absurd H zb24
    ·rw [if_neg c10] at H
     exact absurd H zb24
   ·rw [if_neg c6] at H
    exact absurd H zb24
  ·rw [if_neg c4] at H
   exact absurd H zb24
 ·exact absurd c3 zb78
def tollbarref05_parts.l0:Nat → ByteArray → List ByteArray → Int → Int → Option (List ByteArray)
 | 0,_,_,_,_=>none
 | k + 1,x0,x3,x4,x5=>if x5 ≤ (x0.size:Int) then (if x5=(x0.size:Int) then (if 0 ≤ x4 then (if x4 ≤ x5 then (if x3.length < 8796093022208 then (tollbarref05_parts.l0 k x0 (x3 ++ [x0.extract (x4:Int).toNat (x5:Int).toNat]) (wrap64 (x5 + 1)) (wrap64 (x5 + 1))) else (none)) else (none)) else (none)) else (if 0 ≤ x5 then (if x5 < (x0.size:Int) then (if (bt x0 x5)=32 then (if 0 ≤ x4 then (if x4 ≤ x5 then (if x3.length < 8796093022208 then (tollbarref05_parts.l0 k x0 (x3 ++ [x0.extract (x4:Int).toNat (x5:Int).toNat]) (wrap64 (x5 + 1)) (wrap64 (x5 + 1))) else (none)) else (none)) else (none)) else (tollbarref05_parts.l0 k x0 x3 x4 (wrap64 (x5 + 1)))) else (none)) else (none))) else (some x3)
def tollbarref05_parts.f (k:Nat) (a0:ByteArray):Option (List ByteArray):=tollbarref05_parts.l0 k a0 (([]:List ByteArray)) 0 0
theorem tollbarref05_parts.calls (k:Nat) (a0:ByteArray) (r:List ByteArray) (w:World) (h:tollbarref05_parts.f k a0=some r) :
 Calls Tryz.prog 126 #[.string a0] w fun e w' => ∃ v0_:Value,e = .returned (v0_)∧Kd.R Kd.string 9 w' w.heap.size (fun _=>True) v0_ r∧Below w.heap.size w w' := by
 have HB:=zB w
 unfold tollbarref05_parts.f at h
 have H:=h
 clear h
 obtain ⟨y381,hy381⟩ : ∃ y_:List ByteArray,y_=(([]:List ByteArray)):=⟨_,rfl⟩
 replace H:(tollbarref05_parts.l0 k a0 y381 0 0)=some r:=by first|(rw [hy381];with_reducible exact H)|(have H2_:=(Option.bind_some _ _).symm.trans H;rw [hy381];with_reducible exact H2_)|(have H2_:=(Option.bind_some _ _).symm.trans H;with_reducible exact H2_)|with_reducible exact H|(rw [hy381];exact H)|exact H
 have Ny381:=Aside0.mk hy381
 clear hy381
 have H' := Aside0.mk H
 clear H
 go_enter Tryz.func126,Tryz.ntmps126
 go_wp2_with (first|((with_reducible refine gate_dst (N:=6) rfl ?_);refine Kd.R_lit Kd.string _ 9 ?hg (N:=6) ?hd (xs:=([]:List ByteArray)) (inner:=[]) (ok:=fun _=>True) (okp:=fun _=>True) ?hr ?hp (fun _ hk=>hk) trivial (Below.refl _ _) (Nat.le_refl _) zb24 ?_;(case hd=>rfl);(case hg=>rfl);(case hr=>first|(go_simp;done)|(go_simp;rfl));(case hp=>exact (Reps.none _ _));intro v382 w2 ho3 hb hg_ hnew_;clear hg_ hnew_;(first|rw [← Ny381.out] at ho3|(simp only [Int.reduceToNat] at ho3;rw [← Ny381.out] at ho3));have HO383:=Aside0.mk (Kd.R_lower ho3 (below_size zb0));replace HB:=Aside0.mk (below_step zb0 hb);clear hb ho3))
 go_loopg [3,4,5] k (fun kq v3 v4 v5 w' => ∃ (x3_1:List ByteArray) (x4_1:Int) (x5_1:Int),v4 = .int .i64 x4_1∧v5 = .int .i64 x5_1∧Aside0 (tollbarref05_parts.l0 kq a0 x3_1 x4_1 x5_1=some r)∧Aside0 (kq ≤ k)∧Aside0 (Kd.R Kd.string 9 w' w.heap.size (fun _=>True) v3 x3_1)∧Aside0 (Below w.heap.size w w'))
 case atStart=>exact ⟨(y381),(0),(0),zb4,zb4,H',⟨Nat.le_refl _⟩,⟨by (with_reducible repeat (first|apply Kd.R_alloc|apply Kd.R_drewN|apply Kd.R_drew));exact HO383.out⟩,⟨zb0⟩⟩
 case round =>
  clear H'
  try clear c1
  try clear p2
  obtain ⟨x3_1,x4_1,x5_1,rfl,rfl,HA,HK1,HO_3,HB⟩:=hrel
  cases gk with
  | zero=>exact absurd HA.out (by simp [tollbarref05_parts.l0])
  | succ k1 =>
   have H:=HA.out
   clear HA
   simp only [tollbarref05_parts.l0] at H
   by_cases c4:x5_1 ≤ (a0.size:Int);rotate_left
   ·rw [if_neg c4] at H
    have c4b0:=decide_eq_false c4
    clear c4
    obtain rfl:=Option.some.inj H
    go_wp2
    go_ret
    exact ⟨_,zb3,zb31,zb0⟩
   rw [if_pos c4] at H
   have c4b0:=decide_eq_true c4
   clear c4
   by_cases c5:x5_1=(a0.size:Int)
   ·rw [if_pos c5] at H
    have c5b0:=beq_iff_eq.mpr c5
    have c5b1:=bne_eq_false_iff_eq.mpr c5
    clear c5
    by_cases c6:0 ≤ x4_1;rotate_left
    ·rw [if_neg c6] at H
     exact absurd H zb24
    rw [if_pos c6] at H
    have c6b0:=eq_true c6
    have c6b1:=decide_eq_true c6
    clear c6
    by_cases c7:x4_1 ≤ x5_1
    ·rw [if_pos c7] at H
     have c7b0:=eq_true c7
     have c7b1:=decide_eq_true c7
     clear c7
     have c8b0:=eq_true (of_decide_eq_true zb1:x5_1 ≤ (a0.size:Int))
     by_cases c9:x3_1.length < 8796093022208;rotate_left
     ·rw [if_neg c9] at H
      exact absurd H zb24
     rw [if_pos c9] at H
     have LMc9:=Aside0.mk c9
     clear c9
     obtain ⟨y384,hy384⟩ : ∃ y_:List ByteArray,y_=(x3_1 ++ [a0.extract (x4_1:Int).toNat (x5_1:Int).toNat]):=⟨_,rfl⟩
     replace H:(tollbarref05_parts.l0 k1 a0 y384 (wrap64 (x5_1 + 1)) (wrap64 (x5_1 + 1)))=some r:=by first|(rw [hy384];with_reducible exact H)|(have H2_:=(Option.bind_some _ _).symm.trans H;rw [hy384];with_reducible exact H2_)|(have H2_:=(Option.bind_some _ _).symm.trans H;with_reducible exact H2_)|with_reducible exact H|(rw [hy384];exact H)|exact H
     have Ny384:=Aside0.mk hy384
     clear hy384
     have H' := Aside0.mk H
     clear H
     go_wp2_with (first|((with_reducible refine gate_builtin (b:=.append) (xs:=#[.tmp 23,.tmp 28]) rfl ?_);at_builtin;refine Kd.R_append Kd.string (w0:=w) w.heap.size rfl (.tmp 23) (.tmp 28) 34 9 (.string ⟨#[]⟩) 16 rfl Tryz.underlying34 info9 rfl zb78 zb10 u3 x3_1 (a0.extract (x4_1:Int).toNat (x5_1:Int).toNat) [.string (a0.extract (x4_1:Int).toNat (x5_1:Int).toNat)] (fun _=>True) (fun _=>False) rfl rfl ?aP (fun _ hk=>hk.elim) ?aF ?aO ?aB ?aS ?aL ?_;(case aP=>exact rfl);(case aB=>exact zb23);(case aF=>exact (fun _ _=>trivial));(case aO=>exact zb74);(case aS=>exact zb20);(case aL=>have:=LMc9.out;omega);intro v385 w10 ho hb hg hat;rw [← Ny384.out] at ho;replace HB:=Aside0.mk (hb);have HO386:=Aside0.mk (ho);clear ho hb hg hat))
     go_roundg k1
     case measure=>have:=HK1.out;omega
     case rel=>exact ⟨(y384),(wrap64 (x5_1 + 1)),(wrap64 (x5_1 + 1)),zb4,zb4,H',⟨zb80⟩,⟨by (with_reducible repeat (first|apply Kd.R_alloc|apply Kd.R_drewN|apply Kd.R_drew));exact HO386.out⟩,⟨zb0⟩⟩
    ·rw [if_neg c7] at H
     exact absurd H zb24
   rw [if_neg c5] at H
   have c5b0:=beq_eq_false_iff_ne.mpr c5
   have c5b1:=bne_iff_ne.mpr c5
   by_cases c11:0 ≤ x5_1
   ·rw [if_pos c11] at H
    have c11b0:=decide_eq_true c11
    clear c11
    by_cases c12:x5_1 < (a0.size:Int)
    ·rw [if_pos c12] at H
     have c12b0:=decide_eq_true c12
     clear c12
     by_cases c14:(bt a0 x5_1)=32;rotate_left
     ·rw [if_neg c14] at H
      have c14b0:=beq_eq_false_iff_ne.mpr c14
      have c14b1:=bne_iff_ne.mpr c14
      have H' := Aside0.mk H
      clear H
      have p13:0 ≤ (x5_1:Int):=of_decide_eq_true zb1
      have q13:x5_1 < (a0.size:Int):=of_decide_eq_true zb1
      have hx13:=bt_at a0 x5_1
      replace p13:=eq_true p13
      replace q13:=eq_true q13
      go_wp2
      go_roundg k1
      case measure=>have:=HK1.out;omega
      case rel=>exact ⟨(x3_1),(x4_1),(wrap64 (x5_1 + 1)),zb4,zb4,H',⟨zb80⟩,⟨zb31⟩,⟨zb0⟩⟩
     rw [if_pos c14] at H
     have c14b0:=beq_iff_eq.mpr c14
     have c14b1:=bne_eq_false_iff_eq.mpr c14
     clear c14
     by_cases c15:0 ≤ x4_1
     ·rw [if_pos c15] at H
      have c15b0:=eq_true c15
      have c15b1:=decide_eq_true c15
      clear c15
      by_cases c16:x4_1 ≤ x5_1
      ·rw [if_pos c16] at H
       have c16b0:=eq_true c16
       have c16b1:=decide_eq_true c16
       clear c16
       have c17b0:=eq_true (of_decide_eq_true zb1:x5_1 ≤ (a0.size:Int))
       by_cases c18:x3_1.length < 8796093022208
       ·rw [if_pos c18] at H
        have LMc18:=Aside0.mk c18
        clear c18
        obtain ⟨y387,hy387⟩ : ∃ y_:List ByteArray,y_=(x3_1 ++ [a0.extract (x4_1:Int).toNat (x5_1:Int).toNat]):=⟨_,rfl⟩
        replace H:(tollbarref05_parts.l0 k1 a0 y387 (wrap64 (x5_1 + 1)) (wrap64 (x5_1 + 1)))=some r:=by first|(rw [hy387];with_reducible exact H)|(have H2_:=(Option.bind_some _ _).symm.trans H;rw [hy387];with_reducible exact H2_)|(have H2_:=(Option.bind_some _ _).symm.trans H;with_reducible exact H2_)|with_reducible exact H|(rw [hy387];exact H)|exact H
        have Ny387:=Aside0.mk hy387
        clear hy387
        have H' := Aside0.mk H
        clear H
        have p13:0 ≤ (x5_1:Int):=of_decide_eq_true zb1
        have q13:x5_1 < (a0.size:Int):=of_decide_eq_true zb1
        have hx13:=bt_at a0 x5_1
        replace p13:=eq_true p13
        replace q13:=eq_true q13
        go_wp2_with (first|((with_reducible refine gate_builtin (b:=.append) (xs:=#[.tmp 23,.tmp 28]) rfl ?_);at_builtin;refine Kd.R_append Kd.string (w0:=w) w.heap.size rfl (.tmp 23) (.tmp 28) 34 9 (.string ⟨#[]⟩) 16 rfl Tryz.underlying34 info9 rfl zb78 zb10 u3 x3_1 (a0.extract (x4_1:Int).toNat (x5_1:Int).toNat) [.string (a0.extract (x4_1:Int).toNat (x5_1:Int).toNat)] (fun _=>True) (fun _=>False) rfl rfl ?aP (fun _ hk=>hk.elim) ?aF ?aO ?aB ?aS ?aL ?_;(case aP=>exact rfl);(case aB=>exact zb23);(case aF=>exact (fun _ _=>trivial));(case aO=>exact zb74);(case aS=>exact zb20);(case aL=>have:=LMc18.out;omega);intro v388 w19 ho hb hg hat;rw [← Ny387.out] at ho;replace HB:=Aside0.mk (hb);have HO389:=Aside0.mk (ho);clear ho hb hg hat))
        go_roundg k1
        case measure=>have:=HK1.out;omega
        case rel=>exact ⟨(y387),(wrap64 (x5_1 + 1)),(wrap64 (x5_1 + 1)),zb4,zb4,H',⟨zb80⟩,⟨by (with_reducible repeat (first|apply Kd.R_alloc|apply Kd.R_drewN|apply Kd.R_drew));exact HO389.out⟩,⟨zb0⟩⟩
       ·rw [if_neg c18] at H
        exact absurd H zb24
      ·rw [if_neg c16] at H
       exact absurd H zb24
     ·rw [if_neg c15] at H
      exact absurd H zb24
    ·rw [if_neg c12] at H
     exact absurd H zb24
   ·rw [if_neg c11] at H
    exact absurd H zb24
mutual
def tollbarref05_Request.j0:Nat → List ByteArray → Bool → Option (ByteArray × ByteArray × Int × (List (S36)) × List Int × Int)
 | 0,_,_=>none
 | k + 1,x4,x33=>if x33=true then (some ((⟨#[]⟩:ByteArray),(⟨#[]⟩:ByteArray),0,([]:List (S36)),([]:List Int),400)) else (if 1 < (x4.length:Int) then (if 0 < ((rdOf ByteArray.empty x4 1).size:Int) then (if (bt (rdOf ByteArray.empty x4 1) 0)=47 then (tollbarref05_Request.j1 k x4 false) else (if (rdOf ByteArray.empty x4 1).toList=([42]:List UInt8) then (if 0 < (x4.length:Int) then (tollbarref05_Request.j1 k x4 ((rdOf ByteArray.empty x4 0).toList != ([79,80,84,73,79,78,83]:List UInt8))) else (none)) else (tollbarref05_Request.j1 k x4 true))) else (none)) else (none))
def tollbarref05_Request.j1:Nat → List ByteArray → Bool → Option (ByteArray × ByteArray × Int × (List (S36)) × List Int × Int)
 | 0,_,_=>none
 | k + 1,x4,x51=>if x51=true then (some ((⟨#[]⟩:ByteArray),(⟨#[]⟩:ByteArray),0,([]:List (S36)),([]:List Int),400)) else (if 1 < (x4.length:Int) then (if ((rdOf ByteArray.empty x4 1).size:Int) > 512 then (some ((⟨#[]⟩:ByteArray),(⟨#[]⟩:ByteArray),0,([]:List (S36)),([]:List Int),414)) else (if 2 < (x4.length:Int) then ((tollbarref05_Version.f (rdOf ByteArray.empty x4 2)).bind fun bt409=>(if bt409.2.2=true then (if bt409.1=1 then (if bt409.2.1 > 1 then (some ((⟨#[]⟩:ByteArray),(⟨#[]⟩:ByteArray),0,([]:List (S36)),([]:List Int),505)) else (if 0 < (x4.length:Int) then (some (rdOf ByteArray.empty x4 0,rdOf ByteArray.empty x4 1,bt409.2.1,([]:List (S36)),([]:List Int),0)) else (none))) else (some ((⟨#[]⟩:ByteArray),(⟨#[]⟩:ByteArray),0,([]:List (S36)),([]:List Int),505))) else (some ((⟨#[]⟩:ByteArray),(⟨#[]⟩:ByteArray),0,([]:List (S36)),([]:List Int),400)))) else (none))) else (none))
end
def tollbarref05_Request.f (k:Nat) (a0:ByteArray):Option (ByteArray × ByteArray × Int × (List (S36)) × List Int × Int):=(tollbarref05_parts.f k a0).bind fun t396=>(if (t396.length:Int)=3 then (if 0 < (t396.length:Int) then ((tollbarref02_Token.f k (rdOf ByteArray.empty t396 0)).bind fun t400=>(if t400=true then (if ((rdOf ByteArray.empty t396 0).size:Int) > 20 then (tollbarref05_Request.j0 k t396 true) else (if 1 < (t396.length:Int) then ((tollbarref02_Target.f k (rdOf ByteArray.empty t396 1)).bind fun t403=>(tollbarref05_Request.j0 k t396 (!t403))) else (none))) else (tollbarref05_Request.j0 k t396 true))) else (none)) else (tollbarref05_Request.j0 k t396 true))
def tollbarref05_Request.T13:Bool × List (List Nat × List Nat):=(true,[([],[]),([0],[0]),([1],[1]),([],[]),([3],[3]),([4],[4]),([],[]),([2,5,6],[2,5,6]),([7,0,1,2,3,4,5,6,7],[7]),([8,0,1,2,3,4,5,6,7,8],[])])
def tollbarref05_Request.B13:List Nat:=[0,1,3,0,8,24,0,127,255,511]
theorem tollbarref05_Request.tab13:rtab .any (opsOf Tryz.f81 13)=tollbarref05_Request.T13:=by kernel_rfl
theorem tollbarref05_Request.bits13:waitsOk tollbarref05_Request.T13.2 tollbarref05_Request.B13=true:=by kernel_rfl
theorem tollbarref05_Request.calls (k:Nat) (a0:ByteArray) (r1:ByteArray) (r2:ByteArray) (r3:Int) (r4:List (S36)) (r5:List Int) (r6:Int) (w:World) (h:tollbarref05_Request.f k a0=some (r1,r2,r3,r4,r5,r6)) :
 Calls Tryz.prog 81 #[.string a0] w fun e w' => ∃ v3_ v4_:Value,e = .returned (.tuple #[.agg #[.string r1,.string r2,.int .i64 r3,v3_,v4_],.int .i64 r6])∧Kd.R k36 36 w' w.heap.size (fun _=>True) v3_ r4∧Kd.R (Kd.int .u8) 5 w' w.heap.size (fun _=>True) v4_ r5∧Below w.heap.size w w' := by
 have hu26:=Tryz.underlying26
 have HB:=zB w
 unfold tollbarref05_Request.f at h
 have H:=h
 clear h
 replace H:=Option.bind_eq_some_iff.mp H
 obtain ⟨t55,A20,H⟩:=H
 try dsimp only at H
 have A2:=Aside0.mk A20
 clear A20
 have HC3:=Aside0.mk H
 clear H
 go_enter Tryz.func81,Tryz.ntmps81
 go_upto_region 2 with (first|((with_reducible refine gate_dst (N:=2) rfl ?_);(try (refine gate_guard zb49 ?_;dsimp only));refine box_event rfl (N:=2) rfl (cs:=#[.string (⟨#[]⟩:ByteArray),.string (⟨#[]⟩:ByteArray),.int .i64 0,.slice none 0 0,.slice none 0 0]) (t:=26) zS ?_;intro gb54 hg w4 hbox hb;have GW54:=zG hg zb0;have GE54:=GW54;have BK54:=Aside0.mk hbox;replace HB:=Aside0.mk (below_step zb0 hb);clear hb hbox hg)|((with_reducible refine gate_callee (f:=126) rfl ?_);refine goesL_ (some 9) rfl rfl Tryz.func126 zb7 rfl #[.string a0] rfl zb2 ?_;(with_reducible refine (tollbarref05_parts.calls k a0 t55 _ A2.out).mono ?_);rintro e w5 ⟨v74,rfl,ho0,hb⟩;refine ⟨_,rfl,?_⟩;have HO68:=Aside0.mk (Kd.R_lower ho0 (below_size zb17));replace BK54:=Aside0.mk (blk_below (g:=gb54) (o:=.cells #[.string (⟨#[]⟩:ByteArray),.string (⟨#[]⟩:ByteArray),.int .i64 0,.slice none 0 0,.slice none 0 0] 26 (0,0)) zb64 hb);replace HB:=Aside0.mk (below_step zb17 hb);try clear hb ho0))
 (try simp only [Act.put,zqA,zqB,zqC])
 go_cut [33] (fun v33 wc => ∃ (kq:Nat) (x33_2:Bool),v33 = .bool x33_2∧Aside0 (tollbarref05_Request.j0 kq t55 x33_2=some (r1,r2,r3,r4,r5,r6))∧Aside0 (kq ≤ k)∧Aside0 (Kd.R Kd.string 9 wc w.heap.size (fun _=>True) v74 t55)∧Aside0 (wc.heap[gb54]? = some (.cells #[.string (⟨#[]⟩:ByteArray),.string (⟨#[]⟩:ByteArray),.int .i64 0,(.slice none 0 0),(.slice none 0 0)] 26 (0,0)))∧Aside0 (Below w.heap.size w wc))
 case first =>
  have H:=HC3.out
  clear HC3
  by_cases c6:(t55.length:Int)=3;rotate_left
  ·rw [if_neg c6] at H
   have c6b0:=beq_eq_false_iff_ne.mpr c6
   have c6b1:=bne_iff_ne.mpr c6
   (first|rw [c6b0]|(simp only [i64_w,i32_w];rw [c6b0])|rw [c6b1]|skip)
   have H' := Aside0.mk H
   clear H
   obtain ⟨Ao16,co16,eo16⟩:=Kd.R_slice HO68.out
   subst eo16
   go_wp2
   go_meet
   case rel=>exact ⟨_,(true),zb4,H',⟨zb37⟩,⟨zb106⟩,⟨zb64⟩,⟨zb17⟩⟩
  rw [if_pos c6] at H
  have c6b0:=beq_iff_eq.mpr c6
  have c6b1:=bne_eq_false_iff_eq.mpr c6
  clear c6
  (first|rw [c6b0]|(simp only [i64_w,i32_w];rw [c6b0])|rw [c6b1]|skip)
  by_cases c7:0 < (t55.length:Int)
  ·rw [if_pos c7] at H
   have c7b0:=decide_eq_true c7
   have c7b1:decide (0 < t55.length)=true:=decide_eq_true zb10
   clear c7
   replace H:=Option.bind_eq_some_iff.mp H
   obtain ⟨t71,A80,H⟩:=H
   try dsimp only at H
   have A8:=Aside0.mk A80
   clear A80
   by_cases c9:t71=true;rotate_left
   ·replace c9:=Bool.eq_false_iff.mpr c9
    subst c9
    rw [if_neg zf] at H
    have H' := Aside0.mk H
    clear H
    obtain ⟨Ao15,co15,eo15⟩:=Kd.R_slice HO68.out
    subst eo15
    have p58:0 ≤ (0:Int):=zb10
    have q58:0 < (t55.length:Int):=of_decide_eq_true zb1
    obtain ⟨ad58,e58,hx58_0⟩:=Kd.at_string (Kd.R_reads' HO68.out).2.2 0 p58 q58
    cases e58
    have qi58:(0 < t55.length)=True:=eq_true zb10
    (try rw [show ((0:Int)).toNat=0 from rfl] at hx58_0)
    (try rw [Addr.add_zero'] at hx58_0)
    replace p58:=eq_true p58
    replace q58:=eq_true q58
    go_wp2_with (first|(go_at_call 127;(with_reducible refine (tollbarref02_Token.calls k (rdOf ByteArray.empty t55 0) false _ A8.out).mono ?_);rintro e w' ⟨rfl,⟨nd,rfl⟩⟩;(try clear A8)))
    go_meet
    case rel=>exact ⟨_,(true),zb4,H',⟨zb37⟩,⟨zb106⟩,⟨zb64⟩,⟨zb17⟩⟩
   subst c9
   rw [if_pos rfl] at H
   by_cases c10:((rdOf ByteArray.empty t55 0).size:Int) > 20
   ·rw [if_pos c10] at H
    have c10b0:decide (20 < ((rdOf ByteArray.empty t55 0).size:Int))=true:=decide_eq_true c10
    have c10b1:decide (20 < (rdOf ByteArray.empty t55 0).size)=true:=decide_eq_true zb10
    clear c10
    have H' := Aside0.mk H
    clear H
    obtain ⟨Ao11,co11,eo11⟩:=Kd.R_slice HO68.out
    subst eo11
    have p58:0 ≤ (0:Int):=zb10
    have q58:0 < (t55.length:Int):=of_decide_eq_true zb1
    obtain ⟨ad58,e58,hx58_0⟩:=Kd.at_string (Kd.R_reads' HO68.out).2.2 0 p58 q58
    cases e58
    have qi58:(0 < t55.length)=True:=eq_true zb10
    (try rw [show ((0:Int)).toNat=0 from rfl] at hx58_0)
    (try rw [Addr.add_zero'] at hx58_0)
    replace p58:=eq_true p58
    replace q58:=eq_true q58
    go_wp2_with (first|(go_at_call 127;(with_reducible refine (tollbarref02_Token.calls k (rdOf ByteArray.empty t55 0) true _ A8.out).mono ?_);rintro e w' ⟨rfl,⟨nd,rfl⟩⟩;(try clear A8);have p60:0 ≤ (0:Int):=zb10;have q60:0 < (t55.length:Int):=of_decide_eq_true zb1;obtain ⟨ad60,e60,hx60_0⟩:=Kd.at_string (Kd.R_reads' HO68.out).2.2 0 p60 q60;obtain rfl:ad58=ad60:=(by injection e60);have qi60:(0 < t55.length)=True:=eq_true zb10;(try rw [show ((0:Int)).toNat=0 from rfl] at hx60_0);(try rw [Addr.add_zero'] at hx60_0);replace p60:=eq_true p60;replace q60:=eq_true q60))
    go_meet
    case rel=>exact ⟨_,(true),zb4,H',⟨zb37⟩,⟨zb106⟩,⟨zb64⟩,⟨zb17⟩⟩
   rw [if_neg c10] at H
   have c10b0:decide (20 < ((rdOf ByteArray.empty t55 0).size:Int))=false:=decide_eq_false c10
   have c10b1:decide (20 < (rdOf ByteArray.empty t55 0).size)=false:=decide_eq_false zb10
   clear c10
   by_cases c12:1 < (t55.length:Int)
   ·rw [if_pos c12] at H
    have c12b0:=decide_eq_true c12
    have c12b1:decide (1 < t55.length)=true:=decide_eq_true zb10
    clear c12
    replace H:=Option.bind_eq_some_iff.mp H
    obtain ⟨t70,A72,H⟩:=H
    try dsimp only at H
    have A13:=Aside0.mk A72
    clear A72
    have H' := Aside0.mk H
    clear H
    obtain ⟨Ao14,co14,eo14⟩:=Kd.R_slice HO68.out
    subst eo14
    have p58:0 ≤ (0:Int):=zb10
    have q58:0 < (t55.length:Int):=of_decide_eq_true zb1
    obtain ⟨ad58,e58,hx58_0⟩:=Kd.at_string (Kd.R_reads' HO68.out).2.2 0 p58 q58
    cases e58
    have qi58:(0 < t55.length)=True:=eq_true zb10
    (try rw [show ((0:Int)).toNat=0 from rfl] at hx58_0)
    (try rw [Addr.add_zero'] at hx58_0)
    replace p58:=eq_true p58
    replace q58:=eq_true q58
    go_wp2_with (first|(go_at_call 127;(with_reducible refine (tollbarref02_Token.calls k (rdOf ByteArray.empty t55 0) true _ A8.out).mono ?_);rintro e w' ⟨rfl,⟨nd,rfl⟩⟩;(try clear A8);have p60:0 ≤ (0:Int):=zb10;have q60:0 < (t55.length:Int):=of_decide_eq_true zb1;obtain ⟨ad60,e60,hx60_0⟩:=Kd.at_string (Kd.R_reads' HO68.out).2.2 0 p60 q60;obtain rfl:ad58=ad60:=(by injection e60);have qi60:(0 < t55.length)=True:=eq_true zb10;(try rw [show ((0:Int)).toNat=0 from rfl] at hx60_0);(try rw [Addr.add_zero'] at hx60_0);replace p60:=eq_true p60;replace q60:=eq_true q60;have p62:0 ≤ (1:Int):=zb10;have q62:1 < (t55.length:Int):=of_decide_eq_true zb1;obtain ⟨ad62,e62,hx62_0⟩:=Kd.at_string (Kd.R_reads' HO68.out).2.2 1 p62 q62;obtain rfl:ad58=ad62:=(by injection e62);(try simp only [show (1:Int).toNat=1 from rfl,Nat.reduceMul,Nat.reduceEqDiff,Go.Addr.add,↓reduceIte] at hx62_0);have qi62:(1 < t55.length)=True:=eq_true zb10;(try rw [show ((1:Int)).toNat=1 from rfl] at hx62_0);replace p62:=eq_true p62;replace q62:=eq_true q62)|(go_at_call 128;(with_reducible refine (tollbarref02_Target.calls k (rdOf ByteArray.empty t55 1) t70 _ A13.out).mono ?_);rintro e w' ⟨rfl,⟨nd,rfl⟩⟩;(try clear A13)))
    go_meet
    case rel=>exact ⟨_,(!t70),zb4,H',⟨zb37⟩,⟨zb106⟩,⟨zb64⟩,⟨zb17⟩⟩
   ·rw [if_neg c12] at H
    exact absurd H zb24
  ·rw [if_neg c7] at H
   exact absurd H zb24
 case rest =>
  clear HC3
  try clear c1
  try clear p2
  try clear p3
  try clear q3
  try clear hx3
  try clear qi3
  try clear p4
  try clear q4
  try clear hx4
  try clear qi4
  try clear c6
  try clear c6b0
  try clear c6b1
  try clear c7
  try clear c7b0
  try clear c7b1
  try clear c8
  try clear c9
  try clear c10
  try clear c10b0
  try clear c10b1
  try clear c12
  try clear c12b0
  try clear c12b1
  try clear hx58_0
  try clear hx60_0
  try clear hx62_0
  try clear p58
  try clear p60
  try clear p62
  try clear q58
  try clear q60
  try clear q62
  obtain ⟨kq,x33_2,rfl,HA,HJ2,HO_4,BK54,HB⟩:=hcut
  cases kq with
  | zero=>exact absurd HA.out (by simp [tollbarref05_Request.j0])
  | succ kj2 =>
   have H:=HA.out
   clear HA
   simp only [tollbarref05_Request.j0] at H
   by_cases c17:x33_2=true
   ·subst c17
    rw [if_pos rfl] at H
    simp only [zi,zj] at H
    obtain ⟨rfl,rfl,rfl,rfl,rfl,rfl⟩:=H
    obtain ⟨hcz18_0,hcz18_1,hcz18_2,hcz18_3,hcz18_4,hfz18_0,hfz18_1,hfz18_2,hfz18_3,hfz18_4⟩:=zq5 BK54.out
    go_wp2
    refine bodyPost_ret (results_ct rfl _ _ gb54 26 #[.string (⟨#[]⟩:ByteArray),.string (⟨#[]⟩:ByteArray),.int .i64 0,.slice none 0 0,.slice none 0 0] (0,0) _ rfl zb16 Tryz.underlying26 rfl zb7) rfl ?_
    exact ⟨_,_,zb3,zb6,zb6,zb17⟩
   replace c17:=Bool.eq_false_iff.mpr c17
   subst c17
   rw [if_neg zf] at H
   have HC19:=Aside0.mk H
   clear H
   go_upto_region 4 with (fail)
   go_cut [51] (fun v51 wc => ∃ (kq:Nat) (x51_18:Bool),v51 = .bool x51_18∧Aside0 (tollbarref05_Request.j1 kq t55 x51_18=some (r1,r2,r3,r4,r5,r6))∧Aside0 (kq ≤ kj2)∧Aside0 (Kd.R Kd.string 9 wc w.heap.size (fun _=>True) v74 t55)∧Aside0 (wc.heap[gb54]? = some (.cells #[.string (⟨#[]⟩:ByteArray),.string (⟨#[]⟩:ByteArray),.int .i64 0,(.slice none 0 0),(.slice none 0 0)] 26 (0,0)))∧Aside0 (Below w.heap.size w wc))
   case first =>
    have H:=HC19.out
    clear HC19
    by_cases c20:1 < (t55.length:Int);rotate_left
    ·rw [if_neg c20] at H
     exact absurd H zb24
    rw [if_pos c20] at H
    have c20b0:=decide_eq_true c20
    have c20b1:decide (1 < t55.length)=true:=decide_eq_true zb10
    clear c20
    (first|rw [c20b0]|(simp only [i64_w,i32_w];rw [c20b0])|rw [c20b1]|skip)
    by_cases c21:0 < ((rdOf ByteArray.empty t55 1).size:Int)
    ·rw [if_pos c21] at H
     have c21b0:=decide_eq_true c21
     have c21b1:decide (0 < (rdOf ByteArray.empty t55 1).size)=true:=decide_eq_true zb10
     clear c21
     by_cases c23:(bt (rdOf ByteArray.empty t55 1) 0)=47
     ·rw [if_pos c23] at H
      have c23b0:=beq_iff_eq.mpr c23
      have c23b1:=bne_eq_false_iff_eq.mpr c23
      clear c23
      have H' := Aside0.mk H
      clear H
      obtain ⟨Ao24,co24,eo24⟩:=Kd.R_slice HO_4.out
      subst eo24
      have p59:0 ≤ (1:Int):=zb10
      have q59:1 < (t55.length:Int):=of_decide_eq_true zb1
      obtain ⟨ad59,e59,hx59_0⟩:=Kd.at_string (Kd.R_reads' HO_4.out).2.2 1 p59 q59
      cases e59
      (try simp only [show (1:Int).toNat=1 from rfl,Nat.reduceMul,Nat.reduceEqDiff,Go.Addr.add,↓reduceIte] at hx59_0)
      have qi59:(1 < t55.length)=True:=eq_true zb10
      (try rw [show ((1:Int)).toNat=1 from rfl] at hx59_0)
      replace p59:=eq_true p59
      replace q59:=eq_true q59
      have p22:0 ≤ (0:Int):=zb10
      have q22:0 < (rdOf ByteArray.empty t55 1).size:=zb104
      have hx22 : ∀ h:0 < (rdOf ByteArray.empty t55 1).size,(((rdOf ByteArray.empty t55 1)[0]'h).toNat:Int)=bt (rdOf ByteArray.empty t55 1) 0:=bt_at (rdOf ByteArray.empty t55 1) 0
      clear p22
      have qi22:(0 < ((rdOf ByteArray.empty t55 1).size:Int))=True:=eq_true (of_decide_eq_true zb1)
      replace q22:=eq_true q22
      go_wp2
      go_meet
      case rel=>exact ⟨_,(false),zb4,H',⟨by have:=HJ2.out;first|omega|exact Nat.le_refl _⟩,⟨zb47⟩,⟨zb64⟩,⟨zb17⟩⟩
     rw [if_neg c23] at H
     have c23b0:=beq_eq_false_iff_ne.mpr c23
     have c23b1:=bne_iff_ne.mpr c23
     by_cases c25:(rdOf ByteArray.empty t55 1).toList=([42]:List UInt8);rotate_left
     ·rw [if_neg c25] at H
      have c25b0:=beq_eq_false_iff_ne.mpr c25
      have c25b1:=bne_iff_ne.mpr c25
      have H' := Aside0.mk H
      clear H
      obtain ⟨Ao28,co28,eo28⟩:=Kd.R_slice HO_4.out
      subst eo28
      have p59:0 ≤ (1:Int):=zb10
      have q59:1 < (t55.length:Int):=of_decide_eq_true zb1
      obtain ⟨ad59,e59,hx59_0⟩:=Kd.at_string (Kd.R_reads' HO_4.out).2.2 1 p59 q59
      cases e59
      (try simp only [show (1:Int).toNat=1 from rfl,Nat.reduceMul,Nat.reduceEqDiff,Go.Addr.add,↓reduceIte] at hx59_0)
      have qi59:(1 < t55.length)=True:=eq_true zb10
      (try rw [show ((1:Int)).toNat=1 from rfl] at hx59_0)
      replace p59:=eq_true p59
      replace q59:=eq_true q59
      have p22:0 ≤ (0:Int):=zb10
      have q22:0 < (rdOf ByteArray.empty t55 1).size:=zb104
      have hx22 : ∀ h:0 < (rdOf ByteArray.empty t55 1).size,(((rdOf ByteArray.empty t55 1)[0]'h).toNat:Int)=bt (rdOf ByteArray.empty t55 1) 0:=bt_at (rdOf ByteArray.empty t55 1) 0
      clear p22
      have qi22:(0 < ((rdOf ByteArray.empty t55 1).size:Int))=True:=eq_true (of_decide_eq_true zb1)
      replace q22:=eq_true q22
      have p61:0 ≤ (1:Int):=zb10
      have q61:1 < (t55.length:Int):=of_decide_eq_true zb1
      obtain ⟨ad61,e61,hx61_0⟩:=Kd.at_string (Kd.R_reads' HO_4.out).2.2 1 p61 q61
      obtain rfl:ad59=ad61:=(by injection e61)
      (try simp only [show (1:Int).toNat=1 from rfl,Nat.reduceMul,Nat.reduceEqDiff,Go.Addr.add,↓reduceIte] at hx61_0)
      have qi61:(1 < t55.length)=True:=eq_true zb10
      (try rw [show ((1:Int)).toNat=1 from rfl] at hx61_0)
      replace p61:=eq_true p61
      replace q61:=eq_true q61
      go_wp2
      go_meet
      case rel=>exact ⟨_,(true),zb4,H',⟨by have:=HJ2.out;first|omega|exact Nat.le_refl _⟩,⟨zb47⟩,⟨zb64⟩,⟨zb17⟩⟩
     rw [if_pos c25] at H
     have c25b0:=beq_iff_eq.mpr c25
     have c25b1:=bne_eq_false_iff_eq.mpr c25
     clear c25
     by_cases c26:0 < (t55.length:Int)
     ·rw [if_pos c26] at H
      have c26b0:=decide_eq_true c26
      have c26b1:decide (0 < t55.length)=true:=decide_eq_true zb10
      clear c26
      have H' := Aside0.mk H
      clear H
      obtain ⟨Ao27,co27,eo27⟩:=Kd.R_slice HO_4.out
      subst eo27
      have p59:0 ≤ (1:Int):=zb10
      have q59:1 < (t55.length:Int):=of_decide_eq_true zb1
      obtain ⟨ad59,e59,hx59_0⟩:=Kd.at_string (Kd.R_reads' HO_4.out).2.2 1 p59 q59
      cases e59
      (try simp only [show (1:Int).toNat=1 from rfl,Nat.reduceMul,Nat.reduceEqDiff,Go.Addr.add,↓reduceIte] at hx59_0)
      have qi59:(1 < t55.length)=True:=eq_true zb10
      (try rw [show ((1:Int)).toNat=1 from rfl] at hx59_0)
      replace p59:=eq_true p59
      replace q59:=eq_true q59
      have p22:0 ≤ (0:Int):=zb10
      have q22:0 < (rdOf ByteArray.empty t55 1).size:=zb104
      have hx22 : ∀ h:0 < (rdOf ByteArray.empty t55 1).size,(((rdOf ByteArray.empty t55 1)[0]'h).toNat:Int)=bt (rdOf ByteArray.empty t55 1) 0:=bt_at (rdOf ByteArray.empty t55 1) 0
      clear p22
      have qi22:(0 < ((rdOf ByteArray.empty t55 1).size:Int))=True:=eq_true (of_decide_eq_true zb1)
      replace q22:=eq_true q22
      have p61:0 ≤ (1:Int):=zb10
      have q61:1 < (t55.length:Int):=of_decide_eq_true zb1
      obtain ⟨ad61,e61,hx61_0⟩:=Kd.at_string (Kd.R_reads' HO_4.out).2.2 1 p61 q61
      obtain rfl:ad59=ad61:=(by injection e61)
      (try simp only [show (1:Int).toNat=1 from rfl,Nat.reduceMul,Nat.reduceEqDiff,Go.Addr.add,↓reduceIte] at hx61_0)
      have qi61:(1 < t55.length)=True:=eq_true zb10
      (try rw [show ((1:Int)).toNat=1 from rfl] at hx61_0)
      replace p61:=eq_true p61
      replace q61:=eq_true q61
      have p63:0 ≤ (0:Int):=zb10
      have q63:0 < (t55.length:Int):=of_decide_eq_true zb1
      obtain ⟨ad63,e63,hx63_0⟩:=Kd.at_string (Kd.R_reads' HO_4.out).2.2 0 p63 q63
      obtain rfl:ad59=ad63:=(by injection e63)
      have qi63:(0 < t55.length)=True:=eq_true zb10
      (try rw [show ((0:Int)).toNat=0 from rfl] at hx63_0)
      (try rw [Addr.add_zero'] at hx63_0)
      replace p63:=eq_true p63
      replace q63:=eq_true q63
      go_wp2
      go_meet
      case rel=>exact ⟨_,(((rdOf ByteArray.empty t55 0).toList != ([79,80,84,73,79,78,83]:List UInt8))),zb4,H',⟨by have:=HJ2.out;first|omega|exact Nat.le_refl _⟩,⟨zb47⟩,⟨zb64⟩,⟨zb17⟩⟩
     ·rw [if_neg c26] at H
      exact absurd H zb24
    ·rw [if_neg c21] at H
     exact absurd H zb24
   case rest =>
    clear HC19
    try clear c1
    try clear c2
    try clear p2
    try clear q2
    try clear hx2
    try clear qi2
    try clear p3
    try clear q3
    try clear hx3
    try clear qi3
    try clear p4
    try clear q4
    try clear hx4
    try clear qi4
    try clear c6
    try clear c6b0
    try clear c6b1
    try clear c7
    try clear c7b0
    try clear c7b1
    try clear c8
    try clear c9
    try clear c10
    try clear c10b0
    try clear c10b1
    try clear c12
    try clear c12b0
    try clear c12b1
    try clear c17
    try clear c20
    try clear c20b0
    try clear c20b1
    try clear c21
    try clear c21b0
    try clear c21b1
    try clear p22
    try clear q22
    try clear hx22
    try clear qi22
    try clear c23
    try clear c23b0
    try clear c23b1
    try clear c25
    try clear c25b0
    try clear c25b1
    try clear c26
    try clear c26b0
    try clear c26b1
    try clear hcz18_0
    try clear hcz18_1
    try clear hcz18_2
    try clear hcz18_3
    try clear hcz18_4
    try clear hfz18_0
    try clear hfz18_1
    try clear hfz18_2
    try clear hfz18_3
    try clear hfz18_4
    try clear hx58_0
    try clear hx60_0
    try clear hx62_0
    try clear hx59_0
    try clear hx61_0
    try clear hx63_0
    try clear p2
    try clear p22
    try clear p3
    try clear p58
    try clear p4
    try clear p60
    try clear p62
    try clear p59
    try clear p61
    try clear p63
    try clear q22
    try clear q3
    try clear q58
    try clear q4
    try clear q60
    try clear q62
    try clear q59
    try clear q61
    try clear q63
    obtain ⟨kq,x51_18,rfl,HA,HJ18,HO_4,BK54,HB⟩:=hcut
    cases kq with
    | zero=>exact absurd HA.out (by simp [tollbarref05_Request.j1])
    | succ kj18 =>
     have H:=HA.out
     clear HA
     simp only [tollbarref05_Request.j1] at H
     by_cases c29:x51_18=true
     ·subst c29
      rw [if_pos rfl] at H
      simp only [zi,zj] at H
      obtain ⟨rfl,rfl,rfl,rfl,rfl,rfl⟩:=H
      obtain ⟨hcz30_0,hcz30_1,hcz30_2,hcz30_3,hcz30_4,hfz30_0,hfz30_1,hfz30_2,hfz30_3,hfz30_4⟩:=zq5 BK54.out
      go_wp2
      refine bodyPost_ret (results_ct rfl _ _ gb54 26 #[.string (⟨#[]⟩:ByteArray),.string (⟨#[]⟩:ByteArray),.int .i64 0,.slice none 0 0,.slice none 0 0] (0,0) _ rfl zb16 Tryz.underlying26 rfl zb7) rfl ?_
      exact ⟨_,_,zb3,zb6,zb6,zb17⟩
     replace c29:=Bool.eq_false_iff.mpr c29
     subst c29
     rw [if_neg zf] at H
     by_cases c31:1 < (t55.length:Int);rotate_left
     ·rw [if_neg c31] at H
      exact absurd H zb24
     rw [if_pos c31] at H
     have c31b0:=decide_eq_true c31
     have c31b1:decide (1 < t55.length)=true:=decide_eq_true zb10
     clear c31
     by_cases c32:((rdOf ByteArray.empty t55 1).size:Int) > 512
     ·rw [if_pos c32] at H
      have c32b0:decide (512 < ((rdOf ByteArray.empty t55 1).size:Int))=true:=decide_eq_true c32
      have c32b1:decide (512 < (rdOf ByteArray.empty t55 1).size)=true:=decide_eq_true zb10
      clear c32
      simp only [zi,zj] at H
      obtain ⟨rfl,rfl,rfl,rfl,rfl,rfl⟩:=H
      obtain ⟨Ao33,co33,eo33⟩:=Kd.R_slice HO_4.out
      subst eo33
      have p56:0 ≤ (1:Int):=zb10
      have q56:1 < (t55.length:Int):=of_decide_eq_true zb1
      obtain ⟨ad56,e56,hx56_0⟩:=Kd.at_string (Kd.R_reads' HO_4.out).2.2 1 p56 q56
      cases e56
      (try simp only [show (1:Int).toNat=1 from rfl,Nat.reduceMul,Nat.reduceEqDiff,Go.Addr.add,↓reduceIte] at hx56_0)
      have qi56:(1 < t55.length)=True:=eq_true zb10
      (try rw [show ((1:Int)).toNat=1 from rfl] at hx56_0)
      replace p56:=eq_true p56
      replace q56:=eq_true q56
      obtain ⟨hcz34_0,hcz34_1,hcz34_2,hcz34_3,hcz34_4,hfz34_0,hfz34_1,hfz34_2,hfz34_3,hfz34_4⟩:=zq5 BK54.out
      go_wp2
      refine bodyPost_ret (results_ct rfl _ _ gb54 26 #[.string (⟨#[]⟩:ByteArray),.string (⟨#[]⟩:ByteArray),.int .i64 0,.slice none 0 0,.slice none 0 0] (0,0) _ rfl zb16 Tryz.underlying26 rfl zb7) rfl ?_
      exact ⟨_,_,zb3,zb6,zb6,zb17⟩
     rw [if_neg c32] at H
     have c32b0:decide (512 < ((rdOf ByteArray.empty t55 1).size:Int))=false:=decide_eq_false c32
     have c32b1:decide (512 < (rdOf ByteArray.empty t55 1).size)=false:=decide_eq_false zb10
     clear c32
     by_cases c35:2 < (t55.length:Int)
     ·rw [if_pos c35] at H
      have c35b0:=decide_eq_true c35
      have c35b1:decide (2 < t55.length)=true:=decide_eq_true zb10
      clear c35
      replace H:=Option.bind_eq_some_iff.mp H
      obtain ⟨⟨t67,t69,t75⟩,A73,H⟩:=H
      try dsimp only at H
      have A36:=Aside0.mk A73
      clear A73
      by_cases c37:t75=true;rotate_left
      ·replace c37:=Bool.eq_false_iff.mpr c37
       subst c37
       rw [if_neg zf] at H
       simp only [zi,zj] at H
       obtain ⟨rfl,rfl,rfl,rfl,rfl,rfl⟩:=H
       obtain ⟨Ao52,co52,eo52⟩:=Kd.R_slice HO_4.out
       subst eo52
       have p56:0 ≤ (1:Int):=zb10
       have q56:1 < (t55.length:Int):=of_decide_eq_true zb1
       obtain ⟨ad56,e56,hx56_0⟩:=Kd.at_string (Kd.R_reads' HO_4.out).2.2 1 p56 q56
       cases e56
       (try simp only [show (1:Int).toNat=1 from rfl,Nat.reduceMul,Nat.reduceEqDiff,Go.Addr.add,↓reduceIte] at hx56_0)
       have qi56:(1 < t55.length)=True:=eq_true zb10
       (try rw [show ((1:Int)).toNat=1 from rfl] at hx56_0)
       replace p56:=eq_true p56
       replace q56:=eq_true q56
       have p57:0 ≤ (2:Int):=zb10
       have q57:2 < (t55.length:Int):=of_decide_eq_true zb1
       obtain ⟨ad57,e57,hx57_0⟩:=Kd.at_string (Kd.R_reads' HO_4.out).2.2 2 p57 q57
       obtain rfl:ad56=ad57:=(by injection e57)
       (try simp only [show (2:Int).toNat=2 from rfl,Nat.reduceMul,Nat.reduceEqDiff,Go.Addr.add,↓reduceIte] at hx57_0)
       have qi57:(2 < t55.length)=True:=eq_true zb10
       (try rw [show ((2:Int)).toNat=2 from rfl] at hx57_0)
       replace p57:=eq_true p57
       replace q57:=eq_true q57
       go_wp2_with (first|((with_reducible refine gate_callee (f:=129) rfl ?_);refine goesL_ (some 63) rfl rfl Tryz.func129 zb7 rfl #[.string (rdOf ByteArray.empty t55 2)] rfl zb2 ?_;(with_reducible refine (tollbarref05_Version.calls (rdOf ByteArray.empty t55 2) t67 t69 false _ A36.out).mono ?_);rintro e w' ⟨rfl,⟨nd,rfl⟩⟩;(try clear A36);refine ⟨_,rfl,?_⟩;(try (rw [drewN_self wc];generalize hq_:World.drewN wc _=wc;have n0_:Aside0 (Kd.R Kd.string 9 wc w.heap.size (fun _=>True) (.slice (some ad56) t55.length co52) t55):=⟨zb41⟩;have n1_:Aside0 (wc.heap[gb54]? = some (.cells #[.string (⟨#[]⟩:ByteArray),.string (⟨#[]⟩:ByteArray),.int .i64 0,.slice none 0 0,.slice none 0 0] 26 (0,0))):=⟨zb89⟩;have n2_:Aside0 (Below w.heap.size w wc):=⟨zb76⟩;clear HO_4 BK54 HB hq_;have HO_4:=n0_;have BK54:=n1_;have HB:=n2_;clear n0_ n1_ n2_));obtain ⟨hcz53_0,hcz53_1,hcz53_2,hcz53_3,hcz53_4,hfz53_0,hfz53_1,hfz53_2,hfz53_3,hfz53_4⟩:=zq5 BK54.out))
       refine bodyPost_ret (results_ct rfl _ _ gb54 26 #[.string (⟨#[]⟩:ByteArray),.string (⟨#[]⟩:ByteArray),.int .i64 0,.slice none 0 0,.slice none 0 0] (0,0) _ rfl zb16 Tryz.underlying26 rfl zb7) rfl ?_
       exact ⟨_,_,zb3,zb6,zb6,zb17⟩
      subst c37
      rw [if_pos rfl] at H
      by_cases c38:t67=1
      ·rw [if_pos c38] at H
       have c38b0:=beq_iff_eq.mpr c38
       have c38b1:=bne_eq_false_iff_eq.mpr c38
       clear c38
       by_cases c39:t69 > 1
       ·rw [if_pos c39] at H
        have c39b0:decide (1 < t69)=true:=decide_eq_true c39
        clear c39
        simp only [zi,zj] at H
        obtain ⟨rfl,rfl,rfl,rfl,rfl,rfl⟩:=H
        obtain ⟨Ao40,co40,eo40⟩:=Kd.R_slice HO_4.out
        subst eo40
        have p56:0 ≤ (1:Int):=zb10
        have q56:1 < (t55.length:Int):=of_decide_eq_true zb1
        obtain ⟨ad56,e56,hx56_0⟩:=Kd.at_string (Kd.R_reads' HO_4.out).2.2 1 p56 q56
        cases e56
        (try simp only [show (1:Int).toNat=1 from rfl,Nat.reduceMul,Nat.reduceEqDiff,Go.Addr.add,↓reduceIte] at hx56_0)
        have qi56:(1 < t55.length)=True:=eq_true zb10
        (try rw [show ((1:Int)).toNat=1 from rfl] at hx56_0)
        replace p56:=eq_true p56
        replace q56:=eq_true q56
        have p57:0 ≤ (2:Int):=zb10
        have q57:2 < (t55.length:Int):=of_decide_eq_true zb1
        obtain ⟨ad57,e57,hx57_0⟩:=Kd.at_string (Kd.R_reads' HO_4.out).2.2 2 p57 q57
        obtain rfl:ad56=ad57:=(by injection e57)
        (try simp only [show (2:Int).toNat=2 from rfl,Nat.reduceMul,Nat.reduceEqDiff,Go.Addr.add,↓reduceIte] at hx57_0)
        have qi57:(2 < t55.length)=True:=eq_true zb10
        (try rw [show ((2:Int)).toNat=2 from rfl] at hx57_0)
        replace p57:=eq_true p57
        replace q57:=eq_true q57
        go_wp2_with (first|((with_reducible refine gate_callee (f:=129) rfl ?_);refine goesL_ (some 63) rfl rfl Tryz.func129 zb7 rfl #[.string (rdOf ByteArray.empty t55 2)] rfl zb2 ?_;(with_reducible refine (tollbarref05_Version.calls (rdOf ByteArray.empty t55 2) t67 t69 true _ A36.out).mono ?_);rintro e w' ⟨rfl,⟨nd,rfl⟩⟩;(try clear A36);refine ⟨_,rfl,?_⟩;(try (rw [drewN_self wc];generalize hq_:World.drewN wc _=wc;have n0_:Aside0 (Kd.R Kd.string 9 wc w.heap.size (fun _=>True) (.slice (some ad56) t55.length co40) t55):=⟨zb41⟩;have n1_:Aside0 (wc.heap[gb54]? = some (.cells #[.string (⟨#[]⟩:ByteArray),.string (⟨#[]⟩:ByteArray),.int .i64 0,.slice none 0 0,.slice none 0 0] 26 (0,0))):=⟨zb89⟩;have n2_:Aside0 (Below w.heap.size w wc):=⟨zb76⟩;clear HO_4 BK54 HB hq_;have HO_4:=n0_;have BK54:=n1_;have HB:=n2_;clear n0_ n1_ n2_));obtain ⟨hcz41_0,hcz41_1,hcz41_2,hcz41_3,hcz41_4,hfz41_0,hfz41_1,hfz41_2,hfz41_3,hfz41_4⟩:=zq5 BK54.out))
        refine bodyPost_ret (results_ct rfl _ _ gb54 26 #[.string (⟨#[]⟩:ByteArray),.string (⟨#[]⟩:ByteArray),.int .i64 0,.slice none 0 0,.slice none 0 0] (0,0) _ rfl zb16 Tryz.underlying26 rfl zb7) rfl ?_
        exact ⟨_,_,zb3,zb6,zb6,zb17⟩
       rw [if_neg c39] at H
       have c39b0:decide (1 < t69)=false:=decide_eq_false c39
       clear c39
       by_cases c42:0 < (t55.length:Int);rotate_left
       ·rw [if_neg c42] at H
        exact absurd H zb24
       rw [if_pos c42] at H
       have c42b0:=decide_eq_true c42
       have c42b1:decide (0 < t55.length)=true:=decide_eq_true zb10
       clear c42
       simp only [zi,zj] at H
       obtain ⟨rfl,rfl,rfl,rfl,rfl,rfl⟩:=H
       obtain ⟨Ao43,co43,eo43⟩:=Kd.R_slice HO_4.out
       subst eo43
       have p56:0 ≤ (1:Int):=zb10
       have q56:1 < (t55.length:Int):=of_decide_eq_true zb1
       obtain ⟨ad56,e56,hx56_0⟩:=Kd.at_string (Kd.R_reads' HO_4.out).2.2 1 p56 q56
       cases e56
       (try simp only [show (1:Int).toNat=1 from rfl,Nat.reduceMul,Nat.reduceEqDiff,Go.Addr.add,↓reduceIte] at hx56_0)
       have qi56:(1 < t55.length)=True:=eq_true zb10
       (try rw [show ((1:Int)).toNat=1 from rfl] at hx56_0)
       replace p56:=eq_true p56
       replace q56:=eq_true q56
       have p57:0 ≤ (2:Int):=zb10
       have q57:2 < (t55.length:Int):=of_decide_eq_true zb1
       obtain ⟨ad57,e57,hx57_0⟩:=Kd.at_string (Kd.R_reads' HO_4.out).2.2 2 p57 q57
       obtain rfl:ad56=ad57:=(by injection e57)
       (try simp only [show (2:Int).toNat=2 from rfl,Nat.reduceMul,Nat.reduceEqDiff,Go.Addr.add,↓reduceIte] at hx57_0)
       have qi57:(2 < t55.length)=True:=eq_true zb10
       (try rw [show ((2:Int)).toNat=2 from rfl] at hx57_0)
       replace p57:=eq_true p57
       replace q57:=eq_true q57
       try go_wp2_with (first|((with_reducible refine gate_callee (f:=129) rfl ?_);refine goesL_ (some 63) rfl rfl Tryz.func129 zb7 rfl #[.string (rdOf ByteArray.empty t55 2)] rfl zb2 ?_;(with_reducible refine (tollbarref05_Version.calls (rdOf ByteArray.empty t55 2) t67 t69 true _ A36.out).mono ?_);rintro e w' ⟨rfl,⟨nd,rfl⟩⟩;(try clear A36);refine ⟨_,rfl,?_⟩;(try (rw [drewN_self wc];generalize hq_:World.drewN wc _=wc;have n0_:Aside0 (Kd.R Kd.string 9 wc w.heap.size (fun _=>True) (.slice (some ad56) t55.length co43) t55):=⟨zb41⟩;have n1_:Aside0 (wc.heap[gb54]? = some (.cells #[.string (⟨#[]⟩:ByteArray),.string (⟨#[]⟩:ByteArray),.int .i64 0,.slice none 0 0,.slice none 0 0] 26 (0,0))):=⟨zb89⟩;have n2_:Aside0 (Below w.heap.size w wc):=⟨zb76⟩;clear HO_4 BK54 HB hq_;have HO_4:=n0_;have BK54:=n1_;have HB:=n2_;clear n0_ n1_ n2_))))
       replace HO_4:=Aside0.mk (Kd.R_drew HO_4.out)
       replace BK54:=Aside0.mk (blk_drew BK54.out)
       replace HB:=Aside0.mk (below_drew1 HB.out)
       have p65:0 ≤ (0:Int):=zb10
       have q65:0 < (t55.length:Int):=of_decide_eq_true zb1
       obtain ⟨ad65,e65,hx65_0⟩:=Kd.at_string (Kd.R_reads' HO_4.out).2.2 0 p65 q65
       obtain rfl:ad56=ad65:=(by injection e65)
       have qi65:(0 < t55.length)=True:=eq_true zb10
       (try rw [show ((0:Int)).toNat=0 from rfl] at hx65_0)
       (try rw [Addr.add_zero'] at hx65_0)
       replace p65:=eq_true p65
       replace q65:=eq_true q65
       have p66:0 ≤ (1:Int):=zb10
       have q66:1 < (t55.length:Int):=of_decide_eq_true zb1
       obtain ⟨ad66,e66,hx66_0⟩:=Kd.at_string (Kd.R_reads' HO_4.out).2.2 1 p66 q66
       obtain rfl:ad56=ad66:=(by injection e66)
       (try simp only [show (1:Int).toNat=1 from rfl,Nat.reduceMul,Nat.reduceEqDiff,Go.Addr.add,↓reduceIte] at hx66_0)
       have qi66:(1 < t55.length)=True:=eq_true zb10
       (try rw [show ((1:Int)).toNat=1 from rfl] at hx66_0)
       replace p66:=eq_true p66
       replace q66:=eq_true q66
       refine start_ (n:=10) (S:=fun w' => w'.cell? ad56=some (.string (rdOf ByteArray.empty t55 0))∧w'.cell? ⟨ad56.block,ad56.off + 1,none⟩=some (.string (rdOf ByteArray.empty t55 1))) (ds:=[]) (zl 10 0) zb7 rfl rfl ⟨hx65_0,hx66_0⟩ (fun hHeld=>?_);refine with_tabW tollbarref05_Request.tab13 tollbarref05_Request.bits13 (fun HT_ HW_=>?_)
       generalize wc.drew=w44 at HO_4 BK54 HB hx65_0 hx66_0 hHeld ⊢
       refine zpu 0 (N:=some 77) (zl 10 1) HT_.out rfl rfl ?_
       refine zpu 1 (N:=some 78) (zl 10 3) HT_.out rfl rfl ?_
       refine zpu 3 (N:=some 80) (zl 10 11) HT_.out rfl rfl ?_
       refine zpu 4 (N:=some 81) (zl 10 27) HT_.out rfl rfl ?_
       refine zpu 6 (N:=some 83) (zl 10 91) HT_.out rfl rfl ?_
       refine take_ (i:=2) (N:=some 79) (v:=?_) (a' := ?_) (zl 10 95) rfl rfl (take_ofW HT_.out HW_.out zb7) (fun _ _ _ h=>h) (Or.inl ⟨zb49,?_⟩) hHeld ?_ ?_
       rotate_left
       ·rintro w' ⟨s0,s1⟩;go_simp;with_reducible rfl
       rotate_left
       ·simp only [Act.put,zqA,zqB,zqC,i64_w,i32_w];rfl
       refine take_ (i:=5) (N:=some 82) (v:=?_) (a' := ?_) (zl 10 127) rfl rfl (take_ofW HT_.out HW_.out zb7) (fun _ _ _ h=>h) (Or.inl ⟨zb49,?_⟩) hHeld ?_ ?_
       rotate_left
       ·rintro w' ⟨s0,s1⟩;go_simp;with_reducible rfl
       rotate_left
       ·simp only [Act.put,zqA,zqB,zqC,i64_w,i32_w];rfl
       refine zpu 7 (N:=some 84) (zl 10 255) HT_.out rfl rfl ?_
       refine one_ (i:=8) (N:=none) (zl 10 511) rfl rfl (one_of HT_.out zb7) zb78 (fun K hK=>?_)
       have hs45:w44.cell? ⟨gb54,0,none⟩=some (.string (⟨#[]⟩:ByteArray)):=(blk_cell BK54.out 0).trans rfl
       have hfs45:=blk_frozen BK54.out 0
       have hs46:w44.cell? ⟨gb54,1,none⟩=some (.string (⟨#[]⟩:ByteArray)):=(blk_cell BK54.out 1).trans rfl
       have hfs46:=blk_frozen BK54.out 1
       have hs47:w44.cell? ⟨gb54,2,none⟩=some (.int .i64 0):=(blk_cell BK54.out 2).trans rfl
       have hfs47:=blk_frozen BK54.out 2
       have hs48:w44.cell? ⟨gb54,3,none⟩=some (.slice none 0 0):=(blk_cell BK54.out 3).trans rfl
       have hfs48:=blk_frozen BK54.out 3
       have hs49:w44.cell? ⟨gb54,4,none⟩=some (.slice none 0 0):=(blk_cell BK54.out 4).trans rfl
       have hfs49:=blk_frozen BK54.out 4
       refine skip_ (w1:=?_) zb49 rfl ?_ ?_
       rotate_left
       ·go_simp
        rfl
       refine hK.out _ _ ⟨((cell_far (p:=⟨gb54,_,none⟩) zb12 _).trans (((cell_far (p:=⟨gb54,_,none⟩) zb12 _).trans (((cell_far (p:=⟨gb54,_,none⟩) zb12 _).trans (((cell_far (p:=⟨gb54,_,none⟩) zb12 _).trans (((cell_far (p:=⟨gb54,_,none⟩) zb12 _).trans (hHeld.1)))))))))),((cell_far (p:=⟨gb54,_,none⟩) zb12 _).trans (((cell_far (p:=⟨gb54,_,none⟩) zb12 _).trans (((cell_far (p:=⟨gb54,_,none⟩) zb12 _).trans (((cell_far (p:=⟨gb54,_,none⟩) zb12 _).trans (((cell_far (p:=⟨gb54,_,none⟩) zb12 _).trans (hHeld.2))))))))))⟩ (fun hHeld=>?_)
       clear hK K
       refine zpu 9 (N:=some 3) (zl 10 1023) HT_.out rfl rfl ?_
       refine done_ (done_of HT_.out zb7) ?_
       try go_wp2
       refine bodyPost_ret (results_ct rfl _ _ gb54 26 #[.string (rdOf ByteArray.empty t55 0),.string (rdOf ByteArray.empty t55 1),.int .i64 t69,.slice none 0 0,.slice none 0 0] (0,0) _ rfl zb16 Tryz.underlying26 rfl zb7) rfl ?_
       exact ⟨_,_,zb3,zb6,zb6,zb17⟩
      ·rw [if_neg c38] at H
       have c38b0:=beq_eq_false_iff_ne.mpr c38
       have c38b1:=bne_iff_ne.mpr c38
       simp only [zi,zj] at H
       obtain ⟨rfl,rfl,rfl,rfl,rfl,rfl⟩:=H
       obtain ⟨Ao50,co50,eo50⟩:=Kd.R_slice HO_4.out
       subst eo50
       have p56:0 ≤ (1:Int):=zb10
       have q56:1 < (t55.length:Int):=of_decide_eq_true zb1
       obtain ⟨ad56,e56,hx56_0⟩:=Kd.at_string (Kd.R_reads' HO_4.out).2.2 1 p56 q56
       cases e56
       (try simp only [show (1:Int).toNat=1 from rfl,Nat.reduceMul,Nat.reduceEqDiff,Go.Addr.add,↓reduceIte] at hx56_0)
       have qi56:(1 < t55.length)=True:=eq_true zb10
       (try rw [show ((1:Int)).toNat=1 from rfl] at hx56_0)
       replace p56:=eq_true p56
       replace q56:=eq_true q56
       have p57:0 ≤ (2:Int):=zb10
       have q57:2 < (t55.length:Int):=of_decide_eq_true zb1
       obtain ⟨ad57,e57,hx57_0⟩:=Kd.at_string (Kd.R_reads' HO_4.out).2.2 2 p57 q57
       obtain rfl:ad56=ad57:=(by injection e57)
       (try simp only [show (2:Int).toNat=2 from rfl,Nat.reduceMul,Nat.reduceEqDiff,Go.Addr.add,↓reduceIte] at hx57_0)
       have qi57:(2 < t55.length)=True:=eq_true zb10
       (try rw [show ((2:Int)).toNat=2 from rfl] at hx57_0)
       replace p57:=eq_true p57
       replace q57:=eq_true q57
       go_wp2_with (first|((with_reducible refine gate_callee (f:=129) rfl ?_);refine goesL_ (some 63) rfl rfl Tryz.func129 zb7 rfl #[.string (rdOf ByteArray.empty t55 2)] rfl zb2 ?_;(with_reducible refine (tollbarref05_Version.calls (rdOf ByteArray.empty t55 2) t67 t69 true _ A36.out).mono ?_);rintro e w' ⟨rfl,⟨nd,rfl⟩⟩;(try clear A36);refine ⟨_,rfl,?_⟩;(try (rw [drewN_self wc];generalize hq_:World.drewN wc _=wc;have n0_:Aside0 (Kd.R Kd.string 9 wc w.heap.size (fun _=>True) (.slice (some ad56) t55.length co50) t55):=⟨zb41⟩;have n1_:Aside0 (wc.heap[gb54]? = some (.cells #[.string (⟨#[]⟩:ByteArray),.string (⟨#[]⟩:ByteArray),.int .i64 0,.slice none 0 0,.slice none 0 0] 26 (0,0))):=⟨zb89⟩;have n2_:Aside0 (Below w.heap.size w wc):=⟨zb76⟩;clear HO_4 BK54 HB hq_;have HO_4:=n0_;have BK54:=n1_;have HB:=n2_;clear n0_ n1_ n2_));obtain ⟨hcz51_0,hcz51_1,hcz51_2,hcz51_3,hcz51_4,hfz51_0,hfz51_1,hfz51_2,hfz51_3,hfz51_4⟩:=zq5 BK54.out))
       refine bodyPost_ret (results_ct rfl _ _ gb54 26 #[.string (⟨#[]⟩:ByteArray),.string (⟨#[]⟩:ByteArray),.int .i64 0,.slice none 0 0,.slice none 0 0] (0,0) _ rfl zb16 Tryz.underlying26 rfl zb7) rfl ?_
       exact ⟨_,_,zb3,zb6,zb6,zb17⟩
     ·rw [if_neg c35] at H
      exact absurd H zb24
def tollbarref02_blank.f (a0:Int):Option (Bool):=if a0=32 then (some true) else (some (a0 == 9))
theorem tollbarref02_blank.calls (a0:Int) (r:Bool) (w:World) (h:tollbarref02_blank.f a0=some r) :
 Calls Tryz.prog 152 #[.int .u8 a0] w fun e w' => e = .returned (.bool r)∧Drawn0 w w' := by
 unfold tollbarref02_blank.f at h
 have H:=h
 clear h
 by_cases c2:a0=32;rotate_left
 ·rw [if_neg c2] at H
  have c2b0:=beq_eq_false_iff_ne.mpr c2
  have c2b1:=bne_iff_ne.mpr c2
  obtain rfl:=Option.some.inj H
  go_enter Tryz.func152,Tryz.ntmps152
  go_wp2
  go_ret
  exact ⟨zb4,zb5⟩
 rw [if_pos c2] at H
 have c2b0:=beq_iff_eq.mpr c2
 have c2b1:=bne_eq_false_iff_eq.mpr c2
 clear c2
 obtain rfl:=Option.some.inj H
 go_enter Tryz.func152,Tryz.ntmps152
 go_wp2
 go_ret
 exact ⟨zb4,zb5⟩
mutual
def tollbarref02_Trim.j1:Nat → ByteArray → Option (ByteArray)
 | 0,_=>none
 | k + 1,x0=>tollbarref02_Trim.l1 k x0
def tollbarref02_Trim.l1:Nat → ByteArray → Option (ByteArray)
 | 0,_=>none
 | k + 1,x0=>if (x0.size:Int) > 0 then (if 0 ≤ (wrap64 ((x0.size:Int) - 1)) then (if (wrap64 ((x0.size:Int) - 1)) < (x0.size:Int) then ((tollbarref02_blank.f (bt x0 (wrap64 ((x0.size:Int) - 1)))).bind fun t415=>(if t415=true then (if (wrap64 ((x0.size:Int) - 1)) ≤ (x0.size:Int) then (tollbarref02_Trim.l1 k (x0.extract 0 ((wrap64 ((x0.size:Int) - 1)):Int).toNat)) else (none)) else (some x0))) else (none)) else (none)) else (some x0)
def tollbarref02_Trim.l0:Nat → ByteArray → Option (ByteArray)
 | 0,_=>none
 | k + 1,x0=>if (x0.size:Int) > 0 then (if 0 < (x0.size:Int) then ((tollbarref02_blank.f (bt x0 0)).bind fun t414=>(if t414=true then (if 1 ≤ (x0.size:Int) then (tollbarref02_Trim.l0 k (x0.extract 1 x0.size)) else (none)) else (tollbarref02_Trim.j1 k x0))) else (none)) else (tollbarref02_Trim.j1 k x0)
end
def tollbarref02_Trim.f (k:Nat) (a0:ByteArray):Option (ByteArray):=tollbarref02_Trim.l0 k a0
theorem tollbarref02_Trim.calls (k:Nat) (a0:ByteArray) (r:ByteArray) (w:World) (h:tollbarref02_Trim.f k a0=some r) :
 Calls Tryz.prog 106 #[.string a0] w fun e w' => e = .returned (.string r)∧Drawn0 w w' := by
 unfold tollbarref02_Trim.f at h
 have H:=h
 clear h
 have HC2:=Aside0.mk H
 clear H
 go_enter Tryz.func106,Tryz.ntmps106
 go_upto_block 0 with (fail)
 go_cut [0] (fun v0 wc => ∃ (kq:Nat) (x0_1:ByteArray),v0 = .string x0_1∧Aside0 (tollbarref02_Trim.j1 kq x0_1=some r)∧Aside0 (kq ≤ k)∧Drawn0 w wc)
 case first =>
  have H:=HC2.out
  clear HC2
  have H' := Aside0.mk H
  clear H
  go_wp2
  go_loopg [0] k (fun kq v0 w' => ∃ (x0_1:ByteArray),v0 = .string x0_1∧Aside0 (tollbarref02_Trim.l0 kq x0_1=some r)∧Aside0 (kq ≤ k)∧Drawn0 w w')
  case atStart=>exact ⟨(a0),zb4,H',⟨Nat.le_refl _⟩,zb5⟩
  case round =>
   clear H'
   try clear c1
   try clear p2
   obtain ⟨x0_1,rfl,HA,HK1,⟨m1,rfl⟩⟩:=hrel
   cases gk with
   | zero=>exact absurd HA.out (by simp [tollbarref02_Trim.l0])
   | succ k1 =>
    have H:=HA.out
    clear HA
    simp only [tollbarref02_Trim.l0] at H
    by_cases c3:(x0_1.size:Int) > 0;rotate_left
    ·rw [if_neg c3] at H
     have c3b0:decide (0 < (x0_1.size:Int))=false:=decide_eq_false c3
     have c3b1:decide (0 < x0_1.size)=false:=decide_eq_false zb10
     clear c3
     (first|rw [c3b0]|(simp only [i64_w,i32_w];rw [c3b0])|rw [c3b1]|skip)
     have H' := Aside0.mk H
     clear H
     go_wp2
     go_meet
     case rel=>exact ⟨_,(x0_1),zb4,H',⟨zb70⟩,zb5⟩
    rw [if_pos c3] at H
    have c3b0:decide (0 < (x0_1.size:Int))=true:=decide_eq_true c3
    have c3b1:decide (0 < x0_1.size)=true:=decide_eq_true zb10
    clear c3
    (first|rw [c3b0]|(simp only [i64_w,i32_w];rw [c3b0])|rw [c3b1]|skip)
    by_cases c4:0 < (x0_1.size:Int)
    ·rw [if_pos c4] at H
     have c4b0:=decide_eq_true c4
     have c4b1:decide (0 < x0_1.size)=true:=decide_eq_true zb10
     clear c4
     replace H:=Option.bind_eq_some_iff.mp H
     obtain ⟨t414,A60,H⟩:=H
     try dsimp only at H
     have A6:=Aside0.mk A60
     clear A60
     by_cases c7:t414=true;rotate_left
     ·replace c7:=Bool.eq_false_iff.mpr c7
      subst c7
      rw [if_neg zf] at H
      have H' := Aside0.mk H
      clear H
      have p5:0 ≤ (0:Int):=zb10
      have q5:0 < x0_1.size:=(zN (n:=0) zb1)
      have hx5 : ∀ h:0 < x0_1.size,((x0_1[0]'h).toNat:Int)=bt x0_1 0:=bt_at x0_1 0
      clear p5
      have qi5:(0 < (x0_1.size:Int))=True:=eq_true (of_decide_eq_true zb1)
      replace q5:=eq_true q5
      go_wp2_with (first|(go_at_call 152;(with_reducible refine (tollbarref02_blank.calls (bt x0_1 0) false _ A6.out).mono ?_);rintro e w' ⟨rfl,⟨nd,rfl⟩⟩;(try clear A6)))
      go_meet
      case rel=>exact ⟨_,(x0_1),zb4,H',⟨zb70⟩,zb5⟩
     subst c7
     rw [if_pos rfl] at H
     by_cases c8:1 ≤ (x0_1.size:Int)
     ·rw [if_pos c8] at H
      have c8b0:=eq_true c8
      have c8b1:=decide_eq_true c8
      clear c8
      have H' := Aside0.mk H
      clear H
      have p5:0 ≤ (0:Int):=zb10
      have q5:0 < x0_1.size:=(zN (n:=0) zb1)
      have hx5 : ∀ h:0 < x0_1.size,((x0_1[0]'h).toNat:Int)=bt x0_1 0:=bt_at x0_1 0
      clear p5
      have qi5:(0 < (x0_1.size:Int))=True:=eq_true (of_decide_eq_true zb1)
      replace q5:=eq_true q5
      go_wp2_with (first|(go_at_call 152;(with_reducible refine (tollbarref02_blank.calls (bt x0_1 0) true _ A6.out).mono ?_);rintro e w' ⟨rfl,⟨nd,rfl⟩⟩;(try clear A6)))
      go_roundg k1
      case measure=>have:=HK1.out;omega
      case rel=>exact ⟨(x0_1.extract 1 x0_1.size),zb4,H',⟨zb80⟩,zb5⟩
     ·rw [if_neg c8] at H
      exact absurd H zb24
    ·rw [if_neg c4] at H
     exact absurd H zb24
 case rest =>
  clear HC2
  try clear c1
  try clear p2
  try clear c3
  try clear c3b0
  try clear c3b1
  try clear c4
  try clear c4b0
  try clear c4b1
  try clear p5
  try clear q5
  try clear hx5
  try clear qi5
  try clear c7
  try clear c8
  try clear c8b0
  try clear c8b1
  try clear p2
  try clear p5
  try clear q5
  obtain ⟨kq,x0_1,rfl,HA,HJ1,⟨mc1,rfl⟩⟩:=hcut
  cases kq with
  | zero=>exact absurd HA.out (by simp [tollbarref02_Trim.j1])
  | succ kj1 =>
   have H:=HA.out
   clear HA
   simp only [tollbarref02_Trim.j1] at H
   have H' := Aside0.mk H
   clear H
   go_wp2
   go_loopg [0] kj1 (fun kq v0 w' => ∃ (x0_2:ByteArray),v0 = .string x0_2∧Aside0 (tollbarref02_Trim.l1 kq x0_2=some r)∧Aside0 (kq ≤ kj1)∧Drawn0 w w')
   case atStart=>exact ⟨(x0_1),zb4,H',⟨Nat.le_refl _⟩,zb5⟩
   case round =>
    clear H'
    try clear c1
    try clear p2
    try clear c3
    try clear c3b0
    try clear c3b1
    try clear c4
    try clear c4b0
    try clear c4b1
    try clear p5
    try clear q5
    try clear hx5
    try clear qi5
    try clear c7
    try clear c8
    try clear c8b0
    try clear c8b1
    try clear p2
    try clear p5
    try clear q5
    obtain ⟨x0_2,rfl,HA,HK2,⟨m2,rfl⟩⟩:=hrel
    cases gk with
    | zero=>exact absurd HA.out (by simp [tollbarref02_Trim.l1])
    | succ k2 =>
     have H:=HA.out
     clear HA
     simp only [tollbarref02_Trim.l1] at H
     by_cases c9:(x0_2.size:Int) > 0;rotate_left
     ·rw [if_neg c9] at H
      have c9b0:decide (0 < (x0_2.size:Int))=false:=decide_eq_false c9
      have c9b1:decide (0 < x0_2.size)=false:=decide_eq_false zb10
      clear c9
      obtain rfl:=Option.some.inj H
      go_wp2
      go_ret
      exact ⟨zb4,zb5⟩
     rw [if_pos c9] at H
     have c9b0:decide (0 < (x0_2.size:Int))=true:=decide_eq_true c9
     have c9b1:decide (0 < x0_2.size)=true:=decide_eq_true zb10
     clear c9
     obtain ⟨ji10,hji10⟩ : ∃ j_:Int,(wrap64 ((x0_2.size:Int) - 1))=j_:=⟨_,rfl⟩
     replace H:(if 0 ≤ (ji10) then (if (ji10) < (x0_2.size:Int) then ((tollbarref02_blank.f (bt x0_2 (ji10))).bind fun t415=>(if t415=true then (if (ji10) ≤ (x0_2.size:Int) then (tollbarref02_Trim.l1 k2 (x0_2.extract 0 ((ji10):Int).toNat)) else (none)) else (some x0_2))) else (none)) else (none))=some r:=by first|(rw [hji10] at H;exact H)|(simp only [hji10] at H ⊢;exact H)
     have hji10w:(IntKind.i64.wrap ((x0_2.size:Int) - 1))=ji10:=(i64_w _).trans hji10
     by_cases c11:0 ≤ (ji10)
     ·rw [if_pos c11] at H
      have c11b0:=decide_eq_true c11
      clear c11
      by_cases c12:(ji10) < (x0_2.size:Int)
      ·rw [if_pos c12] at H
       have c12b0:=decide_eq_true c12
       clear c12
       replace H:=Option.bind_eq_some_iff.mp H
       obtain ⟨t415,A140,H⟩:=H
       try dsimp only at H
       have A14:=Aside0.mk A140
       clear A140
       by_cases c15:t415=true;rotate_left
       ·replace c15:=Bool.eq_false_iff.mpr c15
        subst c15
        rw [if_neg zf] at H
        obtain rfl:=Option.some.inj H
        have p13:0 ≤ ((ji10):Int):=of_decide_eq_true zb1
        have q13:(ji10) < (x0_2.size:Int):=of_decide_eq_true zb1
        have hx13:=bt_at x0_2 (ji10)
        replace p13:=eq_true p13
        replace q13:=eq_true q13
        go_wp2_with (first|(go_at_call 152;(with_reducible refine (tollbarref02_blank.calls (bt x0_2 (ji10)) false _ A14.out).mono ?_);rintro e w' ⟨rfl,⟨nd,rfl⟩⟩;(try clear A14)))
        go_ret
        exact ⟨zb126,zb5⟩
       subst c15
       rw [if_pos rfl] at H
       have c16b0:=eq_true (of_decide_eq_true zb1:0 ≤ (ji10))
       by_cases c17:(ji10) ≤ (x0_2.size:Int)
       ·rw [if_pos c17] at H
        have c17b0:=eq_true c17
        have c17b1:=decide_eq_true c17
        clear c17
        have H' := Aside0.mk H
        clear H
        have p13:0 ≤ ((ji10):Int):=of_decide_eq_true zb1
        have q13:(ji10) < (x0_2.size:Int):=of_decide_eq_true zb1
        have hx13:=bt_at x0_2 (ji10)
        replace p13:=eq_true p13
        replace q13:=eq_true q13
        go_wp2_with (first|(go_at_call 152;(with_reducible refine (tollbarref02_blank.calls (bt x0_2 (ji10)) true _ A14.out).mono ?_);rintro e w' ⟨rfl,⟨nd,rfl⟩⟩;(try clear A14)))
        go_roundg k2
        case measure=>have:=HJ1.out;have:=HK2.out;omega
        case rel=>exact ⟨(x0_2.extract 0 ((ji10):Int).toNat),zb126,H',⟨by have:=HJ1.out;have:=HK2.out;omega⟩,zb5⟩
       ·rw [if_neg c17] at H
        exact absurd H zb24
      ·rw [if_neg c12] at H
       exact absurd H zb24
     ·rw [if_neg c11] at H
      exact absurd H zb24
mutual
def tollbarref02_Split.l0:Nat → ByteArray → List ByteArray → Int → Int → Option (List ByteArray)
 | 0,_,_,_,_=>none
 | k + 1,x0,x3,x4,x5=>if x5 ≤ (x0.size:Int) then (if x5=(x0.size:Int) then (tollbarref02_Split.j1 k x0 x3 x4 x5 true) else (if 0 ≤ x5 then (if x5 < (x0.size:Int) then (tollbarref02_Split.j1 k x0 x3 x4 x5 ((bt x0 x5) == 44)) else (none)) else (none))) else (some x3)
def tollbarref02_Split.j1:Nat → ByteArray → List ByteArray → Int → Int → Bool → Option (List ByteArray)
 | 0,_,_,_,_,_=>none
 | k + 1,x0,x3,x4,x5,x23=>if x23=true then (if 0 ≤ x4 then (if x4 ≤ x5 then (if x5 ≤ (x0.size:Int) then ((tollbarref02_Trim.f k (x0.extract (x4:Int).toNat (x5:Int).toNat)).bind fun t441=>(if t441.toList=([]:List UInt8) then (tollbarref02_Split.l0 k x0 x3 (wrap64 (x5 + 1)) (wrap64 (x5 + 1))) else (if x3.length < 8796093022208 then (tollbarref02_Split.l0 k x0 (x3 ++ [t441]) (wrap64 (x5 + 1)) (wrap64 (x5 + 1))) else (none)))) else (none)) else (none)) else (none)) else (tollbarref02_Split.l0 k x0 x3 x4 (wrap64 (x5 + 1)))
end
def tollbarref02_Split.f (k:Nat) (a0:ByteArray):Option (List ByteArray):=tollbarref02_Split.l0 k a0 (([]:List ByteArray)) 0 0
theorem tollbarref02_Split.calls (k:Nat) (a0:ByteArray) (r:List ByteArray) (w:World) (h:tollbarref02_Split.f k a0=some r) :
 Calls Tryz.prog 63 #[.string a0] w fun e w' => ∃ v0_:Value,e = .returned (v0_)∧Kd.R Kd.string 9 w' w.heap.size (fun _=>True) v0_ r∧Below w.heap.size w w' := by
 have HB:=zB w
 unfold tollbarref02_Split.f at h
 have H:=h
 clear h
 obtain ⟨y438,hy438⟩ : ∃ y_:List ByteArray,y_=(([]:List ByteArray)):=⟨_,rfl⟩
 replace H:(tollbarref02_Split.l0 k a0 y438 0 0)=some r:=by first|(rw [hy438];with_reducible exact H)|(have H2_:=(Option.bind_some _ _).symm.trans H;rw [hy438];with_reducible exact H2_)|(have H2_:=(Option.bind_some _ _).symm.trans H;with_reducible exact H2_)|with_reducible exact H|(rw [hy438];exact H)|exact H
 have Ny438:=Aside0.mk hy438
 clear hy438
 have H' := Aside0.mk H
 clear H
 go_enter Tryz.func63,Tryz.ntmps63
 go_wp2_with (first|((with_reducible refine gate_dst (N:=7) rfl ?_);refine Kd.R_lit Kd.string _ 9 ?hg (N:=7) ?hd (xs:=([]:List ByteArray)) (inner:=[]) (ok:=fun _=>True) (okp:=fun _=>True) ?hr ?hp (fun _ hk=>hk) trivial (Below.refl _ _) (Nat.le_refl _) zb24 ?_;(case hd=>rfl);(case hg=>rfl);(case hr=>first|(go_simp;done)|(go_simp;rfl));(case hp=>exact (Reps.none _ _));intro v439 w2 ho3 hb hg_ hnew_;clear hg_ hnew_;(first|rw [← Ny438.out] at ho3|(simp only [Int.reduceToNat] at ho3;rw [← Ny438.out] at ho3));have HO440:=Aside0.mk (Kd.R_lower ho3 (below_size zb0));replace HB:=Aside0.mk (below_step zb0 hb);clear hb ho3))
 go_loopg [3,4,5] k (fun kq v3 v4 v5 w' => ∃ (x3_1:List ByteArray) (x4_1:Int) (x5_1:Int),v4 = .int .i64 x4_1∧v5 = .int .i64 x5_1∧Aside0 (tollbarref02_Split.l0 kq a0 x3_1 x4_1 x5_1=some r)∧Aside0 (kq ≤ k)∧Aside0 (Kd.R Kd.string 9 w' w.heap.size (fun _=>True) v3 x3_1)∧Aside0 (Below w.heap.size w w'))
 case atStart=>exact ⟨(y438),(0),(0),zb4,zb4,H',⟨Nat.le_refl _⟩,⟨by (with_reducible repeat (first|apply Kd.R_alloc|apply Kd.R_drewN|apply Kd.R_drew));exact HO440.out⟩,⟨zb0⟩⟩
 case round =>
  clear H'
  try clear p2
  obtain ⟨x3_1,x4_1,x5_1,rfl,rfl,HA,HK1,HO_3,HB⟩:=hrel
  cases gk with
  | zero=>exact absurd HA.out (by simp [tollbarref02_Split.l0])
  | succ k1 =>
   have H:=HA.out
   clear HA
   simp only [tollbarref02_Split.l0] at H
   by_cases c4:x5_1 ≤ (a0.size:Int);rotate_left
   ·rw [if_neg c4] at H
    have c4b0:=decide_eq_false c4
    clear c4
    obtain rfl:=Option.some.inj H
    go_wp2
    go_ret
    exact ⟨_,zb3,zb31,zb0⟩
   rw [if_pos c4] at H
   have c4b0:=decide_eq_true c4
   clear c4
   have HC5:=Aside0.mk H
   clear H
   go_upto_region 6 with (fail)
   go_cut [23] (fun v23 wc => ∃ (kq:Nat) (x23_4:Bool),v23 = .bool x23_4∧Aside0 (tollbarref02_Split.j1 kq a0 x3_1 x4_1 x5_1 x23_4=some r)∧Aside0 (kq ≤ k1)∧Aside0 (Kd.R Kd.string 9 wc w.heap.size (fun _=>True) u3 x3_1)∧Aside0 (Below w.heap.size w wc))
   case first =>
    have H:=HC5.out
    clear HC5
    by_cases c6:x5_1=(a0.size:Int)
    ·rw [if_pos c6] at H
     have c6b0:=beq_iff_eq.mpr c6
     have c6b1:=bne_eq_false_iff_eq.mpr c6
     clear c6
     (first|rw [c6b0]|(simp only [i64_w,i32_w];rw [c6b0])|rw [c6b1]|skip)
     have H' := Aside0.mk H
     clear H
     go_wp2
     go_meet
     case rel=>exact ⟨_,(true),zb4,H',⟨zb70⟩,⟨zb31⟩,⟨zb0⟩⟩
    rw [if_neg c6] at H
    have c6b0:=beq_eq_false_iff_ne.mpr c6
    have c6b1:=bne_iff_ne.mpr c6
    (first|rw [c6b0]|(simp only [i64_w,i32_w];rw [c6b0])|rw [c6b1]|skip)
    by_cases c7:0 ≤ x5_1;rotate_left
    ·rw [if_neg c7] at H
     exact absurd H zb24
    rw [if_pos c7] at H
    have c7b0:=decide_eq_true c7
    clear c7
    by_cases c8:x5_1 < (a0.size:Int)
    ·rw [if_pos c8] at H
     have c8b0:=decide_eq_true c8
     clear c8
     have H' := Aside0.mk H
     clear H
     have p9:0 ≤ (x5_1:Int):=of_decide_eq_true zb1
     have q9:x5_1 < (a0.size:Int):=of_decide_eq_true zb1
     have hx9:=bt_at a0 x5_1
     replace p9:=eq_true p9
     replace q9:=eq_true q9
     go_wp2
     go_meet
     case rel=>exact ⟨_,(((bt a0 x5_1) == 44)),zb4,H',⟨zb70⟩,⟨zb31⟩,⟨zb0⟩⟩
    ·rw [if_neg c8] at H
     exact absurd H zb24
   case rest =>
    clear HC5
    try clear p2
    try clear c4
    try clear c4b0
    try clear c6
    try clear c6b0
    try clear c6b1
    try clear c7
    try clear c7b0
    try clear c8
    try clear c8b0
    try clear p9
    try clear q9
    try clear hx9
    try clear p2
    try clear p9
    try clear q9
    obtain ⟨kq,x23_4,rfl,HA,HJ4,HO_3,HB⟩:=hcut
    cases kq with
    | zero=>exact absurd HA.out (by simp [tollbarref02_Split.j1])
    | succ kj4 =>
     have H:=HA.out
     clear HA
     simp only [tollbarref02_Split.j1] at H
     by_cases c10:x23_4=true;rotate_left
     ·replace c10:=Bool.eq_false_iff.mpr c10
      subst c10
      rw [if_neg zf] at H
      have H' := Aside0.mk H
      clear H
      go_wp2
      go_roundg kj4
      case measure=>have:=HK1.out;have:=HJ4.out;omega
      case rel=>exact ⟨(x3_1),(x4_1),(wrap64 (x5_1 + 1)),zb4,zb4,H',⟨by have:=HK1.out;have:=HJ4.out;omega⟩,⟨zb31⟩,⟨zb0⟩⟩
     subst c10
     rw [if_pos rfl] at H
     by_cases c11:0 ≤ x4_1
     ·rw [if_pos c11] at H
      have c11b0:=eq_true c11
      have c11b1:=decide_eq_true c11
      clear c11
      by_cases c12:x4_1 ≤ x5_1
      ·rw [if_pos c12] at H
       have c12b0:=eq_true c12
       have c12b1:=decide_eq_true c12
       clear c12
       by_cases c13:x5_1 ≤ (a0.size:Int)
       ·rw [if_pos c13] at H
        have c13b0:=eq_true c13
        have c13b1:=decide_eq_true c13
        clear c13
        replace H:=Option.bind_eq_some_iff.mp H
        obtain ⟨t441,A140,H⟩:=H
        try dsimp only at H
        have A14:=Aside0.mk A140
        clear A140
        by_cases c15:t441.toList=([]:List UInt8)
        ·rw [if_pos c15] at H
         have c15b0:=beq_iff_eq.mpr c15
         have c15b1:=bne_eq_false_iff_eq.mpr c15
         clear c15
         have H' := Aside0.mk H
         clear H
         go_wp2_with (first|((with_reducible refine gate_callee (f:=106) rfl ?_);refine goesL_ (some 28) rfl rfl Tryz.func106 zb7 rfl #[.string (a0.extract (x4_1:Int).toNat (x5_1:Int).toNat)] rfl zb2 ?_;(with_reducible refine (tollbarref02_Trim.calls kj4 (a0.extract (x4_1:Int).toNat (x5_1:Int).toNat) t441 _ A14.out).mono ?_);rintro e w' ⟨rfl,⟨nd,rfl⟩⟩;(try clear A14);refine ⟨_,rfl,?_⟩))
         go_roundg kj4
         case measure=>have:=HK1.out;have:=HJ4.out;omega
         case rel=>exact ⟨(x3_1),(wrap64 (x5_1 + 1)),(wrap64 (x5_1 + 1)),zb4,zb4,H',⟨by have:=HK1.out;have:=HJ4.out;omega⟩,⟨zb31⟩,⟨zb0⟩⟩
        rw [if_neg c15] at H
        have c15b0:=beq_eq_false_iff_ne.mpr c15
        have c15b1:=bne_iff_ne.mpr c15
        by_cases c16:x3_1.length < 8796093022208
        ·rw [if_pos c16] at H
         have LMc16:=Aside0.mk c16
         clear c16
         obtain ⟨y442,hy442⟩ : ∃ y_:List ByteArray,y_=(x3_1 ++ [t441]):=⟨_,rfl⟩
         replace H:(tollbarref02_Split.l0 kj4 a0 y442 (wrap64 (x5_1 + 1)) (wrap64 (x5_1 + 1)))=some r:=by first|(rw [hy442];with_reducible exact H)|(have H2_:=(Option.bind_some _ _).symm.trans H;rw [hy442];with_reducible exact H2_)|(have H2_:=(Option.bind_some _ _).symm.trans H;with_reducible exact H2_)|with_reducible exact H|(rw [hy442];exact H)|exact H
         have Ny442:=Aside0.mk hy442
         clear hy442
         have H' := Aside0.mk H
         clear H
         go_wp2_with (first|((with_reducible refine gate_callee (f:=106) rfl ?_);refine goesL_ (some 28) rfl rfl Tryz.func106 zb7 rfl #[.string (a0.extract (x4_1:Int).toNat (x5_1:Int).toNat)] rfl zb2 ?_;(with_reducible refine (tollbarref02_Trim.calls kj4 (a0.extract (x4_1:Int).toNat (x5_1:Int).toNat) t441 _ A14.out).mono ?_);rintro e w' ⟨rfl,⟨nd,rfl⟩⟩;(try clear A14);refine ⟨_,rfl,?_⟩)|((with_reducible refine gate_builtin (b:=.append) (xs:=#[.tmp 31,.tmp 33]) rfl ?_);at_builtin;refine Kd.R_append Kd.string (w0:=w) w.heap.size rfl (.tmp 31) (.tmp 33) 34 9 (.string ⟨#[]⟩) 16 rfl Tryz.underlying34 info9 rfl zb78 zb10 u3 x3_1 t441 [.string t441] (fun _=>True) (fun _=>False) rfl rfl ?aP (fun _ hk=>hk.elim) ?aF ?aO ?aB ?aS ?aL ?_;(case aP=>exact rfl);(case aB=>exact zb23);(case aF=>exact (fun _ _=>trivial));(case aO=>exact zb74);(case aS=>exact zb20);(case aL=>have:=LMc16.out;omega);intro v443 w17 ho hb hg hat;rw [← Ny442.out] at ho;replace HB:=Aside0.mk (hb);have HO444:=Aside0.mk (ho);clear ho hb hg hat))
         go_roundg kj4
         case measure=>have:=HK1.out;have:=HJ4.out;omega
         case rel=>exact ⟨(y442),(wrap64 (x5_1 + 1)),(wrap64 (x5_1 + 1)),zb4,zb4,H',⟨by have:=HK1.out;have:=HJ4.out;omega⟩,⟨by (with_reducible repeat (first|apply Kd.R_alloc|apply Kd.R_drewN|apply Kd.R_drew));exact HO444.out⟩,⟨zb0⟩⟩
        ·rw [if_neg c16] at H
         exact absurd H zb24
       ·rw [if_neg c13] at H
        exact absurd H zb24
      ·rw [if_neg c12] at H
       exact absurd H zb24
     ·rw [if_neg c11] at H
      exact absurd H zb24
mutual
def tollbarref04_List.l0:Nat → List ByteArray → List ByteArray → Int → Option (List ByteArray)
 | 0,_,_,_=>none
 | k + 1,x5,x6,x7=>if x7 < (x6.length:Int) then (if 0 ≤ x7 then ((tollbarref02_Split.f k (rdOf ByteArray.empty x6 x7)).bind fun t452=>(tollbarref04_List.l1 k x5 x6 x7 t452 0)) else (none)) else (some x5)
def tollbarref04_List.l1:Nat → List ByteArray → List ByteArray → Int → List ByteArray → Int → Option (List ByteArray)
 | 0,_,_,_,_,_=>none
 | k + 1,x5,x6,x7,x8,x9=>if x9 < (x8.length:Int) then (if 0 ≤ x9 then (if x5.length < 8796093022208 then (tollbarref04_List.l1 k (x5 ++ [rdOf ByteArray.empty x8 x9]) x6 x7 x8 (wrap64 (x9 + 1))) else (none)) else (none)) else (tollbarref04_List.l0 k x5 x6 (wrap64 (x7 + 1)))
end
def tollbarref04_List.f (k:Nat) (l0:List (S36)) (a1:ByteArray):Option (List ByteArray):=(tollbarref04_Get.f k l0 a1).bind fun t448=>(tollbarref04_List.l0 k (([]:List ByteArray)) t448 0)
theorem tollbarref04_List.calls (k:Nat) (A0:Option Addr) (c0:Nat) (l0:List (S36)) (a1:ByteArray) (r:List ByteArray) (w:World) (hr0:Kd.C k36 w A0 l0.length l0) (hc0:l0.length ≤ c0) (h:tollbarref04_List.f k l0 a1=some r) :
 Calls Tryz.prog 31 #[.slice A0 l0.length c0,.string a1] w fun e w' => ∃ v0_:Value,e = .returned (v0_)∧Kd.R Kd.string 9 w' w.heap.size (fun _=>True) v0_ r∧Below w.heap.size w w' := by
 have HR0:=Aside0.mk hr0
 have HC0:=Aside0.mk hc0
 clear hr0 hc0
 have HB:=zB w
 unfold tollbarref04_List.f at h
 have H:=h
 clear h
 obtain ⟨y445,hy445⟩ : ∃ y_:List ByteArray,y_=(([]:List ByteArray)):=⟨_,rfl⟩
 replace H:((tollbarref04_Get.f k l0 a1).bind fun t448=>(tollbarref04_List.l0 k y445 t448 0))=some r:=by first|(rw [hy445];with_reducible exact H)|(have H2_:=(Option.bind_some _ _).symm.trans H;rw [hy445];with_reducible exact H2_)|(have H2_:=(Option.bind_some _ _).symm.trans H;with_reducible exact H2_)|with_reducible exact H|(rw [hy445];exact H)|exact H
 have Ny445:=Aside0.mk hy445
 clear hy445
 replace H:=Option.bind_eq_some_iff.mp H
 obtain ⟨t448,A30,H⟩:=H
 try dsimp only at H
 have A3:=Aside0.mk A30
 clear A30
 have H' := Aside0.mk H
 clear H
 go_enter Tryz.func31,Tryz.ntmps31
 go_wp2_with (first|((with_reducible refine gate_dst (N:=10) rfl ?_);refine Kd.R_lit Kd.string _ 9 ?hg (N:=10) ?hd (xs:=([]:List ByteArray)) (inner:=[]) (ok:=fun _=>True) (okp:=fun _=>True) ?hr ?hp (fun _ hk=>hk) trivial (Below.refl _ _) (Nat.le_refl _) zb24 ?_;(case hd=>rfl);(case hg=>rfl);(case hr=>first|(go_simp;done)|(go_simp;rfl));(case hp=>exact (Reps.none _ _));intro v446 w4 ho5 hb hg_ hnew_;clear hg_ hnew_;(first|rw [← Ny445.out] at ho5|(simp only [Int.reduceToNat] at ho5;rw [← Ny445.out] at ho5));have HO447:=Aside0.mk (Kd.R_lower ho5 (below_size zb0));replace HB:=Aside0.mk (below_step zb0 hb);clear hb ho5)|((with_reducible refine gate_callee (f:=36) rfl ?_);refine goesL_ (some 13) rfl rfl Tryz.func36 zb7 rfl #[.slice A0 l0.length c0,.string a1] rfl zb2 ?_;(with_reducible refine (tollbarref04_Get.calls k _ _ l0 a1 t448 _ ?side1 ?side2 A3.out).mono ?_);(case side1=>exact zb19);(case side2=>exact HC0.out);rintro e w6 ⟨v449,rfl,ho0,hb⟩;(try clear A3);refine ⟨_,rfl,?_⟩;have HO450:=Aside0.mk (Kd.R_lower (Kd.R_new' ho0 (Kd.R_lt (by (with_reducible repeat (first|apply Kd.R_alloc|apply Kd.R_drewN|apply Kd.R_drew));exact HO447.out))) (below_size zb0));replace HO447:=Aside0.mk (Kd.R_elder' (by (with_reducible repeat (first|apply Kd.R_alloc|apply Kd.R_drewN|apply Kd.R_drew));exact HO447.out) (Kd.R_base ho0) hb);replace HB:=Aside0.mk (below_step zb0 hb);try clear hb ho0))
 go_loopg [5,7] k (fun kq v5 v7 w' => ∃ (x5_1:List ByteArray) (x7_1:Int),v7 = .int .i64 x7_1∧Aside0 (tollbarref04_List.l0 kq x5_1 t448 x7_1=some r)∧Aside0 (kq ≤ k)∧Aside0 (Kd.R Kd.string 9 w' w.heap.size (fun k_=>some k_ ≠ (v449:Value).ownBlock) v5 x5_1)∧Aside0 (Kd.R Kd.string 9 w' w.heap.size (fun k_=>some k_ ≠ (v5:Value).ownBlock) v449 t448)∧Aside0 (Below w.heap.size w w'))
 case atStart=>exact ⟨(y445),(0),zb4,H',⟨Nat.le_refl _⟩,⟨by (with_reducible repeat (first|apply Kd.R_alloc|apply Kd.R_drewN|apply Kd.R_drew));exact Kd.R_mono HO447.out (fun _ hk=>hk.2)⟩,⟨by (with_reducible repeat (first|apply Kd.R_alloc|apply Kd.R_drewN|apply Kd.R_drew));exact Kd.R_mono HO450.out (fun _ hk=>hk.2)⟩,⟨zb0⟩⟩
 case round =>
  clear H'
  try clear p2
  try clear c3
  obtain ⟨x5_1,x7_1,rfl,HA,HK1,HO_5,HO_6,HB⟩:=hrel
  cases gk with
  | zero=>exact absurd HA.out (by simp [tollbarref04_List.l0])
  | succ k1 =>
   have H:=HA.out
   clear HA
   simp only [tollbarref04_List.l0] at H
   by_cases c7:x7_1 < (t448.length:Int);rotate_left
   ·rw [if_neg c7] at H
    have c7b0:=decide_eq_false c7
    clear c7
    obtain rfl:=Option.some.inj H
    obtain ⟨Ao18,co18,eo18⟩:=Kd.R_slice HO_6.out
    subst eo18
    go_wp2
    go_ret
    exact ⟨_,zb3,zb125,zb0⟩
   rw [if_pos c7] at H
   have c7b0:=decide_eq_true c7
   clear c7
   by_cases c8:0 ≤ x7_1
   ·rw [if_pos c8] at H
    have c8b0:=decide_eq_true c8
    clear c8
    replace H:=Option.bind_eq_some_iff.mp H
    obtain ⟨t452,A90,H⟩:=H
    try dsimp only at H
    have A9:=Aside0.mk A90
    clear A90
    have H' := Aside0.mk H
    clear H
    obtain ⟨Ao10,co10,eo10⟩:=Kd.R_slice HO_6.out
    subst eo10
    have p451:0 ≤ (x7_1:Int):=of_decide_eq_true zb1
    have q451:x7_1 < (t448.length:Int):=of_decide_eq_true zb1
    obtain ⟨ad451,e451,hx451_0⟩:=Kd.at_string (Kd.R_reads' HO_6.out).2.2 x7_1 p451 q451
    cases e451
    replace p451:=eq_true p451
    replace q451:=eq_true q451
    go_wp2_with (first|((with_reducible refine gate_callee (f:=63) rfl ?_);refine goesL_ (some 24) rfl rfl Tryz.func63 zb7 rfl #[.string (rdOf ByteArray.empty t448 x7_1)] rfl zb2 ?_;(with_reducible refine (tollbarref02_Split.calls k1 (rdOf ByteArray.empty t448 x7_1) t452 _ A9.out).mono ?_);rintro e w11 ⟨v453,rfl,ho0,hb⟩;(try clear A9);refine ⟨_,rfl,?_⟩;have HO454:=Aside0.mk (Kd.R_lower (Kd.R_new' (Kd.R_new' ho0 (Kd.R_lt zb15)) (Kd.R_lt zb105)) (below_size zb0));replace HO_5:=Aside0.mk (Kd.R_elder' zb15 (Kd.R_base ho0) hb);replace HO_6:=Aside0.mk (Kd.R_elder' zb105 (Kd.R_base ho0) hb);replace HB:=Aside0.mk (below_step zb0 hb);try clear hb ho0))
    go_loopg [5,9] k1 (fun kq v5 v9 w' => ∃ (x5_2:List ByteArray) (x9_2:Int),v9 = .int .i64 x9_2∧Aside0 (tollbarref04_List.l1 kq x5_2 t448 x7_1 t452 x9_2=some r)∧Aside0 (kq ≤ k1)∧Aside0 (Kd.R Kd.string 9 w' w.heap.size (fun k_=>some k_ ≠ ((.slice (some ad451) t448.length co10):Value).ownBlock∧some k_ ≠ (v453:Value).ownBlock) v5 x5_2)∧Aside0 (Kd.R Kd.string 9 w' w.heap.size (fun k_=>some k_ ≠ (v5:Value).ownBlock∧some k_ ≠ (v453:Value).ownBlock) (.slice (some ad451) t448.length co10) t448)∧Aside0 (Kd.R Kd.string 9 w' w.heap.size (fun k_=>some k_ ≠ (v5:Value).ownBlock∧some k_ ≠ ((.slice (some ad451) t448.length co10):Value).ownBlock) v453 t452)∧Aside0 (Below w.heap.size w w'))
    case atStart=>exact ⟨(x5_1),(0),zb4,H',⟨Nat.le_refl _⟩,⟨zb15⟩,⟨zb105⟩,⟨by (with_reducible repeat (first|apply Kd.R_alloc|apply Kd.R_drewN|apply Kd.R_drew));exact Kd.R_mono HO454.out (fun _ hk=>⟨hk.1.2,hk.2⟩)⟩,⟨zb0⟩⟩
    case round =>
     clear H'
     try clear p2
     try clear c3
     try clear p4
     try clear q4
     try clear hx4
     try clear c6
     try clear c7
     try clear c7b0
     try clear c8
     try clear c8b0
     try clear hx451_0
     try clear p2
     try clear p451
     try clear q451
     obtain ⟨x5_2,x9_2,rfl,HA,HK2,HO_5,HO_6,HO_8,HB⟩:=hrel
     cases gk with
     | zero=>exact absurd HA.out (by simp [tollbarref04_List.l1])
     | succ k2 =>
      have H:=HA.out
      clear HA
      simp only [tollbarref04_List.l1] at H
      by_cases c12:x9_2 < (t452.length:Int);rotate_left
      ·rw [if_neg c12] at H
       have c12b0:=decide_eq_false c12
       clear c12
       have H' := Aside0.mk H
       clear H
       obtain ⟨Ao17,co17,eo17⟩:=Kd.R_slice HO_8.out
       subst eo17
       go_wp2
       go_roundg k2
       case measure=>have:=HK1.out;have:=HK2.out;omega
       case rel=>exact ⟨(x5_2),(wrap64 (x7_1 + 1)),zb4,H',⟨by have:=HK1.out;have:=HK2.out;omega⟩,⟨by (with_reducible repeat (first|apply Kd.R_alloc|apply Kd.R_drewN|apply Kd.R_drew));exact Kd.R_mono HO_5.out (fun _ hk=>hk.1)⟩,⟨by (with_reducible repeat (first|apply Kd.R_alloc|apply Kd.R_drewN|apply Kd.R_drew));exact Kd.R_mono HO_6.out (fun _ hk=>hk.1)⟩,⟨zb0⟩⟩
      rw [if_pos c12] at H
      have c12b0:=decide_eq_true c12
      clear c12
      by_cases c13:0 ≤ x9_2
      ·rw [if_pos c13] at H
       have c13b0:=decide_eq_true c13
       clear c13
       by_cases c14:x5_2.length < 8796093022208
       ·rw [if_pos c14] at H
        have LMc14:=Aside0.mk c14
        clear c14
        obtain ⟨y456,hy456⟩ : ∃ y_:List ByteArray,y_=(x5_2 ++ [rdOf ByteArray.empty t452 x9_2]):=⟨_,rfl⟩
        replace H:(tollbarref04_List.l1 k2 y456 t448 x7_1 t452 (wrap64 (x9_2 + 1)))=some r:=by first|(rw [hy456];with_reducible exact H)|(have H2_:=(Option.bind_some _ _).symm.trans H;rw [hy456];with_reducible exact H2_)|(have H2_:=(Option.bind_some _ _).symm.trans H;with_reducible exact H2_)|with_reducible exact H|(rw [hy456];exact H)|exact H
        have Ny456:=Aside0.mk hy456
        clear hy456
        have H' := Aside0.mk H
        clear H
        obtain ⟨Ao15,co15,eo15⟩:=Kd.R_slice HO_8.out
        subst eo15
        have p455:0 ≤ (x9_2:Int):=of_decide_eq_true zb1
        have q455:x9_2 < (t452.length:Int):=of_decide_eq_true zb1
        obtain ⟨ad455,e455,hx455_0⟩:=Kd.at_string (Kd.R_reads' HO_8.out).2.2 x9_2 p455 q455
        cases e455
        replace p455:=eq_true p455
        replace q455:=eq_true q455
        go_wp2_with (first|((with_reducible refine gate_builtin (b:=.append) (xs:=#[.tmp 31,.tmp 36]) rfl ?_);at_builtin;refine Kd.R_append Kd.string (w0:=w) w.heap.size rfl (.tmp 31) (.tmp 36) 34 9 (.string ⟨#[]⟩) 16 rfl Tryz.underlying34 info9 rfl zb78 zb10 u5 x5_2 (rdOf ByteArray.empty t452 x9_2) [.string (rdOf ByteArray.empty t452 x9_2)] (fun k_=>some k_ ≠ (.slice (some ad451) t448.length co10:Value).ownBlock∧some k_ ≠ (.slice (some ad455) t452.length co15:Value).ownBlock) (fun _=>False) rfl rfl ?aP (fun _ hk=>hk.elim) ?aF ?aO ?aB ?aS ?aL ?_;(case aP=>exact rfl);(case aB=>exact zb23);(case aF=>exact (fun k_ hk=>⟨Kd.fresh' (Kd.R_lt zb105) k_ hk,Kd.fresh' (Kd.R_lt (by (with_reducible repeat (first|apply Kd.R_alloc|apply Kd.R_drewN|apply Kd.R_drew));exact HO_8.out)) k_ hk⟩));(case aO=>exact zb66);(case aS=>exact zb20);(case aL=>have:=LMc14.out;omega);intro v457 w16 ho hb hg hat;rw [← Ny456.out] at ho;replace HO_6:=Aside0.mk (Kd.R_after (ok:=(fun k_=>some k_ ≠ (.slice (some ad455) t452.length co15:Value).ownBlock)) zb123 hg hat);replace HO_8:=Aside0.mk (Kd.R_after (ok:=(fun k_=>some k_ ≠ (.slice (some ad451) t448.length co10:Value).ownBlock)) zb124 hg hat);replace HB:=Aside0.mk (hb);have HO458:=Aside0.mk (ho);clear ho hb hg hat))
        go_roundg k2
        case measure=>have:=HK1.out;have:=HK2.out;omega
        case rel=>exact ⟨(y456),(wrap64 (x9_2 + 1)),zb4,H',⟨by have:=HK1.out;have:=HK2.out;omega⟩,⟨by (with_reducible repeat (first|apply Kd.R_alloc|apply Kd.R_drewN|apply Kd.R_drew));exact HO458.out⟩,⟨zb123⟩,⟨zb124⟩,⟨zb0⟩⟩
       ·rw [if_neg c14] at H
        exact absurd H zb24
      ·rw [if_neg c13] at H
       exact absurd H zb24
   ·rw [if_neg c8] at H
    exact absurd H zb24
def tollbarref07_Coded.f (k:Nat) (l0:List (S36)):Option (Bool):=(tollbarref04_List.f k l0 (⟨#[116,114,97,110,115,102,101,114,45,101,110,99,111,100,105,110,103]⟩:ByteArray)).bind fun t459=>(if (t459.length:Int)=1 then (if 0 < (t459.length:Int) then ((tollbarref02_Fold.f k (rdOf ByteArray.empty t459 0)).bind fun t463=>(some (t463.toList == ([99,104,117,110,107,101,100]:List UInt8)))) else (none)) else (some false))
theorem tollbarref07_Coded.calls (k:Nat) (A0:Option Addr) (c0:Nat) (l0:List (S36)) (r:Bool) (w:World) (hr0:Kd.C k36 w A0 l0.length l0) (hc0:l0.length ≤ c0) (h:tollbarref07_Coded.f k l0=some r) :
 Calls Tryz.prog 132 #[.slice A0 l0.length c0] w fun e w' => e = .returned (.bool r)∧Below w.heap.size w w' := by
 have HR0:=Aside0.mk hr0
 have HC0:=Aside0.mk hc0
 clear hr0 hc0
 have HB:=zB w
 unfold tollbarref07_Coded.f at h
 have H:=h
 clear h
 replace H:=Option.bind_eq_some_iff.mp H
 obtain ⟨t459,A20,H⟩:=H
 try dsimp only at H
 have A2:=Aside0.mk A20
 clear A20
 by_cases c3:(t459.length:Int)=1;rotate_left
 ·rw [if_neg c3] at H
  have c3b0:=beq_eq_false_iff_ne.mpr c3
  have c3b1:=bne_iff_ne.mpr c3
  obtain rfl:=Option.some.inj H
  go_enter Tryz.func132,Tryz.ntmps132
  go_wp2_with (first|((with_reducible refine gate_callee (f:=31) rfl ?_);refine goesL_ (some 5) rfl rfl Tryz.func31 zb7 rfl #[.slice A0 l0.length c0,.string (⟨#[116,114,97,110,115,102,101,114,45,101,110,99,111,100,105,110,103]⟩:ByteArray)] rfl zb2 ?_;(with_reducible refine (tollbarref04_List.calls k _ _ l0 (⟨#[116,114,97,110,115,102,101,114,45,101,110,99,111,100,105,110,103]⟩:ByteArray) t459 _ ?side1 ?side2 A2.out).mono ?_);(case side1=>exact zb9);(case side2=>exact HC0.out);rintro e w9 ⟨v460,rfl,ho0,hb⟩;(try clear A2);refine ⟨_,rfl,?_⟩;have HO461:=Aside0.mk (Kd.R_lower ho0 (below_size zb0));replace HB:=Aside0.mk (below_step zb0 hb);try clear hb ho0;obtain ⟨Ao10,co10,eo10⟩:=Kd.R_slice HO461.out;subst eo10))
  go_ret
  exact ⟨zb3,zb0⟩
 rw [if_pos c3] at H
 have c3b0:=beq_iff_eq.mpr c3
 have c3b1:=bne_eq_false_iff_eq.mpr c3
 clear c3
 by_cases c4:0 < (t459.length:Int)
 ·rw [if_pos c4] at H
  have c4b0:=decide_eq_true c4
  have c4b1:decide (0 < t459.length)=true:=decide_eq_true zb10
  clear c4
  replace H:=Option.bind_eq_some_iff.mp H
  obtain ⟨t463,A50,H⟩:=H
  try dsimp only at H
  have A5:=Aside0.mk A50
  clear A50
  obtain rfl:=Option.some.inj H
  go_enter Tryz.func132,Tryz.ntmps132
  go_wp2_with (first|((with_reducible refine gate_callee (f:=31) rfl ?_);refine goesL_ (some 5) rfl rfl Tryz.func31 zb7 rfl #[.slice A0 l0.length c0,.string (⟨#[116,114,97,110,115,102,101,114,45,101,110,99,111,100,105,110,103]⟩:ByteArray)] rfl zb2 ?_;(with_reducible refine (tollbarref04_List.calls k _ _ l0 (⟨#[116,114,97,110,115,102,101,114,45,101,110,99,111,100,105,110,103]⟩:ByteArray) t459 _ ?side1 ?side2 A2.out).mono ?_);(case side1=>exact zb9);(case side2=>exact HC0.out);rintro e w6 ⟨v460,rfl,ho0,hb⟩;(try clear A2);refine ⟨_,rfl,?_⟩;have HO461:=Aside0.mk (Kd.R_lower ho0 (below_size zb0));replace HB:=Aside0.mk (below_step zb0 hb);try clear hb ho0;obtain ⟨Ao7,co7,eo7⟩:=Kd.R_slice HO461.out;subst eo7;have p462:0 ≤ (0:Int):=zb10;have q462:0 < (t459.length:Int):=of_decide_eq_true zb1;obtain ⟨ad462,e462,hx462_0⟩:=Kd.at_string (Kd.R_reads' HO461.out).2.2 0 p462 q462;cases e462;have qi462:(0 < t459.length)=True:=eq_true zb10;(try rw [show ((0:Int)).toNat=0 from rfl] at hx462_0);(try rw [Addr.add_zero'] at hx462_0);replace p462:=eq_true p462;replace q462:=eq_true q462)|(go_at_call 32;(with_reducible refine (tollbarref02_Fold.calls k (rdOf ByteArray.empty t459 0) t463 _ A5.out).mono ?_);rintro e w8 ⟨rfl,hb⟩;(try clear A5);replace HO461:=Aside0.mk (Kd.R_below (by (with_reducible repeat (first|apply Kd.R_alloc|apply Kd.R_drewN|apply Kd.R_drew));exact HO461.out) hb);replace HB:=Aside0.mk (below_step zb0 hb);(try clear hb)))
  go_ret
  exact ⟨zb3,zb0⟩
 ·rw [if_neg c4] at H
  exact absurd H zb24
mutual
def tollbarref02_Decimal.j0:Nat → ByteArray → Bool → Option (Int × Bool)
 | 0,_,_=>none
 | k + 1,x0,x13=>if x13=true then (some (0,false)) else (tollbarref02_Decimal.l0 k x0 0 0)
def tollbarref02_Decimal.l0:Nat → ByteArray → Int → Int → Option (Int × Bool)
 | 0,_,_,_=>none
 | k + 1,x0,x4,x5=>if x5 < (x0.size:Int) then (if 0 ≤ x5 then ((tollbarref02_Digit.f (bt x0 x5)).bind fun t464=>(if t464=true then (tollbarref02_Decimal.l0 k x0 (wrap64 ((wrap64 (x4 * 10)) + (((bt x0 x5) - 48) % 256))) (wrap64 (x5 + 1))) else (some (0,false)))) else (none)) else (some (x4,true))
end
def tollbarref02_Decimal.f (k:Nat) (a0:ByteArray):Option (Int × Bool):=if (a0.size:Int) < 1 then (tollbarref02_Decimal.j0 k a0 true) else (tollbarref02_Decimal.j0 k a0 (decide ((a0.size:Int) > 18)))
theorem tollbarref02_Decimal.calls (k:Nat) (a0:ByteArray) (r1:Int) (r2:Bool) (w:World) (h:tollbarref02_Decimal.f k a0=some (r1,r2)) :
 Calls Tryz.prog 170 #[.string a0] w fun e w' => e = .returned (.tuple #[.int .i64 r1,.bool r2])∧Drawn0 w w' := by
 unfold tollbarref02_Decimal.f at h
 have H:=h
 clear h
 have HC2:=Aside0.mk H
 clear H
 go_enter Tryz.func170,Tryz.ntmps170
 go_upto_region 1 with (fail)
 go_cut [13] (fun v13 wc => ∃ (kq:Nat) (x13_1:Bool),v13 = .bool x13_1∧Aside0 (tollbarref02_Decimal.j0 kq a0 x13_1=some (r1,r2))∧Aside0 (kq ≤ k)∧Drawn0 w wc)
 case first =>
  have H:=HC2.out
  clear HC2
  by_cases c3:(a0.size:Int) < 1
  ·rw [if_pos c3] at H
   have c3b0:=decide_eq_true c3
   have c3b1:decide (a0.size < 1)=true:=decide_eq_true zb10
   clear c3
   (first|rw [c3b0]|(simp only [i64_w,i32_w];rw [c3b0])|rw [c3b1]|skip)
   have H' := Aside0.mk H
   clear H
   go_wp2
   go_meet
   case rel=>exact ⟨_,(true),zb4,H',⟨zb37⟩,zb5⟩
  rw [if_neg c3] at H
  have c3b0:=decide_eq_false c3
  have c3b1:decide (a0.size < 1)=false:=decide_eq_false zb10
  clear c3
  (first|rw [c3b0]|(simp only [i64_w,i32_w];rw [c3b0])|rw [c3b1]|skip)
  have H' := Aside0.mk H
  clear H
  go_wp2
  go_meet
  case rel=>exact ⟨_,(decide ((a0.size:Int) > 18)),zb4,H',⟨zb37⟩,zb5⟩
 case rest =>
  clear HC2
  try clear c1
  try clear p2
  try clear c3
  try clear c3b0
  try clear c3b1
  obtain ⟨kq,x13_1,rfl,HA,HJ1,⟨mc1,rfl⟩⟩:=hcut
  cases kq with
  | zero=>exact absurd HA.out (by simp [tollbarref02_Decimal.j0])
  | succ kj1 =>
   have H:=HA.out
   clear HA
   simp only [tollbarref02_Decimal.j0] at H
   by_cases c4:x13_1=true
   ·subst c4
    rw [if_pos rfl] at H
    simp only [zi,zj] at H
    obtain ⟨rfl,rfl⟩:=H
    go_wp2
    go_ret2
    exact ⟨zb4,zb5⟩
   replace c4:=Bool.eq_false_iff.mpr c4
   subst c4
   rw [if_neg zf] at H
   have H' := Aside0.mk H
   clear H
   go_wp2
   go_loopg [4,5] kj1 (fun kq v4 v5 w' => ∃ (x4_2:Int) (x5_2:Int),v4 = .int .i64 x4_2∧v5 = .int .i64 x5_2∧Aside0 (tollbarref02_Decimal.l0 kq a0 x4_2 x5_2=some (r1,r2))∧Aside0 (kq ≤ kj1)∧Drawn0 w w')
   case atStart=>exact ⟨(0),(0),zb4,zb4,H',⟨Nat.le_refl _⟩,zb5⟩
   case round =>
    clear H'
    try clear c1
    try clear p2
    try clear c3
    try clear c3b0
    try clear c3b1
    try clear c4
    try clear p2
    obtain ⟨x4_2,x5_2,rfl,rfl,HA,HK2,⟨m2,rfl⟩⟩:=hrel
    cases gk with
    | zero=>exact absurd HA.out (by simp [tollbarref02_Decimal.l0])
    | succ k2 =>
     have H:=HA.out
     clear HA
     simp only [tollbarref02_Decimal.l0] at H
     by_cases c5:x5_2 < (a0.size:Int);rotate_left
     ·rw [if_neg c5] at H
      have c5b0:=decide_eq_false c5
      clear c5
      simp only [zi,zj] at H
      obtain ⟨rfl,rfl⟩:=H
      go_wp2
      go_ret2
      exact ⟨zb4,zb5⟩
     rw [if_pos c5] at H
     have c5b0:=decide_eq_true c5
     clear c5
     by_cases c6:0 ≤ x5_2
     ·rw [if_pos c6] at H
      have c6b0:=decide_eq_true c6
      clear c6
      replace H:=Option.bind_eq_some_iff.mp H
      obtain ⟨t464,A80,H⟩:=H
      try dsimp only at H
      have A8:=Aside0.mk A80
      clear A80
      by_cases c9:t464=true
      ·subst c9
       rw [if_pos rfl] at H
       have H' := Aside0.mk H
       clear H
       have p7:0 ≤ (x5_2:Int):=of_decide_eq_true zb1
       have q7:x5_2 < (a0.size:Int):=of_decide_eq_true zb1
       have hx7:=bt_at a0 x5_2
       replace p7:=eq_true p7
       replace q7:=eq_true q7
       go_wp2_with (first|((with_reducible refine gate_callee (f:=92) rfl ?_);refine goesL_ (some 23) rfl rfl Tryz.func92 zb7 rfl #[.int .u8 (bt a0 x5_2)] rfl zb2 ?_;(with_reducible refine (tollbarref02_Digit.calls (bt a0 x5_2) true _ A8.out).mono ?_);rintro e w' ⟨rfl,⟨nd,rfl⟩⟩;(try clear A8);refine ⟨_,rfl,?_⟩;have p10:0 ≤ (x5_2:Int):=of_decide_eq_true zb1;have q10:x5_2 < (a0.size:Int):=of_decide_eq_true zb1;have hx10:=bt_at a0 x5_2;replace p10:=eq_true p10;replace q10:=eq_true q10))
       go_roundg k2
       case measure=>have:=HJ1.out;have:=HK2.out;omega
       case rel=>exact ⟨(wrap64 ((wrap64 (x4_2 * 10)) + (((bt a0 x5_2) - 48) % 256))),(wrap64 (x5_2 + 1)),zb4,zb4,H',⟨by have:=HJ1.out;have:=HK2.out;omega⟩,zb5⟩
      replace c9:=Bool.eq_false_iff.mpr c9
      subst c9
      rw [if_neg zf] at H
      simp only [zi,zj] at H
      obtain ⟨rfl,rfl⟩:=H
      have p7:0 ≤ (x5_2:Int):=of_decide_eq_true zb1
      have q7:x5_2 < (a0.size:Int):=of_decide_eq_true zb1
      have hx7:=bt_at a0 x5_2
      replace p7:=eq_true p7
      replace q7:=eq_true q7
      go_wp2_with (first|((with_reducible refine gate_callee (f:=92) rfl ?_);refine goesL_ (some 23) rfl rfl Tryz.func92 zb7 rfl #[.int .u8 (bt a0 x5_2)] rfl zb2 ?_;(with_reducible refine (tollbarref02_Digit.calls (bt a0 x5_2) false _ A8.out).mono ?_);rintro e w' ⟨rfl,⟨nd,rfl⟩⟩;(try clear A8);refine ⟨_,rfl,?_⟩))
      go_ret2
      exact ⟨zb4,zb5⟩
     ·rw [if_neg c6] at H
      exact absurd H zb24
def tollbarref07_Length.l0:Nat → List ByteArray → Int → Bool → Int → Option (Int × Bool)
 | 0,_,_,_,_=>none
 | k + 1,x4,x5,x6,x7=>if x7 < (x4.length:Int) then (if 0 ≤ x7 then ((tollbarref02_Decimal.f k (rdOf ByteArray.empty x4 x7)).bind fun bt472=>(if bt472.2=true then (if bt472.1=x5 then (tollbarref07_Length.l0 k x4 x5 x6 (wrap64 (x7 + 1))) else (some (0,false))) else (some (0,false)))) else (none)) else (some (x5,x6))
def tollbarref07_Length.f (k:Nat) (l0:List (S36)):Option (Int × Bool):=(tollbarref04_List.f k l0 (⟨#[99,111,110,116,101,110,116,45,108,101,110,103,116,104]⟩:ByteArray)).bind fun t465=>(if (t465.length:Int)=0 then (some (0,false)) else (if 0 < (t465.length:Int) then ((tollbarref02_Decimal.f k (rdOf ByteArray.empty t465 0)).bind fun bt469=>(tollbarref07_Length.l0 k t465 bt469.1 bt469.2 0)) else (none)))
theorem tollbarref07_Length.calls (k:Nat) (A0:Option Addr) (c0:Nat) (l0:List (S36)) (r1:Int) (r2:Bool) (w:World) (hr0:Kd.C k36 w A0 l0.length l0) (hc0:l0.length ≤ c0) (h:tollbarref07_Length.f k l0=some (r1,r2)) :
 Calls Tryz.prog 133 #[.slice A0 l0.length c0] w fun e w' => e = .returned (.tuple #[.int .i64 r1,.bool r2])∧Below w.heap.size w w' := by
 have HR0:=Aside0.mk hr0
 have HC0:=Aside0.mk hc0
 clear hr0 hc0
 have HB:=zB w
 unfold tollbarref07_Length.f at h
 have H:=h
 clear h
 replace H:=Option.bind_eq_some_iff.mp H
 obtain ⟨t465,A20,H⟩:=H
 try dsimp only at H
 have A2:=Aside0.mk A20
 clear A20
 by_cases c3:(t465.length:Int)=0
 ·rw [if_pos c3] at H
  have c3b0:=beq_iff_eq.mpr c3
  have c3b1:=bne_eq_false_iff_eq.mpr c3
  clear c3
  simp only [zi,zj] at H
  obtain ⟨rfl,rfl⟩:=H
  go_enter Tryz.func133,Tryz.ntmps133
  go_wp2_with (first|((with_reducible refine gate_callee (f:=31) rfl ?_);refine goesL_ (some 11) rfl rfl Tryz.func31 zb7 rfl #[.slice A0 l0.length c0,.string (⟨#[99,111,110,116,101,110,116,45,108,101,110,103,116,104]⟩:ByteArray)] rfl zb2 ?_;(with_reducible refine (tollbarref04_List.calls k _ _ l0 (⟨#[99,111,110,116,101,110,116,45,108,101,110,103,116,104]⟩:ByteArray) t465 _ ?side1 ?side2 A2.out).mono ?_);(case side1=>exact zb9);(case side2=>exact HC0.out);rintro e w4 ⟨v466,rfl,ho0,hb⟩;(try clear A2);refine ⟨_,rfl,?_⟩;have HO467:=Aside0.mk (Kd.R_lower ho0 (below_size zb0));replace HB:=Aside0.mk (below_step zb0 hb);try clear hb ho0;obtain ⟨Ao5,co5,eo5⟩:=Kd.R_slice HO467.out;subst eo5))
  go_ret2
  exact ⟨zb3,zb0⟩
 rw [if_neg c3] at H
 have c3b0:=beq_eq_false_iff_ne.mpr c3
 have c3b1:=bne_iff_ne.mpr c3
 have c3b2 : ¬ (t465=[]):=fun h_=>c3 (by rw [h_];rfl)
 by_cases c6:0 < (t465.length:Int);rotate_left
 ·rw [if_neg c6] at H
  exact absurd H zb24
 rw [if_pos c6] at H
 have c6b0:=decide_eq_true c6
 have c6b1:decide (0 < t465.length)=true:=decide_eq_true zb10
 clear c6
 replace H:=Option.bind_eq_some_iff.mp H
 obtain ⟨⟨t469,t470⟩,A70,H⟩:=H
 try dsimp only at H
 have A7:=Aside0.mk A70
 clear A70
 have H' := Aside0.mk H
 clear H
 go_enter Tryz.func133,Tryz.ntmps133
 go_wp2_with (first|((with_reducible refine gate_callee (f:=31) rfl ?_);refine goesL_ (some 11) rfl rfl Tryz.func31 zb7 rfl #[.slice A0 l0.length c0,.string (⟨#[99,111,110,116,101,110,116,45,108,101,110,103,116,104]⟩:ByteArray)] rfl zb2 ?_;(with_reducible refine (tollbarref04_List.calls k _ _ l0 (⟨#[99,111,110,116,101,110,116,45,108,101,110,103,116,104]⟩:ByteArray) t465 _ ?side1 ?side2 A2.out).mono ?_);(case side1=>exact zb9);(case side2=>exact HC0.out);rintro e w8 ⟨v466,rfl,ho0,hb⟩;(try clear A2);refine ⟨_,rfl,?_⟩;have HO467:=Aside0.mk (Kd.R_lower ho0 (below_size zb0));replace HB:=Aside0.mk (below_step zb0 hb);try clear hb ho0;obtain ⟨Ao9,co9,eo9⟩:=Kd.R_slice HO467.out;subst eo9;have p468:0 ≤ (0:Int):=zb10;have q468:0 < (t465.length:Int):=of_decide_eq_true zb1;obtain ⟨ad468,e468,hx468_0⟩:=Kd.at_string (Kd.R_reads' HO467.out).2.2 0 p468 q468;cases e468;have qi468:(0 < t465.length)=True:=eq_true zb10;(try rw [show ((0:Int)).toNat=0 from rfl] at hx468_0);(try rw [Addr.add_zero'] at hx468_0);replace p468:=eq_true p468;replace q468:=eq_true q468)|((with_reducible refine gate_callee (f:=170) rfl ?_);refine goesL_ (some 19) rfl rfl Tryz.func170 zb7 rfl #[.string (rdOf ByteArray.empty t465 0)] rfl zb2 ?_;(with_reducible refine (tollbarref02_Decimal.calls k (rdOf ByteArray.empty t465 0) t469 t470 _ A7.out).mono ?_);rintro e w' ⟨rfl,⟨nd,rfl⟩⟩;(try clear A7);refine ⟨_,rfl,?_⟩))
 go_loopg [7] k (fun kq v7 w' => ∃ (x7_1:Int),v7 = .int .i64 x7_1∧Aside0 (tollbarref07_Length.l0 kq t465 t469 t470 x7_1=some (r1,r2))∧Aside0 (kq ≤ k)∧Aside0 (Kd.R Kd.string 9 w' w.heap.size (fun _=>True) (.slice (some ad468) t465.length co9) t465)∧Aside0 (Below w.heap.size w w'))
 case atStart=>exact ⟨(0),zb4,H',⟨Nat.le_refl _⟩,⟨by (with_reducible repeat (first|apply Kd.R_alloc|apply Kd.R_drewN|apply Kd.R_drew));exact HO467.out⟩,⟨zb0⟩⟩
 case round =>
  clear H'
  try clear c1
  try clear p2
  try clear c3
  try clear c3b0
  try clear c3b1
  try clear c3b2
  try clear p4
  try clear q4
  try clear hx4
  try clear qi4
  try clear c6
  try clear c6b0
  try clear c6b1
  try clear hx468_0
  try clear p468
  try clear q468
  obtain ⟨x7_1,rfl,HA,HK1,HO_4,HB⟩:=hrel
  cases gk with
  | zero=>exact absurd HA.out (by simp [tollbarref07_Length.l0])
  | succ k1 =>
   have H:=HA.out
   clear HA
   simp only [tollbarref07_Length.l0] at H
   by_cases c10:x7_1 < (t465.length:Int);rotate_left
   ·rw [if_neg c10] at H
    have c10b0:=decide_eq_false c10
    clear c10
    simp only [zi,zj] at H
    obtain ⟨rfl,rfl⟩:=H
    go_wp2
    go_ret2
    exact ⟨zb3,zb0⟩
   rw [if_pos c10] at H
   have c10b0:=decide_eq_true c10
   clear c10
   by_cases c11:0 ≤ x7_1
   ·rw [if_pos c11] at H
    have c11b0:=decide_eq_true c11
    clear c11
    replace H:=Option.bind_eq_some_iff.mp H
    obtain ⟨⟨t472,t473⟩,A120,H⟩:=H
    try dsimp only at H
    have A12:=Aside0.mk A120
    clear A120
    by_cases c13:t473=true;rotate_left
    ·replace c13:=Bool.eq_false_iff.mpr c13
     subst c13
     rw [if_neg zf] at H
     simp only [zi,zj] at H
     obtain ⟨rfl,rfl⟩:=H
     have p471:0 ≤ (x7_1:Int):=of_decide_eq_true zb1
     have q471:x7_1 < (t465.length:Int):=of_decide_eq_true zb1
     obtain ⟨ad471,e471,hx471_0⟩:=Kd.at_string (Kd.R_reads' HO_4.out).2.2 x7_1 p471 q471
     obtain rfl:ad468=ad471:=(by injection e471)
     replace p471:=eq_true p471
     replace q471:=eq_true q471
     go_wp2_with (first|((with_reducible refine gate_callee (f:=170) rfl ?_);refine goesL_ (some 33) rfl rfl Tryz.func170 zb7 rfl #[.string (rdOf ByteArray.empty t465 x7_1)] rfl zb2 ?_;(with_reducible refine (tollbarref02_Decimal.calls k1 (rdOf ByteArray.empty t465 x7_1) t472 false _ A12.out).mono ?_);rintro e w' ⟨rfl,⟨nd,rfl⟩⟩;(try clear A12);refine ⟨_,rfl,?_⟩))
     go_ret2
     exact ⟨zb3,zb0⟩
    subst c13
    rw [if_pos rfl] at H
    by_cases c14:t472=t469
    ·rw [if_pos c14] at H
     have c14b0:=beq_iff_eq.mpr c14
     have c14b1:=bne_eq_false_iff_eq.mpr c14
     clear c14
     have H' := Aside0.mk H
     clear H
     have p471:0 ≤ (x7_1:Int):=of_decide_eq_true zb1
     have q471:x7_1 < (t465.length:Int):=of_decide_eq_true zb1
     obtain ⟨ad471,e471,hx471_0⟩:=Kd.at_string (Kd.R_reads' HO_4.out).2.2 x7_1 p471 q471
     obtain rfl:ad468=ad471:=(by injection e471)
     replace p471:=eq_true p471
     replace q471:=eq_true q471
     go_wp2_with (first|((with_reducible refine gate_callee (f:=170) rfl ?_);refine goesL_ (some 33) rfl rfl Tryz.func170 zb7 rfl #[.string (rdOf ByteArray.empty t465 x7_1)] rfl zb2 ?_;(with_reducible refine (tollbarref02_Decimal.calls k1 (rdOf ByteArray.empty t465 x7_1) t472 true _ A12.out).mono ?_);rintro e w' ⟨rfl,⟨nd,rfl⟩⟩;(try clear A12);refine ⟨_,rfl,?_⟩))
     go_roundg k1
     case measure=>have:=HK1.out;omega
     case rel=>exact ⟨(wrap64 (x7_1 + 1)),zb4,H',⟨zb80⟩,⟨zb47⟩,⟨zb0⟩⟩
    ·rw [if_neg c14] at H
     have c14b0:=beq_eq_false_iff_ne.mpr c14
     have c14b1:=bne_iff_ne.mpr c14
     simp only [zi,zj] at H
     obtain ⟨rfl,rfl⟩:=H
     have p471:0 ≤ (x7_1:Int):=of_decide_eq_true zb1
     have q471:x7_1 < (t465.length:Int):=of_decide_eq_true zb1
     obtain ⟨ad471,e471,hx471_0⟩:=Kd.at_string (Kd.R_reads' HO_4.out).2.2 x7_1 p471 q471
     obtain rfl:ad468=ad471:=(by injection e471)
     replace p471:=eq_true p471
     replace q471:=eq_true q471
     go_wp2_with (first|((with_reducible refine gate_callee (f:=170) rfl ?_);refine goesL_ (some 33) rfl rfl Tryz.func170 zb7 rfl #[.string (rdOf ByteArray.empty t465 x7_1)] rfl zb2 ?_;(with_reducible refine (tollbarref02_Decimal.calls k1 (rdOf ByteArray.empty t465 x7_1) t472 true _ A12.out).mono ?_);rintro e w' ⟨rfl,⟨nd,rfl⟩⟩;(try clear A12);refine ⟨_,rfl,?_⟩))
     go_ret2
     exact ⟨zb3,zb0⟩
   ·rw [if_neg c11] at H
    exact absurd H zb24
def tollbarref07_There.f (k:Nat) (l0:List (S36)) (a1:ByteArray):Option (Bool):=(tollbarref04_Get.f k l0 a1).bind fun t435=>(some (decide ((t435.length:Int) > 0)))
theorem tollbarref07_There.calls (k:Nat) (A0:Option Addr) (c0:Nat) (l0:List (S36)) (a1:ByteArray) (r:Bool) (w:World) (hr0:Kd.C k36 w A0 l0.length l0) (hc0:l0.length ≤ c0) (h:tollbarref07_There.f k l0 a1=some r) :
 Calls Tryz.prog 131 #[.slice A0 l0.length c0,.string a1] w fun e w' => e = .returned (.bool r)∧Below w.heap.size w w' := by
 have HR0:=Aside0.mk hr0
 have HC0:=Aside0.mk hc0
 clear hr0 hc0
 have HB:=zB w
 unfold tollbarref07_There.f at h
 have H:=h
 clear h
 replace H:=Option.bind_eq_some_iff.mp H
 obtain ⟨t435,A30,H⟩:=H
 try dsimp only at H
 have A3:=Aside0.mk A30
 clear A30
 obtain rfl:=Option.some.inj H
 go_enter Tryz.func131,Tryz.ntmps131
 go_wp2_with (first|((with_reducible refine gate_callee (f:=36) rfl ?_);refine goesL_ (some 7) rfl rfl Tryz.func36 zb7 rfl #[.slice A0 l0.length c0,.string a1] rfl zb2 ?_;(with_reducible refine (tollbarref04_Get.calls k _ _ l0 a1 t435 _ ?side1 ?side2 A3.out).mono ?_);(case side1=>exact zb9);(case side2=>exact HC0.out);rintro e w4 ⟨v436,rfl,ho0,hb⟩;(try clear A3);refine ⟨_,rfl,?_⟩;have HO437:=Aside0.mk (Kd.R_lower ho0 (below_size zb0));replace HB:=Aside0.mk (below_step zb0 hb);try clear hb ho0;obtain ⟨Ao5,co5,eo5⟩:=Kd.R_slice HO437.out;subst eo5))
 go_ret
 exact ⟨zb3,zb0⟩
def tollbarref07_Request.j0:Nat → List (S36) → Bool → Bool → Bool → Option (Int × Bool × Int)
 | 0,_,_,_,_=>none
 | k + 1,x0,x7,x8,x25=>if x25=true then (some (0,false,400)) else (if x8=true then ((tollbarref07_Coded.f k x0).bind fun t476=>(if t476=true then (some (0,true,0)) else (some (0,false,501)))) else (if x7=true then ((tollbarref07_Length.f k x0).bind fun bt477=>(if bt477.2=true then (if bt477.1 > 4096 then (some (0,false,413)) else (some (bt477.1,false,0))) else (some (0,false,400)))) else (some (0,false,0))))
def tollbarref07_Request.f (k:Nat) (l0:List (S36)) (a1:Int):Option (Int × Bool × Int):=(tollbarref07_There.f k l0 (⟨#[99,111,110,116,101,110,116,45,108,101,110,103,116,104]⟩:ByteArray)).bind fun t474=>((tollbarref07_There.f k l0 (⟨#[116,114,97,110,115,102,101,114,45,101,110,99,111,100,105,110,103]⟩:ByteArray)).bind fun t475=>(if t474=true then (if t475=true then (tollbarref07_Request.j0 k l0 t474 t475 true) else (tollbarref07_Request.j0 k l0 t474 t475 false)) else (if t475=true then (tollbarref07_Request.j0 k l0 t474 t475 (a1 == 0)) else (tollbarref07_Request.j0 k l0 t474 t475 false))))
theorem tollbarref07_Request.calls (k:Nat) (A0:Option Addr) (c0:Nat) (l0:List (S36)) (a1:Int) (r1:Int) (r2:Bool) (r3:Int) (w:World) (hr0:Kd.C k36 w A0 l0.length l0) (hc0:l0.length ≤ c0) (h:tollbarref07_Request.f k l0 a1=some (r1,r2,r3)) :
 Calls Tryz.prog 83 #[.slice A0 l0.length c0,.int .i64 a1] w fun e w' => e = .returned (.tuple #[.int .i64 r1,.bool r2,.int .i64 r3])∧Below w.heap.size w w' := by
 have HR0:=Aside0.mk hr0
 have HC0:=Aside0.mk hc0
 clear hr0 hc0
 have HB:=zB w
 unfold tollbarref07_Request.f at h
 have H:=h
 clear h
 replace H:=Option.bind_eq_some_iff.mp H
 obtain ⟨t474,A30,H⟩:=H
 try dsimp only at H
 have A3:=Aside0.mk A30
 clear A30
 replace H:=Option.bind_eq_some_iff.mp H
 obtain ⟨t475,A40,H⟩:=H
 try dsimp only at H
 have A4:=Aside0.mk A40
 clear A40
 have HC5:=Aside0.mk H
 clear H
 go_enter Tryz.func83,Tryz.ntmps83
 go_upto_region 2 with (first|((with_reducible refine gate_callee (f:=131) rfl ?_);refine goesL_ (some 12) rfl rfl Tryz.func131 zb7 rfl #[.slice A0 l0.length c0,.string (⟨#[99,111,110,116,101,110,116,45,108,101,110,103,116,104]⟩:ByteArray)] rfl zb2 ?_;(with_reducible refine (tollbarref07_There.calls k _ _ l0 (⟨#[99,111,110,116,101,110,116,45,108,101,110,103,116,104]⟩:ByteArray) t474 _ ?side1 ?side2 A3.out).mono ?_);(case side1=>exact zb9);(case side2=>exact HC0.out);rintro e w6 ⟨rfl,hb⟩;refine ⟨_,rfl,?_⟩;replace HB:=Aside0.mk (below_step zb0 hb);(try clear hb))|((with_reducible refine gate_callee (f:=131) rfl ?_);refine goesL_ (some 14) rfl rfl Tryz.func131 zb7 rfl #[.slice A0 l0.length c0,.string (⟨#[116,114,97,110,115,102,101,114,45,101,110,99,111,100,105,110,103]⟩:ByteArray)] rfl zb2 ?_;(with_reducible refine (tollbarref07_There.calls k _ _ l0 (⟨#[116,114,97,110,115,102,101,114,45,101,110,99,111,100,105,110,103]⟩:ByteArray) t475 _ ?side1 ?side2 A4.out).mono ?_);(case side1=>exact zb19);(case side2=>exact HC0.out);rintro e w7 ⟨rfl,hb⟩;refine ⟨_,rfl,?_⟩;replace HB:=Aside0.mk (below_step zb0 hb);(try clear hb)))
 (try simp only [Act.put,zqA,zqB,zqC])
 go_cut [25] (fun v25 wc => ∃ (kq:Nat) (x25_4:Bool),v25 = .bool x25_4∧Aside0 (tollbarref07_Request.j0 kq l0 t474 t475 x25_4=some (r1,r2,r3))∧Aside0 (kq ≤ k)∧Aside0 (Below w.heap.size w wc))
 case first =>
  have H:=HC5.out
  clear HC5
  by_cases c8:t474=true
  ·subst c8
   rw [if_pos rfl] at H
   by_cases c9:t475=true
   ·subst c9
    rw [if_pos rfl] at H
    have H' := Aside0.mk H
    clear H
    go_wp2
    go_meet
    case rel=>exact ⟨_,(true),zb4,H',⟨zb37⟩,⟨zb0⟩⟩
   replace c9:=Bool.eq_false_iff.mpr c9
   subst c9
   rw [if_neg zf] at H
   have H' := Aside0.mk H
   clear H
   go_wp2
   go_meet
   case rel=>exact ⟨_,(false),zb4,H',⟨zb37⟩,⟨zb0⟩⟩
  replace c8:=Bool.eq_false_iff.mpr c8
  subst c8
  rw [if_neg zf] at H
  by_cases c10:t475=true
  ·subst c10
   rw [if_pos rfl] at H
   have H' := Aside0.mk H
   clear H
   go_wp2
   go_meet
   case rel=>exact ⟨_,((a1 == 0)),zb4,H',⟨zb37⟩,⟨zb0⟩⟩
  replace c10:=Bool.eq_false_iff.mpr c10
  subst c10
  rw [if_neg zf] at H
  have H' := Aside0.mk H
  clear H
  go_wp2
  go_meet
  case rel=>exact ⟨_,(false),zb4,H',⟨zb37⟩,⟨zb0⟩⟩
 case rest =>
  clear HC5
  try clear c1
  try clear p2
  try clear c8
  try clear c9
  try clear c10
  obtain ⟨kq,x25_4,rfl,HA,HJ4,HB⟩:=hcut
  cases kq with
  | zero=>exact absurd HA.out (by simp [tollbarref07_Request.j0])
  | succ kj4 =>
   have H:=HA.out
   clear HA
   simp only [tollbarref07_Request.j0] at H
   by_cases c11:x25_4=true
   ·subst c11
    rw [if_pos rfl] at H
    simp only [zi,zj] at H
    obtain ⟨rfl,rfl,rfl⟩:=H
    go_wp2
    go_ret3
    exact ⟨zb3,zb0⟩
   replace c11:=Bool.eq_false_iff.mpr c11
   subst c11
   rw [if_neg zf] at H
   by_cases c12:t475=true
   ·subst c12
    rw [if_pos rfl] at H
    replace H:=Option.bind_eq_some_iff.mp H
    obtain ⟨t476,A130,H⟩:=H
    try dsimp only at H
    have A13:=Aside0.mk A130
    clear A130
    by_cases c14:t476=true
    ·subst c14
     rw [if_pos rfl] at H
     simp only [zi,zj] at H
     obtain ⟨rfl,rfl,rfl⟩:=H
     go_wp2_with (first|((with_reducible refine gate_callee (f:=132) rfl ?_);refine goesL_ (some 28) rfl rfl Tryz.func132 zb7 rfl #[.slice A0 l0.length c0] rfl zb2 ?_;(with_reducible refine (tollbarref07_Coded.calls kj4 _ _ l0 true _ ?side1 ?side2 A13.out).mono ?_);(case side1=>exact zb19);(case side2=>exact HC0.out);rintro e w15 ⟨rfl,hb⟩;(try clear A13);refine ⟨_,rfl,?_⟩;replace HB:=Aside0.mk (below_step zb0 hb);(try clear hb)))
     go_ret3
     exact ⟨zb3,zb0⟩
    replace c14:=Bool.eq_false_iff.mpr c14
    subst c14
    rw [if_neg zf] at H
    simp only [zi,zj] at H
    obtain ⟨rfl,rfl,rfl⟩:=H
    go_wp2_with (first|((with_reducible refine gate_callee (f:=132) rfl ?_);refine goesL_ (some 28) rfl rfl Tryz.func132 zb7 rfl #[.slice A0 l0.length c0] rfl zb2 ?_;(with_reducible refine (tollbarref07_Coded.calls kj4 _ _ l0 false _ ?side1 ?side2 A13.out).mono ?_);(case side1=>exact zb19);(case side2=>exact HC0.out);rintro e w16 ⟨rfl,hb⟩;(try clear A13);refine ⟨_,rfl,?_⟩;replace HB:=Aside0.mk (below_step zb0 hb);(try clear hb)))
    go_ret3
    exact ⟨zb3,zb0⟩
   replace c12:=Bool.eq_false_iff.mpr c12
   subst c12
   rw [if_neg zf] at H
   by_cases c17:t474=true;rotate_left
   ·replace c17:=Bool.eq_false_iff.mpr c17
    subst c17
    rw [if_neg zf] at H
    simp only [zi,zj] at H
    obtain ⟨rfl,rfl,rfl⟩:=H
    go_wp2
    go_ret3
    exact ⟨zb3,zb0⟩
   subst c17
   rw [if_pos rfl] at H
   replace H:=Option.bind_eq_some_iff.mp H
   obtain ⟨⟨t477,t478⟩,A180,H⟩:=H
   try dsimp only at H
   have A18:=Aside0.mk A180
   clear A180
   by_cases c19:t478=true
   ·subst c19
    rw [if_pos rfl] at H
    by_cases c20:t477 > 4096
    ·rw [if_pos c20] at H
     have c20b0:decide (4096 < t477)=true:=decide_eq_true c20
     clear c20
     simp only [zi,zj] at H
     obtain ⟨rfl,rfl,rfl⟩:=H
     go_wp2_with (first|((with_reducible refine gate_callee (f:=133) rfl ?_);refine goesL_ (some 33) rfl rfl Tryz.func133 zb7 rfl #[.slice A0 l0.length c0] rfl zb2 ?_;(with_reducible refine (tollbarref07_Length.calls kj4 _ _ l0 t477 true _ ?side1 ?side2 A18.out).mono ?_);(case side1=>exact zb19);(case side2=>exact HC0.out);rintro e w21 ⟨rfl,hb⟩;(try clear A18);refine ⟨_,rfl,?_⟩;replace HB:=Aside0.mk (below_step zb0 hb);(try clear hb)))
     go_ret3
     exact ⟨zb3,zb0⟩
    rw [if_neg c20] at H
    have c20b0:decide (4096 < t477)=false:=decide_eq_false c20
    clear c20
    simp only [zi,zj] at H
    obtain ⟨rfl,rfl,rfl⟩:=H
    go_wp2_with (first|((with_reducible refine gate_callee (f:=133) rfl ?_);refine goesL_ (some 33) rfl rfl Tryz.func133 zb7 rfl #[.slice A0 l0.length c0] rfl zb2 ?_;(with_reducible refine (tollbarref07_Length.calls kj4 _ _ l0 t477 true _ ?side1 ?side2 A18.out).mono ?_);(case side1=>exact zb19);(case side2=>exact HC0.out);rintro e w22 ⟨rfl,hb⟩;(try clear A18);refine ⟨_,rfl,?_⟩;replace HB:=Aside0.mk (below_step zb0 hb);(try clear hb)))
    go_ret3
    exact ⟨zb3,zb0⟩
   ·replace c19:=Bool.eq_false_iff.mpr c19
    subst c19
    rw [if_neg zf] at H
    simp only [zi,zj] at H
    obtain ⟨rfl,rfl,rfl⟩:=H
    go_wp2_with (first|((with_reducible refine gate_callee (f:=133) rfl ?_);refine goesL_ (some 33) rfl rfl Tryz.func133 zb7 rfl #[.slice A0 l0.length c0] rfl zb2 ?_;(with_reducible refine (tollbarref07_Length.calls kj4 _ _ l0 t477 false _ ?side1 ?side2 A18.out).mono ?_);(case side1=>exact zb19);(case side2=>exact HC0.out);rintro e w23 ⟨rfl,hb⟩;(try clear A18);refine ⟨_,rfl,?_⟩;replace HB:=Aside0.mk (below_step zb0 hb);(try clear hb)))
    go_ret3
    exact ⟨zb3,zb0⟩
mutual
def tollbarref05_Cut.j0:Nat → List Int → Int → Option (ByteArray × Int × Int)
 | 0,_,_=>none
 | k + 1,x0,x1=>tollbarref05_Cut.l0 k x0 x1 0
def tollbarref05_Cut.l0:Nat → List Int → Int → Int → Option (ByteArray × Int × Int)
 | 0,_,_,_=>none
 | k + 1,x0,x1,x7=>if x7 < (x0.length:Int) then (if x7=(wrap64 ((x0.length:Int) - 1)) then (if 0 ≤ x7 then (if (rd x0 x7)=10 then (tollbarref05_Cut.j2 k x0 x1 x7 true true) else (if (rd x0 x7)=13 then (tollbarref05_Cut.j2 k x0 x1 x7 true false) else (tollbarref05_Cut.j2 k x0 x1 x7 true false))) else (none)) else (if 0 ≤ x7 then (if (rd x0 x7)=10 then (tollbarref05_Cut.j4 k x0 x1 x7 false true) else (if (rd x0 x7)=13 then (if 0 ≤ (wrap64 (x7 + 1)) then (if (wrap64 (x7 + 1)) < (x0.length:Int) then (tollbarref05_Cut.j4 k x0 x1 x7 false ((rd x0 (wrap64 (x7 + 1))) != 10)) else (none)) else (none)) else (tollbarref05_Cut.j4 k x0 x1 x7 false false))) else (none))) else (some ((⟨#[]⟩:ByteArray),0,0))
def tollbarref05_Cut.j2:Nat → List Int → Int → Int → Bool → Bool → Option (ByteArray × Int × Int)
 | 0,_,_,_,_,_=>none
 | k + 1,x0,x1,x7,x8,x45=>if x45=true then (some ((⟨#[]⟩:ByteArray),0,20)) else (if 0 ≤ x7 then (if x7 < (x0.length:Int) then (if (rd x0 x7)=13 then (tollbarref05_Cut.j3 k x0 x1 x7 x8) else (tollbarref05_Cut.j3 k x0 x1 x7 false)) else (none)) else (none))
def tollbarref05_Cut.j3:Nat → List Int → Int → Int → Bool → Option (ByteArray × Int × Int)
 | 0,_,_,_,_=>none
 | k + 1,x0,x1,x7,x53=>if x53=true then (some ((⟨#[]⟩:ByteArray),0,0)) else (if 0 ≤ x7 then (if x7 < (x0.length:Int) then (if (rd x0 x7)=13 then (if x7 ≤ (x0.length:Int) then (some (strOfNums (x0.take (x7:Int).toNat),wrap64 (x7 + 2),0)) else (none)) else (if x7 ≥ x1 then (some ((⟨#[]⟩:ByteArray),0,2)) else (tollbarref05_Cut.l0 k x0 x1 (wrap64 (x7 + 1))))) else (none)) else (none))
def tollbarref05_Cut.j4:Nat → List Int → Int → Int → Bool → Bool → Option (ByteArray × Int × Int)
 | 0,_,_,_,_,_=>none
 | k + 1,x0,x1,x7,x8,x45=>if x45=true then (some ((⟨#[]⟩:ByteArray),0,20)) else (if 0 ≤ x7 then (if x7 < (x0.length:Int) then (if (rd x0 x7)=13 then (tollbarref05_Cut.j5 k x0 x1 x7 x8) else (tollbarref05_Cut.j5 k x0 x1 x7 false)) else (none)) else (none))
def tollbarref05_Cut.j5:Nat → List Int → Int → Int → Bool → Option (ByteArray × Int × Int)
 | 0,_,_,_,_=>none
 | k + 1,x0,x1,x7,x53=>if x53=true then (some ((⟨#[]⟩:ByteArray),0,0)) else (if 0 ≤ x7 then (if x7 < (x0.length:Int) then (if (rd x0 x7)=13 then (if x7 ≤ (x0.length:Int) then (some (strOfNums (x0.take (x7:Int).toNat),wrap64 (x7 + 2),0)) else (none)) else (if x7 ≥ x1 then (some ((⟨#[]⟩:ByteArray),0,2)) else (tollbarref05_Cut.l0 k x0 x1 (wrap64 (x7 + 1))))) else (none)) else (none))
end
def tollbarref05_Cut.f (k:Nat) (l0:List Int) (a1:Int):Option (ByteArray × Int × Int):=if a1 < 0 then (tollbarref05_Cut.j0 k l0 0) else (tollbarref05_Cut.j0 k l0 a1)
theorem tollbarref05_Cut.calls (k:Nat) (A0:Option Addr) (c0:Nat) (l0:List Int) (a1:Int) (r1:ByteArray) (r2:Int) (r3:Int) (w:World) (hr0:Kd.C (Kd.int .u8) w A0 l0.length l0) (hc0:l0.length ≤ c0) (h:tollbarref05_Cut.f k l0 a1=some (r1,r2,r3)) :
 Calls Tryz.prog 125 #[.slice A0 l0.length c0,.int .i64 a1] w fun e w' => e = .returned (.tuple #[.string r1,.int .i64 r2,.int .i64 r3])∧Drawn0 w w' := by
 have HR0:=Aside0.mk hr0
 have HC0:=Aside0.mk hc0
 clear hr0 hc0
 unfold tollbarref05_Cut.f at h
 have H:=h
 clear h
 have HC3:=Aside0.mk H
 clear H
 go_enter Tryz.func125,Tryz.ntmps125
 go_upto_if 10 with (fail)
 go_cut [1] (fun v1 wc => ∃ (kq:Nat) (x1_2:Int),v1 = .int .i64 x1_2∧Aside0 (tollbarref05_Cut.j0 kq l0 x1_2=some (r1,r2,r3))∧Aside0 (kq ≤ k)∧Drawn0 w wc)
 case first =>
  have H:=HC3.out
  clear HC3
  by_cases c4:a1 < 0
  ·rw [if_pos c4] at H
   have c4b0:=decide_eq_true c4
   clear c4
   (first|rw [c4b0]|(simp only [i64_w,i32_w];rw [c4b0])|skip)
   have H' := Aside0.mk H
   clear H
   go_wp2
   go_meet
   case rel=>exact ⟨_,(0),zb4,H',⟨zb37⟩,zb5⟩
  rw [if_neg c4] at H
  have c4b0:=decide_eq_false c4
  clear c4
  (first|rw [c4b0]|(simp only [i64_w,i32_w];rw [c4b0])|skip)
  have H' := Aside0.mk H
  clear H
  go_wp2
  go_meet
  case rel=>exact ⟨_,(a1),zb4,H',⟨zb37⟩,zb5⟩
 case rest =>
  clear HC3
  try clear c1
  try clear p2
  try clear c4
  try clear c4b0
  obtain ⟨kq,x1_2,rfl,HA,HJ2,⟨mc2,rfl⟩⟩:=hcut
  cases kq with
  | zero=>exact absurd HA.out (by simp [tollbarref05_Cut.j0])
  | succ kj2 =>
   have H:=HA.out
   clear HA
   simp only [tollbarref05_Cut.j0] at H
   have H' := Aside0.mk H
   clear H
   go_wp2
   go_loopg [7] kj2 (fun kq v7 w' => ∃ (x7_2:Int),v7 = .int .i64 x7_2∧Aside0 (tollbarref05_Cut.l0 kq l0 x1_2 x7_2=some (r1,r2,r3))∧Aside0 (kq ≤ kj2)∧Drawn0 w w')
   case atStart=>exact ⟨(0),zb4,H',⟨Nat.le_refl _⟩,zb5⟩
   case round =>
    clear H'
    try clear c1
    try clear c2
    try clear p2
    try clear c4
    try clear c4b0
    try clear p2
    obtain ⟨x7_2,rfl,HA,HK2,⟨m2,rfl⟩⟩:=hrel
    cases gk with
    | zero=>exact absurd HA.out (by simp [tollbarref05_Cut.l0])
    | succ k2 =>
     have H:=HA.out
     clear HA
     simp only [tollbarref05_Cut.l0] at H
     by_cases c5:x7_2 < (l0.length:Int);rotate_left
     ·rw [if_neg c5] at H
      have c5b0:=decide_eq_false c5
      clear c5
      simp only [zi,zj] at H
      obtain ⟨rfl,rfl,rfl⟩:=H
      go_wp2
      go_ret3
      exact ⟨zb4,zb5⟩
     rw [if_pos c5] at H
     have c5b0:=decide_eq_true c5
     clear c5
     by_cases c6:x7_2=(wrap64 ((l0.length:Int) - 1))
     ·rw [if_pos c6] at H
      have c6b0:=beq_iff_eq.mpr c6
      have c6b1:=bne_eq_false_iff_eq.mpr c6
      clear c6
      have HC7:=Aside0.mk H
      clear H
      go_upto_region 7 with (fail)
      go_cut [45] (fun v45 wc => ∃ (kq:Nat) (x45_6:Bool),v45 = .bool x45_6∧Aside0 (tollbarref05_Cut.j2 kq l0 x1_2 x7_2 true x45_6=some (r1,r2,r3))∧Aside0 (kq ≤ k2)∧Drawn0 w wc)
      case first =>
       have H:=HC7.out
       clear HC7
       by_cases c8:0 ≤ x7_2;rotate_left
       ·rw [if_neg c8] at H
        exact absurd H zb24
       rw [if_pos c8] at H
       have c8b0:=decide_eq_true c8
       clear c8
       (first|rw [c8b0]|(simp only [i64_w,i32_w];rw [c8b0])|skip)
       by_cases c9:(rd l0 x7_2)=10
       ·rw [if_pos c9] at H
        have c9b0:=beq_iff_eq.mpr c9
        have c9b1:=bne_eq_false_iff_eq.mpr c9
        clear c9
        have H' := Aside0.mk H
        clear H
        have p46:0 ≤ (x7_2:Int):=of_decide_eq_true zb1
        have q46:x7_2 < (l0.length:Int):=of_decide_eq_true zb1
        obtain ⟨ad46,e46,hx46_0⟩:=Kd.at_int HR0.out x7_2 p46 q46
        cases e46
        replace p46:=eq_true p46
        replace q46:=eq_true q46
        go_wp2
        go_meet
        case rel=>exact ⟨_,(true),zb4,H',⟨zb91⟩,zb5⟩
       rw [if_neg c9] at H
       have c9b0:=beq_eq_false_iff_ne.mpr c9
       have c9b1:=bne_iff_ne.mpr c9
       by_cases c10:(rd l0 x7_2)=13;rotate_left
       ·rw [if_neg c10] at H
        have c10b0:=beq_eq_false_iff_ne.mpr c10
        have c10b1:=bne_iff_ne.mpr c10
        have H' := Aside0.mk H
        clear H
        have p46:0 ≤ (x7_2:Int):=of_decide_eq_true zb1
        have q46:x7_2 < (l0.length:Int):=of_decide_eq_true zb1
        obtain ⟨ad46,e46,hx46_0⟩:=Kd.at_int HR0.out x7_2 p46 q46
        cases e46
        replace p46:=eq_true p46
        replace q46:=eq_true q46
        have p50:0 ≤ (x7_2:Int):=of_decide_eq_true zb1
        have q50:x7_2 < (l0.length:Int):=of_decide_eq_true zb1
        obtain ⟨ad50,e50,hx50_0⟩:=Kd.at_int HR0.out x7_2 p50 q50
        obtain rfl:ad46=ad50:=(by injection e50)
        replace p50:=eq_true p50
        replace q50:=eq_true q50
        go_wp2
        go_meet
        case rel=>exact ⟨_,(false),zb4,H',⟨zb91⟩,zb5⟩
       rw [if_pos c10] at H
       have c10b0:=beq_iff_eq.mpr c10
       have c10b1:=bne_eq_false_iff_eq.mpr c10
       clear c10
       have H' := Aside0.mk H
       clear H
       have p46:0 ≤ (x7_2:Int):=of_decide_eq_true zb1
       have q46:x7_2 < (l0.length:Int):=of_decide_eq_true zb1
       obtain ⟨ad46,e46,hx46_0⟩:=Kd.at_int HR0.out x7_2 p46 q46
       cases e46
       replace p46:=eq_true p46
       replace q46:=eq_true q46
       have p50:0 ≤ (x7_2:Int):=of_decide_eq_true zb1
       have q50:x7_2 < (l0.length:Int):=of_decide_eq_true zb1
       obtain ⟨ad50,e50,hx50_0⟩:=Kd.at_int HR0.out x7_2 p50 q50
       obtain rfl:ad46=ad50:=(by injection e50)
       replace p50:=eq_true p50
       replace q50:=eq_true q50
       go_wp2
       go_meet
       case rel=>exact ⟨_,(false),zb4,H',⟨zb91⟩,zb5⟩
      case rest =>
       clear HC7
       try clear c1
       try clear c2
       try clear p2
       try clear p3
       try clear q3
       try clear hx3
       try clear c4
       try clear c4b0
       try clear c5
       try clear c5b0
       try clear c6
       try clear c6b0
       try clear c6b1
       try clear p6
       try clear c8
       try clear c8b0
       try clear c9
       try clear c9b0
       try clear c9b1
       try clear c10
       try clear c10b0
       try clear c10b1
       try clear hx46_0
       try clear hx50_0
       try clear p2
       try clear p46
       try clear p50
       try clear q46
       try clear q50
       obtain ⟨kq,x45_6,rfl,HA,HJ6,⟨mc6,rfl⟩⟩:=hcut
       cases kq with
       | zero=>exact absurd HA.out (by simp [tollbarref05_Cut.j2])
       | succ kj6 =>
        have H:=HA.out
        clear HA
        simp only [tollbarref05_Cut.j2] at H
        by_cases c11:x45_6=true
        ·subst c11
         rw [if_pos rfl] at H
         simp only [zi,zj] at H
         obtain ⟨rfl,rfl,rfl⟩:=H
         go_wp2
         go_ret3
         exact ⟨zb4,zb5⟩
        replace c11:=Bool.eq_false_iff.mpr c11
        subst c11
        rw [if_neg zf] at H
        have HC12:=Aside0.mk H
        clear H
        go_upto_region 9 with (fail)
        go_cut [53] (fun v53 wc => ∃ (kq:Nat) (x53_11:Bool),v53 = .bool x53_11∧Aside0 (tollbarref05_Cut.j3 kq l0 x1_2 x7_2 x53_11=some (r1,r2,r3))∧Aside0 (kq ≤ kj6)∧Drawn0 w wc)
        case first =>
         have H:=HC12.out
         clear HC12
         by_cases c13:0 ≤ x7_2;rotate_left
         ·rw [if_neg c13] at H
          exact absurd H zb24
         rw [if_pos c13] at H
         have c13b0:=decide_eq_true c13
         clear c13
         (first|rw [c13b0]|(simp only [i64_w,i32_w];rw [c13b0])|skip)
         by_cases c14:x7_2 < (l0.length:Int)
         ·rw [if_pos c14] at H
          have c14b0:=decide_eq_true c14
          clear c14
          by_cases c15:(rd l0 x7_2)=13;rotate_left
          ·rw [if_neg c15] at H
           have c15b0:=beq_eq_false_iff_ne.mpr c15
           have c15b1:=bne_iff_ne.mpr c15
           have H' := Aside0.mk H
           clear H
           have p51:0 ≤ (x7_2:Int):=of_decide_eq_true zb1
           have q51:x7_2 < (l0.length:Int):=of_decide_eq_true zb1
           obtain ⟨ad51,e51,hx51_0⟩:=Kd.at_int HR0.out x7_2 p51 q51
           cases e51
           replace p51:=eq_true p51
           replace q51:=eq_true q51
           go_wp2
           go_meet
           case rel=>exact ⟨_,(false),zb4,H',⟨by have:=HJ2.out;have:=HK2.out;have:=HJ6.out;first|omega|exact Nat.le_refl _⟩,zb5⟩
          rw [if_pos c15] at H
          have c15b0:=beq_iff_eq.mpr c15
          have c15b1:=bne_eq_false_iff_eq.mpr c15
          clear c15
          have H' := Aside0.mk H
          clear H
          have p51:0 ≤ (x7_2:Int):=of_decide_eq_true zb1
          have q51:x7_2 < (l0.length:Int):=of_decide_eq_true zb1
          obtain ⟨ad51,e51,hx51_0⟩:=Kd.at_int HR0.out x7_2 p51 q51
          cases e51
          replace p51:=eq_true p51
          replace q51:=eq_true q51
          go_wp2
          go_meet
          case rel=>exact ⟨_,(true),zb4,H',⟨by have:=HJ2.out;have:=HK2.out;have:=HJ6.out;first|omega|exact Nat.le_refl _⟩,zb5⟩
         ·rw [if_neg c14] at H
          exact absurd H zb24
        case rest =>
         clear HC12
         try clear c1
         try clear c2
         try clear p2
         try clear p3
         try clear q3
         try clear hx3
         try clear c4
         try clear c4b0
         try clear c5
         try clear c5b0
         try clear c6
         try clear c6b0
         try clear c6b1
         try clear p6
         try clear c8
         try clear c8b0
         try clear c9
         try clear c9b0
         try clear c9b1
         try clear c10
         try clear c10b0
         try clear c10b1
         try clear c11
         try clear c12
         try clear c13
         try clear c13b0
         try clear c14
         try clear c14b0
         try clear c15
         try clear c15b0
         try clear c15b1
         try clear hx46_0
         try clear hx50_0
         try clear hx51_0
         try clear p2
         try clear p3
         try clear p46
         try clear p50
         try clear p51
         try clear p6
         try clear q3
         try clear q46
         try clear q50
         try clear q51
         obtain ⟨kq,x53_11,rfl,HA,HJ11,⟨mc11,rfl⟩⟩:=hcut
         cases kq with
         | zero=>exact absurd HA.out (by simp [tollbarref05_Cut.j3])
         | succ kj11 =>
          have H:=HA.out
          clear HA
          simp only [tollbarref05_Cut.j3] at H
          by_cases c16:x53_11=true
          ·subst c16
           rw [if_pos rfl] at H
           simp only [zi,zj] at H
           obtain ⟨rfl,rfl,rfl⟩:=H
           go_wp2
           go_ret3
           exact ⟨zb4,zb5⟩
          replace c16:=Bool.eq_false_iff.mpr c16
          subst c16
          rw [if_neg zf] at H
          by_cases c17:0 ≤ x7_2;rotate_left
          ·rw [if_neg c17] at H
           exact absurd H zb24
          rw [if_pos c17] at H
          have c17b0:=decide_eq_true c17
          clear c17
          by_cases c18:x7_2 < (l0.length:Int)
          ·rw [if_pos c18] at H
           have c18b0:=decide_eq_true c18
           clear c18
           by_cases c19:(rd l0 x7_2)=13;rotate_left
           ·rw [if_neg c19] at H
            have c19b0:=beq_eq_false_iff_ne.mpr c19
            have c19b1:=bne_iff_ne.mpr c19
            by_cases c24:x7_2 ≥ x1_2
            ·rw [if_pos c24] at H
             have c24b0:decide (x1_2 ≤ x7_2)=true:=decide_eq_true c24
             clear c24
             simp only [zi,zj] at H
             obtain ⟨rfl,rfl,rfl⟩:=H
             have p47:0 ≤ (x7_2:Int):=of_decide_eq_true zb1
             have q47:x7_2 < (l0.length:Int):=of_decide_eq_true zb1
             obtain ⟨ad47,e47,hx47_0⟩:=Kd.at_int HR0.out x7_2 p47 q47
             cases e47
             replace p47:=eq_true p47
             replace q47:=eq_true q47
             go_wp2
             go_ret3
             exact ⟨zb4,zb5⟩
            rw [if_neg c24] at H
            have c24b0:decide (x1_2 ≤ x7_2)=false:=decide_eq_false c24
            clear c24
            have H' := Aside0.mk H
            clear H
            have p47:0 ≤ (x7_2:Int):=of_decide_eq_true zb1
            have q47:x7_2 < (l0.length:Int):=of_decide_eq_true zb1
            obtain ⟨ad47,e47,hx47_0⟩:=Kd.at_int HR0.out x7_2 p47 q47
            cases e47
            replace p47:=eq_true p47
            replace q47:=eq_true q47
            go_wp2
            go_roundg kj11
            case measure=>have:=HJ2.out;have:=HK2.out;have:=HJ6.out;have:=HJ11.out;omega
            case rel=>exact ⟨(wrap64 (x7_2 + 1)),zb4,H',⟨by have:=HJ2.out;have:=HK2.out;have:=HJ6.out;have:=HJ11.out;omega⟩,zb5⟩
           rw [if_pos c19] at H
           have c19b0:=beq_iff_eq.mpr c19
           have c19b1:=bne_eq_false_iff_eq.mpr c19
           clear c19
           have c20b0:=eq_true (of_decide_eq_true zb1:0 ≤ x7_2)
           by_cases c21:x7_2 ≤ (l0.length:Int)
           ·rw [if_pos c21] at H
            have c21b0:=eq_true c21
            have c21b1:=decide_eq_true c21
            clear c21
            simp only [zi,zj] at H
            obtain ⟨rfl,rfl,rfl⟩:=H
            have p47:0 ≤ (x7_2:Int):=of_decide_eq_true zb1
            have q47:x7_2 < (l0.length:Int):=of_decide_eq_true zb1
            obtain ⟨ad47,e47,hx47_0⟩:=Kd.at_int HR0.out x7_2 p47 q47
            cases e47
            replace p47:=eq_true p47
            replace q47:=eq_true q47
            obtain ⟨i56,hi56,_,hsz22,_⟩:=info_parts info5
            obtain ⟨hcut22,hA22,hC22⟩:=print_take_of (P:=Tryz.prog) (Value.int .u8) 0 22 5 .i64 Tryz.underlying22 hi56 hsz22 (some ad47) c0 l0 x7_2 (of_decide_eq_true zb1) (of_decide_eq_true zb1) HC0.out
            have HR58:=Aside0.mk (Kd.C_of_reads (h1:=fun _=>rfl) (hA22 _ (Kd.reads_of_C HR0.out)))
            have HC58:=Aside0.mk hC22
            clear hA22 hC22 hi56 hsz22
            have hcv23:=Kd.C_string (P:=Tryz.prog) (A:=(some ad47)) (c:=c0) Tryz.underlying22 Tryz.underlying5 Tryz.underlying9 HR58.out
            have hcvd23:=fun (m_:Nat)=>Kd.C_string (P:=Tryz.prog) (A:=(some ad47)) (c:=c0) Tryz.underlying22 Tryz.underlying5 Tryz.underlying9 (Kd.C_drewN HR58.out m_)
            have hlen23:(l0.take (x7_2:Int).toNat).length=(x7_2:Int).toNat:=by have q1_:(x7_2:Int) ≤ (l0.length:Int):=of_decide_eq_true zb1;have q2_:0 ≤ (x7_2:Int):=of_decide_eq_true zb1;rw [List.length_take];omega
            rw [hlen23] at hcv23
            simp only [hlen23] at hcvd23
            clear hlen23
            go_wp2
            go_ret3
            exact ⟨zb4,zb5⟩
           ·rw [if_neg c21] at H
            exact absurd H zb24
          ·rw [if_neg c18] at H
           exact absurd H zb24
     rw [if_neg c6] at H
     have c6b0:=beq_eq_false_iff_ne.mpr c6
     have c6b1:=bne_iff_ne.mpr c6
     have HC25:=Aside0.mk H
     clear H
     go_upto_region 7 with (fail)
     go_cut [45] (fun v45 wc => ∃ (kq:Nat) (x45_24:Bool),v45 = .bool x45_24∧Aside0 (tollbarref05_Cut.j4 kq l0 x1_2 x7_2 false x45_24=some (r1,r2,r3))∧Aside0 (kq ≤ k2)∧Drawn0 w wc)
     case first =>
      have H:=HC25.out
      clear HC25
      by_cases c26:0 ≤ x7_2;rotate_left
      ·rw [if_neg c26] at H
       exact absurd H zb24
      rw [if_pos c26] at H
      have c26b0:=decide_eq_true c26
      clear c26
      (first|rw [c26b0]|(simp only [i64_w,i32_w];rw [c26b0])|skip)
      by_cases c27:(rd l0 x7_2)=10
      ·rw [if_pos c27] at H
       have c27b0:=beq_iff_eq.mpr c27
       have c27b1:=bne_eq_false_iff_eq.mpr c27
       clear c27
       have H' := Aside0.mk H
       clear H
       have p48:0 ≤ (x7_2:Int):=of_decide_eq_true zb1
       have q48:x7_2 < (l0.length:Int):=of_decide_eq_true zb1
       obtain ⟨ad48,e48,hx48_0⟩:=Kd.at_int HR0.out x7_2 p48 q48
       cases e48
       replace p48:=eq_true p48
       replace q48:=eq_true q48
       go_wp2
       go_meet
       case rel=>exact ⟨_,(true),zb4,H',⟨zb91⟩,zb5⟩
      rw [if_neg c27] at H
      have c27b0:=beq_eq_false_iff_ne.mpr c27
      have c27b1:=bne_iff_ne.mpr c27
      by_cases c28:(rd l0 x7_2)=13;rotate_left
      ·rw [if_neg c28] at H
       have c28b0:=beq_eq_false_iff_ne.mpr c28
       have c28b1:=bne_iff_ne.mpr c28
       have H' := Aside0.mk H
       clear H
       have p48:0 ≤ (x7_2:Int):=of_decide_eq_true zb1
       have q48:x7_2 < (l0.length:Int):=of_decide_eq_true zb1
       obtain ⟨ad48,e48,hx48_0⟩:=Kd.at_int HR0.out x7_2 p48 q48
       cases e48
       replace p48:=eq_true p48
       replace q48:=eq_true q48
       have p52:0 ≤ (x7_2:Int):=of_decide_eq_true zb1
       have q52:x7_2 < (l0.length:Int):=of_decide_eq_true zb1
       obtain ⟨ad52,e52,hx52_0⟩:=Kd.at_int HR0.out x7_2 p52 q52
       obtain rfl:ad48=ad52:=(by injection e52)
       replace p52:=eq_true p52
       replace q52:=eq_true q52
       go_wp2
       go_meet
       case rel=>exact ⟨_,(false),zb4,H',⟨zb91⟩,zb5⟩
      rw [if_pos c28] at H
      have c28b0:=beq_iff_eq.mpr c28
      have c28b1:=bne_eq_false_iff_eq.mpr c28
      clear c28
      obtain ⟨ji29,hji29⟩ : ∃ j_:Int,(wrap64 (x7_2 + 1))=j_:=⟨_,rfl⟩
      replace H:(if 0 ≤ (ji29) then (if (ji29) < (l0.length:Int) then (tollbarref05_Cut.j4 k2 l0 x1_2 x7_2 false ((rd l0 (ji29)) != 10)) else (none)) else (none))=some (r1,r2,r3):=by first|(rw [hji29] at H;exact H)|(simp only [hji29] at H ⊢;exact H)
      have hji29w:(IntKind.i64.wrap (x7_2 + 1))=ji29:=(i64_w _).trans hji29
      by_cases c30:0 ≤ (ji29)
      ·rw [if_pos c30] at H
       have c30b0:=decide_eq_true c30
       clear c30
       by_cases c31:(ji29) < (l0.length:Int)
       ·rw [if_pos c31] at H
        have c31b0:=decide_eq_true c31
        clear c31
        have H' := Aside0.mk H
        clear H
        have p48:0 ≤ (x7_2:Int):=of_decide_eq_true zb1
        have q48:x7_2 < (l0.length:Int):=of_decide_eq_true zb1
        obtain ⟨ad48,e48,hx48_0⟩:=Kd.at_int HR0.out x7_2 p48 q48
        cases e48
        replace p48:=eq_true p48
        replace q48:=eq_true q48
        have p52:0 ≤ (x7_2:Int):=of_decide_eq_true zb1
        have q52:x7_2 < (l0.length:Int):=of_decide_eq_true zb1
        obtain ⟨ad52,e52,hx52_0⟩:=Kd.at_int HR0.out x7_2 p52 q52
        obtain rfl:ad48=ad52:=(by injection e52)
        replace p52:=eq_true p52
        replace q52:=eq_true q52
        have p55:0 ≤ ((ji29):Int):=of_decide_eq_true zb1
        have q55:(ji29) < (l0.length:Int):=of_decide_eq_true zb1
        obtain ⟨ad55,e55,hx55_0⟩:=Kd.at_int HR0.out (ji29) p55 q55
        obtain rfl:ad48=ad55:=(by injection e55)
        replace p55:=eq_true p55
        replace q55:=eq_true q55
        go_wp2
        go_meet
        case rel=>exact ⟨_,(((rd l0 (ji29)) != 10)),(by first|rfl|(simp;done)|(simp only [← hji29] <;> (first|rfl|simp))|(simp [*];done)),H',⟨zb91⟩,zb5⟩
       ·rw [if_neg c31] at H
        exact absurd H zb24
      ·rw [if_neg c30] at H
       exact absurd H zb24
     case rest =>
      clear HC25
      try clear c1
      try clear q1
      try clear c2
      try clear p2
      try clear q2
      try clear hcv2
      try clear c3
      try clear p3
      try clear q3
      try clear hx3
      try clear c4
      try clear c4b0
      try clear c5
      try clear c5b0
      try clear c6
      try clear c6b0
      try clear c6b1
      try clear p6
      try clear c8
      try clear c8b0
      try clear c9
      try clear c9b0
      try clear c9b1
      try clear c10
      try clear c10b0
      try clear c10b1
      try clear c11
      try clear c12
      try clear c13
      try clear c13b0
      try clear c14
      try clear c14b0
      try clear c15
      try clear c15b0
      try clear c15b1
      try clear c16
      try clear c17
      try clear c17b0
      try clear c18
      try clear c18b0
      try clear c19
      try clear c19b0
      try clear c19b1
      try clear c20
      try clear c20b0
      try clear c21
      try clear c21b0
      try clear c21b1
      try clear hcv23
      try clear c24
      try clear c24b0
      try clear c26
      try clear c26b0
      try clear c27
      try clear c27b0
      try clear c27b1
      try clear c28
      try clear c28b0
      try clear c28b1
      try clear c30
      try clear c30b0
      try clear c31
      try clear c31b0
      try clear hx46_0
      try clear hx50_0
      try clear hx51_0
      try clear hx47_0
      try clear hx48_0
      try clear hx52_0
      try clear hx55_0
      try clear p2
      try clear p3
      try clear p46
      try clear p50
      try clear p51
      try clear p47
      try clear p48
      try clear p52
      try clear p55
      try clear p6
      try clear q3
      try clear q46
      try clear q50
      try clear q51
      try clear q47
      try clear q48
      try clear q52
      try clear q55
      obtain ⟨kq,x45_24,rfl,HA,HJ24,⟨mc24,rfl⟩⟩:=hcut
      cases kq with
      | zero=>exact absurd HA.out (by simp [tollbarref05_Cut.j4])
      | succ kj24 =>
       have H:=HA.out
       clear HA
       simp only [tollbarref05_Cut.j4] at H
       by_cases c32:x45_24=true
       ·subst c32
        rw [if_pos rfl] at H
        simp only [zi,zj] at H
        obtain ⟨rfl,rfl,rfl⟩:=H
        go_wp2
        go_ret3
        exact ⟨zb4,zb5⟩
       replace c32:=Bool.eq_false_iff.mpr c32
       subst c32
       rw [if_neg zf] at H
       have HC33:=Aside0.mk H
       clear H
       go_upto_region 9 with (fail)
       go_cut [53] (fun v53 wc => ∃ (kq:Nat) (x53_32:Bool),v53 = .bool x53_32∧Aside0 (tollbarref05_Cut.j5 kq l0 x1_2 x7_2 x53_32=some (r1,r2,r3))∧Aside0 (kq ≤ kj24)∧Drawn0 w wc)
       case first =>
        have H:=HC33.out
        clear HC33
        by_cases c34:0 ≤ x7_2;rotate_left
        ·rw [if_neg c34] at H
         exact absurd H zb24
        rw [if_pos c34] at H
        have c34b0:=decide_eq_true c34
        clear c34
        (first|rw [c34b0]|(simp only [i64_w,i32_w];rw [c34b0])|skip)
        by_cases c35:x7_2 < (l0.length:Int)
        ·rw [if_pos c35] at H
         have c35b0:=decide_eq_true c35
         clear c35
         by_cases c36:(rd l0 x7_2)=13;rotate_left
         ·rw [if_neg c36] at H
          have c36b0:=beq_eq_false_iff_ne.mpr c36
          have c36b1:=bne_iff_ne.mpr c36
          have H' := Aside0.mk H
          clear H
          have p54:0 ≤ (x7_2:Int):=of_decide_eq_true zb1
          have q54:x7_2 < (l0.length:Int):=of_decide_eq_true zb1
          obtain ⟨ad54,e54,hx54_0⟩:=Kd.at_int HR0.out x7_2 p54 q54
          cases e54
          replace p54:=eq_true p54
          replace q54:=eq_true q54
          go_wp2
          go_meet
          case rel=>exact ⟨_,(false),zb4,H',⟨by have:=HJ2.out;have:=HK2.out;have:=HJ24.out;first|omega|exact Nat.le_refl _⟩,zb5⟩
         rw [if_pos c36] at H
         have c36b0:=beq_iff_eq.mpr c36
         have c36b1:=bne_eq_false_iff_eq.mpr c36
         clear c36
         have H' := Aside0.mk H
         clear H
         have p54:0 ≤ (x7_2:Int):=of_decide_eq_true zb1
         have q54:x7_2 < (l0.length:Int):=of_decide_eq_true zb1
         obtain ⟨ad54,e54,hx54_0⟩:=Kd.at_int HR0.out x7_2 p54 q54
         cases e54
         replace p54:=eq_true p54
         replace q54:=eq_true q54
         go_wp2
         go_meet
         case rel=>exact ⟨_,(false),zb4,H',⟨by have:=HJ2.out;have:=HK2.out;have:=HJ24.out;first|omega|exact Nat.le_refl _⟩,zb5⟩
        ·rw [if_neg c35] at H
         exact absurd H zb24
       case rest =>
        clear HC33
        try clear c1
        try clear q1
        try clear c2
        try clear p2
        try clear q2
        try clear hcv2
        try clear c3
        try clear p3
        try clear q3
        try clear hx3
        try clear c4
        try clear c4b0
        try clear c5
        try clear c5b0
        try clear c6
        try clear c6b0
        try clear c6b1
        try clear p6
        try clear c8
        try clear c8b0
        try clear c9
        try clear c9b0
        try clear c9b1
        try clear c10
        try clear c10b0
        try clear c10b1
        try clear c11
        try clear c12
        try clear c13
        try clear c13b0
        try clear c14
        try clear c14b0
        try clear c15
        try clear c15b0
        try clear c15b1
        try clear c16
        try clear c17
        try clear c17b0
        try clear c18
        try clear c18b0
        try clear c19
        try clear c19b0
        try clear c19b1
        try clear c20
        try clear c20b0
        try clear c21
        try clear c21b0
        try clear c21b1
        try clear hcv23
        try clear c24
        try clear c24b0
        try clear c26
        try clear c26b0
        try clear c27
        try clear c27b0
        try clear c27b1
        try clear c28
        try clear c28b0
        try clear c28b1
        try clear c30
        try clear c30b0
        try clear c31
        try clear c31b0
        try clear c32
        try clear c34
        try clear c34b0
        try clear c35
        try clear c35b0
        try clear p35
        try clear q35
        try clear hx35
        try clear c36
        try clear c36b0
        try clear c36b1
        try clear p36
        try clear q36
        try clear hx36
        try clear hx46_0
        try clear hx50_0
        try clear hx51_0
        try clear hx47_0
        try clear hx48_0
        try clear hx52_0
        try clear hx55_0
        try clear hx54_0
        try clear p2
        try clear p3
        try clear p46
        try clear p50
        try clear p51
        try clear p47
        try clear p48
        try clear p52
        try clear p55
        try clear p54
        try clear p6
        try clear q1
        try clear q2
        try clear q3
        try clear q46
        try clear q50
        try clear q51
        try clear q47
        try clear q48
        try clear q52
        try clear q55
        try clear q54
        obtain ⟨kq,x53_32,rfl,HA,HJ32,⟨mc32,rfl⟩⟩:=hcut
        cases kq with
        | zero=>exact absurd HA.out (by simp [tollbarref05_Cut.j5])
        | succ kj32 =>
         have H:=HA.out
         clear HA
         simp only [tollbarref05_Cut.j5] at H
         by_cases c37:x53_32=true
         ·subst c37
          rw [if_pos rfl] at H
          simp only [zi,zj] at H
          obtain ⟨rfl,rfl,rfl⟩:=H
          go_wp2
          go_ret3
          exact ⟨zb4,zb5⟩
         replace c37:=Bool.eq_false_iff.mpr c37
         subst c37
         rw [if_neg zf] at H
         by_cases c38:0 ≤ x7_2
         ·rw [if_pos c38] at H
          have c38b0:=decide_eq_true c38
          clear c38
          by_cases c39:x7_2 < (l0.length:Int)
          ·rw [if_pos c39] at H
           have c39b0:=decide_eq_true c39
           clear c39
           by_cases c40:(rd l0 x7_2)=13;rotate_left
           ·rw [if_neg c40] at H
            have c40b0:=beq_eq_false_iff_ne.mpr c40
            have c40b1:=bne_iff_ne.mpr c40
            by_cases c45:x7_2 ≥ x1_2
            ·rw [if_pos c45] at H
             have c45b0:decide (x1_2 ≤ x7_2)=true:=decide_eq_true c45
             clear c45
             simp only [zi,zj] at H
             obtain ⟨rfl,rfl,rfl⟩:=H
             have p49:0 ≤ (x7_2:Int):=of_decide_eq_true zb1
             have q49:x7_2 < (l0.length:Int):=of_decide_eq_true zb1
             obtain ⟨ad49,e49,hx49_0⟩:=Kd.at_int HR0.out x7_2 p49 q49
             cases e49
             replace p49:=eq_true p49
             replace q49:=eq_true q49
             go_wp2
             go_ret3
             exact ⟨zb4,zb5⟩
            rw [if_neg c45] at H
            have c45b0:decide (x1_2 ≤ x7_2)=false:=decide_eq_false c45
            clear c45
            have H' := Aside0.mk H
            clear H
            have p49:0 ≤ (x7_2:Int):=of_decide_eq_true zb1
            have q49:x7_2 < (l0.length:Int):=of_decide_eq_true zb1
            obtain ⟨ad49,e49,hx49_0⟩:=Kd.at_int HR0.out x7_2 p49 q49
            cases e49
            replace p49:=eq_true p49
            replace q49:=eq_true q49
            go_wp2
            go_roundg kj32
            case measure=>have:=HJ2.out;have:=HK2.out;have:=HJ24.out;have:=HJ32.out;omega
            case rel=>exact ⟨(wrap64 (x7_2 + 1)),zb4,H',⟨by have:=HJ2.out;have:=HK2.out;have:=HJ24.out;have:=HJ32.out;omega⟩,zb5⟩
           rw [if_pos c40] at H
           have c40b0:=beq_iff_eq.mpr c40
           have c40b1:=bne_eq_false_iff_eq.mpr c40
           clear c40
           have c41b0:=eq_true (of_decide_eq_true zb1:0 ≤ x7_2)
           by_cases c42:x7_2 ≤ (l0.length:Int)
           ·rw [if_pos c42] at H
            have c42b0:=eq_true c42
            have c42b1:=decide_eq_true c42
            clear c42
            simp only [zi,zj] at H
            obtain ⟨rfl,rfl,rfl⟩:=H
            have p49:0 ≤ (x7_2:Int):=of_decide_eq_true zb1
            have q49:x7_2 < (l0.length:Int):=of_decide_eq_true zb1
            obtain ⟨ad49,e49,hx49_0⟩:=Kd.at_int HR0.out x7_2 p49 q49
            cases e49
            replace p49:=eq_true p49
            replace q49:=eq_true q49
            obtain ⟨i57,hi57,_,hsz43,_⟩:=info_parts info5
            obtain ⟨hcut43,hA43,hC43⟩:=print_take_of (P:=Tryz.prog) (Value.int .u8) 0 22 5 .i64 Tryz.underlying22 hi57 hsz43 (some ad49) c0 l0 x7_2 (of_decide_eq_true zb1) (of_decide_eq_true zb1) HC0.out
            have HR59:=Aside0.mk (Kd.C_of_reads (h1:=fun _=>rfl) (hA43 _ (Kd.reads_of_C HR0.out)))
            have HC59:=Aside0.mk hC43
            clear hA43 hC43 hi57 hsz43
            have hcv44:=Kd.C_string (P:=Tryz.prog) (A:=(some ad49)) (c:=c0) Tryz.underlying22 Tryz.underlying5 Tryz.underlying9 HR59.out
            have hcvd44:=fun (m_:Nat)=>Kd.C_string (P:=Tryz.prog) (A:=(some ad49)) (c:=c0) Tryz.underlying22 Tryz.underlying5 Tryz.underlying9 (Kd.C_drewN HR59.out m_)
            have hlen44:(l0.take (x7_2:Int).toNat).length=(x7_2:Int).toNat:=by have q1_:(x7_2:Int) ≤ (l0.length:Int):=of_decide_eq_true zb1;have q2_:0 ≤ (x7_2:Int):=of_decide_eq_true zb1;rw [List.length_take];omega
            rw [hlen44] at hcv44
            simp only [hlen44] at hcvd44
            clear hlen44
            go_wp2
            go_ret3
            exact ⟨zb4,zb5⟩
           ·rw [if_neg c42] at H
            exact absurd H zb24
          ·rw [if_neg c39] at H
           exact absurd H zb24
         ·rw [if_neg c38] at H
          exact absurd H zb24
mutual
def tollbarref08_Lines.l0:Nat → List Int → List ByteArray → Int → Option (List ByteArray × Int × Int)
 | 0,_,_,_=>none
 | k + 1,x0,x5,x6=>if (x0.length:Int) > 2048 then (tollbarref08_Lines.j1 k x0 x5 x6 2048) else (tollbarref08_Lines.j1 k x0 x5 x6 (x0.length:Int))
def tollbarref08_Lines.j1:Nat → List Int → List ByteArray → Int → Int → Option (List ByteArray × Int × Int)
 | 0,_,_,_,_=>none
 | k + 1,x0,x5,x6,x7=>if 0 ≤ x6 then (if x6 ≤ x7 then (if x7 ≤ (x0.length:Int) then ((tollbarref05_Cut.f k ((x0.take (x7:Int).toNat).drop (x6:Int).toNat) 2048).bind fun bt372=>(if bt372.2.2=20 then (some (x5,0,400)) else (if bt372.2.1=0 then (if (x0.length:Int) ≥ 2048 then (some (x5,0,431)) else (some (x5,0,0))) else (if bt372.1.toList=([]:List UInt8) then (if (x5.length:Int) > 0 then (some (x5,wrap64 (x6 + bt372.2.1),0)) else (if x5.length < 8796093022208 then (tollbarref08_Lines.l0 k x0 (x5 ++ [bt372.1]) (wrap64 (x6 + bt372.2.1))) else (none))) else (if x5.length < 8796093022208 then (tollbarref08_Lines.l0 k x0 (x5 ++ [bt372.1]) (wrap64 (x6 + bt372.2.1))) else (none)))))) else (none)) else (none)) else (none)
end
def tollbarref08_Lines.f (k:Nat) (l0:List Int):Option (List ByteArray × Int × Int):=tollbarref08_Lines.l0 k l0 (([]:List ByteArray)) 0
theorem tollbarref08_Lines.calls (k:Nat) (A0:Option Addr) (c0:Nat) (l0:List Int) (r1:List ByteArray) (r2:Int) (r3:Int) (w:World) (hr0:Kd.C (Kd.int .u8) w A0 l0.length l0) (hc0:l0.length ≤ c0) (h:tollbarref08_Lines.f k l0=some (r1,r2,r3)) :
 Calls Tryz.prog 80 #[.slice A0 l0.length c0] w fun e w' => ∃ v0_:Value,e = .returned (.tuple #[v0_,.int .i64 r2,.int .i64 r3])∧Kd.R Kd.string 9 w' w.heap.size (fun _=>True) v0_ r1∧Below w.heap.size w w' := by
 have HR0:=Aside0.mk hr0
 have HC0:=Aside0.mk hc0
 clear hr0 hc0
 have HB:=zB w
 unfold tollbarref08_Lines.f at h
 have H:=h
 clear h
 obtain ⟨y31,hy31⟩ : ∃ y_:List ByteArray,y_=(([]:List ByteArray)):=⟨_,rfl⟩
 replace H:(tollbarref08_Lines.l0 k l0 y31 0)=some (r1,r2,r3):=by first|(rw [hy31];with_reducible exact H)|(have H2_:=(Option.bind_some _ _).symm.trans H;rw [hy31];with_reducible exact H2_)|(have H2_:=(Option.bind_some _ _).symm.trans H;with_reducible exact H2_)|with_reducible exact H|(rw [hy31];exact H)|exact H
 have Ny31:=Aside0.mk hy31
 clear hy31
 have H' := Aside0.mk H
 clear H
 go_enter Tryz.func80,Tryz.ntmps80
 go_wp2_with (first|((with_reducible refine gate_dst (N:=11) rfl ?_);(try (refine gate_guard zb49 ?_;dsimp only));refine Kd.R_lit Kd.string _ 9 ?hg (N:=11) ?hd (xs:=([]:List ByteArray)) (inner:=[]) (ok:=fun _=>True) (okp:=fun _=>True) ?hr ?hp (fun _ hk=>hk) trivial (Below.refl _ _) (Nat.le_refl _) zb24 ?_;(case hd=>rfl);(case hg=>rfl);(case hr=>first|(go_simp;done)|(go_simp;rfl));(case hp=>exact (Reps.none _ _));intro v45 w2 ho3 hb hg_ hnew_;clear hg_ hnew_;(first|rw [← Ny31.out] at ho3|(simp only [Int.reduceToNat] at ho3;rw [← Ny31.out] at ho3));have HO42:=Aside0.mk (Kd.R_lower ho3 (below_size zb0));replace HB:=Aside0.mk (below_step zb0 hb);clear hb ho3))
 go_loopg [5,6] k (fun kq v5 v6 w' => ∃ (x5_1:List ByteArray) (x6_1:Int),v6 = .int .i64 x6_1∧Aside0 (tollbarref08_Lines.l0 kq l0 x5_1 x6_1=some (r1,r2,r3))∧Aside0 (kq ≤ k)∧Aside0 (Kd.R Kd.string 9 w' w.heap.size (fun _=>True) v5 x5_1)∧Aside0 (Below w.heap.size w w'))
 case atStart=>exact ⟨(y31),(0),zb4,H',⟨Nat.le_refl _⟩,⟨by (with_reducible repeat (first|apply Kd.R_alloc|apply Kd.R_drewN|apply Kd.R_drew));exact HO42.out⟩,⟨zb0⟩⟩
 case round =>
  clear H'
  try clear p2
  obtain ⟨x5_1,x6_1,rfl,HA,HK1,HO_5,HB⟩:=hrel
  cases gk with
  | zero=>exact absurd HA.out (by simp [tollbarref08_Lines.l0])
  | succ k1 =>
   have H:=HA.out
   clear HA
   simp only [tollbarref08_Lines.l0] at H
   have HC4:=Aside0.mk H
   clear H
   go_upto_if 15 with (fail)
   go_cut [7] (fun v7 wc => ∃ (kq:Nat) (x7_3:Int),v7 = .int .i64 x7_3∧Aside0 (tollbarref08_Lines.j1 kq l0 x5_1 x6_1 x7_3=some (r1,r2,r3))∧Aside0 (kq ≤ k1)∧Aside0 (Kd.R Kd.string 9 wc w.heap.size (fun _=>True) u5 x5_1)∧Aside0 (Below w.heap.size w wc))
   case first =>
    have H:=HC4.out
    clear HC4
    by_cases c5:(l0.length:Int) > 2048
    ·rw [if_pos c5] at H
     have c5b0:decide (2048 < (l0.length:Int))=true:=decide_eq_true c5
     have c5b1:decide (2048 < l0.length)=true:=decide_eq_true zb10
     clear c5
     (first|rw [c5b0]|(simp only [i64_w,i32_w];rw [c5b0])|rw [c5b1]|skip)
     have H' := Aside0.mk H
     clear H
     go_wp2
     go_meet
     case rel=>exact ⟨_,(2048),zb4,H',⟨zb70⟩,⟨zb15⟩,⟨zb0⟩⟩
    rw [if_neg c5] at H
    have c5b0:decide (2048 < (l0.length:Int))=false:=decide_eq_false c5
    have c5b1:decide (2048 < l0.length)=false:=decide_eq_false zb10
    clear c5
    (first|rw [c5b0]|(simp only [i64_w,i32_w];rw [c5b0])|rw [c5b1]|skip)
    have H' := Aside0.mk H
    clear H
    go_wp2
    go_meet
    case rel=>exact ⟨_,((l0.length:Int)),zb4,H',⟨zb70⟩,⟨zb15⟩,⟨zb0⟩⟩
   case rest =>
    clear HC4
    try clear p2
    try clear c5
    try clear c5b0
    try clear c5b1
    try clear p2
    obtain ⟨kq,x7_3,rfl,HA,HJ3,HO_5,HB⟩:=hcut
    cases kq with
    | zero=>exact absurd HA.out (by simp [tollbarref08_Lines.j1])
    | succ kj3 =>
     have H:=HA.out
     clear HA
     simp only [tollbarref08_Lines.j1] at H
     by_cases c6:0 ≤ x6_1;rotate_left
     ·rw [if_neg c6] at H
      exact absurd H zb24
     rw [if_pos c6] at H
     have c6b0:=eq_true c6
     have c6b1:=decide_eq_true c6
     clear c6
     by_cases c7:x6_1 ≤ x7_3
     ·rw [if_pos c7] at H
      have c7b0:=eq_true c7
      have c7b1:=decide_eq_true c7
      clear c7
      by_cases c8:x7_3 ≤ (l0.length:Int);rotate_left
      ·rw [if_neg c8] at H
       exact absurd H zb24
      rw [if_pos c8] at H
      have c8b0:=eq_true c8
      have c8b1:=decide_eq_true c8
      clear c8
      replace H:=Option.bind_eq_some_iff.mp H
      obtain ⟨⟨t28,t29,t30⟩,A90,H⟩:=H
      try dsimp only at H
      have A9:=Aside0.mk A90
      clear A90
      by_cases c10:t30=20
      ·rw [if_pos c10] at H
       have c10b0:=beq_iff_eq.mpr c10
       have c10b1:=bne_eq_false_iff_eq.mpr c10
       clear c10
       simp only [zi,zj] at H
       obtain ⟨rfl,rfl,rfl⟩:=H
       obtain ⟨i36,hi36,_,hsz11,_⟩:=info_parts info5
       obtain ⟨A11,hcut11,hA11,hC11⟩:=print_mid_of (P:=Tryz.prog) (Value.int .u8) 0 22 5 .i64 .i64 Tryz.underlying22 hi36 hsz11 A0 c0 l0 x6_1 x7_3 (of_decide_eq_true zb1) zb88 (of_decide_eq_true zb1) HC0.out
       have HR27:=Aside0.mk (Kd.C_of_reads (h1:=fun _=>rfl) (hA11 _ (Kd.reads_of_C HR0.out)))
       have HC27:=Aside0.mk hC11
       clear hA11 hC11 hi36 hsz11
       go_wp2_with (first|((with_reducible refine gate_callee (f:=125) rfl ?_);refine goesL_ (some 21) rfl rfl Tryz.func125 zb7 rfl #[.slice A11 ((l0.take (x7_3:Int).toNat).drop (x6_1:Int).toNat).length (c0 - x6_1.toNat),.int .i64 2048] rfl zb18 ?_;(with_reducible refine (tollbarref05_Cut.calls kj3 _ _ ((l0.take (x7_3:Int).toNat).drop (x6_1:Int).toNat) 2048 t28 t29 t30 _ ?side1 ?side2 A9.out).mono ?_);(case side1=>exact zb54);(case side2=>exact HC27.out);rintro e w' ⟨rfl,⟨nd,rfl⟩⟩;(try clear A9);refine ⟨_,rfl,?_⟩))
       go_ret3
       exact ⟨_,zb3,zb15,zb0⟩
      rw [if_neg c10] at H
      have c10b0:=beq_eq_false_iff_ne.mpr c10
      have c10b1:=bne_iff_ne.mpr c10
      by_cases c12:t29=0
      ·rw [if_pos c12] at H
       have c12b0:=beq_iff_eq.mpr c12
       have c12b1:=bne_eq_false_iff_eq.mpr c12
       clear c12
       by_cases c13:(l0.length:Int) ≥ 2048
       ·rw [if_pos c13] at H
        have c13b0:decide (2048 ≤ (l0.length:Int))=true:=decide_eq_true c13
        have c13b1:decide (2048 ≤ l0.length)=true:=decide_eq_true zb10
        clear c13
        simp only [zi,zj] at H
        obtain ⟨rfl,rfl,rfl⟩:=H
        obtain ⟨i37,hi37,_,hsz14,_⟩:=info_parts info5
        obtain ⟨A14,hcut14,hA14,hC14⟩:=print_mid_of (P:=Tryz.prog) (Value.int .u8) 0 22 5 .i64 .i64 Tryz.underlying22 hi37 hsz14 A0 c0 l0 x6_1 x7_3 (of_decide_eq_true zb1) zb88 (of_decide_eq_true zb1) HC0.out
        have HR27:=Aside0.mk (Kd.C_of_reads (h1:=fun _=>rfl) (hA14 _ (Kd.reads_of_C HR0.out)))
        have HC27:=Aside0.mk hC14
        clear hA14 hC14 hi37 hsz14
        go_wp2_with (first|((with_reducible refine gate_callee (f:=125) rfl ?_);refine goesL_ (some 21) rfl rfl Tryz.func125 zb7 rfl #[.slice A14 ((l0.take (x7_3:Int).toNat).drop (x6_1:Int).toNat).length (c0 - x6_1.toNat),.int .i64 2048] rfl zb18 ?_;(with_reducible refine (tollbarref05_Cut.calls kj3 _ _ ((l0.take (x7_3:Int).toNat).drop (x6_1:Int).toNat) 2048 t28 t29 t30 _ ?side1 ?side2 A9.out).mono ?_);(case side1=>exact zb54);(case side2=>exact HC27.out);rintro e w' ⟨rfl,⟨nd,rfl⟩⟩;(try clear A9);refine ⟨_,rfl,?_⟩))
        go_ret3
        exact ⟨_,zb3,zb15,zb0⟩
       rw [if_neg c13] at H
       have c13b0:decide (2048 ≤ (l0.length:Int))=false:=decide_eq_false c13
       have c13b1:decide (2048 ≤ l0.length)=false:=decide_eq_false zb10
       clear c13
       simp only [zi,zj] at H
       obtain ⟨rfl,rfl,rfl⟩:=H
       obtain ⟨i38,hi38,_,hsz15,_⟩:=info_parts info5
       obtain ⟨A15,hcut15,hA15,hC15⟩:=print_mid_of (P:=Tryz.prog) (Value.int .u8) 0 22 5 .i64 .i64 Tryz.underlying22 hi38 hsz15 A0 c0 l0 x6_1 x7_3 (of_decide_eq_true zb1) zb88 (of_decide_eq_true zb1) HC0.out
       have HR27:=Aside0.mk (Kd.C_of_reads (h1:=fun _=>rfl) (hA15 _ (Kd.reads_of_C HR0.out)))
       have HC27:=Aside0.mk hC15
       clear hA15 hC15 hi38 hsz15
       go_wp2_with (first|((with_reducible refine gate_callee (f:=125) rfl ?_);refine goesL_ (some 21) rfl rfl Tryz.func125 zb7 rfl #[.slice A15 ((l0.take (x7_3:Int).toNat).drop (x6_1:Int).toNat).length (c0 - x6_1.toNat),.int .i64 2048] rfl zb18 ?_;(with_reducible refine (tollbarref05_Cut.calls kj3 _ _ ((l0.take (x7_3:Int).toNat).drop (x6_1:Int).toNat) 2048 t28 t29 t30 _ ?side1 ?side2 A9.out).mono ?_);(case side1=>exact zb54);(case side2=>exact HC27.out);rintro e w' ⟨rfl,⟨nd,rfl⟩⟩;(try clear A9);refine ⟨_,rfl,?_⟩))
       go_ret3
       exact ⟨_,zb3,zb15,zb0⟩
      rw [if_neg c12] at H
      have c12b0:=beq_eq_false_iff_ne.mpr c12
      have c12b1:=bne_iff_ne.mpr c12
      by_cases c16:t28.toList=([]:List UInt8);rotate_left
      ·rw [if_neg c16] at H
       have c16b0:=beq_eq_false_iff_ne.mpr c16
       have c16b1:=bne_iff_ne.mpr c16
       by_cases c24:x5_1.length < 8796093022208;rotate_left
       ·rw [if_neg c24] at H
        exact absurd H zb24
       rw [if_pos c24] at H
       have LMc24:=Aside0.mk c24
       clear c24
       obtain ⟨y35,hy35⟩ : ∃ y_:List ByteArray,y_=(x5_1 ++ [t28]):=⟨_,rfl⟩
       replace H:(tollbarref08_Lines.l0 kj3 l0 y35 (wrap64 (x6_1 + t29)))=some (r1,r2,r3):=by first|(rw [hy35];with_reducible exact H)|(have H2_:=(Option.bind_some _ _).symm.trans H;rw [hy35];with_reducible exact H2_)|(have H2_:=(Option.bind_some _ _).symm.trans H;with_reducible exact H2_)|with_reducible exact H|(rw [hy35];exact H)|exact H
       have Ny35:=Aside0.mk hy35
       clear hy35
       have H' := Aside0.mk H
       clear H
       obtain ⟨i41,hi41,_,hsz25,_⟩:=info_parts info5
       obtain ⟨A25,hcut25,hA25,hC25⟩:=print_mid_of (P:=Tryz.prog) (Value.int .u8) 0 22 5 .i64 .i64 Tryz.underlying22 hi41 hsz25 A0 c0 l0 x6_1 x7_3 (of_decide_eq_true zb1) zb88 (of_decide_eq_true zb1) HC0.out
       have HR27:=Aside0.mk (Kd.C_of_reads (h1:=fun _=>rfl) (hA25 _ (Kd.reads_of_C HR0.out)))
       have HC27:=Aside0.mk hC25
       clear hA25 hC25 hi41 hsz25
       go_wp2_with (first|((with_reducible refine gate_callee (f:=125) rfl ?_);refine goesL_ (some 21) rfl rfl Tryz.func125 zb7 rfl #[.slice A25 ((l0.take (x7_3:Int).toNat).drop (x6_1:Int).toNat).length (c0 - x6_1.toNat),.int .i64 2048] rfl zb18 ?_;(with_reducible refine (tollbarref05_Cut.calls kj3 _ _ ((l0.take (x7_3:Int).toNat).drop (x6_1:Int).toNat) 2048 t28 t29 t30 _ ?side1 ?side2 A9.out).mono ?_);(case side1=>exact zb54);(case side2=>exact HC27.out);rintro e w' ⟨rfl,⟨nd,rfl⟩⟩;(try clear A9);refine ⟨_,rfl,?_⟩)|((with_reducible refine gate_builtin (b:=.append) (xs:=#[.tmp 47,.tmp 49]) rfl ?_);(try (refine gate_guard zb49 ?_;dsimp only));at_builtin;refine Kd.R_append Kd.string (w0:=w) w.heap.size rfl (.tmp 47) (.tmp 49) 34 9 (.string ⟨#[]⟩) 16 rfl Tryz.underlying34 info9 rfl zb78 zb10 u5 x5_1 t28 [.string t28] (fun _=>True) (fun _=>False) rfl rfl ?aP (fun _ hk=>hk.elim) ?aF ?aO ?aB ?aS ?aL ?_;(case aP=>exact rfl);(case aB=>exact zb23);(case aF=>exact (fun _ _=>trivial));(case aO=>exact zb66);(case aS=>exact zb20);(case aL=>have:=LMc24.out;omega);intro v47 w26 ho hb hg hat;rw [← Ny35.out] at ho;replace HB:=Aside0.mk (hb);have HO44:=Aside0.mk (ho);clear ho hb hg hat))
       go_roundg kj3
       case measure=>have:=HK1.out;have:=HJ3.out;omega
       case rel=>exact ⟨(y35),(wrap64 (x6_1 + t29)),zb4,H',⟨by have:=HK1.out;have:=HJ3.out;omega⟩,⟨zb67⟩,⟨zb0⟩⟩
      rw [if_pos c16] at H
      have c16b0:=beq_iff_eq.mpr c16
      have c16b1:=bne_eq_false_iff_eq.mpr c16
      clear c16
      by_cases c17:(x5_1.length:Int) > 0
      ·rw [if_pos c17] at H
       have c17b0:decide (0 < (x5_1.length:Int))=true:=decide_eq_true c17
       have c17b1:decide (0 < x5_1.length)=true:=decide_eq_true zb10
       clear c17
       simp only [zi,zj] at H
       obtain ⟨rfl,rfl,rfl⟩:=H
       obtain ⟨i39,hi39,_,hsz18,_⟩:=info_parts info5
       obtain ⟨A18,hcut18,hA18,hC18⟩:=print_mid_of (P:=Tryz.prog) (Value.int .u8) 0 22 5 .i64 .i64 Tryz.underlying22 hi39 hsz18 A0 c0 l0 x6_1 x7_3 (of_decide_eq_true zb1) zb88 (of_decide_eq_true zb1) HC0.out
       have HR27:=Aside0.mk (Kd.C_of_reads (h1:=fun _=>rfl) (hA18 _ (Kd.reads_of_C HR0.out)))
       have HC27:=Aside0.mk hC18
       clear hA18 hC18 hi39 hsz18
       go_wp2_with (first|((with_reducible refine gate_callee (f:=125) rfl ?_);refine goesL_ (some 21) rfl rfl Tryz.func125 zb7 rfl #[.slice A18 ((l0.take (x7_3:Int).toNat).drop (x6_1:Int).toNat).length (c0 - x6_1.toNat),.int .i64 2048] rfl zb18 ?_;(with_reducible refine (tollbarref05_Cut.calls kj3 _ _ ((l0.take (x7_3:Int).toNat).drop (x6_1:Int).toNat) 2048 t28 t29 t30 _ ?side1 ?side2 A9.out).mono ?_);(case side1=>exact zb54);(case side2=>exact HC27.out);rintro e w' ⟨rfl,⟨nd,rfl⟩⟩;(try clear A9);refine ⟨_,rfl,?_⟩;obtain ⟨Ao19,co19,eo19⟩:=Kd.R_slice HO_5.out;subst eo19))
       go_ret3
       exact ⟨_,zb3,zb15,zb0⟩
      rw [if_neg c17] at H
      have c17b0:decide (0 < (x5_1.length:Int))=false:=decide_eq_false c17
      have c17b1:decide (0 < x5_1.length)=false:=decide_eq_false zb10
      clear c17
      by_cases c20:x5_1.length < 8796093022208
      ·rw [if_pos c20] at H
       have LMc20:=Aside0.mk c20
       clear c20
       obtain ⟨y33,hy33⟩ : ∃ y_:List ByteArray,y_=(x5_1 ++ [t28]):=⟨_,rfl⟩
       replace H:(tollbarref08_Lines.l0 kj3 l0 y33 (wrap64 (x6_1 + t29)))=some (r1,r2,r3):=by first|(rw [hy33];with_reducible exact H)|(have H2_:=(Option.bind_some _ _).symm.trans H;rw [hy33];with_reducible exact H2_)|(have H2_:=(Option.bind_some _ _).symm.trans H;with_reducible exact H2_)|with_reducible exact H|(rw [hy33];exact H)|exact H
       have Ny33:=Aside0.mk hy33
       clear hy33
       have H' := Aside0.mk H
       clear H
       obtain ⟨i40,hi40,_,hsz21,_⟩:=info_parts info5
       obtain ⟨A21,hcut21,hA21,hC21⟩:=print_mid_of (P:=Tryz.prog) (Value.int .u8) 0 22 5 .i64 .i64 Tryz.underlying22 hi40 hsz21 A0 c0 l0 x6_1 x7_3 (of_decide_eq_true zb1) zb88 (of_decide_eq_true zb1) HC0.out
       have HR27:=Aside0.mk (Kd.C_of_reads (h1:=fun _=>rfl) (hA21 _ (Kd.reads_of_C HR0.out)))
       have HC27:=Aside0.mk hC21
       clear hA21 hC21 hi40 hsz21
       go_wp2_with (first|((with_reducible refine gate_callee (f:=125) rfl ?_);refine goesL_ (some 21) rfl rfl Tryz.func125 zb7 rfl #[.slice A21 ((l0.take (x7_3:Int).toNat).drop (x6_1:Int).toNat).length (c0 - x6_1.toNat),.int .i64 2048] rfl zb18 ?_;(with_reducible refine (tollbarref05_Cut.calls kj3 _ _ ((l0.take (x7_3:Int).toNat).drop (x6_1:Int).toNat) 2048 t28 t29 t30 _ ?side1 ?side2 A9.out).mono ?_);(case side1=>exact zb54);(case side2=>exact HC27.out);rintro e w' ⟨rfl,⟨nd,rfl⟩⟩;(try clear A9);refine ⟨_,rfl,?_⟩;obtain ⟨Ao22,co22,eo22⟩:=Kd.R_slice HO_5.out;subst eo22)|((with_reducible refine gate_builtin (b:=.append) (xs:=#[.tmp 47,.tmp 49]) rfl ?_);(try (refine gate_guard zb49 ?_;dsimp only));at_builtin;refine Kd.R_append Kd.string (w0:=w) w.heap.size rfl (.tmp 47) (.tmp 49) 34 9 (.string ⟨#[]⟩) 16 rfl Tryz.underlying34 info9 rfl zb78 zb10 (.slice Ao22 x5_1.length co22) x5_1 t28 [.string t28] (fun _=>True) (fun _=>False) rfl rfl ?aP (fun _ hk=>hk.elim) ?aF ?aO ?aB ?aS ?aL ?_;(case aP=>exact rfl);(case aB=>exact zb23);(case aF=>exact (fun _ _=>trivial));(case aO=>exact zb66);(case aS=>exact zb20);(case aL=>have:=LMc20.out;omega);intro v46 w23 ho hb hg hat;rw [← Ny33.out] at ho;replace HB:=Aside0.mk (hb);have HO43:=Aside0.mk (ho);clear ho hb hg hat))
       go_roundg kj3
       case measure=>have:=HK1.out;have:=HJ3.out;omega
       case rel=>exact ⟨(y33),(wrap64 (x6_1 + t29)),zb4,H',⟨by have:=HK1.out;have:=HJ3.out;omega⟩,⟨by (with_reducible repeat (first|apply Kd.R_alloc|apply Kd.R_drewN|apply Kd.R_drew));exact HO43.out⟩,⟨zb0⟩⟩
      ·rw [if_neg c20] at H
       exact absurd H zb24
     ·rw [if_neg c7] at H
      exact absurd H zb24
def tollbarref02_Value.l0:Nat → ByteArray → Int → Option (Bool)
 | 0,_,_=>none
 | k + 1,x0,x3=>if x3 < (x0.size:Int) then (if 0 ≤ x3 then (if (bt x0 x3) < 32 then (if (bt x0 x3)=9 then (if (bt x0 x3)=127 then (some false) else (tollbarref02_Value.l0 k x0 (wrap64 (x3 + 1)))) else (some false)) else (if (bt x0 x3)=127 then (some false) else (tollbarref02_Value.l0 k x0 (wrap64 (x3 + 1))))) else (none)) else (some true)
def tollbarref02_Value.f (k:Nat) (a0:ByteArray):Option (Bool):=tollbarref02_Value.l0 k a0 0
theorem tollbarref02_Value.calls (k:Nat) (a0:ByteArray) (r:Bool) (w:World) (h:tollbarref02_Value.f k a0=some r) :
 Calls Tryz.prog 171 #[.string a0] w fun e w' => e = .returned (.bool r)∧Drawn0 w w' := by
 unfold tollbarref02_Value.f at h
 have H:=h
 clear h
 have H' := Aside0.mk H
 clear H
 go_enter Tryz.func171,Tryz.ntmps171
 go_wp2
 go_loopg [3] k (fun kq v3 w' => ∃ (x3_1:Int),v3 = .int .i64 x3_1∧Aside0 (tollbarref02_Value.l0 kq a0 x3_1=some r)∧Aside0 (kq ≤ k)∧Drawn0 w w')
 case atStart=>exact ⟨(0),zb4,H',⟨Nat.le_refl _⟩,zb5⟩
 case round =>
  clear H'
  try clear c1
  obtain ⟨x3_1,rfl,HA,HK1,⟨m1,rfl⟩⟩:=hrel
  cases gk with
  | zero=>exact absurd HA.out (by simp [tollbarref02_Value.l0])
  | succ k1 =>
   have H:=HA.out
   clear HA
   simp only [tollbarref02_Value.l0] at H
   by_cases c2:x3_1 < (a0.size:Int);rotate_left
   ·rw [if_neg c2] at H
    have c2b0:=decide_eq_false c2
    clear c2
    obtain rfl:=Option.some.inj H
    go_wp2
    go_ret
    exact ⟨zb4,zb5⟩
   rw [if_pos c2] at H
   have c2b0:=decide_eq_true c2
   clear c2
   by_cases c3:0 ≤ x3_1
   ·rw [if_pos c3] at H
    have c3b0:=decide_eq_true c3
    clear c3
    by_cases c5:(bt a0 x3_1) < 32;rotate_left
    ·rw [if_neg c5] at H
     have c5b0:=decide_eq_false c5
     clear c5
     by_cases c11:(bt a0 x3_1)=127
     ·rw [if_pos c11] at H
      have c11b0:=beq_iff_eq.mpr c11
      have c11b1:=bne_eq_false_iff_eq.mpr c11
      clear c11
      obtain rfl:=Option.some.inj H
      have p4:0 ≤ (x3_1:Int):=of_decide_eq_true zb1
      have q4:x3_1 < (a0.size:Int):=of_decide_eq_true zb1
      have hx4:=bt_at a0 x3_1
      replace p4:=eq_true p4
      replace q4:=eq_true q4
      have p10:0 ≤ (x3_1:Int):=of_decide_eq_true zb1
      have q10:x3_1 < (a0.size:Int):=of_decide_eq_true zb1
      have hx10:=bt_at a0 x3_1
      replace p10:=eq_true p10
      replace q10:=eq_true q10
      go_wp2
      go_ret
      exact ⟨zb4,zb5⟩
     rw [if_neg c11] at H
     have c11b0:=beq_eq_false_iff_ne.mpr c11
     have c11b1:=bne_iff_ne.mpr c11
     have H' := Aside0.mk H
     clear H
     have p4:0 ≤ (x3_1:Int):=of_decide_eq_true zb1
     have q4:x3_1 < (a0.size:Int):=of_decide_eq_true zb1
     have hx4:=bt_at a0 x3_1
     replace p4:=eq_true p4
     replace q4:=eq_true q4
     have p10:0 ≤ (x3_1:Int):=of_decide_eq_true zb1
     have q10:x3_1 < (a0.size:Int):=of_decide_eq_true zb1
     have hx10:=bt_at a0 x3_1
     replace p10:=eq_true p10
     replace q10:=eq_true q10
     go_wp2
     go_roundg k1
     case measure=>have:=HK1.out;omega
     case rel=>exact ⟨(wrap64 (x3_1 + 1)),zb4,H',⟨zb80⟩,zb5⟩
    rw [if_pos c5] at H
    have c5b0:=decide_eq_true c5
    clear c5
    by_cases c7:(bt a0 x3_1)=9
    ·rw [if_pos c7] at H
     have c7b0:=beq_iff_eq.mpr c7
     have c7b1:=bne_eq_false_iff_eq.mpr c7
     clear c7
     by_cases c9:(bt a0 x3_1)=127
     ·rw [if_pos c9] at H
      have c9b0:=beq_iff_eq.mpr c9
      have c9b1:=bne_eq_false_iff_eq.mpr c9
      clear c9
      obtain rfl:=Option.some.inj H
      have p4:0 ≤ (x3_1:Int):=of_decide_eq_true zb1
      have q4:x3_1 < (a0.size:Int):=of_decide_eq_true zb1
      have hx4:=bt_at a0 x3_1
      replace p4:=eq_true p4
      replace q4:=eq_true q4
      have p6:0 ≤ (x3_1:Int):=of_decide_eq_true zb1
      have q6:x3_1 < (a0.size:Int):=of_decide_eq_true zb1
      have hx6:=bt_at a0 x3_1
      replace p6:=eq_true p6
      replace q6:=eq_true q6
      have p8:0 ≤ (x3_1:Int):=of_decide_eq_true zb1
      have q8:x3_1 < (a0.size:Int):=of_decide_eq_true zb1
      have hx8:=bt_at a0 x3_1
      replace p8:=eq_true p8
      replace q8:=eq_true q8
      go_wp2
      go_ret
      exact ⟨zb4,zb5⟩
     ·rw [if_neg c9] at H
      have c9b0:=beq_eq_false_iff_ne.mpr c9
      have c9b1:=bne_iff_ne.mpr c9
      have H' := Aside0.mk H
      clear H
      have p4:0 ≤ (x3_1:Int):=of_decide_eq_true zb1
      have q4:x3_1 < (a0.size:Int):=of_decide_eq_true zb1
      have hx4:=bt_at a0 x3_1
      replace p4:=eq_true p4
      replace q4:=eq_true q4
      have p6:0 ≤ (x3_1:Int):=of_decide_eq_true zb1
      have q6:x3_1 < (a0.size:Int):=of_decide_eq_true zb1
      have hx6:=bt_at a0 x3_1
      replace p6:=eq_true p6
      replace q6:=eq_true q6
      have p8:0 ≤ (x3_1:Int):=of_decide_eq_true zb1
      have q8:x3_1 < (a0.size:Int):=of_decide_eq_true zb1
      have hx8:=bt_at a0 x3_1
      replace p8:=eq_true p8
      replace q8:=eq_true q8
      go_wp2
      go_roundg k1
      case measure=>have:=HK1.out;omega
      case rel=>exact ⟨(wrap64 (x3_1 + 1)),zb4,H',⟨zb80⟩,zb5⟩
    ·rw [if_neg c7] at H
     have c7b0:=beq_eq_false_iff_ne.mpr c7
     have c7b1:=bne_iff_ne.mpr c7
     obtain rfl:=Option.some.inj H
     have p4:0 ≤ (x3_1:Int):=of_decide_eq_true zb1
     have q4:x3_1 < (a0.size:Int):=of_decide_eq_true zb1
     have hx4:=bt_at a0 x3_1
     replace p4:=eq_true p4
     replace q4:=eq_true q4
     have p6:0 ≤ (x3_1:Int):=of_decide_eq_true zb1
     have q6:x3_1 < (a0.size:Int):=of_decide_eq_true zb1
     have hx6:=bt_at a0 x3_1
     replace p6:=eq_true p6
     replace q6:=eq_true q6
     go_wp2
     go_ret
     exact ⟨zb4,zb5⟩
   ·rw [if_neg c3] at H
    exact absurd H zb24
def tollbarref04_One.f (k:Nat) (a0_0:ByteArray) (a0_1:ByteArray):Option (Bool):=(tollbarref02_Token.f k a0_0).bind fun t417=>(if t417=true then (if (a0_0.size:Int) ≤ 100 then ((tollbarref02_Value.f k a0_1).bind fun t418=>(if t418=true then ((tollbarref02_Trim.f k a0_1).bind fun t419=>(if t419.toList=a0_1.toList then (some (decide ((a0_1.size:Int) ≤ 1000))) else (some false))) else (some false))) else (some false)) else (some false))
theorem tollbarref04_One.calls (k:Nat) (a0_0:ByteArray) (a0_1:ByteArray) (r:Bool) (w:World) (h:tollbarref04_One.f k a0_0 a0_1=some r) :
 Calls Tryz.prog 169 #[.agg #[.string a0_0,.string a0_1]] w fun e w' => e = .returned (.bool r)∧Below w.heap.size w w' := by
 have hu36:=Tryz.underlying36
 have HB:=zB w
 unfold tollbarref04_One.f at h
 have H:=h
 clear h
 replace H:=Option.bind_eq_some_iff.mp H
 obtain ⟨t23,A20,H⟩:=H
 try dsimp only at H
 have A2:=Aside0.mk A20
 clear A20
 by_cases c3:t23=true;rotate_left
 ·replace c3:=Bool.eq_false_iff.mpr c3
  subst c3
  rw [if_neg zf] at H
  obtain rfl:=Option.some.inj H
  go_enter Tryz.func169,Tryz.ntmps169
  go_wp2_with (first|((with_reducible refine gate_dst (N:=1) rfl ?_);(try (refine gate_guard zb49 ?_;dsimp only));refine box_event rfl (N:=1) rfl (cs:=#[.string a0_0,.string a0_1]) (t:=36) zS ?_;intro gb19 hg w17 hbox hb;have GW19:=zG hg zb0;have GE19:=GW19;have BK19:=Aside0.mk hbox;replace HB:=Aside0.mk (below_step zb0 hb);clear hb hbox hg;obtain ⟨hcz18_0,hcz18_1,hfz18_0,hfz18_1⟩:=zq2 BK19.out)|(go_at_call 127;(with_reducible refine (tollbarref02_Token.calls k a0_0 false _ A2.out).mono ?_);rintro e w' ⟨rfl,⟨nd,rfl⟩⟩;(try clear A2);(try first|exact ⟨rfl,_,World.drewN_drewN _ _ _⟩|exact ⟨rfl,_,Eq.trans (World.drewN_drewN _ _ _) (congrArg (World.drewN _) (Nat.add_assoc _ _ _))⟩)))
  repeat (go_quiet (first|((with_reducible refine gate_dst (N:=1) rfl ?_);(try (refine gate_guard zb49 ?_;dsimp only));refine box_event rfl (N:=1) rfl (cs:=#[.string a0_0,.string a0_1]) (t:=36) zS ?_;intro gb19 hg w17 hbox hb;have GW19:=zG hg zb0;have GE19:=GW19;have BK19:=Aside0.mk hbox;replace HB:=Aside0.mk (below_step zb0 hb);clear hb hbox hg;obtain ⟨hcz18_0,hcz18_1,hfz18_0,hfz18_1⟩:=zq2 BK19.out)|(go_at_call 127;(with_reducible refine (tollbarref02_Token.calls k a0_0 false _ A2.out).mono ?_);rintro e w' ⟨rfl,⟨nd,rfl⟩⟩;(try clear A2);(try first|exact ⟨rfl,_,World.drewN_drewN _ _ _⟩|exact ⟨rfl,_,Eq.trans (World.drewN_drewN _ _ _) (congrArg (World.drewN _) (Nat.add_assoc _ _ _))⟩)));try go_wp2_with (first|((with_reducible refine gate_dst (N:=1) rfl ?_);(try (refine gate_guard zb49 ?_;dsimp only));refine box_event rfl (N:=1) rfl (cs:=#[.string a0_0,.string a0_1]) (t:=36) zS ?_;intro gb19 hg w17 hbox hb;have GW19:=zG hg zb0;have GE19:=GW19;have BK19:=Aside0.mk hbox;replace HB:=Aside0.mk (below_step zb0 hb);clear hb hbox hg;obtain ⟨hcz18_0,hcz18_1,hfz18_0,hfz18_1⟩:=zq2 BK19.out)|(go_at_call 127;(with_reducible refine (tollbarref02_Token.calls k a0_0 false _ A2.out).mono ?_);rintro e w' ⟨rfl,⟨nd,rfl⟩⟩;(try clear A2);(try first|exact ⟨rfl,_,World.drewN_drewN _ _ _⟩|exact ⟨rfl,_,Eq.trans (World.drewN_drewN _ _ _) (congrArg (World.drewN _) (Nat.add_assoc _ _ _))⟩))))
  go_ret
  exact ⟨zb3,zb71⟩
 subst c3
 rw [if_pos rfl] at H
 by_cases c4:(a0_0.size:Int) ≤ 100;rotate_left
 ·rw [if_neg c4] at H
  have c4b0:=decide_eq_false c4
  have c4b1:decide (a0_0.size ≤ 100)=false:=decide_eq_false zb10
  clear c4
  obtain rfl:=Option.some.inj H
  go_enter Tryz.func169,Tryz.ntmps169
  go_wp2_with (first|((with_reducible refine gate_dst (N:=1) rfl ?_);(try (refine gate_guard zb49 ?_;dsimp only));refine box_event rfl (N:=1) rfl (cs:=#[.string a0_0,.string a0_1]) (t:=36) zS ?_;intro gb19 hg w15 hbox hb;have GW19:=zG hg zb0;have GE19:=GW19;have BK19:=Aside0.mk hbox;replace HB:=Aside0.mk (below_step zb0 hb);clear hb hbox hg;obtain ⟨hcz16_0,hcz16_1,hfz16_0,hfz16_1⟩:=zq2 BK19.out)|(go_at_call 127;(with_reducible refine (tollbarref02_Token.calls k a0_0 true _ A2.out).mono ?_);rintro e w' ⟨rfl,⟨nd,rfl⟩⟩;(try clear A2);(try first|exact ⟨rfl,_,World.drewN_drewN _ _ _⟩|exact ⟨rfl,_,Eq.trans (World.drewN_drewN _ _ _) (congrArg (World.drewN _) (Nat.add_assoc _ _ _))⟩)))
  repeat (go_quiet (first|((with_reducible refine gate_dst (N:=1) rfl ?_);(try (refine gate_guard zb49 ?_;dsimp only));refine box_event rfl (N:=1) rfl (cs:=#[.string a0_0,.string a0_1]) (t:=36) zS ?_;intro gb19 hg w15 hbox hb;have GW19:=zG hg zb0;have GE19:=GW19;have BK19:=Aside0.mk hbox;replace HB:=Aside0.mk (below_step zb0 hb);clear hb hbox hg;obtain ⟨hcz16_0,hcz16_1,hfz16_0,hfz16_1⟩:=zq2 BK19.out)|(go_at_call 127;(with_reducible refine (tollbarref02_Token.calls k a0_0 true _ A2.out).mono ?_);rintro e w' ⟨rfl,⟨nd,rfl⟩⟩;(try clear A2);(try first|exact ⟨rfl,_,World.drewN_drewN _ _ _⟩|exact ⟨rfl,_,Eq.trans (World.drewN_drewN _ _ _) (congrArg (World.drewN _) (Nat.add_assoc _ _ _))⟩)));try go_wp2_with (first|((with_reducible refine gate_dst (N:=1) rfl ?_);(try (refine gate_guard zb49 ?_;dsimp only));refine box_event rfl (N:=1) rfl (cs:=#[.string a0_0,.string a0_1]) (t:=36) zS ?_;intro gb19 hg w15 hbox hb;have GW19:=zG hg zb0;have GE19:=GW19;have BK19:=Aside0.mk hbox;replace HB:=Aside0.mk (below_step zb0 hb);clear hb hbox hg;obtain ⟨hcz16_0,hcz16_1,hfz16_0,hfz16_1⟩:=zq2 BK19.out)|(go_at_call 127;(with_reducible refine (tollbarref02_Token.calls k a0_0 true _ A2.out).mono ?_);rintro e w' ⟨rfl,⟨nd,rfl⟩⟩;(try clear A2);(try first|exact ⟨rfl,_,World.drewN_drewN _ _ _⟩|exact ⟨rfl,_,Eq.trans (World.drewN_drewN _ _ _) (congrArg (World.drewN _) (Nat.add_assoc _ _ _))⟩))))
  go_ret
  exact ⟨zb3,zb71⟩
 rw [if_pos c4] at H
 have c4b0:=decide_eq_true c4
 have c4b1:decide (a0_0.size ≤ 100)=true:=decide_eq_true zb10
 clear c4
 replace H:=Option.bind_eq_some_iff.mp H
 obtain ⟨t22,A50,H⟩:=H
 try dsimp only at H
 have A5:=Aside0.mk A50
 clear A50
 by_cases c6:t22=true
 ·subst c6
  rw [if_pos rfl] at H
  replace H:=Option.bind_eq_some_iff.mp H
  obtain ⟨t21,A70,H⟩:=H
  try dsimp only at H
  have A7:=Aside0.mk A70
  clear A70
  by_cases c8:t21.toList=a0_1.toList;rotate_left
  ·rw [if_neg c8] at H
   have c8b0:=beq_eq_false_iff_ne.mpr c8
   have c8b1:=bne_iff_ne.mpr c8
   obtain rfl:=Option.some.inj H
   go_enter Tryz.func169,Tryz.ntmps169
   go_wp2_with (first|((with_reducible refine gate_dst (N:=1) rfl ?_);(try (refine gate_guard zb49 ?_;dsimp only));refine box_event rfl (N:=1) rfl (cs:=#[.string a0_0,.string a0_1]) (t:=36) zS ?_;intro gb19 hg w11 hbox hb;have GW19:=zG hg zb0;have GE19:=GW19;have BK19:=Aside0.mk hbox;replace HB:=Aside0.mk (below_step zb0 hb);clear hb hbox hg;obtain ⟨hcz12_0,hcz12_1,hfz12_0,hfz12_1⟩:=zq2 BK19.out)|(go_at_call 127;(with_reducible refine (tollbarref02_Token.calls k a0_0 true _ A2.out).mono ?_);rintro e w' ⟨rfl,⟨nd,rfl⟩⟩;(try clear A2);(try first|exact ⟨rfl,_,World.drewN_drewN _ _ _⟩|exact ⟨rfl,_,Eq.trans (World.drewN_drewN _ _ _) (congrArg (World.drewN _) (Nat.add_assoc _ _ _))⟩))|(go_at_call 171;(with_reducible refine (tollbarref02_Value.calls k a0_1 true _ A5.out).mono ?_);rintro e w' ⟨rfl,⟨nd,rfl⟩⟩;(try clear A5);(try first|exact ⟨rfl,_,World.drewN_drewN _ _ _⟩|exact ⟨rfl,_,Eq.trans (World.drewN_drewN _ _ _) (congrArg (World.drewN _) (Nat.add_assoc _ _ _))⟩))|(go_at_call 106;(with_reducible refine (tollbarref02_Trim.calls k a0_1 t21 _ A7.out).mono ?_);rintro e w' ⟨rfl,⟨nd,rfl⟩⟩;(try clear A7);(try first|exact ⟨rfl,_,World.drewN_drewN _ _ _⟩|exact ⟨rfl,_,Eq.trans (World.drewN_drewN _ _ _) (congrArg (World.drewN _) (Nat.add_assoc _ _ _))⟩)))
   repeat (go_quiet (first|((with_reducible refine gate_dst (N:=1) rfl ?_);(try (refine gate_guard zb49 ?_;dsimp only));refine box_event rfl (N:=1) rfl (cs:=#[.string a0_0,.string a0_1]) (t:=36) zS ?_;intro gb19 hg w11 hbox hb;have GW19:=zG hg zb0;have GE19:=GW19;have BK19:=Aside0.mk hbox;replace HB:=Aside0.mk (below_step zb0 hb);clear hb hbox hg;obtain ⟨hcz12_0,hcz12_1,hfz12_0,hfz12_1⟩:=zq2 BK19.out)|(go_at_call 127;(with_reducible refine (tollbarref02_Token.calls k a0_0 true _ A2.out).mono ?_);rintro e w' ⟨rfl,⟨nd,rfl⟩⟩;(try clear A2);(try first|exact ⟨rfl,_,World.drewN_drewN _ _ _⟩|exact ⟨rfl,_,Eq.trans (World.drewN_drewN _ _ _) (congrArg (World.drewN _) (Nat.add_assoc _ _ _))⟩))|(go_at_call 171;(with_reducible refine (tollbarref02_Value.calls k a0_1 true _ A5.out).mono ?_);rintro e w' ⟨rfl,⟨nd,rfl⟩⟩;(try clear A5);(try first|exact ⟨rfl,_,World.drewN_drewN _ _ _⟩|exact ⟨rfl,_,Eq.trans (World.drewN_drewN _ _ _) (congrArg (World.drewN _) (Nat.add_assoc _ _ _))⟩))|(go_at_call 106;(with_reducible refine (tollbarref02_Trim.calls k a0_1 t21 _ A7.out).mono ?_);rintro e w' ⟨rfl,⟨nd,rfl⟩⟩;(try clear A7);(try first|exact ⟨rfl,_,World.drewN_drewN _ _ _⟩|exact ⟨rfl,_,Eq.trans (World.drewN_drewN _ _ _) (congrArg (World.drewN _) (Nat.add_assoc _ _ _))⟩)));try go_wp2_with (first|((with_reducible refine gate_dst (N:=1) rfl ?_);(try (refine gate_guard zb49 ?_;dsimp only));refine box_event rfl (N:=1) rfl (cs:=#[.string a0_0,.string a0_1]) (t:=36) zS ?_;intro gb19 hg w11 hbox hb;have GW19:=zG hg zb0;have GE19:=GW19;have BK19:=Aside0.mk hbox;replace HB:=Aside0.mk (below_step zb0 hb);clear hb hbox hg;obtain ⟨hcz12_0,hcz12_1,hfz12_0,hfz12_1⟩:=zq2 BK19.out)|(go_at_call 127;(with_reducible refine (tollbarref02_Token.calls k a0_0 true _ A2.out).mono ?_);rintro e w' ⟨rfl,⟨nd,rfl⟩⟩;(try clear A2);(try first|exact ⟨rfl,_,World.drewN_drewN _ _ _⟩|exact ⟨rfl,_,Eq.trans (World.drewN_drewN _ _ _) (congrArg (World.drewN _) (Nat.add_assoc _ _ _))⟩))|(go_at_call 171;(with_reducible refine (tollbarref02_Value.calls k a0_1 true _ A5.out).mono ?_);rintro e w' ⟨rfl,⟨nd,rfl⟩⟩;(try clear A5);(try first|exact ⟨rfl,_,World.drewN_drewN _ _ _⟩|exact ⟨rfl,_,Eq.trans (World.drewN_drewN _ _ _) (congrArg (World.drewN _) (Nat.add_assoc _ _ _))⟩))|(go_at_call 106;(with_reducible refine (tollbarref02_Trim.calls k a0_1 t21 _ A7.out).mono ?_);rintro e w' ⟨rfl,⟨nd,rfl⟩⟩;(try clear A7);(try first|exact ⟨rfl,_,World.drewN_drewN _ _ _⟩|exact ⟨rfl,_,Eq.trans (World.drewN_drewN _ _ _) (congrArg (World.drewN _) (Nat.add_assoc _ _ _))⟩))))
   go_ret
   exact ⟨zb3,zb71⟩
  rw [if_pos c8] at H
  have c8b0:=beq_iff_eq.mpr c8
  have c8b1:=bne_eq_false_iff_eq.mpr c8
  clear c8
  obtain rfl:=Option.some.inj H
  go_enter Tryz.func169,Tryz.ntmps169
  go_wp2_with (first|((with_reducible refine gate_dst (N:=1) rfl ?_);(try (refine gate_guard zb49 ?_;dsimp only));refine box_event rfl (N:=1) rfl (cs:=#[.string a0_0,.string a0_1]) (t:=36) zS ?_;intro gb19 hg w9 hbox hb;have GW19:=zG hg zb0;have GE19:=GW19;have BK19:=Aside0.mk hbox;replace HB:=Aside0.mk (below_step zb0 hb);clear hb hbox hg;obtain ⟨hcz10_0,hcz10_1,hfz10_0,hfz10_1⟩:=zq2 BK19.out)|(go_at_call 127;(with_reducible refine (tollbarref02_Token.calls k a0_0 true _ A2.out).mono ?_);rintro e w' ⟨rfl,⟨nd,rfl⟩⟩;(try clear A2);(try first|exact ⟨rfl,_,World.drewN_drewN _ _ _⟩|exact ⟨rfl,_,Eq.trans (World.drewN_drewN _ _ _) (congrArg (World.drewN _) (Nat.add_assoc _ _ _))⟩))|(go_at_call 171;(with_reducible refine (tollbarref02_Value.calls k a0_1 true _ A5.out).mono ?_);rintro e w' ⟨rfl,⟨nd,rfl⟩⟩;(try clear A5);(try first|exact ⟨rfl,_,World.drewN_drewN _ _ _⟩|exact ⟨rfl,_,Eq.trans (World.drewN_drewN _ _ _) (congrArg (World.drewN _) (Nat.add_assoc _ _ _))⟩))|(go_at_call 106;(with_reducible refine (tollbarref02_Trim.calls k a0_1 t21 _ A7.out).mono ?_);rintro e w' ⟨rfl,⟨nd,rfl⟩⟩;(try clear A7);(try first|exact ⟨rfl,_,World.drewN_drewN _ _ _⟩|exact ⟨rfl,_,Eq.trans (World.drewN_drewN _ _ _) (congrArg (World.drewN _) (Nat.add_assoc _ _ _))⟩)))
  repeat (go_quiet (first|((with_reducible refine gate_dst (N:=1) rfl ?_);(try (refine gate_guard zb49 ?_;dsimp only));refine box_event rfl (N:=1) rfl (cs:=#[.string a0_0,.string a0_1]) (t:=36) zS ?_;intro gb19 hg w9 hbox hb;have GW19:=zG hg zb0;have GE19:=GW19;have BK19:=Aside0.mk hbox;replace HB:=Aside0.mk (below_step zb0 hb);clear hb hbox hg;obtain ⟨hcz10_0,hcz10_1,hfz10_0,hfz10_1⟩:=zq2 BK19.out)|(go_at_call 127;(with_reducible refine (tollbarref02_Token.calls k a0_0 true _ A2.out).mono ?_);rintro e w' ⟨rfl,⟨nd,rfl⟩⟩;(try clear A2);(try first|exact ⟨rfl,_,World.drewN_drewN _ _ _⟩|exact ⟨rfl,_,Eq.trans (World.drewN_drewN _ _ _) (congrArg (World.drewN _) (Nat.add_assoc _ _ _))⟩))|(go_at_call 171;(with_reducible refine (tollbarref02_Value.calls k a0_1 true _ A5.out).mono ?_);rintro e w' ⟨rfl,⟨nd,rfl⟩⟩;(try clear A5);(try first|exact ⟨rfl,_,World.drewN_drewN _ _ _⟩|exact ⟨rfl,_,Eq.trans (World.drewN_drewN _ _ _) (congrArg (World.drewN _) (Nat.add_assoc _ _ _))⟩))|(go_at_call 106;(with_reducible refine (tollbarref02_Trim.calls k a0_1 t21 _ A7.out).mono ?_);rintro e w' ⟨rfl,⟨nd,rfl⟩⟩;(try clear A7);(try first|exact ⟨rfl,_,World.drewN_drewN _ _ _⟩|exact ⟨rfl,_,Eq.trans (World.drewN_drewN _ _ _) (congrArg (World.drewN _) (Nat.add_assoc _ _ _))⟩)));try go_wp2_with (first|((with_reducible refine gate_dst (N:=1) rfl ?_);(try (refine gate_guard zb49 ?_;dsimp only));refine box_event rfl (N:=1) rfl (cs:=#[.string a0_0,.string a0_1]) (t:=36) zS ?_;intro gb19 hg w9 hbox hb;have GW19:=zG hg zb0;have GE19:=GW19;have BK19:=Aside0.mk hbox;replace HB:=Aside0.mk (below_step zb0 hb);clear hb hbox hg;obtain ⟨hcz10_0,hcz10_1,hfz10_0,hfz10_1⟩:=zq2 BK19.out)|(go_at_call 127;(with_reducible refine (tollbarref02_Token.calls k a0_0 true _ A2.out).mono ?_);rintro e w' ⟨rfl,⟨nd,rfl⟩⟩;(try clear A2);(try first|exact ⟨rfl,_,World.drewN_drewN _ _ _⟩|exact ⟨rfl,_,Eq.trans (World.drewN_drewN _ _ _) (congrArg (World.drewN _) (Nat.add_assoc _ _ _))⟩))|(go_at_call 171;(with_reducible refine (tollbarref02_Value.calls k a0_1 true _ A5.out).mono ?_);rintro e w' ⟨rfl,⟨nd,rfl⟩⟩;(try clear A5);(try first|exact ⟨rfl,_,World.drewN_drewN _ _ _⟩|exact ⟨rfl,_,Eq.trans (World.drewN_drewN _ _ _) (congrArg (World.drewN _) (Nat.add_assoc _ _ _))⟩))|(go_at_call 106;(with_reducible refine (tollbarref02_Trim.calls k a0_1 t21 _ A7.out).mono ?_);rintro e w' ⟨rfl,⟨nd,rfl⟩⟩;(try clear A7);(try first|exact ⟨rfl,_,World.drewN_drewN _ _ _⟩|exact ⟨rfl,_,Eq.trans (World.drewN_drewN _ _ _) (congrArg (World.drewN _) (Nat.add_assoc _ _ _))⟩))))
  go_ret
  exact ⟨zb3,zb71⟩
 ·replace c6:=Bool.eq_false_iff.mpr c6
  subst c6
  rw [if_neg zf] at H
  obtain rfl:=Option.some.inj H
  go_enter Tryz.func169,Tryz.ntmps169
  go_wp2_with (first|((with_reducible refine gate_dst (N:=1) rfl ?_);(try (refine gate_guard zb49 ?_;dsimp only));refine box_event rfl (N:=1) rfl (cs:=#[.string a0_0,.string a0_1]) (t:=36) zS ?_;intro gb19 hg w13 hbox hb;have GW19:=zG hg zb0;have GE19:=GW19;have BK19:=Aside0.mk hbox;replace HB:=Aside0.mk (below_step zb0 hb);clear hb hbox hg;obtain ⟨hcz14_0,hcz14_1,hfz14_0,hfz14_1⟩:=zq2 BK19.out)|(go_at_call 127;(with_reducible refine (tollbarref02_Token.calls k a0_0 true _ A2.out).mono ?_);rintro e w' ⟨rfl,⟨nd,rfl⟩⟩;(try clear A2);(try first|exact ⟨rfl,_,World.drewN_drewN _ _ _⟩|exact ⟨rfl,_,Eq.trans (World.drewN_drewN _ _ _) (congrArg (World.drewN _) (Nat.add_assoc _ _ _))⟩))|(go_at_call 171;(with_reducible refine (tollbarref02_Value.calls k a0_1 false _ A5.out).mono ?_);rintro e w' ⟨rfl,⟨nd,rfl⟩⟩;(try clear A5);(try first|exact ⟨rfl,_,World.drewN_drewN _ _ _⟩|exact ⟨rfl,_,Eq.trans (World.drewN_drewN _ _ _) (congrArg (World.drewN _) (Nat.add_assoc _ _ _))⟩)))
  repeat (go_quiet (first|((with_reducible refine gate_dst (N:=1) rfl ?_);(try (refine gate_guard zb49 ?_;dsimp only));refine box_event rfl (N:=1) rfl (cs:=#[.string a0_0,.string a0_1]) (t:=36) zS ?_;intro gb19 hg w13 hbox hb;have GW19:=zG hg zb0;have GE19:=GW19;have BK19:=Aside0.mk hbox;replace HB:=Aside0.mk (below_step zb0 hb);clear hb hbox hg;obtain ⟨hcz14_0,hcz14_1,hfz14_0,hfz14_1⟩:=zq2 BK19.out)|(go_at_call 127;(with_reducible refine (tollbarref02_Token.calls k a0_0 true _ A2.out).mono ?_);rintro e w' ⟨rfl,⟨nd,rfl⟩⟩;(try clear A2);(try first|exact ⟨rfl,_,World.drewN_drewN _ _ _⟩|exact ⟨rfl,_,Eq.trans (World.drewN_drewN _ _ _) (congrArg (World.drewN _) (Nat.add_assoc _ _ _))⟩))|(go_at_call 171;(with_reducible refine (tollbarref02_Value.calls k a0_1 false _ A5.out).mono ?_);rintro e w' ⟨rfl,⟨nd,rfl⟩⟩;(try clear A5);(try first|exact ⟨rfl,_,World.drewN_drewN _ _ _⟩|exact ⟨rfl,_,Eq.trans (World.drewN_drewN _ _ _) (congrArg (World.drewN _) (Nat.add_assoc _ _ _))⟩)));try go_wp2_with (first|((with_reducible refine gate_dst (N:=1) rfl ?_);(try (refine gate_guard zb49 ?_;dsimp only));refine box_event rfl (N:=1) rfl (cs:=#[.string a0_0,.string a0_1]) (t:=36) zS ?_;intro gb19 hg w13 hbox hb;have GW19:=zG hg zb0;have GE19:=GW19;have BK19:=Aside0.mk hbox;replace HB:=Aside0.mk (below_step zb0 hb);clear hb hbox hg;obtain ⟨hcz14_0,hcz14_1,hfz14_0,hfz14_1⟩:=zq2 BK19.out)|(go_at_call 127;(with_reducible refine (tollbarref02_Token.calls k a0_0 true _ A2.out).mono ?_);rintro e w' ⟨rfl,⟨nd,rfl⟩⟩;(try clear A2);(try first|exact ⟨rfl,_,World.drewN_drewN _ _ _⟩|exact ⟨rfl,_,Eq.trans (World.drewN_drewN _ _ _) (congrArg (World.drewN _) (Nat.add_assoc _ _ _))⟩))|(go_at_call 171;(with_reducible refine (tollbarref02_Value.calls k a0_1 false _ A5.out).mono ?_);rintro e w' ⟨rfl,⟨nd,rfl⟩⟩;(try clear A5);(try first|exact ⟨rfl,_,World.drewN_drewN _ _ _⟩|exact ⟨rfl,_,Eq.trans (World.drewN_drewN _ _ _) (congrArg (World.drewN _) (Nat.add_assoc _ _ _))⟩))))
  go_ret
  exact ⟨zb3,zb71⟩
end Go.Proofs.YtagffbblalldiaaGreatDoor.P
