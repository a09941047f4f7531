/- Each function below answers as its Lean twin says; plain lemmas; a row where its theorem stands. No further condition. (Laid by this repo's pack.py out of its texts and of the print's words.) -/
import Derived.Test.YtclpanalnbmejaaGreatDoorZ8974a307
import Derived.Test.YtclpanalnbmejaaGreatDoorZaa74bae2
namespace Go.Proofs.YtclpanalnbmejaaGreatDoor.P
open Go.RowKit Go.Proofs.YtclpanalnbmejaaGreatDoorW.PrintWords Go.Proofs.YtclpanalnbmejaaGreatDoorW.PrintLast Go.Proofs.YtclpanalnbmejaaGreatDoorW.PrintMore
attribute [local go_sem] max2_int min2_int max_two min_two max_three min_three max_four min_four
set_option linter.unusedVariables false
set_option linter.unusedSimpArgs false
mutual
def tollbarref09_Read.l0:Nat → List ByteArray → List (S64) → Int → Option ((List (S64)) × Int)
 | 0,_,_,_=>none
 | k + 1,x4,x6,x7=>if x7 < (x4.length:Int) then (if 0 ≤ x7 then ((tollbarref09_Words.f k (rdOf ByteArray.empty x4 x7)).bind fun t327=>(if (t327.length:Int) < 8 then (tollbarref09_Read.j1 k x4 x6 x7 t327 true) else (if 0 < (t327.length:Int) then (tollbarref09_Read.j1 k x4 x6 x7 t327 ((rdOf ByteArray.empty t327 0).toList != ([115,108,111,116]:List UInt8))) else (none)))) else (none)) else ((tollbarref09_Right.f k x6).bind fun t325=>(if t325=true then (some (x6,0)) else (some (([]:List (S64)),60))))
def tollbarref09_Read.j1:Nat → List ByteArray → List (S64) → Int → List ByteArray → Bool → Option ((List (S64)) × Int)
 | 0,_,_,_,_,_=>none
 | k + 1,x4,x6,x7,x8,x53=>if x53=true then (some (([]:List (S64)),20)) else (if 1 < (x8.length:Int) then (if 8 ≤ (x8.length:Int) then (if 2 < (x8.length:Int) then ((tollbarref09_Number.f k (rdOf ByteArray.empty x8 2)).bind fun bt339=>(if 3 < (x8.length:Int) then ((tollbarref09_Number.f k (rdOf ByteArray.empty x8 3)).bind fun bt342=>(if 4 < (x8.length:Int) then ((tollbarref09_Number.f k (rdOf ByteArray.empty x8 4)).bind fun bt345=>(if 5 < (x8.length:Int) then ((tollbarref09_Number.f k (rdOf ByteArray.empty x8 5)).bind fun bt348=>(if 6 < (x8.length:Int) then ((tollbarref09_Number.f k (rdOf ByteArray.empty x8 6)).bind fun bt351=>(if 7 < (x8.length:Int) then ((tollbarref09_Number.f k (rdOf ByteArray.empty x8 7)).bind fun bt354=>(if bt339.2=true then (if bt342.2=true then (if bt345.2=true then (if bt348.2=true then (if bt351.2=true then (if bt354.2=true then (if x6.length < 1599289640401 then (tollbarref09_Read.l0 k x4 (x6 ++ [(⟨rdOf ByteArray.empty x8 1,(x8.drop 8),bt339.1,bt342.1,bt345.1,bt348.1,bt351.1,bt354.1⟩:S64)]) (wrap64 (x7 + 1))) else (none)) else (some (([]:List (S64)),20))) else (some (([]:List (S64)),20))) else (some (([]:List (S64)),20))) else (some (([]:List (S64)),20))) else (some (([]:List (S64)),20))) else (some (([]:List (S64)),20)))) else (none))) else (none))) else (none))) else (none))) else (none))) else (none)) else (none)) else (none))
end
def tollbarref09_Read.f (k:Nat) (a0:ByteArray):Option ((List (S64)) × Int):=if (a0.size:Int) > 4096 then (some (([]:List (S64)),2)) else ((tollbarref09_Lines.f k a0).bind fun bt318=>(if bt318.2=true then (tollbarref09_Read.l0 k bt318.1 (([]:List (S64))) 0) else (some (([]:List (S64)),20))))
def tollbarref09_Read.T13:Bool × List (List Nat × List Nat):=(true,[([],[]),([0],[0]),([1],[1]),([],[]),([3],[3]),([2,4],[2,4]),([],[]),([6,5,0,1,2,3,4,5,6],[5,6])])
def tollbarref09_Read.B13:List Nat:=[0,1,3,0,8,31,0,127]
theorem tollbarref09_Read.tab13:rtab .any (opsOf Tryz.f12 13)=tollbarref09_Read.T13:=by kernel_rfl
theorem tollbarref09_Read.bits13:waitsOk tollbarref09_Read.T13.2 tollbarref09_Read.B13=true:=by kernel_rfl
theorem tollbarref09_Read.far8 {W:World} {g:Nat} {a:Addr} {v:Value} {o0 o1 o2 o3 o4 o5 o6 o7:Nat} {u0 u1 u2 u3 u4 u5 u6 u7:Value} (hne:a.block ≠ g) (h:W.cell? a=some v):((((((((W.setCell ⟨g,o0,none⟩ u0).setCell ⟨g,o1,none⟩ u1).setCell ⟨g,o2,none⟩ u2).setCell ⟨g,o3,none⟩ u3).setCell ⟨g,o4,none⟩ u4).setCell ⟨g,o5,none⟩ u5).setCell ⟨g,o6,none⟩ u6).setCell ⟨g,o7,none⟩ u7).cell? a=some v:=by
 rw [cell_far (p:=⟨g,o7,none⟩) hne,cell_far (p:=⟨g,o6,none⟩) hne,cell_far (p:=⟨g,o5,none⟩) hne,cell_far (p:=⟨g,o4,none⟩) hne,cell_far (p:=⟨g,o3,none⟩) hne,cell_far (p:=⟨g,o2,none⟩) hne,cell_far (p:=⟨g,o1,none⟩) hne,cell_far (p:=⟨g,o0,none⟩) hne]
 exact h
set_option maxHeartbeats 8000000 in
set_option maxRecDepth 100000 in
theorem tollbarref09_Read.calls (k:Nat) (a0:ByteArray) (r1:List (S64)) (r2:Int) (w:World) (h:tollbarref09_Read.f k a0=some (r1,r2)) :
 Calls Tryz.prog 12 #[.string a0] w fun e w' => ∃ v0_:Value,e = .returned (.tuple #[v0_,.int .i64 r2])∧Kd.N k64 64 w' w.heap.size (fun k_=>(w.heap.size ≤ k_)) v0_ r1∧Below w.heap.size w w' := by
 have hu64:=Tryz.underlying64
 have HB:=Aside0.mk (Below.refl w.heap.size w)
 unfold tollbarref09_Read.f at h
 have H:=h
 clear h
 by_cases c2:(a0.size:Int) > 4096
 ·rw [if_pos c2] at H
  have c2b0:decide (4096 < (a0.size:Int))=true:=decide_eq_true c2
  have c2b1:decide (4096 < a0.size)=true:=decide_eq_true zb16
  clear c2
  simp only [Option.some.injEq,Prod.mk.injEq] at H
  obtain ⟨rfl,rfl⟩:=H
  go_enter Tryz.func12,Tryz.ntmps12
  go_wp2
  go_ret2
  exact ⟨_,zb6,zb18,zb0⟩
 rw [if_neg c2] at H
 have c2b0:decide (4096 < (a0.size:Int))=false:=decide_eq_false c2
 have c2b1:decide (4096 < a0.size)=false:=decide_eq_false zb16
 clear c2
 replace H:=Option.bind_eq_some_iff.mp H
 obtain ⟨⟨t318,t319⟩,A30,H⟩:=H
 try dsimp only at H
 have A3:=Aside0.mk A30
 clear A30
 by_cases c4:t319=true;rotate_left
 ·replace c4:=Bool.eq_false_iff.mpr c4
  subst c4
  rw [if_neg (show ¬ (false=true) by decide)] at H
  simp only [Option.some.injEq,Prod.mk.injEq] at H
  obtain ⟨rfl,rfl⟩:=H
  go_enter Tryz.func12,Tryz.ntmps12
  go_wp2_with (first|((with_reducible refine gate_callee (f:=36) rfl ?_);refine goesL_ (some 28) rfl rfl Tryz.func36 zb14 rfl #[.string a0] rfl zb2 ?_;(with_reducible refine (tollbarref09_Lines.calls k a0 t318 false _ A3.out).mono ?_);rintro e w188 ⟨v320,rfl,ho0,hb⟩;(try clear A3);refine ⟨_,rfl,?_⟩;have HO321:=Aside0.mk (Kd.R_lower (Kd.R_newM (M:=fun k_=>(w.heap.size ≤ k_)) ho0 (below_size zb0) (fun k_ h_=>h_)) (below_size zb0));replace HB:=Aside0.mk (below_step zb0 hb);try clear hb ho0))
  go_ret2
  exact ⟨_,zb6,zb18,zb0⟩
 subst c4
 rw [if_pos rfl] at H
 obtain ⟨y322,hy322⟩ : ∃ y_:List (S64),y_=(([]:List (S64))):=⟨_,rfl⟩
 replace H:(tollbarref09_Read.l0 k t318 y322 0)=some (r1,r2):=by first|(rw [hy322];with_reducible exact H)|(have H2_:=(Option.bind_some _ _).symm.trans H;rw [hy322];with_reducible exact H2_)|(have H2_:=(Option.bind_some _ _).symm.trans H;with_reducible exact H2_)|with_reducible exact H|(rw [hy322];exact H)|exact H
 have Ny322:=Aside0.mk hy322
 clear hy322
 have H' := Aside0.mk H
 clear H
 go_enter Tryz.func12,Tryz.ntmps12
 go_wp2_with (first|((with_reducible refine gate_callee (f:=36) rfl ?_);refine goesL_ (some 28) rfl rfl Tryz.func36 zb14 rfl #[.string a0] rfl zb2 ?_;(with_reducible refine (tollbarref09_Lines.calls k a0 t318 true _ A3.out).mono ?_);rintro e w5 ⟨v320,rfl,ho0,hb⟩;(try clear A3);refine ⟨_,rfl,?_⟩;have HO321:=Aside0.mk (Kd.R_lower (Kd.R_newM (M:=fun k_=>(w.heap.size ≤ k_)) ho0 (below_size zb0) (fun k_ h_=>h_)) (below_size zb0));replace HB:=Aside0.mk (below_step zb0 hb);try clear hb ho0)|((with_reducible refine gate_dst (N:=33) rfl ?_);refine Kd.N_lit k64 _ 64 ?hg (N' := 33) ?hd (xs:=([]:List (S64))) (inner:=[]) (ok:=(fun k_=>(w.heap.size ≤ k_)∧some k_ ≠ (v320:Value).ownBlock)) (okp:=(fun k_=>(w.heap.size ≤ k_)∧some k_ ≠ (v320:Value).ownBlock)) ?hr ?hp (fun _ hk=>hk) ((show ∀ k_,w5.heap.size ≤ k_ → (fun k_=>(w.heap.size ≤ k_)∧some k_ ≠ (v320:Value).ownBlock) k_ from fun k_ hk=>⟨(Nat.le_trans (below_size zb0) hk),Kd.fresh' (Kd.R_lt (by (with_reducible repeat (first|apply Kd.R_alloc|apply Kd.R_drewN|apply Kd.R_drew));exact HO321.out)) k_ hk⟩) _ (Nat.le_refl _)) (Below.refl _ _) (Nat.le_refl _) zb24 ?_;(case hd=>rfl);(case hg=>rfl);(case hr=>first|(go_simp;done)|(go_simp;rfl));(case hp=>exact (Reps.none _ _));intro v323 w6 ho7 hb hg_ hnew_;clear hg_ hnew_;(first|rw [← Ny322.out] at ho7|(simp only [Int.reduceToNat] at ho7;rw [← Ny322.out] at ho7));replace HO321:=Aside0.mk (Kd.R_below (by (with_reducible repeat (first|apply Kd.R_alloc|apply Kd.R_drewN|apply Kd.R_drew));exact HO321.out) hb);have HO324:=Aside0.mk (Kd.N_lower ho7 (below_size zb0));replace HB:=Aside0.mk (below_step zb0 hb);clear hb ho7))
 go_loopg [6,7] k (fun kq v6 v7 w' => ∃ (x6_1:List (S64)) (x7_1:Int),v7 = .int .i64 x7_1∧Aside0 (tollbarref09_Read.l0 kq t318 x6_1 x7_1=some (r1,r2))∧Aside0 (kq ≤ k)∧Aside0 (Kd.R Kd.string 9 w' w.heap.size (fun k_=>(w.heap.size ≤ k_)) v320 t318)∧Aside0 (Kd.N k64 64 w' w.heap.size (fun k_=>(w.heap.size ≤ k_)∧some k_ ≠ (v320:Value).ownBlock) v6 x6_1)∧Aside0 (Below w.heap.size w w'))
 case atStart=>exact ⟨(y322),(0),zb5,H',⟨Nat.le_refl _⟩,⟨by (with_reducible repeat (first|apply Kd.R_alloc|apply Kd.R_drewN|apply Kd.R_drew));exact Kd.R_mono HO321.out (fun _ hk=>hk.1)⟩,⟨by (with_reducible repeat (first|apply Kd.N_alloc|apply Kd.N_drewN|apply Kd.N_drew));exact HO324.out⟩,⟨zb0⟩⟩
 case round =>
  clear H'
  try clear c1
  try clear c2
  try clear c2b0
  try clear c2b1
  try clear p2
  try clear c3
  try clear c4
  obtain ⟨x6_1,x7_1,rfl,HA,HK1,HO_4,HO_6,HB⟩:=hrel
  cases gk with
  | zero=>exact absurd HA.out (by simp [tollbarref09_Read.l0])
  | succ k1 =>
   have H:=HA.out
   clear HA
   simp only [tollbarref09_Read.l0] at H
   by_cases c8:x7_1 < (t318.length:Int);rotate_left
   ·rw [if_neg c8] at H
    have c8b0:=decide_eq_false c8
    clear c8
    replace H:=Option.bind_eq_some_iff.mp H
    obtain ⟨t325,A1800,H⟩:=H
    try dsimp only at H
    have A180:=Aside0.mk A1800
    clear A1800
    by_cases c181:t325=true
    ·subst c181
     rw [if_pos rfl] at H
     simp only [Option.some.injEq,Prod.mk.injEq] at H
     obtain ⟨rfl,rfl⟩:=H
     obtain ⟨Ao182,co182,eo182⟩:=Kd.R_slice HO_4.out
     subst eo182
     obtain ⟨Ao183,co183,eo183⟩:=Kd.N_slice HO_6.out
     subst eo183
     go_wp2_with (first|((with_reducible refine gate_callee (f:=39) rfl ?_);refine goesL_ (some 137) rfl rfl Tryz.func39 zb14 rfl #[.slice Ao183 x6_1.length co183] rfl zb2 ?_;(with_reducible refine (tollbarref09_Right.calls k1 _ _ x6_1 true _ ?side1 ?side2 A180.out).mono ?_);(case side1=>exact zb73);(case side2=>exact (Kd.N_reads' HO_6.out).2.1);rintro e w184 ⟨rfl,hb⟩;(try clear A180);refine ⟨_,rfl,?_⟩;replace HO_4:=Aside0.mk (Kd.R_below zb4 hb);replace HO_6:=Aside0.mk (Kd.N_below zb9 hb);replace HB:=Aside0.mk (below_step zb0 hb);(try clear hb)))
     go_ret2
     exact ⟨_,zb6,by (with_reducible repeat (first|apply Kd.N_alloc|apply Kd.N_drewN|apply Kd.N_drew));exact Kd.N_mono HO_6.out (fun _ hk=>hk.1),zb0⟩
    replace c181:=Bool.eq_false_iff.mpr c181
    subst c181
    rw [if_neg (show ¬ (false=true) by decide)] at H
    simp only [Option.some.injEq,Prod.mk.injEq] at H
    obtain ⟨rfl,rfl⟩:=H
    obtain ⟨Ao185,co185,eo185⟩:=Kd.R_slice HO_4.out
    subst eo185
    obtain ⟨Ao186,co186,eo186⟩:=Kd.N_slice HO_6.out
    subst eo186
    go_wp2_with (first|((with_reducible refine gate_callee (f:=39) rfl ?_);refine goesL_ (some 137) rfl rfl Tryz.func39 zb14 rfl #[.slice Ao186 x6_1.length co186] rfl zb2 ?_;(with_reducible refine (tollbarref09_Right.calls k1 _ _ x6_1 false _ ?side1 ?side2 A180.out).mono ?_);(case side1=>exact zb73);(case side2=>exact (Kd.N_reads' HO_6.out).2.1);rintro e w187 ⟨rfl,hb⟩;(try clear A180);refine ⟨_,rfl,?_⟩;replace HO_4:=Aside0.mk (Kd.R_below zb4 hb);replace HO_6:=Aside0.mk (Kd.N_below zb9 hb);replace HB:=Aside0.mk (below_step zb0 hb);(try clear hb)))
    go_ret2
    exact ⟨_,zb6,zb18,zb0⟩
   rw [if_pos c8] at H
   have c8b0:=decide_eq_true c8
   clear c8
   by_cases c9:0 ≤ x7_1
   ·rw [if_pos c9] at H
    have c9b0:=decide_eq_true c9
    clear c9
    replace H:=Option.bind_eq_some_iff.mp H
    obtain ⟨t327,A100,H⟩:=H
    try dsimp only at H
    have A10:=Aside0.mk A100
    clear A100
    have HC11:=Aside0.mk H
    clear H
    obtain ⟨Ao12,co12,eo12⟩:=Kd.R_slice HO_4.out
    subst eo12
    have p326:0 ≤ (x7_1:Int):=of_decide_eq_true zb1
    have q326:x7_1 < (t318.length:Int):=of_decide_eq_true zb1
    obtain ⟨ad326,e326,hx326_0⟩:=Kd.at_string (Kd.R_reads' HO_4.out).2.2 x7_1 p326 q326
    cases e326
    replace p326:=eq_true p326
    replace q326:=eq_true q326
    go_upto_region 11 with (first|((with_reducible refine gate_callee (f:=37) rfl ?_);refine goesL_ (some 44) rfl rfl Tryz.func37 zb14 rfl #[.string (rdOf ByteArray.empty t318 x7_1)] rfl zb2 ?_;(with_reducible refine (tollbarref09_Words.calls k1 (rdOf ByteArray.empty t318 x7_1) t327 _ A10.out).mono ?_);rintro e w13 ⟨v328,rfl,ho0,hb⟩;refine ⟨_,rfl,?_⟩;replace HO_6:=Aside0.mk (Kd.N_elder' zb9 (Kd.R_base ho0) hb);have HO329:=Aside0.mk (Kd.R_lower (Kd.R_new' (Kd.R_newM (M:=fun k_=>(w.heap.size ≤ k_)) ho0 (below_size zb0) (fun k_ h_=>h_)) (Kd.R_lt zb4)) (below_size zb0));replace HO_4:=Aside0.mk (Kd.R_elder' zb4 (Kd.R_base ho0) hb);replace HB:=Aside0.mk (below_step zb0 hb);try clear hb ho0))
    (try simp only [Act.put,zqA,zqB,zqC])
    go_cut [53] (fun v53 wc => ∃ (kq:Nat) (x53_10:Bool),v53 = .bool x53_10∧Aside0 (tollbarref09_Read.j1 kq t318 x6_1 x7_1 t327 x53_10=some (r1,r2))∧Aside0 (kq ≤ k1)∧Aside0 (Kd.R Kd.string 9 wc w.heap.size (fun k_=>(w.heap.size ≤ k_)∧some k_ ≠ (v328:Value).ownBlock) (.slice (some ad326) t318.length co12) t318)∧Aside0 (Kd.N k64 64 wc w.heap.size (fun k_=>(w.heap.size ≤ k_)∧some k_ ≠ ((.slice (some ad326) t318.length co12):Value).ownBlock∧some k_ ≠ (v328:Value).ownBlock) u6 x6_1)∧Aside0 (Kd.R Kd.string 9 wc w.heap.size (fun k_=>(w.heap.size ≤ k_)∧some k_ ≠ ((.slice (some ad326) t318.length co12):Value).ownBlock) v328 t327)∧Aside0 (Below w.heap.size w wc))
    case first =>
     have H:=HC11.out
     clear HC11
     by_cases c14:(t327.length:Int) < 8
     ·rw [if_pos c14] at H
      have c14b0:=decide_eq_true c14
      have c14b1:decide (t327.length < 8)=true:=decide_eq_true zb16
      clear c14
      (first|rw [c14b0]|(simp only [i64_w,i32_w];rw [c14b0])|rw [c14b1]|skip)
      have H' := Aside0.mk H
      clear H
      obtain ⟨Ao15,co15,eo15⟩:=Kd.R_slice HO329.out
      subst eo15
      go_wp2
      go_meet
      case rel=>exact ⟨_,(true),zb5,H',⟨zb56⟩,⟨zb4⟩,⟨zb80⟩,⟨zb81⟩,⟨zb0⟩⟩
     rw [if_neg c14] at H
     have c14b0:=decide_eq_false c14
     have c14b1:decide (t327.length < 8)=false:=decide_eq_false zb16
     clear c14
     (first|rw [c14b0]|(simp only [i64_w,i32_w];rw [c14b0])|rw [c14b1]|skip)
     by_cases c16:0 < (t327.length:Int);rotate_left
     ·rw [if_neg c16] at H
      exact absurd H zb24
     rw [if_pos c16] at H
     have c16b0:=decide_eq_true c16
     have c16b1:decide (0 < t327.length)=true:=decide_eq_true zb16
     clear c16
     have H' := Aside0.mk H
     clear H
     obtain ⟨Ao17,co17,eo17⟩:=Kd.R_slice HO329.out
     subst eo17
     have p330:0 ≤ (0:Int):=zb16
     have q330:0 < (t327.length:Int):=of_decide_eq_true zb1
     obtain ⟨ad330,e330,hx330_0⟩:=Kd.at_string (Kd.R_reads' HO329.out).2.2 0 p330 q330
     cases e330
     have qi330:(0 < t327.length)=True:=eq_true zb16
     (try rw [show ((0:Int)).toNat=0 from rfl] at hx330_0)
     (try rw [Addr.add_zero'] at hx330_0)
     replace p330:=eq_true p330
     replace q330:=eq_true q330
     go_wp2
     go_meet
     case rel=>exact ⟨_,(((rdOf ByteArray.empty t327 0).toList != ([115,108,111,116]:List UInt8))),zb5,H',⟨zb56⟩,⟨zb4⟩,⟨zb80⟩,⟨zb81⟩,⟨zb0⟩⟩
    case rest =>
     clear HC11
     try clear c1
     try clear c2
     try clear c2b0
     try clear c2b1
     try clear p2
     try clear c3
     try clear p3
     try clear q3
     try clear hx3
     try clear qi3
     try clear c4
     try clear c8
     try clear c8b0
     try clear c9
     try clear c9b0
     try clear c12
     try clear c14
     try clear c14b0
     try clear c14b1
     try clear c16
     try clear c16b0
     try clear c16b1
     try clear hx326_0
     try clear hx330_0
     try clear p2
     try clear p326
     try clear p330
     try clear q326
     try clear q330
     obtain ⟨kq,x53_10,rfl,HA,HJ10,HO_4,HO_6,HO_8,HB⟩:=hcut
     cases kq with
     | zero=>exact absurd HA.out (by simp [tollbarref09_Read.j1])
     | succ kj10 =>
      have H:=HA.out
      clear HA
      simp only [tollbarref09_Read.j1] at H
      by_cases c18:x53_10=true
      ·subst c18
       rw [if_pos rfl] at H
       simp only [Option.some.injEq,Prod.mk.injEq] at H
       obtain ⟨rfl,rfl⟩:=H
       go_wp2
       go_ret2
       exact ⟨_,zb6,zb18,zb0⟩
      replace c18:=Bool.eq_false_iff.mpr c18
      subst c18
      rw [if_neg (show ¬ (false=true) by decide)] at H
      by_cases c19:1 < (t327.length:Int)
      ·rw [if_pos c19] at H
       have c19b0:=decide_eq_true c19
       have c19b1:decide (1 < t327.length)=true:=decide_eq_true zb16
       clear c19
       by_cases c20:8 ≤ (t327.length:Int)
       ·rw [if_pos c20] at H
        have c20b0:=eq_true c20
        have c20b1:=decide_eq_true c20
        clear c20
        obtain ⟨y332,hy332⟩ : ∃ y_:List ByteArray,y_=(t327.drop 8):=⟨_,rfl⟩
        replace H:(if 2 < (t327.length:Int) then ((tollbarref09_Number.f kj10 (rdOf ByteArray.empty t327 2)).bind fun bt339=>(if 3 < (t327.length:Int) then ((tollbarref09_Number.f kj10 (rdOf ByteArray.empty t327 3)).bind fun bt342=>(if 4 < (t327.length:Int) then ((tollbarref09_Number.f kj10 (rdOf ByteArray.empty t327 4)).bind fun bt345=>(if 5 < (t327.length:Int) then ((tollbarref09_Number.f kj10 (rdOf ByteArray.empty t327 5)).bind fun bt348=>(if 6 < (t327.length:Int) then ((tollbarref09_Number.f kj10 (rdOf ByteArray.empty t327 6)).bind fun bt351=>(if 7 < (t327.length:Int) then ((tollbarref09_Number.f kj10 (rdOf ByteArray.empty t327 7)).bind fun bt354=>(if bt339.2=true then (if bt342.2=true then (if bt345.2=true then (if bt348.2=true then (if bt351.2=true then (if bt354.2=true then (if x6_1.length < 1599289640401 then (tollbarref09_Read.l0 kj10 t318 (x6_1 ++ [(⟨rdOf ByteArray.empty t327 1,y332,bt339.1,bt342.1,bt345.1,bt348.1,bt351.1,bt354.1⟩:S64)]) (wrap64 (x7_1 + 1))) else (none)) else (some (([]:List (S64)),20))) else (some (([]:List (S64)),20))) else (some (([]:List (S64)),20))) else (some (([]:List (S64)),20))) else (some (([]:List (S64)),20))) else (some (([]:List (S64)),20)))) else (none))) else (none))) else (none))) else (none))) else (none))) else (none))=some (r1,r2):=by first|(rw [hy332];with_reducible exact H)|(have H2_:=(Option.bind_some _ _).symm.trans H;rw [hy332];with_reducible exact H2_)|(have H2_:=(Option.bind_some _ _).symm.trans H;with_reducible exact H2_)|with_reducible exact H|(rw [hy332];exact H)|exact H
        have Ny332:=Aside0.mk hy332
        clear hy332
        by_cases c21:2 < (t327.length:Int)
        ·rw [if_pos c21] at H
         have c21b0:=decide_eq_true c21
         have c21b1:decide (2 < t327.length)=true:=decide_eq_true zb16
         clear c21
         replace H:=Option.bind_eq_some_iff.mp H
         obtain ⟨⟨t339,t340⟩,A220,H⟩:=H
         try dsimp only at H
         have A22:=Aside0.mk A220
         clear A220
         by_cases c23:3 < (t327.length:Int)
         ·rw [if_pos c23] at H
          have c23b0:=decide_eq_true c23
          have c23b1:decide (3 < t327.length)=true:=decide_eq_true zb16
          clear c23
          replace H:=Option.bind_eq_some_iff.mp H
          obtain ⟨⟨t342,t343⟩,A240,H⟩:=H
          try dsimp only at H
          have A24:=Aside0.mk A240
          clear A240
          by_cases c25:4 < (t327.length:Int)
          ·rw [if_pos c25] at H
           have c25b0:=decide_eq_true c25
           have c25b1:decide (4 < t327.length)=true:=decide_eq_true zb16
           clear c25
           replace H:=Option.bind_eq_some_iff.mp H
           obtain ⟨⟨t345,t346⟩,A260,H⟩:=H
           try dsimp only at H
           have A26:=Aside0.mk A260
           clear A260
           by_cases c27:5 < (t327.length:Int)
           ·rw [if_pos c27] at H
            have c27b0:=decide_eq_true c27
            have c27b1:decide (5 < t327.length)=true:=decide_eq_true zb16
            clear c27
            replace H:=Option.bind_eq_some_iff.mp H
            obtain ⟨⟨t348,t349⟩,A280,H⟩:=H
            try dsimp only at H
            have A28:=Aside0.mk A280
            clear A280
            by_cases c29:6 < (t327.length:Int)
            ·rw [if_pos c29] at H
             have c29b0:=decide_eq_true c29
             have c29b1:decide (6 < t327.length)=true:=decide_eq_true zb16
             clear c29
             replace H:=Option.bind_eq_some_iff.mp H
             obtain ⟨⟨t351,t352⟩,A300,H⟩:=H
             try dsimp only at H
             have A30:=Aside0.mk A300
             clear A300
             by_cases c31:7 < (t327.length:Int)
             ·rw [if_pos c31] at H
              have c31b0:=decide_eq_true c31
              have c31b1:decide (7 < t327.length)=true:=decide_eq_true zb16
              clear c31
              replace H:=Option.bind_eq_some_iff.mp H
              obtain ⟨⟨t354,t355⟩,A320,H⟩:=H
              try dsimp only at H
              have A32:=Aside0.mk A320
              clear A320
              by_cases c33:t340=true;rotate_left
              ·replace c33:=Bool.eq_false_iff.mpr c33
               subst c33
               rw [if_neg (show ¬ (false=true) by decide)] at H
               simp only [Option.some.injEq,Prod.mk.injEq] at H
               obtain ⟨rfl,rfl⟩:=H
               try go_wp2
               replace HO_4:=Aside0.mk (Kd.R_drew HO_4.out)
               replace HO_6:=Aside0.mk (Kd.N_drew HO_6.out)
               replace HO_8:=Aside0.mk (Kd.R_drew HO_8.out)
               replace HB:=Aside0.mk (below_drew1 HB.out)
               obtain ⟨Ao163,co163,eo163⟩:=Kd.R_slice HO_8.out
               (first|subst eo163|(injection eo163 with f1_ f2_ f3_;have f4_:=f1_.symm;have f5_:=f3_.symm;clear f1_ f2_ f3_;subst f4_;subst f5_))
               have p331:0 ≤ (1:Int):=zb16
               have q331:1 < (t327.length:Int):=of_decide_eq_true zb1
               obtain ⟨ad331,e331,hx331_0⟩:=Kd.at_string (Kd.R_reads' HO_8.out).2.2 1 p331 q331
               cases e331
               (try simp only [show (1:Int).toNat=1 from rfl,Nat.reduceMul,Nat.reduceEqDiff,Go.Addr.add,↓reduceIte] at hx331_0)
               have qi331:(1 < t327.length)=True:=eq_true zb16
               (try rw [show ((1:Int)).toNat=1 from rfl] at hx331_0)
               replace p331:=eq_true p331
               replace q331:=eq_true q331
               have q164:(8:Int) ≤ ((t327.length:Int):Int):=of_decide_eq_true zb1
               obtain ⟨i0164,hi0164,_,hsz164,_⟩:=info_parts info9
               have hroom164:t327.length ≤ co163:=(Kd.R_reads' HO_8.out).2.1
               have hC164:Kd.F Kd.string _ _ (some ad331) t327.length t327:=(Kd.V_at (base:=w.heap.size) (Kd.R_V (Kd.R_apart' (HO_8.out) (Kd.N_typed HO_6.out) zb22))).2.2
               have hcut164:=cut_from (P:=Tryz.prog) 34 9 .i64 Tryz.underlying34 hi0164 1 hsz164 (some ad331) t327.length co163 8 zb16 q164
               have hr164:=Kd.F_cut (m:=(8:Int).toNat) (c:=co163) hC164 zb16 hroom164
               obtain ⟨A164,hA164⟩ : ∃ A1,A1=(if co163=(8:Int).toNat then (some ad331) else ((some ad331):Option Addr).map (·.add ((8:Int).toNat * 1))):=⟨_,rfl⟩
               obtain ⟨c164,hc164⟩ : ∃ c1,c1=co163 - (8:Int).toNat:=⟨_,rfl⟩
               have hy164:y332.length=t327.length - (8:Int).toNat:=zb70
               rw [show (t327).drop (8:Int).toNat=y332 from Ny332.out.symm] at hr164
               replace hr164:Kd.F Kd.string _ _ A164 y332.length y332:=(by rw [hA164];exact hr164)
               rw [← hy164,← hA164,← hc164] at hcut164
               have HO336:=Aside0.mk (show Kd.V Kd.string 9 _ w.heap.size _ (.slice A164 y332.length c164) y332 from Kd.V_mk (by rw [hy164,hc164];exact Nat.sub_le_sub_right hroom164 _) hr164)
               have HC336:=Aside0.mk (show y332.length ≤ c164 from by rw [hy164,hc164];exact Nat.sub_le_sub_right hroom164 _)
               clear hr164 hC164 hroom164 hi0164 hsz164 hc164
               have KY164:=Aside0.mk hy164
               have KA164:=Aside0.mk hA164
               clear hy164 hA164
               replace q164:=eq_true q164
               refine start_ (n:=8) (S:=fun w' => w'.cell? ⟨ad331.block,ad331.off + 1,none⟩=some (.string (rdOf ByteArray.empty t327 1))) (ds:=[]) (zl 8 0) zb14 rfl rfl (hx331_0) (fun hHeld=>?_);refine with_tabW tollbarref09_Read.tab13 tollbarref09_Read.bits13 (fun HT_ HW_=>?_)
               generalize wc.drew=w162 at HO_4 HO_6 HO_8 HB HO336 hx331_0 hHeld ⊢
               refine zpu 0 (N:=some 54) (zl 8 1) HT_.out rfl rfl ?_
               refine zpu 1 (N:=some 55) (zl 8 3) HT_.out rfl rfl ?_
               refine zpu 3 (N:=some 57) (zl 8 11) HT_.out rfl rfl ?_
               refine zpu 4 (N:=some 58) (zl 8 27) HT_.out rfl rfl ?_
               refine take_ (i:=2) (N:=some 56) (v:=?_) (a' := ?_) (zl 8 31) rfl rfl (take_ofW HT_.out HW_.out zb14) (fun _ _ _ h=>h) (Or.inl ⟨zb45,?_⟩) hHeld ?_ ?_
               rotate_left
               ·intro w' s0
                go_simp
                with_reducible rfl
               rotate_left
               ·simp only [Act.put,zqA,zqB,zqC,i64_w,i32_w];rfl
               refine zpu 5 (N:=some 59) (zl 8 63) HT_.out rfl rfl ?_
               refine one_ (i:=6) (N:=some 9) (zl 8 127) rfl rfl (one_of HT_.out zb14) zb22 (fun K hK=>?_)
               refine box_step ?hg (N:=9) ?hd (cs:=#[.string (⟨#[]⟩:ByteArray),.slice none 0 0,.int .i64 0,.int .i64 0,.int .i64 0,.int .i64 0,.int .i64 0,.int .i64 0]) (t:=64) ?hr ?_;(case hd=>rfl);(case hg=>rfl);(case hr=>first|(go_simp;done)|(go_simp;rfl))
               intro gb337 hg w165 hbox hb
               have HS0_:=(hb.cell (World.block_lt_of_cell? _ _ (hHeld))).trans (hHeld)
               have n0_:=Aside0.mk (Kd.R_below zb4 hb)
               have n1_:=Aside0.mk (Kd.N_below (Kd.N_elderB zb9 gb337 (Nat.le_of_eq hg.symm)) hb)
               have n2_:=Aside0.mk (Kd.R_below zb10 hb)
               have n3_:=Aside0.mk (Kd.V_below (Kd.V_elderB zb11 gb337 (Nat.le_of_eq hg.symm)) hb)
               have n4_:=Aside0.mk (below_step zb0 hb)
               have n5_:=Aside0.mk (hbox)
               have n6_:=zG hg zb0
               have n7_:=zG hg zb0
               clear HO_4 HO_6 HO_8 HO336 HB
               have HO_4:=n0_
               have HO_6:=n1_
               have HO_8:=n2_
               have HO336:=n3_
               have HB:=n4_
               have BK337:=n5_
               have GW337:=n6_
               have GE337:=n7_
               clear n0_ n1_ n2_ n3_ n4_ n5_ n6_ n7_ hb hbox hg
               refine hK.out _ _ (HS0_) (fun hHeld=>?_)
               clear hK K
               refine norm_ (a' := ?_) ?_ ?_
               rotate_left
               ·show Act.put _ (some 9) _=_
                simp only [Act.put,zqA,zqB,zqC,i64_w,i32_w]
                rfl
               refine one_ (i:=7) (N:=none) (zl 8 255) rfl rfl (one_of HT_.out zb14) zb22 (fun K hK=>?_)
               have hs166:w165.cell? ⟨gb337,0,none⟩=some (.string (⟨#[]⟩:ByteArray)):=(blk_cell BK337.out 0).trans rfl
               have hfs166:=blk_frozen BK337.out 0
               have hs167:w165.cell? ⟨gb337,1,none⟩=some (.slice none 0 0):=(blk_cell BK337.out 1).trans rfl
               have hfs167:=blk_frozen BK337.out 1
               have hs168:w165.cell? ⟨gb337,2,none⟩=some (.int .i64 0):=(blk_cell BK337.out 2).trans rfl
               have hfs168:=blk_frozen BK337.out 2
               have hs169:w165.cell? ⟨gb337,3,none⟩=some (.int .i64 0):=(blk_cell BK337.out 3).trans rfl
               have hfs169:=blk_frozen BK337.out 3
               have hs170:w165.cell? ⟨gb337,4,none⟩=some (.int .i64 0):=(blk_cell BK337.out 4).trans rfl
               have hfs170:=blk_frozen BK337.out 4
               have hs171:w165.cell? ⟨gb337,5,none⟩=some (.int .i64 0):=(blk_cell BK337.out 5).trans rfl
               have hfs171:=blk_frozen BK337.out 5
               have hs172:w165.cell? ⟨gb337,6,none⟩=some (.int .i64 0):=(blk_cell BK337.out 6).trans rfl
               have hfs172:=blk_frozen BK337.out 6
               have hs173:w165.cell? ⟨gb337,7,none⟩=some (.int .i64 0):=(blk_cell BK337.out 7).trans rfl
               have hfs173:=blk_frozen BK337.out 7
               refine skip_ (w1:=?_) zb45 rfl ?_ ?_
               rotate_left
               ·go_simp
                rfl
               have hfar_:=Kd.own_blk (Kd.R_ne HO_8.out BK337.out zb22)
               refine hK.out _ _ (tollbarref09_Read.far8 hfar_ hHeld) (fun hHeld=>?_)
               clear hK K
               refine done_ (done_of HT_.out zb14) ?_
               have p338:0 ≤ (2:Int):=zb16
               have q338:2 < (t327.length:Int):=of_decide_eq_true zb1
               obtain ⟨ad338,e338,hx338_0⟩:=Kd.at_string (Kd.R_reads' HO_8.out).2.2 2 p338 q338
               obtain rfl:ad331=ad338:=(by injection e338)
               (try simp only [show (2:Int).toNat=2 from rfl,Nat.reduceMul,Nat.reduceEqDiff,Go.Addr.add,↓reduceIte] at hx338_0)
               have qi338:(2 < t327.length)=True:=eq_true zb16
               (try rw [show ((2:Int)).toNat=2 from rfl] at hx338_0)
               have hn338_0:ad331.block ≠ gb337:=Kd.own_blk (Kd.R_ne HO_8.out BK337.out zb22)
               have hn338_1:ad331.block ≠ gb337:=Kd.own_blk (Kd.R_ne HO_8.out BK337.out zb22)
               have hn338_2:ad331.block ≠ gb337:=Kd.own_blk (Kd.R_ne HO_8.out BK337.out zb22)
               have hn338_3:ad331.block ≠ gb337:=Kd.own_blk (Kd.R_ne HO_8.out BK337.out zb22)
               have hn338_4:ad331.block ≠ gb337:=Kd.own_blk (Kd.R_ne HO_8.out BK337.out zb22)
               have hn338_5:ad331.block ≠ gb337:=Kd.own_blk (Kd.R_ne HO_8.out BK337.out zb22)
               have hn338_6:ad331.block ≠ gb337:=Kd.own_blk (Kd.R_ne HO_8.out BK337.out zb22)
               have hn338_7:ad331.block ≠ gb337:=Kd.own_blk (Kd.R_ne HO_8.out BK337.out zb22)
               replace hx338_0:=(cell_far (p:=⟨gb337,0,none⟩) zb33 (.string (rdOf ByteArray.empty t327 1))).trans hx338_0
               replace hx338_0:=(cell_far (p:=⟨gb337,1,none⟩) zb34 (.slice A164 y332.length c164)).trans hx338_0
               replace hx338_0:=(cell_far (p:=⟨gb337,2,none⟩) zb35 (.int .i64 0)).trans hx338_0
               replace hx338_0:=(cell_far (p:=⟨gb337,3,none⟩) zb36 (.int .i64 0)).trans hx338_0
               replace hx338_0:=(cell_far (p:=⟨gb337,4,none⟩) zb37 (.int .i64 0)).trans hx338_0
               replace hx338_0:=(cell_far (p:=⟨gb337,5,none⟩) zb38 (.int .i64 0)).trans hx338_0
               replace hx338_0:=(cell_far (p:=⟨gb337,6,none⟩) zb39 (.int .i64 0)).trans hx338_0
               replace hx338_0:=(cell_far (p:=⟨gb337,7,none⟩) zb40 (.int .i64 0)).trans hx338_0
               clear hn338_0 hn338_1 hn338_2 hn338_3 hn338_4 hn338_5 hn338_6 hn338_7
               replace p338:=eq_true p338
               replace q338:=eq_true q338
               try go_wp2_with (first|((with_reducible refine gate_callee (f:=38) rfl ?_);refine goesL_ (some 64) rfl rfl Tryz.func38 zb14 rfl #[.string (rdOf ByteArray.empty t327 2)] rfl zb2 ?_;(with_reducible refine (tollbarref09_Number.calls kj10 (rdOf ByteArray.empty t327 2) t339 false _ A22.out).mono ?_);rintro e w174 ⟨rfl,hb⟩;(try clear A22);refine ⟨_,rfl,?_⟩;replace HO_4:=Aside0.mk (Kd.R_below (by (with_reducible repeat (first|apply Kd.R_alloc|apply Kd.R_drewN|apply Kd.R_drew));exact (Kd.R_mono (Kd.R_far (p:=⟨gb337,7,none⟩) (Kd.R_far (p:=⟨gb337,6,none⟩) (Kd.R_far (p:=⟨gb337,5,none⟩) (Kd.R_far (p:=⟨gb337,4,none⟩) (Kd.R_far (p:=⟨gb337,3,none⟩) (Kd.R_far (p:=⟨gb337,2,none⟩) (Kd.R_far (p:=⟨gb337,1,none⟩) (Kd.R_far (p:=⟨gb337,0,none⟩) (Kd.R_types HO_4.out BK337.out (by decide)) (fun _ hk=>hk.2) (.string (rdOf ByteArray.empty t327 1))) (fun _ hk=>hk.2) (.slice A164 y332.length c164)) (fun _ hk=>hk.2) (.int .i64 0)) (fun _ hk=>hk.2) (.int .i64 0)) (fun _ hk=>hk.2) (.int .i64 0)) (fun _ hk=>hk.2) (.int .i64 0)) (fun _ hk=>hk.2) (.int .i64 0)) (fun _ hk=>hk.2) (.int .i64 0)) (fun _ h_=>h_.1))) hb);replace HO_6:=Aside0.mk (Kd.N_below (by (with_reducible repeat (first|apply Kd.N_alloc|apply Kd.N_drewN|apply Kd.N_drew));exact (Kd.N_mono (Kd.N_far (p:=⟨gb337,7,none⟩) (Kd.N_far (p:=⟨gb337,6,none⟩) (Kd.N_far (p:=⟨gb337,5,none⟩) (Kd.N_far (p:=⟨gb337,4,none⟩) (Kd.N_far (p:=⟨gb337,3,none⟩) (Kd.N_far (p:=⟨gb337,2,none⟩) (Kd.N_far (p:=⟨gb337,1,none⟩) (Kd.N_far (p:=⟨gb337,0,none⟩) (Kd.N_mono HO_6.out (fun k_ hk=>(⟨hk,hk.2⟩:_∧k_ ≠ gb337))) (fun _ hk=>hk.2) (.string (rdOf ByteArray.empty t327 1))) (fun _ hk=>hk.2) (.slice A164 y332.length c164)) (fun _ hk=>hk.2) (.int .i64 0)) (fun _ hk=>hk.2) (.int .i64 0)) (fun _ hk=>hk.2) (.int .i64 0)) (fun _ hk=>hk.2) (.int .i64 0)) (fun _ hk=>hk.2) (.int .i64 0)) (fun _ hk=>hk.2) (.int .i64 0)) (fun _ h_=>h_.1))) hb);replace HO_8:=Aside0.mk (Kd.R_below (by (with_reducible repeat (first|apply Kd.R_alloc|apply Kd.R_drewN|apply Kd.R_drew));exact (Kd.R_mono (Kd.R_far (p:=⟨gb337,7,none⟩) (Kd.R_far (p:=⟨gb337,6,none⟩) (Kd.R_far (p:=⟨gb337,5,none⟩) (Kd.R_far (p:=⟨gb337,4,none⟩) (Kd.R_far (p:=⟨gb337,3,none⟩) (Kd.R_far (p:=⟨gb337,2,none⟩) (Kd.R_far (p:=⟨gb337,1,none⟩) (Kd.R_far (p:=⟨gb337,0,none⟩) (Kd.R_types HO_8.out BK337.out (by decide)) (fun _ hk=>hk.2) (.string (rdOf ByteArray.empty t327 1))) (fun _ hk=>hk.2) (.slice A164 y332.length c164)) (fun _ hk=>hk.2) (.int .i64 0)) (fun _ hk=>hk.2) (.int .i64 0)) (fun _ hk=>hk.2) (.int .i64 0)) (fun _ hk=>hk.2) (.int .i64 0)) (fun _ hk=>hk.2) (.int .i64 0)) (fun _ hk=>hk.2) (.int .i64 0)) (fun _ h_=>h_.1))) hb);replace HO336:=Aside0.mk (Kd.V_below (by (with_reducible repeat (first|apply Kd.V_alloc|apply Kd.V_drewN|apply Kd.V_drew));exact (Kd.V_mono (Kd.V_far (p:=⟨gb337,7,none⟩) (Kd.V_far (p:=⟨gb337,6,none⟩) (Kd.V_far (p:=⟨gb337,5,none⟩) (Kd.V_far (p:=⟨gb337,4,none⟩) (Kd.V_far (p:=⟨gb337,3,none⟩) (Kd.V_far (p:=⟨gb337,2,none⟩) (Kd.V_far (p:=⟨gb337,1,none⟩) (Kd.V_far (p:=⟨gb337,0,none⟩) (Kd.V_mono HO336.out (fun k_ hk=>(⟨hk,hk.2⟩:_∧k_ ≠ gb337))) (fun _ hk=>hk.2) (.string (rdOf ByteArray.empty t327 1))) (fun _ hk=>hk.2) (.slice A164 y332.length c164)) (fun _ hk=>hk.2) (.int .i64 0)) (fun _ hk=>hk.2) (.int .i64 0)) (fun _ hk=>hk.2) (.int .i64 0)) (fun _ hk=>hk.2) (.int .i64 0)) (fun _ hk=>hk.2) (.int .i64 0)) (fun _ hk=>hk.2) (.int .i64 0)) (fun _ h_=>h_.1))) hb);replace BK337:=Aside0.mk (blk_below (g:=gb337) (o:=.cells #[.string (rdOf ByteArray.empty t327 1),.slice A164 y332.length c164,.int .i64 0,.int .i64 0,.int .i64 0,.int .i64 0,.int .i64 0,.int .i64 0] 64 (0,0)) (by (with_reducible repeat (first|refine blk_drewN ?_ _|refine blk_drew ?_|refine blk_alloc ?_ _));refine blk_put (cs:=#[.string (rdOf ByteArray.empty t327 1),.slice A164 y332.length c164,.int .i64 0,.int .i64 0,.int .i64 0,.int .i64 0,.int .i64 0,.int .i64 0]) ?_ 7 _ rfl;(with_reducible repeat (first|refine blk_drewN ?_ _|refine blk_drew ?_|refine blk_alloc ?_ _));refine blk_put (cs:=#[.string (rdOf ByteArray.empty t327 1),.slice A164 y332.length c164,.int .i64 0,.int .i64 0,.int .i64 0,.int .i64 0,.int .i64 0,.int .i64 0]) ?_ 6 _ rfl;(with_reducible repeat (first|refine blk_drewN ?_ _|refine blk_drew ?_|refine blk_alloc ?_ _));refine blk_put (cs:=#[.string (rdOf ByteArray.empty t327 1),.slice A164 y332.length c164,.int .i64 0,.int .i64 0,.int .i64 0,.int .i64 0,.int .i64 0,.int .i64 0]) ?_ 5 _ rfl;(with_reducible repeat (first|refine blk_drewN ?_ _|refine blk_drew ?_|refine blk_alloc ?_ _));refine blk_put (cs:=#[.string (rdOf ByteArray.empty t327 1),.slice A164 y332.length c164,.int .i64 0,.int .i64 0,.int .i64 0,.int .i64 0,.int .i64 0,.int .i64 0]) ?_ 4 _ rfl;(with_reducible repeat (first|refine blk_drewN ?_ _|refine blk_drew ?_|refine blk_alloc ?_ _));refine blk_put (cs:=#[.string (rdOf ByteArray.empty t327 1),.slice A164 y332.length c164,.int .i64 0,.int .i64 0,.int .i64 0,.int .i64 0,.int .i64 0,.int .i64 0]) ?_ 3 _ rfl;(with_reducible repeat (first|refine blk_drewN ?_ _|refine blk_drew ?_|refine blk_alloc ?_ _));refine blk_put (cs:=#[.string (rdOf ByteArray.empty t327 1),.slice A164 y332.length c164,.int .i64 0,.int .i64 0,.int .i64 0,.int .i64 0,.int .i64 0,.int .i64 0]) ?_ 2 _ rfl;(with_reducible repeat (first|refine blk_drewN ?_ _|refine blk_drew ?_|refine blk_alloc ?_ _));refine blk_put (cs:=#[.string (rdOf ByteArray.empty t327 1),.slice none 0 0,.int .i64 0,.int .i64 0,.int .i64 0,.int .i64 0,.int .i64 0,.int .i64 0]) ?_ 1 _ rfl;(with_reducible repeat (first|refine blk_drewN ?_ _|refine blk_drew ?_|refine blk_alloc ?_ _));refine blk_put (cs:=#[.string (⟨#[]⟩:ByteArray),.slice none 0 0,.int .i64 0,.int .i64 0,.int .i64 0,.int .i64 0,.int .i64 0,.int .i64 0]) ?_ 0 _ rfl;(with_reducible repeat (first|refine blk_drewN ?_ _|refine blk_drew ?_|refine blk_alloc ?_ _));exact BK337.out) hb);replace HB:=Aside0.mk (below_step zb3 hb);(try clear hb);have p341:0 ≤ (3:Int):=zb16;have q341:3 < (t327.length:Int):=of_decide_eq_true zb1;obtain ⟨ad341,e341,hx341_0⟩:=Kd.at_string (Kd.R_reads' HO_8.out).2.2 3 p341 q341;obtain rfl:ad331=ad341:=(by injection e341);(try simp only [show (3:Int).toNat=3 from rfl,Nat.reduceMul,Nat.reduceEqDiff,Go.Addr.add,↓reduceIte] at hx341_0);have qi341:(3 < t327.length)=True:=eq_true zb16;(try rw [show ((3:Int)).toNat=3 from rfl] at hx341_0);replace p341:=eq_true p341;replace q341:=eq_true q341)|((with_reducible refine gate_callee (f:=38) rfl ?_);refine goesL_ (some 71) rfl rfl Tryz.func38 zb14 rfl #[.string (rdOf ByteArray.empty t327 3)] rfl zb2 ?_;(with_reducible refine (tollbarref09_Number.calls kj10 (rdOf ByteArray.empty t327 3) t342 t343 _ A24.out).mono ?_);rintro e w175 ⟨rfl,hb⟩;(try clear A24);refine ⟨_,rfl,?_⟩;replace HO_4:=Aside0.mk (Kd.R_below zb4 hb);replace HO_6:=Aside0.mk (Kd.N_below zb9 hb);replace HO_8:=Aside0.mk (Kd.R_below zb10 hb);replace HO336:=Aside0.mk (Kd.V_below zb11 hb);replace BK337:=Aside0.mk (blk_below (g:=gb337) (o:=.cells #[.string (rdOf ByteArray.empty t327 1),.slice A164 y332.length c164,.int .i64 0,.int .i64 0,.int .i64 0,.int .i64 0,.int .i64 0,.int .i64 0] 64 (0,0)) zb12 hb);replace HB:=Aside0.mk (below_step zb3 hb);(try clear hb);have p344:0 ≤ (4:Int):=zb16;have q344:4 < (t327.length:Int):=of_decide_eq_true zb1;obtain ⟨ad344,e344,hx344_0⟩:=Kd.at_string (Kd.R_reads' HO_8.out).2.2 4 p344 q344;obtain rfl:ad331=ad344:=(by injection e344);(try simp only [show (4:Int).toNat=4 from rfl,Nat.reduceMul,Nat.reduceEqDiff,Go.Addr.add,↓reduceIte] at hx344_0);have qi344:(4 < t327.length)=True:=eq_true zb16;(try rw [show ((4:Int)).toNat=4 from rfl] at hx344_0);replace p344:=eq_true p344;replace q344:=eq_true q344)|((with_reducible refine gate_callee (f:=38) rfl ?_);refine goesL_ (some 78) rfl rfl Tryz.func38 zb14 rfl #[.string (rdOf ByteArray.empty t327 4)] rfl zb2 ?_;(with_reducible refine (tollbarref09_Number.calls kj10 (rdOf ByteArray.empty t327 4) t345 t346 _ A26.out).mono ?_);rintro e w176 ⟨rfl,hb⟩;(try clear A26);refine ⟨_,rfl,?_⟩;replace HO_4:=Aside0.mk (Kd.R_below zb4 hb);replace HO_6:=Aside0.mk (Kd.N_below zb9 hb);replace HO_8:=Aside0.mk (Kd.R_below zb10 hb);replace HO336:=Aside0.mk (Kd.V_below zb11 hb);replace BK337:=Aside0.mk (blk_below (g:=gb337) (o:=.cells #[.string (rdOf ByteArray.empty t327 1),.slice A164 y332.length c164,.int .i64 0,.int .i64 0,.int .i64 0,.int .i64 0,.int .i64 0,.int .i64 0] 64 (0,0)) zb12 hb);replace HB:=Aside0.mk (below_step zb3 hb);(try clear hb);have p347:0 ≤ (5:Int):=zb16;have q347:5 < (t327.length:Int):=of_decide_eq_true zb1;obtain ⟨ad347,e347,hx347_0⟩:=Kd.at_string (Kd.R_reads' HO_8.out).2.2 5 p347 q347;obtain rfl:ad331=ad347:=(by injection e347);(try simp only [show (5:Int).toNat=5 from rfl,Nat.reduceMul,Nat.reduceEqDiff,Go.Addr.add,↓reduceIte] at hx347_0);have qi347:(5 < t327.length)=True:=eq_true zb16;(try rw [show ((5:Int)).toNat=5 from rfl] at hx347_0);replace p347:=eq_true p347;replace q347:=eq_true q347)|((with_reducible refine gate_callee (f:=38) rfl ?_);refine goesL_ (some 85) rfl rfl Tryz.func38 zb14 rfl #[.string (rdOf ByteArray.empty t327 5)] rfl zb2 ?_;(with_reducible refine (tollbarref09_Number.calls kj10 (rdOf ByteArray.empty t327 5) t348 t349 _ A28.out).mono ?_);rintro e w177 ⟨rfl,hb⟩;(try clear A28);refine ⟨_,rfl,?_⟩;replace HO_4:=Aside0.mk (Kd.R_below zb4 hb);replace HO_6:=Aside0.mk (Kd.N_below zb9 hb);replace HO_8:=Aside0.mk (Kd.R_below zb10 hb);replace HO336:=Aside0.mk (Kd.V_below zb11 hb);replace BK337:=Aside0.mk (blk_below (g:=gb337) (o:=.cells #[.string (rdOf ByteArray.empty t327 1),.slice A164 y332.length c164,.int .i64 0,.int .i64 0,.int .i64 0,.int .i64 0,.int .i64 0,.int .i64 0] 64 (0,0)) zb12 hb);replace HB:=Aside0.mk (below_step zb3 hb);(try clear hb);have p350:0 ≤ (6:Int):=zb16;have q350:6 < (t327.length:Int):=of_decide_eq_true zb1;obtain ⟨ad350,e350,hx350_0⟩:=Kd.at_string (Kd.R_reads' HO_8.out).2.2 6 p350 q350;obtain rfl:ad331=ad350:=(by injection e350);(try simp only [show (6:Int).toNat=6 from rfl,Nat.reduceMul,Nat.reduceEqDiff,Go.Addr.add,↓reduceIte] at hx350_0);have qi350:(6 < t327.length)=True:=eq_true zb16;(try rw [show ((6:Int)).toNat=6 from rfl] at hx350_0);replace p350:=eq_true p350;replace q350:=eq_true q350)|((with_reducible refine gate_callee (f:=38) rfl ?_);refine goesL_ (some 92) rfl rfl Tryz.func38 zb14 rfl #[.string (rdOf ByteArray.empty t327 6)] rfl zb2 ?_;(with_reducible refine (tollbarref09_Number.calls kj10 (rdOf ByteArray.empty t327 6) t351 t352 _ A30.out).mono ?_);rintro e w178 ⟨rfl,hb⟩;(try clear A30);refine ⟨_,rfl,?_⟩;replace HO_4:=Aside0.mk (Kd.R_below zb4 hb);replace HO_6:=Aside0.mk (Kd.N_below zb9 hb);replace HO_8:=Aside0.mk (Kd.R_below zb10 hb);replace HO336:=Aside0.mk (Kd.V_below zb11 hb);replace BK337:=Aside0.mk (blk_below (g:=gb337) (o:=.cells #[.string (rdOf ByteArray.empty t327 1),.slice A164 y332.length c164,.int .i64 0,.int .i64 0,.int .i64 0,.int .i64 0,.int .i64 0,.int .i64 0] 64 (0,0)) zb12 hb);replace HB:=Aside0.mk (below_step zb3 hb);(try clear hb);have p353:0 ≤ (7:Int):=zb16;have q353:7 < (t327.length:Int):=of_decide_eq_true zb1;obtain ⟨ad353,e353,hx353_0⟩:=Kd.at_string (Kd.R_reads' HO_8.out).2.2 7 p353 q353;obtain rfl:ad331=ad353:=(by injection e353);(try simp only [show (7:Int).toNat=7 from rfl,Nat.reduceMul,Nat.reduceEqDiff,Go.Addr.add,↓reduceIte] at hx353_0);have qi353:(7 < t327.length)=True:=eq_true zb16;(try rw [show ((7:Int)).toNat=7 from rfl] at hx353_0);replace p353:=eq_true p353;replace q353:=eq_true q353)|((with_reducible refine gate_callee (f:=38) rfl ?_);refine goesL_ (some 99) rfl rfl Tryz.func38 zb14 rfl #[.string (rdOf ByteArray.empty t327 7)] rfl zb2 ?_;(with_reducible refine (tollbarref09_Number.calls kj10 (rdOf ByteArray.empty t327 7) t354 t355 _ A32.out).mono ?_);rintro e w179 ⟨rfl,hb⟩;(try clear A32);refine ⟨_,rfl,?_⟩;replace HO_4:=Aside0.mk (Kd.R_below zb4 hb);replace HO_6:=Aside0.mk (Kd.N_below zb9 hb);replace HO_8:=Aside0.mk (Kd.R_below zb10 hb);replace HO336:=Aside0.mk (Kd.V_below zb11 hb);replace BK337:=Aside0.mk (blk_below (g:=gb337) (o:=.cells #[.string (rdOf ByteArray.empty t327 1),.slice A164 y332.length c164,.int .i64 0,.int .i64 0,.int .i64 0,.int .i64 0,.int .i64 0,.int .i64 0] 64 (0,0)) zb12 hb);replace HB:=Aside0.mk (below_step zb3 hb);(try clear hb)))
               go_ret2
               exact ⟨_,zb6,zb18,zb3⟩
              subst c33
              rw [if_pos rfl] at H
              by_cases c34:t343=true
              ·subst c34
               rw [if_pos rfl] at H
               by_cases c35:t346=true;rotate_left
               ·replace c35:=Bool.eq_false_iff.mpr c35
                subst c35
                rw [if_neg (show ¬ (false=true) by decide)] at H
                simp only [Option.some.injEq,Prod.mk.injEq] at H
                obtain ⟨rfl,rfl⟩:=H
                try go_wp2
                replace HO_4:=Aside0.mk (Kd.R_drew HO_4.out)
                replace HO_6:=Aside0.mk (Kd.N_drew HO_6.out)
                replace HO_8:=Aside0.mk (Kd.R_drew HO_8.out)
                replace HB:=Aside0.mk (below_drew1 HB.out)
                obtain ⟨Ao127,co127,eo127⟩:=Kd.R_slice HO_8.out
                (first|subst eo127|(injection eo127 with f1_ f2_ f3_;have f4_:=f1_.symm;have f5_:=f3_.symm;clear f1_ f2_ f3_;subst f4_;subst f5_))
                have p331:0 ≤ (1:Int):=zb16
                have q331:1 < (t327.length:Int):=of_decide_eq_true zb1
                obtain ⟨ad331,e331,hx331_0⟩:=Kd.at_string (Kd.R_reads' HO_8.out).2.2 1 p331 q331
                cases e331
                (try simp only [show (1:Int).toNat=1 from rfl,Nat.reduceMul,Nat.reduceEqDiff,Go.Addr.add,↓reduceIte] at hx331_0)
                have qi331:(1 < t327.length)=True:=eq_true zb16
                (try rw [show ((1:Int)).toNat=1 from rfl] at hx331_0)
                replace p331:=eq_true p331
                replace q331:=eq_true q331
                have q128:(8:Int) ≤ ((t327.length:Int):Int):=of_decide_eq_true zb1
                obtain ⟨i0128,hi0128,_,hsz128,_⟩:=info_parts info9
                have hroom128:t327.length ≤ co127:=(Kd.R_reads' HO_8.out).2.1
                have hC128:Kd.F Kd.string _ _ (some ad331) t327.length t327:=(Kd.V_at (base:=w.heap.size) (Kd.R_V (Kd.R_apart' (HO_8.out) (Kd.N_typed HO_6.out) zb22))).2.2
                have hcut128:=cut_from (P:=Tryz.prog) 34 9 .i64 Tryz.underlying34 hi0128 1 hsz128 (some ad331) t327.length co127 8 zb16 q128
                have hr128:=Kd.F_cut (m:=(8:Int).toNat) (c:=co127) hC128 zb16 hroom128
                obtain ⟨A128,hA128⟩ : ∃ A1,A1=(if co127=(8:Int).toNat then (some ad331) else ((some ad331):Option Addr).map (·.add ((8:Int).toNat * 1))):=⟨_,rfl⟩
                obtain ⟨c128,hc128⟩ : ∃ c1,c1=co127 - (8:Int).toNat:=⟨_,rfl⟩
                have hy128:y332.length=t327.length - (8:Int).toNat:=zb70
                rw [show (t327).drop (8:Int).toNat=y332 from Ny332.out.symm] at hr128
                replace hr128:Kd.F Kd.string _ _ A128 y332.length y332:=(by rw [hA128];exact hr128)
                rw [← hy128,← hA128,← hc128] at hcut128
                have HO336:=Aside0.mk (show Kd.V Kd.string 9 _ w.heap.size _ (.slice A128 y332.length c128) y332 from Kd.V_mk (by rw [hy128,hc128];exact Nat.sub_le_sub_right hroom128 _) hr128)
                have HC336:=Aside0.mk (show y332.length ≤ c128 from by rw [hy128,hc128];exact Nat.sub_le_sub_right hroom128 _)
                clear hr128 hC128 hroom128 hi0128 hsz128 hc128
                have KY128:=Aside0.mk hy128
                have KA128:=Aside0.mk hA128
                clear hy128 hA128
                replace q128:=eq_true q128
                refine start_ (n:=8) (S:=fun w' => w'.cell? ⟨ad331.block,ad331.off + 1,none⟩=some (.string (rdOf ByteArray.empty t327 1))) (ds:=[]) (zl 8 0) zb14 rfl rfl (hx331_0) (fun hHeld=>?_);refine with_tabW tollbarref09_Read.tab13 tollbarref09_Read.bits13 (fun HT_ HW_=>?_)
                generalize wc.drew=w126 at HO_4 HO_6 HO_8 HB HO336 hx331_0 hHeld ⊢
                refine zpu 0 (N:=some 54) (zl 8 1) HT_.out rfl rfl ?_
                refine zpu 1 (N:=some 55) (zl 8 3) HT_.out rfl rfl ?_
                refine zpu 3 (N:=some 57) (zl 8 11) HT_.out rfl rfl ?_
                refine zpu 4 (N:=some 58) (zl 8 27) HT_.out rfl rfl ?_
                refine take_ (i:=2) (N:=some 56) (v:=?_) (a' := ?_) (zl 8 31) rfl rfl (take_ofW HT_.out HW_.out zb14) (fun _ _ _ h=>h) (Or.inl ⟨zb45,?_⟩) hHeld ?_ ?_
                rotate_left
                ·intro w' s0
                 go_simp
                 with_reducible rfl
                rotate_left
                ·simp only [Act.put,zqA,zqB,zqC,i64_w,i32_w];rfl
                refine zpu 5 (N:=some 59) (zl 8 63) HT_.out rfl rfl ?_
                refine one_ (i:=6) (N:=some 9) (zl 8 127) rfl rfl (one_of HT_.out zb14) zb22 (fun K hK=>?_)
                refine box_step ?hg (N:=9) ?hd (cs:=#[.string (⟨#[]⟩:ByteArray),.slice none 0 0,.int .i64 0,.int .i64 0,.int .i64 0,.int .i64 0,.int .i64 0,.int .i64 0]) (t:=64) ?hr ?_;(case hd=>rfl);(case hg=>rfl);(case hr=>first|(go_simp;done)|(go_simp;rfl))
                intro gb337 hg w129 hbox hb
                have HS0_:=(hb.cell (World.block_lt_of_cell? _ _ (hHeld))).trans (hHeld)
                have n0_:=Aside0.mk (Kd.R_below zb4 hb)
                have n1_:=Aside0.mk (Kd.N_below (Kd.N_elderB zb9 gb337 (Nat.le_of_eq hg.symm)) hb)
                have n2_:=Aside0.mk (Kd.R_below zb10 hb)
                have n3_:=Aside0.mk (Kd.V_below (Kd.V_elderB zb11 gb337 (Nat.le_of_eq hg.symm)) hb)
                have n4_:=Aside0.mk (below_step zb0 hb)
                have n5_:=Aside0.mk (hbox)
                have n6_:=zG hg zb0
                have n7_:=zG hg zb0
                clear HO_4 HO_6 HO_8 HO336 HB
                have HO_4:=n0_
                have HO_6:=n1_
                have HO_8:=n2_
                have HO336:=n3_
                have HB:=n4_
                have BK337:=n5_
                have GW337:=n6_
                have GE337:=n7_
                clear n0_ n1_ n2_ n3_ n4_ n5_ n6_ n7_ hb hbox hg
                refine hK.out _ _ (HS0_) (fun hHeld=>?_)
                clear hK K
                refine norm_ (a' := ?_) ?_ ?_
                rotate_left
                ·show Act.put _ (some 9) _=_
                 simp only [Act.put,zqA,zqB,zqC,i64_w,i32_w]
                 rfl
                refine one_ (i:=7) (N:=none) (zl 8 255) rfl rfl (one_of HT_.out zb14) zb22 (fun K hK=>?_)
                have hs130:w129.cell? ⟨gb337,0,none⟩=some (.string (⟨#[]⟩:ByteArray)):=(blk_cell BK337.out 0).trans rfl
                have hfs130:=blk_frozen BK337.out 0
                have hs131:w129.cell? ⟨gb337,1,none⟩=some (.slice none 0 0):=(blk_cell BK337.out 1).trans rfl
                have hfs131:=blk_frozen BK337.out 1
                have hs132:w129.cell? ⟨gb337,2,none⟩=some (.int .i64 0):=(blk_cell BK337.out 2).trans rfl
                have hfs132:=blk_frozen BK337.out 2
                have hs133:w129.cell? ⟨gb337,3,none⟩=some (.int .i64 0):=(blk_cell BK337.out 3).trans rfl
                have hfs133:=blk_frozen BK337.out 3
                have hs134:w129.cell? ⟨gb337,4,none⟩=some (.int .i64 0):=(blk_cell BK337.out 4).trans rfl
                have hfs134:=blk_frozen BK337.out 4
                have hs135:w129.cell? ⟨gb337,5,none⟩=some (.int .i64 0):=(blk_cell BK337.out 5).trans rfl
                have hfs135:=blk_frozen BK337.out 5
                have hs136:w129.cell? ⟨gb337,6,none⟩=some (.int .i64 0):=(blk_cell BK337.out 6).trans rfl
                have hfs136:=blk_frozen BK337.out 6
                have hs137:w129.cell? ⟨gb337,7,none⟩=some (.int .i64 0):=(blk_cell BK337.out 7).trans rfl
                have hfs137:=blk_frozen BK337.out 7
                refine skip_ (w1:=?_) zb45 rfl ?_ ?_
                rotate_left
                ·go_simp
                 rfl
                have hfar_:=Kd.own_blk (Kd.R_ne HO_8.out BK337.out zb22)
                refine hK.out _ _ (tollbarref09_Read.far8 hfar_ hHeld) (fun hHeld=>?_)
                clear hK K
                refine done_ (done_of HT_.out zb14) ?_
                have p338:0 ≤ (2:Int):=zb16
                have q338:2 < (t327.length:Int):=of_decide_eq_true zb1
                obtain ⟨ad338,e338,hx338_0⟩:=Kd.at_string (Kd.R_reads' HO_8.out).2.2 2 p338 q338
                obtain rfl:ad331=ad338:=(by injection e338)
                (try simp only [show (2:Int).toNat=2 from rfl,Nat.reduceMul,Nat.reduceEqDiff,Go.Addr.add,↓reduceIte] at hx338_0)
                have qi338:(2 < t327.length)=True:=eq_true zb16
                (try rw [show ((2:Int)).toNat=2 from rfl] at hx338_0)
                have hn338_0:ad331.block ≠ gb337:=Kd.own_blk (Kd.R_ne HO_8.out BK337.out zb22)
                have hn338_1:ad331.block ≠ gb337:=Kd.own_blk (Kd.R_ne HO_8.out BK337.out zb22)
                have hn338_2:ad331.block ≠ gb337:=Kd.own_blk (Kd.R_ne HO_8.out BK337.out zb22)
                have hn338_3:ad331.block ≠ gb337:=Kd.own_blk (Kd.R_ne HO_8.out BK337.out zb22)
                have hn338_4:ad331.block ≠ gb337:=Kd.own_blk (Kd.R_ne HO_8.out BK337.out zb22)
                have hn338_5:ad331.block ≠ gb337:=Kd.own_blk (Kd.R_ne HO_8.out BK337.out zb22)
                have hn338_6:ad331.block ≠ gb337:=Kd.own_blk (Kd.R_ne HO_8.out BK337.out zb22)
                have hn338_7:ad331.block ≠ gb337:=Kd.own_blk (Kd.R_ne HO_8.out BK337.out zb22)
                replace hx338_0:=(cell_far (p:=⟨gb337,0,none⟩) zb33 (.string (rdOf ByteArray.empty t327 1))).trans hx338_0
                replace hx338_0:=(cell_far (p:=⟨gb337,1,none⟩) zb34 (.slice A128 y332.length c128)).trans hx338_0
                replace hx338_0:=(cell_far (p:=⟨gb337,2,none⟩) zb35 (.int .i64 0)).trans hx338_0
                replace hx338_0:=(cell_far (p:=⟨gb337,3,none⟩) zb36 (.int .i64 0)).trans hx338_0
                replace hx338_0:=(cell_far (p:=⟨gb337,4,none⟩) zb37 (.int .i64 0)).trans hx338_0
                replace hx338_0:=(cell_far (p:=⟨gb337,5,none⟩) zb38 (.int .i64 0)).trans hx338_0
                replace hx338_0:=(cell_far (p:=⟨gb337,6,none⟩) zb39 (.int .i64 0)).trans hx338_0
                replace hx338_0:=(cell_far (p:=⟨gb337,7,none⟩) zb40 (.int .i64 0)).trans hx338_0
                clear hn338_0 hn338_1 hn338_2 hn338_3 hn338_4 hn338_5 hn338_6 hn338_7
                replace p338:=eq_true p338
                replace q338:=eq_true q338
                try go_wp2_with (first|((with_reducible refine gate_callee (f:=38) rfl ?_);refine goesL_ (some 64) rfl rfl Tryz.func38 zb14 rfl #[.string (rdOf ByteArray.empty t327 2)] rfl zb2 ?_;(with_reducible refine (tollbarref09_Number.calls kj10 (rdOf ByteArray.empty t327 2) t339 true _ A22.out).mono ?_);rintro e w138 ⟨rfl,hb⟩;(try clear A22);refine ⟨_,rfl,?_⟩;replace HO_4:=Aside0.mk (Kd.R_below (by (with_reducible repeat (first|apply Kd.R_alloc|apply Kd.R_drewN|apply Kd.R_drew));exact (Kd.R_mono (Kd.R_far (p:=⟨gb337,7,none⟩) (Kd.R_far (p:=⟨gb337,6,none⟩) (Kd.R_far (p:=⟨gb337,5,none⟩) (Kd.R_far (p:=⟨gb337,4,none⟩) (Kd.R_far (p:=⟨gb337,3,none⟩) (Kd.R_far (p:=⟨gb337,2,none⟩) (Kd.R_far (p:=⟨gb337,1,none⟩) (Kd.R_far (p:=⟨gb337,0,none⟩) (Kd.R_types HO_4.out BK337.out (by decide)) (fun _ hk=>hk.2) (.string (rdOf ByteArray.empty t327 1))) (fun _ hk=>hk.2) (.slice A128 y332.length c128)) (fun _ hk=>hk.2) (.int .i64 0)) (fun _ hk=>hk.2) (.int .i64 0)) (fun _ hk=>hk.2) (.int .i64 0)) (fun _ hk=>hk.2) (.int .i64 0)) (fun _ hk=>hk.2) (.int .i64 0)) (fun _ hk=>hk.2) (.int .i64 0)) (fun _ h_=>h_.1))) hb);replace HO_6:=Aside0.mk (Kd.N_below (by (with_reducible repeat (first|apply Kd.N_alloc|apply Kd.N_drewN|apply Kd.N_drew));exact (Kd.N_mono (Kd.N_far (p:=⟨gb337,7,none⟩) (Kd.N_far (p:=⟨gb337,6,none⟩) (Kd.N_far (p:=⟨gb337,5,none⟩) (Kd.N_far (p:=⟨gb337,4,none⟩) (Kd.N_far (p:=⟨gb337,3,none⟩) (Kd.N_far (p:=⟨gb337,2,none⟩) (Kd.N_far (p:=⟨gb337,1,none⟩) (Kd.N_far (p:=⟨gb337,0,none⟩) (Kd.N_mono HO_6.out (fun k_ hk=>(⟨hk,hk.2⟩:_∧k_ ≠ gb337))) (fun _ hk=>hk.2) (.string (rdOf ByteArray.empty t327 1))) (fun _ hk=>hk.2) (.slice A128 y332.length c128)) (fun _ hk=>hk.2) (.int .i64 0)) (fun _ hk=>hk.2) (.int .i64 0)) (fun _ hk=>hk.2) (.int .i64 0)) (fun _ hk=>hk.2) (.int .i64 0)) (fun _ hk=>hk.2) (.int .i64 0)) (fun _ hk=>hk.2) (.int .i64 0)) (fun _ h_=>h_.1))) hb);replace HO_8:=Aside0.mk (Kd.R_below (by (with_reducible repeat (first|apply Kd.R_alloc|apply Kd.R_drewN|apply Kd.R_drew));exact (Kd.R_mono (Kd.R_far (p:=⟨gb337,7,none⟩) (Kd.R_far (p:=⟨gb337,6,none⟩) (Kd.R_far (p:=⟨gb337,5,none⟩) (Kd.R_far (p:=⟨gb337,4,none⟩) (Kd.R_far (p:=⟨gb337,3,none⟩) (Kd.R_far (p:=⟨gb337,2,none⟩) (Kd.R_far (p:=⟨gb337,1,none⟩) (Kd.R_far (p:=⟨gb337,0,none⟩) (Kd.R_types HO_8.out BK337.out (by decide)) (fun _ hk=>hk.2) (.string (rdOf ByteArray.empty t327 1))) (fun _ hk=>hk.2) (.slice A128 y332.length c128)) (fun _ hk=>hk.2) (.int .i64 0)) (fun _ hk=>hk.2) (.int .i64 0)) (fun _ hk=>hk.2) (.int .i64 0)) (fun _ hk=>hk.2) (.int .i64 0)) (fun _ hk=>hk.2) (.int .i64 0)) (fun _ hk=>hk.2) (.int .i64 0)) (fun _ h_=>h_.1))) hb);replace HO336:=Aside0.mk (Kd.V_below (by (with_reducible repeat (first|apply Kd.V_alloc|apply Kd.V_drewN|apply Kd.V_drew));exact (Kd.V_mono (Kd.V_far (p:=⟨gb337,7,none⟩) (Kd.V_far (p:=⟨gb337,6,none⟩) (Kd.V_far (p:=⟨gb337,5,none⟩) (Kd.V_far (p:=⟨gb337,4,none⟩) (Kd.V_far (p:=⟨gb337,3,none⟩) (Kd.V_far (p:=⟨gb337,2,none⟩) (Kd.V_far (p:=⟨gb337,1,none⟩) (Kd.V_far (p:=⟨gb337,0,none⟩) (Kd.V_mono HO336.out (fun k_ hk=>(⟨hk,hk.2⟩:_∧k_ ≠ gb337))) (fun _ hk=>hk.2) (.string (rdOf ByteArray.empty t327 1))) (fun _ hk=>hk.2) (.slice A128 y332.length c128)) (fun _ hk=>hk.2) (.int .i64 0)) (fun _ hk=>hk.2) (.int .i64 0)) (fun _ hk=>hk.2) (.int .i64 0)) (fun _ hk=>hk.2) (.int .i64 0)) (fun _ hk=>hk.2) (.int .i64 0)) (fun _ hk=>hk.2) (.int .i64 0)) (fun _ h_=>h_.1))) hb);replace BK337:=Aside0.mk (blk_below (g:=gb337) (o:=.cells #[.string (rdOf ByteArray.empty t327 1),.slice A128 y332.length c128,.int .i64 0,.int .i64 0,.int .i64 0,.int .i64 0,.int .i64 0,.int .i64 0] 64 (0,0)) (by (with_reducible repeat (first|refine blk_drewN ?_ _|refine blk_drew ?_|refine blk_alloc ?_ _));refine blk_put (cs:=#[.string (rdOf ByteArray.empty t327 1),.slice A128 y332.length c128,.int .i64 0,.int .i64 0,.int .i64 0,.int .i64 0,.int .i64 0,.int .i64 0]) ?_ 7 _ rfl;(with_reducible repeat (first|refine blk_drewN ?_ _|refine blk_drew ?_|refine blk_alloc ?_ _));refine blk_put (cs:=#[.string (rdOf ByteArray.empty t327 1),.slice A128 y332.length c128,.int .i64 0,.int .i64 0,.int .i64 0,.int .i64 0,.int .i64 0,.int .i64 0]) ?_ 6 _ rfl;(with_reducible repeat (first|refine blk_drewN ?_ _|refine blk_drew ?_|refine blk_alloc ?_ _));refine blk_put (cs:=#[.string (rdOf ByteArray.empty t327 1),.slice A128 y332.length c128,.int .i64 0,.int .i64 0,.int .i64 0,.int .i64 0,.int .i64 0,.int .i64 0]) ?_ 5 _ rfl;(with_reducible repeat (first|refine blk_drewN ?_ _|refine blk_drew ?_|refine blk_alloc ?_ _));refine blk_put (cs:=#[.string (rdOf ByteArray.empty t327 1),.slice A128 y332.length c128,.int .i64 0,.int .i64 0,.int .i64 0,.int .i64 0,.int .i64 0,.int .i64 0]) ?_ 4 _ rfl;(with_reducible repeat (first|refine blk_drewN ?_ _|refine blk_drew ?_|refine blk_alloc ?_ _));refine blk_put (cs:=#[.string (rdOf ByteArray.empty t327 1),.slice A128 y332.length c128,.int .i64 0,.int .i64 0,.int .i64 0,.int .i64 0,.int .i64 0,.int .i64 0]) ?_ 3 _ rfl;(with_reducible repeat (first|refine blk_drewN ?_ _|refine blk_drew ?_|refine blk_alloc ?_ _));refine blk_put (cs:=#[.string (rdOf ByteArray.empty t327 1),.slice A128 y332.length c128,.int .i64 0,.int .i64 0,.int .i64 0,.int .i64 0,.int .i64 0,.int .i64 0]) ?_ 2 _ rfl;(with_reducible repeat (first|refine blk_drewN ?_ _|refine blk_drew ?_|refine blk_alloc ?_ _));refine blk_put (cs:=#[.string (rdOf ByteArray.empty t327 1),.slice none 0 0,.int .i64 0,.int .i64 0,.int .i64 0,.int .i64 0,.int .i64 0,.int .i64 0]) ?_ 1 _ rfl;(with_reducible repeat (first|refine blk_drewN ?_ _|refine blk_drew ?_|refine blk_alloc ?_ _));refine blk_put (cs:=#[.string (⟨#[]⟩:ByteArray),.slice none 0 0,.int .i64 0,.int .i64 0,.int .i64 0,.int .i64 0,.int .i64 0,.int .i64 0]) ?_ 0 _ rfl;(with_reducible repeat (first|refine blk_drewN ?_ _|refine blk_drew ?_|refine blk_alloc ?_ _));exact BK337.out) hb);replace HB:=Aside0.mk (below_step zb3 hb);(try clear hb);have p341:0 ≤ (3:Int):=zb16;have q341:3 < (t327.length:Int):=of_decide_eq_true zb1;obtain ⟨ad341,e341,hx341_0⟩:=Kd.at_string (Kd.R_reads' HO_8.out).2.2 3 p341 q341;obtain rfl:ad331=ad341:=(by injection e341);(try simp only [show (3:Int).toNat=3 from rfl,Nat.reduceMul,Nat.reduceEqDiff,Go.Addr.add,↓reduceIte] at hx341_0);have qi341:(3 < t327.length)=True:=eq_true zb16;(try rw [show ((3:Int)).toNat=3 from rfl] at hx341_0);replace p341:=eq_true p341;replace q341:=eq_true q341)|((with_reducible refine gate_callee (f:=38) rfl ?_);refine goesL_ (some 71) rfl rfl Tryz.func38 zb14 rfl #[.string (rdOf ByteArray.empty t327 3)] rfl zb2 ?_;(with_reducible refine (tollbarref09_Number.calls kj10 (rdOf ByteArray.empty t327 3) t342 true _ A24.out).mono ?_);rintro e w139 ⟨rfl,hb⟩;(try clear A24);refine ⟨_,rfl,?_⟩;replace HO_4:=Aside0.mk (Kd.R_below zb4 hb);replace HO_6:=Aside0.mk (Kd.N_below zb9 hb);replace HO_8:=Aside0.mk (Kd.R_below zb10 hb);replace HO336:=Aside0.mk (Kd.V_below zb11 hb);replace BK337:=Aside0.mk (blk_below (g:=gb337) (o:=.cells #[.string (rdOf ByteArray.empty t327 1),.slice A128 y332.length c128,.int .i64 0,.int .i64 0,.int .i64 0,.int .i64 0,.int .i64 0,.int .i64 0] 64 (0,0)) zb12 hb);replace HB:=Aside0.mk (below_step zb3 hb);(try clear hb);have p344:0 ≤ (4:Int):=zb16;have q344:4 < (t327.length:Int):=of_decide_eq_true zb1;obtain ⟨ad344,e344,hx344_0⟩:=Kd.at_string (Kd.R_reads' HO_8.out).2.2 4 p344 q344;obtain rfl:ad331=ad344:=(by injection e344);(try simp only [show (4:Int).toNat=4 from rfl,Nat.reduceMul,Nat.reduceEqDiff,Go.Addr.add,↓reduceIte] at hx344_0);have qi344:(4 < t327.length)=True:=eq_true zb16;(try rw [show ((4:Int)).toNat=4 from rfl] at hx344_0);replace p344:=eq_true p344;replace q344:=eq_true q344)|((with_reducible refine gate_callee (f:=38) rfl ?_);refine goesL_ (some 78) rfl rfl Tryz.func38 zb14 rfl #[.string (rdOf ByteArray.empty t327 4)] rfl zb2 ?_;(with_reducible refine (tollbarref09_Number.calls kj10 (rdOf ByteArray.empty t327 4) t345 false _ A26.out).mono ?_);rintro e w140 ⟨rfl,hb⟩;(try clear A26);refine ⟨_,rfl,?_⟩;replace HO_4:=Aside0.mk (Kd.R_below zb4 hb);replace HO_6:=Aside0.mk (Kd.N_below zb9 hb);replace HO_8:=Aside0.mk (Kd.R_below zb10 hb);replace HO336:=Aside0.mk (Kd.V_below zb11 hb);replace BK337:=Aside0.mk (blk_below (g:=gb337) (o:=.cells #[.string (rdOf ByteArray.empty t327 1),.slice A128 y332.length c128,.int .i64 0,.int .i64 0,.int .i64 0,.int .i64 0,.int .i64 0,.int .i64 0] 64 (0,0)) zb12 hb);replace HB:=Aside0.mk (below_step zb3 hb);(try clear hb);have p347:0 ≤ (5:Int):=zb16;have q347:5 < (t327.length:Int):=of_decide_eq_true zb1;obtain ⟨ad347,e347,hx347_0⟩:=Kd.at_string (Kd.R_reads' HO_8.out).2.2 5 p347 q347;obtain rfl:ad331=ad347:=(by injection e347);(try simp only [show (5:Int).toNat=5 from rfl,Nat.reduceMul,Nat.reduceEqDiff,Go.Addr.add,↓reduceIte] at hx347_0);have qi347:(5 < t327.length)=True:=eq_true zb16;(try rw [show ((5:Int)).toNat=5 from rfl] at hx347_0);replace p347:=eq_true p347;replace q347:=eq_true q347)|((with_reducible refine gate_callee (f:=38) rfl ?_);refine goesL_ (some 85) rfl rfl Tryz.func38 zb14 rfl #[.string (rdOf ByteArray.empty t327 5)] rfl zb2 ?_;(with_reducible refine (tollbarref09_Number.calls kj10 (rdOf ByteArray.empty t327 5) t348 t349 _ A28.out).mono ?_);rintro e w141 ⟨rfl,hb⟩;(try clear A28);refine ⟨_,rfl,?_⟩;replace HO_4:=Aside0.mk (Kd.R_below zb4 hb);replace HO_6:=Aside0.mk (Kd.N_below zb9 hb);replace HO_8:=Aside0.mk (Kd.R_below zb10 hb);replace HO336:=Aside0.mk (Kd.V_below zb11 hb);replace BK337:=Aside0.mk (blk_below (g:=gb337) (o:=.cells #[.string (rdOf ByteArray.empty t327 1),.slice A128 y332.length c128,.int .i64 0,.int .i64 0,.int .i64 0,.int .i64 0,.int .i64 0,.int .i64 0] 64 (0,0)) zb12 hb);replace HB:=Aside0.mk (below_step zb3 hb);(try clear hb);have p350:0 ≤ (6:Int):=zb16;have q350:6 < (t327.length:Int):=of_decide_eq_true zb1;obtain ⟨ad350,e350,hx350_0⟩:=Kd.at_string (Kd.R_reads' HO_8.out).2.2 6 p350 q350;obtain rfl:ad331=ad350:=(by injection e350);(try simp only [show (6:Int).toNat=6 from rfl,Nat.reduceMul,Nat.reduceEqDiff,Go.Addr.add,↓reduceIte] at hx350_0);have qi350:(6 < t327.length)=True:=eq_true zb16;(try rw [show ((6:Int)).toNat=6 from rfl] at hx350_0);replace p350:=eq_true p350;replace q350:=eq_true q350)|((with_reducible refine gate_callee (f:=38) rfl ?_);refine goesL_ (some 92) rfl rfl Tryz.func38 zb14 rfl #[.string (rdOf ByteArray.empty t327 6)] rfl zb2 ?_;(with_reducible refine (tollbarref09_Number.calls kj10 (rdOf ByteArray.empty t327 6) t351 t352 _ A30.out).mono ?_);rintro e w142 ⟨rfl,hb⟩;(try clear A30);refine ⟨_,rfl,?_⟩;replace HO_4:=Aside0.mk (Kd.R_below zb4 hb);replace HO_6:=Aside0.mk (Kd.N_below zb9 hb);replace HO_8:=Aside0.mk (Kd.R_below zb10 hb);replace HO336:=Aside0.mk (Kd.V_below zb11 hb);replace BK337:=Aside0.mk (blk_below (g:=gb337) (o:=.cells #[.string (rdOf ByteArray.empty t327 1),.slice A128 y332.length c128,.int .i64 0,.int .i64 0,.int .i64 0,.int .i64 0,.int .i64 0,.int .i64 0] 64 (0,0)) zb12 hb);replace HB:=Aside0.mk (below_step zb3 hb);(try clear hb);have p353:0 ≤ (7:Int):=zb16;have q353:7 < (t327.length:Int):=of_decide_eq_true zb1;obtain ⟨ad353,e353,hx353_0⟩:=Kd.at_string (Kd.R_reads' HO_8.out).2.2 7 p353 q353;obtain rfl:ad331=ad353:=(by injection e353);(try simp only [show (7:Int).toNat=7 from rfl,Nat.reduceMul,Nat.reduceEqDiff,Go.Addr.add,↓reduceIte] at hx353_0);have qi353:(7 < t327.length)=True:=eq_true zb16;(try rw [show ((7:Int)).toNat=7 from rfl] at hx353_0);replace p353:=eq_true p353;replace q353:=eq_true q353)|((with_reducible refine gate_callee (f:=38) rfl ?_);refine goesL_ (some 99) rfl rfl Tryz.func38 zb14 rfl #[.string (rdOf ByteArray.empty t327 7)] rfl zb2 ?_;(with_reducible refine (tollbarref09_Number.calls kj10 (rdOf ByteArray.empty t327 7) t354 t355 _ A32.out).mono ?_);rintro e w143 ⟨rfl,hb⟩;(try clear A32);refine ⟨_,rfl,?_⟩;replace HO_4:=Aside0.mk (Kd.R_below zb4 hb);replace HO_6:=Aside0.mk (Kd.N_below zb9 hb);replace HO_8:=Aside0.mk (Kd.R_below zb10 hb);replace HO336:=Aside0.mk (Kd.V_below zb11 hb);replace BK337:=Aside0.mk (blk_below (g:=gb337) (o:=.cells #[.string (rdOf ByteArray.empty t327 1),.slice A128 y332.length c128,.int .i64 0,.int .i64 0,.int .i64 0,.int .i64 0,.int .i64 0,.int .i64 0] 64 (0,0)) zb12 hb);replace HB:=Aside0.mk (below_step zb3 hb);(try clear hb)))
                go_ret2
                exact ⟨_,zb6,zb18,zb3⟩
               subst c35
               rw [if_pos rfl] at H
               by_cases c36:t349=true
               ·subst c36
                rw [if_pos rfl] at H
                by_cases c37:t352=true;rotate_left
                ·replace c37:=Bool.eq_false_iff.mpr c37
                 subst c37
                 rw [if_neg (show ¬ (false=true) by decide)] at H
                 simp only [Option.some.injEq,Prod.mk.injEq] at H
                 obtain ⟨rfl,rfl⟩:=H
                 try go_wp2
                 replace HO_4:=Aside0.mk (Kd.R_drew HO_4.out)
                 replace HO_6:=Aside0.mk (Kd.N_drew HO_6.out)
                 replace HO_8:=Aside0.mk (Kd.R_drew HO_8.out)
                 replace HB:=Aside0.mk (below_drew1 HB.out)
                 obtain ⟨Ao91,co91,eo91⟩:=Kd.R_slice HO_8.out
                 (first|subst eo91|(injection eo91 with f1_ f2_ f3_;have f4_:=f1_.symm;have f5_:=f3_.symm;clear f1_ f2_ f3_;subst f4_;subst f5_))
                 have p331:0 ≤ (1:Int):=zb16
                 have q331:1 < (t327.length:Int):=of_decide_eq_true zb1
                 obtain ⟨ad331,e331,hx331_0⟩:=Kd.at_string (Kd.R_reads' HO_8.out).2.2 1 p331 q331
                 cases e331
                 (try simp only [show (1:Int).toNat=1 from rfl,Nat.reduceMul,Nat.reduceEqDiff,Go.Addr.add,↓reduceIte] at hx331_0)
                 have qi331:(1 < t327.length)=True:=eq_true zb16
                 (try rw [show ((1:Int)).toNat=1 from rfl] at hx331_0)
                 replace p331:=eq_true p331
                 replace q331:=eq_true q331
                 have q92:(8:Int) ≤ ((t327.length:Int):Int):=of_decide_eq_true zb1
                 obtain ⟨i092,hi092,_,hsz92,_⟩:=info_parts info9
                 have hroom92:t327.length ≤ co91:=(Kd.R_reads' HO_8.out).2.1
                 have hC92:Kd.F Kd.string _ _ (some ad331) t327.length t327:=(Kd.V_at (base:=w.heap.size) (Kd.R_V (Kd.R_apart' (HO_8.out) (Kd.N_typed HO_6.out) zb22))).2.2
                 have hcut92:=cut_from (P:=Tryz.prog) 34 9 .i64 Tryz.underlying34 hi092 1 hsz92 (some ad331) t327.length co91 8 zb16 q92
                 have hr92:=Kd.F_cut (m:=(8:Int).toNat) (c:=co91) hC92 zb16 hroom92
                 obtain ⟨A92,hA92⟩ : ∃ A1,A1=(if co91=(8:Int).toNat then (some ad331) else ((some ad331):Option Addr).map (·.add ((8:Int).toNat * 1))):=⟨_,rfl⟩
                 obtain ⟨c92,hc92⟩ : ∃ c1,c1=co91 - (8:Int).toNat:=⟨_,rfl⟩
                 have hy92:y332.length=t327.length - (8:Int).toNat:=zb70
                 rw [show (t327).drop (8:Int).toNat=y332 from Ny332.out.symm] at hr92
                 replace hr92:Kd.F Kd.string _ _ A92 y332.length y332:=(by rw [hA92];exact hr92)
                 rw [← hy92,← hA92,← hc92] at hcut92
                 have HO336:=Aside0.mk (show Kd.V Kd.string 9 _ w.heap.size _ (.slice A92 y332.length c92) y332 from Kd.V_mk (by rw [hy92,hc92];exact Nat.sub_le_sub_right hroom92 _) hr92)
                 have HC336:=Aside0.mk (show y332.length ≤ c92 from by rw [hy92,hc92];exact Nat.sub_le_sub_right hroom92 _)
                 clear hr92 hC92 hroom92 hi092 hsz92 hc92
                 have KY92:=Aside0.mk hy92
                 have KA92:=Aside0.mk hA92
                 clear hy92 hA92
                 replace q92:=eq_true q92
                 refine start_ (n:=8) (S:=fun w' => w'.cell? ⟨ad331.block,ad331.off + 1,none⟩=some (.string (rdOf ByteArray.empty t327 1))) (ds:=[]) (zl 8 0) zb14 rfl rfl (hx331_0) (fun hHeld=>?_);refine with_tabW tollbarref09_Read.tab13 tollbarref09_Read.bits13 (fun HT_ HW_=>?_)
                 generalize wc.drew=w90 at HO_4 HO_6 HO_8 HB HO336 hx331_0 hHeld ⊢
                 refine zpu 0 (N:=some 54) (zl 8 1) HT_.out rfl rfl ?_
                 refine zpu 1 (N:=some 55) (zl 8 3) HT_.out rfl rfl ?_
                 refine zpu 3 (N:=some 57) (zl 8 11) HT_.out rfl rfl ?_
                 refine zpu 4 (N:=some 58) (zl 8 27) HT_.out rfl rfl ?_
                 refine take_ (i:=2) (N:=some 56) (v:=?_) (a' := ?_) (zl 8 31) rfl rfl (take_ofW HT_.out HW_.out zb14) (fun _ _ _ h=>h) (Or.inl ⟨zb45,?_⟩) hHeld ?_ ?_
                 rotate_left
                 ·intro w' s0
                  go_simp
                  with_reducible rfl
                 rotate_left
                 ·simp only [Act.put,zqA,zqB,zqC,i64_w,i32_w];rfl
                 refine zpu 5 (N:=some 59) (zl 8 63) HT_.out rfl rfl ?_
                 refine one_ (i:=6) (N:=some 9) (zl 8 127) rfl rfl (one_of HT_.out zb14) zb22 (fun K hK=>?_)
                 refine box_step ?hg (N:=9) ?hd (cs:=#[.string (⟨#[]⟩:ByteArray),.slice none 0 0,.int .i64 0,.int .i64 0,.int .i64 0,.int .i64 0,.int .i64 0,.int .i64 0]) (t:=64) ?hr ?_;(case hd=>rfl);(case hg=>rfl);(case hr=>first|(go_simp;done)|(go_simp;rfl))
                 intro gb337 hg w93 hbox hb
                 have HS0_:=(hb.cell (World.block_lt_of_cell? _ _ (hHeld))).trans (hHeld)
                 have n0_:=Aside0.mk (Kd.R_below zb4 hb)
                 have n1_:=Aside0.mk (Kd.N_below (Kd.N_elderB zb9 gb337 (Nat.le_of_eq hg.symm)) hb)
                 have n2_:=Aside0.mk (Kd.R_below zb10 hb)
                 have n3_:=Aside0.mk (Kd.V_below (Kd.V_elderB zb11 gb337 (Nat.le_of_eq hg.symm)) hb)
                 have n4_:=Aside0.mk (below_step zb0 hb)
                 have n5_:=Aside0.mk (hbox)
                 have n6_:=zG hg zb0
                 have n7_:=zG hg zb0
                 clear HO_4 HO_6 HO_8 HO336 HB
                 have HO_4:=n0_
                 have HO_6:=n1_
                 have HO_8:=n2_
                 have HO336:=n3_
                 have HB:=n4_
                 have BK337:=n5_
                 have GW337:=n6_
                 have GE337:=n7_
                 clear n0_ n1_ n2_ n3_ n4_ n5_ n6_ n7_ hb hbox hg
                 refine hK.out _ _ (HS0_) (fun hHeld=>?_)
                 clear hK K
                 refine norm_ (a' := ?_) ?_ ?_
                 rotate_left
                 ·show Act.put _ (some 9) _=_
                  simp only [Act.put,zqA,zqB,zqC,i64_w,i32_w]
                  rfl
                 refine one_ (i:=7) (N:=none) (zl 8 255) rfl rfl (one_of HT_.out zb14) zb22 (fun K hK=>?_)
                 have hs94:w93.cell? ⟨gb337,0,none⟩=some (.string (⟨#[]⟩:ByteArray)):=(blk_cell BK337.out 0).trans rfl
                 have hfs94:=blk_frozen BK337.out 0
                 have hs95:w93.cell? ⟨gb337,1,none⟩=some (.slice none 0 0):=(blk_cell BK337.out 1).trans rfl
                 have hfs95:=blk_frozen BK337.out 1
                 have hs96:w93.cell? ⟨gb337,2,none⟩=some (.int .i64 0):=(blk_cell BK337.out 2).trans rfl
                 have hfs96:=blk_frozen BK337.out 2
                 have hs97:w93.cell? ⟨gb337,3,none⟩=some (.int .i64 0):=(blk_cell BK337.out 3).trans rfl
                 have hfs97:=blk_frozen BK337.out 3
                 have hs98:w93.cell? ⟨gb337,4,none⟩=some (.int .i64 0):=(blk_cell BK337.out 4).trans rfl
                 have hfs98:=blk_frozen BK337.out 4
                 have hs99:w93.cell? ⟨gb337,5,none⟩=some (.int .i64 0):=(blk_cell BK337.out 5).trans rfl
                 have hfs99:=blk_frozen BK337.out 5
                 have hs100:w93.cell? ⟨gb337,6,none⟩=some (.int .i64 0):=(blk_cell BK337.out 6).trans rfl
                 have hfs100:=blk_frozen BK337.out 6
                 have hs101:w93.cell? ⟨gb337,7,none⟩=some (.int .i64 0):=(blk_cell BK337.out 7).trans rfl
                 have hfs101:=blk_frozen BK337.out 7
                 refine skip_ (w1:=?_) zb45 rfl ?_ ?_
                 rotate_left
                 ·go_simp
                  rfl
                 have hfar_:=Kd.own_blk (Kd.R_ne HO_8.out BK337.out zb22)
                 refine hK.out _ _ (tollbarref09_Read.far8 hfar_ hHeld) (fun hHeld=>?_)
                 clear hK K
                 refine done_ (done_of HT_.out zb14) ?_
                 have p338:0 ≤ (2:Int):=zb16
                 have q338:2 < (t327.length:Int):=of_decide_eq_true zb1
                 obtain ⟨ad338,e338,hx338_0⟩:=Kd.at_string (Kd.R_reads' HO_8.out).2.2 2 p338 q338
                 obtain rfl:ad331=ad338:=(by injection e338)
                 (try simp only [show (2:Int).toNat=2 from rfl,Nat.reduceMul,Nat.reduceEqDiff,Go.Addr.add,↓reduceIte] at hx338_0)
                 have qi338:(2 < t327.length)=True:=eq_true zb16
                 (try rw [show ((2:Int)).toNat=2 from rfl] at hx338_0)
                 have hn338_0:ad331.block ≠ gb337:=Kd.own_blk (Kd.R_ne HO_8.out BK337.out zb22)
                 have hn338_1:ad331.block ≠ gb337:=Kd.own_blk (Kd.R_ne HO_8.out BK337.out zb22)
                 have hn338_2:ad331.block ≠ gb337:=Kd.own_blk (Kd.R_ne HO_8.out BK337.out zb22)
                 have hn338_3:ad331.block ≠ gb337:=Kd.own_blk (Kd.R_ne HO_8.out BK337.out zb22)
                 have hn338_4:ad331.block ≠ gb337:=Kd.own_blk (Kd.R_ne HO_8.out BK337.out zb22)
                 have hn338_5:ad331.block ≠ gb337:=Kd.own_blk (Kd.R_ne HO_8.out BK337.out zb22)
                 have hn338_6:ad331.block ≠ gb337:=Kd.own_blk (Kd.R_ne HO_8.out BK337.out zb22)
                 have hn338_7:ad331.block ≠ gb337:=Kd.own_blk (Kd.R_ne HO_8.out BK337.out zb22)
                 replace hx338_0:=(cell_far (p:=⟨gb337,0,none⟩) zb33 (.string (rdOf ByteArray.empty t327 1))).trans hx338_0
                 replace hx338_0:=(cell_far (p:=⟨gb337,1,none⟩) zb34 (.slice A92 y332.length c92)).trans hx338_0
                 replace hx338_0:=(cell_far (p:=⟨gb337,2,none⟩) zb35 (.int .i64 0)).trans hx338_0
                 replace hx338_0:=(cell_far (p:=⟨gb337,3,none⟩) zb36 (.int .i64 0)).trans hx338_0
                 replace hx338_0:=(cell_far (p:=⟨gb337,4,none⟩) zb37 (.int .i64 0)).trans hx338_0
                 replace hx338_0:=(cell_far (p:=⟨gb337,5,none⟩) zb38 (.int .i64 0)).trans hx338_0
                 replace hx338_0:=(cell_far (p:=⟨gb337,6,none⟩) zb39 (.int .i64 0)).trans hx338_0
                 replace hx338_0:=(cell_far (p:=⟨gb337,7,none⟩) zb40 (.int .i64 0)).trans hx338_0
                 clear hn338_0 hn338_1 hn338_2 hn338_3 hn338_4 hn338_5 hn338_6 hn338_7
                 replace p338:=eq_true p338
                 replace q338:=eq_true q338
                 try go_wp2_with (first|((with_reducible refine gate_callee (f:=38) rfl ?_);refine goesL_ (some 64) rfl rfl Tryz.func38 zb14 rfl #[.string (rdOf ByteArray.empty t327 2)] rfl zb2 ?_;(with_reducible refine (tollbarref09_Number.calls kj10 (rdOf ByteArray.empty t327 2) t339 true _ A22.out).mono ?_);rintro e w102 ⟨rfl,hb⟩;(try clear A22);refine ⟨_,rfl,?_⟩;replace HO_4:=Aside0.mk (Kd.R_below (by (with_reducible repeat (first|apply Kd.R_alloc|apply Kd.R_drewN|apply Kd.R_drew));exact (Kd.R_mono (Kd.R_far (p:=⟨gb337,7,none⟩) (Kd.R_far (p:=⟨gb337,6,none⟩) (Kd.R_far (p:=⟨gb337,5,none⟩) (Kd.R_far (p:=⟨gb337,4,none⟩) (Kd.R_far (p:=⟨gb337,3,none⟩) (Kd.R_far (p:=⟨gb337,2,none⟩) (Kd.R_far (p:=⟨gb337,1,none⟩) (Kd.R_far (p:=⟨gb337,0,none⟩) (Kd.R_types HO_4.out BK337.out (by decide)) (fun _ hk=>hk.2) (.string (rdOf ByteArray.empty t327 1))) (fun _ hk=>hk.2) (.slice A92 y332.length c92)) (fun _ hk=>hk.2) (.int .i64 0)) (fun _ hk=>hk.2) (.int .i64 0)) (fun _ hk=>hk.2) (.int .i64 0)) (fun _ hk=>hk.2) (.int .i64 0)) (fun _ hk=>hk.2) (.int .i64 0)) (fun _ hk=>hk.2) (.int .i64 0)) (fun _ h_=>h_.1))) hb);replace HO_6:=Aside0.mk (Kd.N_below (by (with_reducible repeat (first|apply Kd.N_alloc|apply Kd.N_drewN|apply Kd.N_drew));exact (Kd.N_mono (Kd.N_far (p:=⟨gb337,7,none⟩) (Kd.N_far (p:=⟨gb337,6,none⟩) (Kd.N_far (p:=⟨gb337,5,none⟩) (Kd.N_far (p:=⟨gb337,4,none⟩) (Kd.N_far (p:=⟨gb337,3,none⟩) (Kd.N_far (p:=⟨gb337,2,none⟩) (Kd.N_far (p:=⟨gb337,1,none⟩) (Kd.N_far (p:=⟨gb337,0,none⟩) (Kd.N_mono HO_6.out (fun k_ hk=>(⟨hk,hk.2⟩:_∧k_ ≠ gb337))) (fun _ hk=>hk.2) (.string (rdOf ByteArray.empty t327 1))) (fun _ hk=>hk.2) (.slice A92 y332.length c92)) (fun _ hk=>hk.2) (.int .i64 0)) (fun _ hk=>hk.2) (.int .i64 0)) (fun _ hk=>hk.2) (.int .i64 0)) (fun _ hk=>hk.2) (.int .i64 0)) (fun _ hk=>hk.2) (.int .i64 0)) (fun _ hk=>hk.2) (.int .i64 0)) (fun _ h_=>h_.1))) hb);replace HO_8:=Aside0.mk (Kd.R_below (by (with_reducible repeat (first|apply Kd.R_alloc|apply Kd.R_drewN|apply Kd.R_drew));exact (Kd.R_mono (Kd.R_far (p:=⟨gb337,7,none⟩) (Kd.R_far (p:=⟨gb337,6,none⟩) (Kd.R_far (p:=⟨gb337,5,none⟩) (Kd.R_far (p:=⟨gb337,4,none⟩) (Kd.R_far (p:=⟨gb337,3,none⟩) (Kd.R_far (p:=⟨gb337,2,none⟩) (Kd.R_far (p:=⟨gb337,1,none⟩) (Kd.R_far (p:=⟨gb337,0,none⟩) (Kd.R_types HO_8.out BK337.out (by decide)) (fun _ hk=>hk.2) (.string (rdOf ByteArray.empty t327 1))) (fun _ hk=>hk.2) (.slice A92 y332.length c92)) (fun _ hk=>hk.2) (.int .i64 0)) (fun _ hk=>hk.2) (.int .i64 0)) (fun _ hk=>hk.2) (.int .i64 0)) (fun _ hk=>hk.2) (.int .i64 0)) (fun _ hk=>hk.2) (.int .i64 0)) (fun _ hk=>hk.2) (.int .i64 0)) (fun _ h_=>h_.1))) hb);replace HO336:=Aside0.mk (Kd.V_below (by (with_reducible repeat (first|apply Kd.V_alloc|apply Kd.V_drewN|apply Kd.V_drew));exact (Kd.V_mono (Kd.V_far (p:=⟨gb337,7,none⟩) (Kd.V_far (p:=⟨gb337,6,none⟩) (Kd.V_far (p:=⟨gb337,5,none⟩) (Kd.V_far (p:=⟨gb337,4,none⟩) (Kd.V_far (p:=⟨gb337,3,none⟩) (Kd.V_far (p:=⟨gb337,2,none⟩) (Kd.V_far (p:=⟨gb337,1,none⟩) (Kd.V_far (p:=⟨gb337,0,none⟩) (Kd.V_mono HO336.out (fun k_ hk=>(⟨hk,hk.2⟩:_∧k_ ≠ gb337))) (fun _ hk=>hk.2) (.string (rdOf ByteArray.empty t327 1))) (fun _ hk=>hk.2) (.slice A92 y332.length c92)) (fun _ hk=>hk.2) (.int .i64 0)) (fun _ hk=>hk.2) (.int .i64 0)) (fun _ hk=>hk.2) (.int .i64 0)) (fun _ hk=>hk.2) (.int .i64 0)) (fun _ hk=>hk.2) (.int .i64 0)) (fun _ hk=>hk.2) (.int .i64 0)) (fun _ h_=>h_.1))) hb);replace BK337:=Aside0.mk (blk_below (g:=gb337) (o:=.cells #[.string (rdOf ByteArray.empty t327 1),.slice A92 y332.length c92,.int .i64 0,.int .i64 0,.int .i64 0,.int .i64 0,.int .i64 0,.int .i64 0] 64 (0,0)) (by (with_reducible repeat (first|refine blk_drewN ?_ _|refine blk_drew ?_|refine blk_alloc ?_ _));refine blk_put (cs:=#[.string (rdOf ByteArray.empty t327 1),.slice A92 y332.length c92,.int .i64 0,.int .i64 0,.int .i64 0,.int .i64 0,.int .i64 0,.int .i64 0]) ?_ 7 _ rfl;(with_reducible repeat (first|refine blk_drewN ?_ _|refine blk_drew ?_|refine blk_alloc ?_ _));refine blk_put (cs:=#[.string (rdOf ByteArray.empty t327 1),.slice A92 y332.length c92,.int .i64 0,.int .i64 0,.int .i64 0,.int .i64 0,.int .i64 0,.int .i64 0]) ?_ 6 _ rfl;(with_reducible repeat (first|refine blk_drewN ?_ _|refine blk_drew ?_|refine blk_alloc ?_ _));refine blk_put (cs:=#[.string (rdOf ByteArray.empty t327 1),.slice A92 y332.length c92,.int .i64 0,.int .i64 0,.int .i64 0,.int .i64 0,.int .i64 0,.int .i64 0]) ?_ 5 _ rfl;(with_reducible repeat (first|refine blk_drewN ?_ _|refine blk_drew ?_|refine blk_alloc ?_ _));refine blk_put (cs:=#[.string (rdOf ByteArray.empty t327 1),.slice A92 y332.length c92,.int .i64 0,.int .i64 0,.int .i64 0,.int .i64 0,.int .i64 0,.int .i64 0]) ?_ 4 _ rfl;(with_reducible repeat (first|refine blk_drewN ?_ _|refine blk_drew ?_|refine blk_alloc ?_ _));refine blk_put (cs:=#[.string (rdOf ByteArray.empty t327 1),.slice A92 y332.length c92,.int .i64 0,.int .i64 0,.int .i64 0,.int .i64 0,.int .i64 0,.int .i64 0]) ?_ 3 _ rfl;(with_reducible repeat (first|refine blk_drewN ?_ _|refine blk_drew ?_|refine blk_alloc ?_ _));refine blk_put (cs:=#[.string (rdOf ByteArray.empty t327 1),.slice A92 y332.length c92,.int .i64 0,.int .i64 0,.int .i64 0,.int .i64 0,.int .i64 0,.int .i64 0]) ?_ 2 _ rfl;(with_reducible repeat (first|refine blk_drewN ?_ _|refine blk_drew ?_|refine blk_alloc ?_ _));refine blk_put (cs:=#[.string (rdOf ByteArray.empty t327 1),.slice none 0 0,.int .i64 0,.int .i64 0,.int .i64 0,.int .i64 0,.int .i64 0,.int .i64 0]) ?_ 1 _ rfl;(with_reducible repeat (first|refine blk_drewN ?_ _|refine blk_drew ?_|refine blk_alloc ?_ _));refine blk_put (cs:=#[.string (⟨#[]⟩:ByteArray),.slice none 0 0,.int .i64 0,.int .i64 0,.int .i64 0,.int .i64 0,.int .i64 0,.int .i64 0]) ?_ 0 _ rfl;(with_reducible repeat (first|refine blk_drewN ?_ _|refine blk_drew ?_|refine blk_alloc ?_ _));exact BK337.out) hb);replace HB:=Aside0.mk (below_step zb3 hb);(try clear hb);have p341:0 ≤ (3:Int):=zb16;have q341:3 < (t327.length:Int):=of_decide_eq_true zb1;obtain ⟨ad341,e341,hx341_0⟩:=Kd.at_string (Kd.R_reads' HO_8.out).2.2 3 p341 q341;obtain rfl:ad331=ad341:=(by injection e341);(try simp only [show (3:Int).toNat=3 from rfl,Nat.reduceMul,Nat.reduceEqDiff,Go.Addr.add,↓reduceIte] at hx341_0);have qi341:(3 < t327.length)=True:=eq_true zb16;(try rw [show ((3:Int)).toNat=3 from rfl] at hx341_0);replace p341:=eq_true p341;replace q341:=eq_true q341)|((with_reducible refine gate_callee (f:=38) rfl ?_);refine goesL_ (some 71) rfl rfl Tryz.func38 zb14 rfl #[.string (rdOf ByteArray.empty t327 3)] rfl zb2 ?_;(with_reducible refine (tollbarref09_Number.calls kj10 (rdOf ByteArray.empty t327 3) t342 true _ A24.out).mono ?_);rintro e w103 ⟨rfl,hb⟩;(try clear A24);refine ⟨_,rfl,?_⟩;replace HO_4:=Aside0.mk (Kd.R_below zb4 hb);replace HO_6:=Aside0.mk (Kd.N_below zb9 hb);replace HO_8:=Aside0.mk (Kd.R_below zb10 hb);replace HO336:=Aside0.mk (Kd.V_below zb11 hb);replace BK337:=Aside0.mk (blk_below (g:=gb337) (o:=.cells #[.string (rdOf ByteArray.empty t327 1),.slice A92 y332.length c92,.int .i64 0,.int .i64 0,.int .i64 0,.int .i64 0,.int .i64 0,.int .i64 0] 64 (0,0)) zb12 hb);replace HB:=Aside0.mk (below_step zb3 hb);(try clear hb);have p344:0 ≤ (4:Int):=zb16;have q344:4 < (t327.length:Int):=of_decide_eq_true zb1;obtain ⟨ad344,e344,hx344_0⟩:=Kd.at_string (Kd.R_reads' HO_8.out).2.2 4 p344 q344;obtain rfl:ad331=ad344:=(by injection e344);(try simp only [show (4:Int).toNat=4 from rfl,Nat.reduceMul,Nat.reduceEqDiff,Go.Addr.add,↓reduceIte] at hx344_0);have qi344:(4 < t327.length)=True:=eq_true zb16;(try rw [show ((4:Int)).toNat=4 from rfl] at hx344_0);replace p344:=eq_true p344;replace q344:=eq_true q344)|((with_reducible refine gate_callee (f:=38) rfl ?_);refine goesL_ (some 78) rfl rfl Tryz.func38 zb14 rfl #[.string (rdOf ByteArray.empty t327 4)] rfl zb2 ?_;(with_reducible refine (tollbarref09_Number.calls kj10 (rdOf ByteArray.empty t327 4) t345 true _ A26.out).mono ?_);rintro e w104 ⟨rfl,hb⟩;(try clear A26);refine ⟨_,rfl,?_⟩;replace HO_4:=Aside0.mk (Kd.R_below zb4 hb);replace HO_6:=Aside0.mk (Kd.N_below zb9 hb);replace HO_8:=Aside0.mk (Kd.R_below zb10 hb);replace HO336:=Aside0.mk (Kd.V_below zb11 hb);replace BK337:=Aside0.mk (blk_below (g:=gb337) (o:=.cells #[.string (rdOf ByteArray.empty t327 1),.slice A92 y332.length c92,.int .i64 0,.int .i64 0,.int .i64 0,.int .i64 0,.int .i64 0,.int .i64 0] 64 (0,0)) zb12 hb);replace HB:=Aside0.mk (below_step zb3 hb);(try clear hb);have p347:0 ≤ (5:Int):=zb16;have q347:5 < (t327.length:Int):=of_decide_eq_true zb1;obtain ⟨ad347,e347,hx347_0⟩:=Kd.at_string (Kd.R_reads' HO_8.out).2.2 5 p347 q347;obtain rfl:ad331=ad347:=(by injection e347);(try simp only [show (5:Int).toNat=5 from rfl,Nat.reduceMul,Nat.reduceEqDiff,Go.Addr.add,↓reduceIte] at hx347_0);have qi347:(5 < t327.length)=True:=eq_true zb16;(try rw [show ((5:Int)).toNat=5 from rfl] at hx347_0);replace p347:=eq_true p347;replace q347:=eq_true q347)|((with_reducible refine gate_callee (f:=38) rfl ?_);refine goesL_ (some 85) rfl rfl Tryz.func38 zb14 rfl #[.string (rdOf ByteArray.empty t327 5)] rfl zb2 ?_;(with_reducible refine (tollbarref09_Number.calls kj10 (rdOf ByteArray.empty t327 5) t348 true _ A28.out).mono ?_);rintro e w105 ⟨rfl,hb⟩;(try clear A28);refine ⟨_,rfl,?_⟩;replace HO_4:=Aside0.mk (Kd.R_below zb4 hb);replace HO_6:=Aside0.mk (Kd.N_below zb9 hb);replace HO_8:=Aside0.mk (Kd.R_below zb10 hb);replace HO336:=Aside0.mk (Kd.V_below zb11 hb);replace BK337:=Aside0.mk (blk_below (g:=gb337) (o:=.cells #[.string (rdOf ByteArray.empty t327 1),.slice A92 y332.length c92,.int .i64 0,.int .i64 0,.int .i64 0,.int .i64 0,.int .i64 0,.int .i64 0] 64 (0,0)) zb12 hb);replace HB:=Aside0.mk (below_step zb3 hb);(try clear hb);have p350:0 ≤ (6:Int):=zb16;have q350:6 < (t327.length:Int):=of_decide_eq_true zb1;obtain ⟨ad350,e350,hx350_0⟩:=Kd.at_string (Kd.R_reads' HO_8.out).2.2 6 p350 q350;obtain rfl:ad331=ad350:=(by injection e350);(try simp only [show (6:Int).toNat=6 from rfl,Nat.reduceMul,Nat.reduceEqDiff,Go.Addr.add,↓reduceIte] at hx350_0);have qi350:(6 < t327.length)=True:=eq_true zb16;(try rw [show ((6:Int)).toNat=6 from rfl] at hx350_0);replace p350:=eq_true p350;replace q350:=eq_true q350)|((with_reducible refine gate_callee (f:=38) rfl ?_);refine goesL_ (some 92) rfl rfl Tryz.func38 zb14 rfl #[.string (rdOf ByteArray.empty t327 6)] rfl zb2 ?_;(with_reducible refine (tollbarref09_Number.calls kj10 (rdOf ByteArray.empty t327 6) t351 false _ A30.out).mono ?_);rintro e w106 ⟨rfl,hb⟩;(try clear A30);refine ⟨_,rfl,?_⟩;replace HO_4:=Aside0.mk (Kd.R_below zb4 hb);replace HO_6:=Aside0.mk (Kd.N_below zb9 hb);replace HO_8:=Aside0.mk (Kd.R_below zb10 hb);replace HO336:=Aside0.mk (Kd.V_below zb11 hb);replace BK337:=Aside0.mk (blk_below (g:=gb337) (o:=.cells #[.string (rdOf ByteArray.empty t327 1),.slice A92 y332.length c92,.int .i64 0,.int .i64 0,.int .i64 0,.int .i64 0,.int .i64 0,.int .i64 0] 64 (0,0)) zb12 hb);replace HB:=Aside0.mk (below_step zb3 hb);(try clear hb);have p353:0 ≤ (7:Int):=zb16;have q353:7 < (t327.length:Int):=of_decide_eq_true zb1;obtain ⟨ad353,e353,hx353_0⟩:=Kd.at_string (Kd.R_reads' HO_8.out).2.2 7 p353 q353;obtain rfl:ad331=ad353:=(by injection e353);(try simp only [show (7:Int).toNat=7 from rfl,Nat.reduceMul,Nat.reduceEqDiff,Go.Addr.add,↓reduceIte] at hx353_0);have qi353:(7 < t327.length)=True:=eq_true zb16;(try rw [show ((7:Int)).toNat=7 from rfl] at hx353_0);replace p353:=eq_true p353;replace q353:=eq_true q353)|((with_reducible refine gate_callee (f:=38) rfl ?_);refine goesL_ (some 99) rfl rfl Tryz.func38 zb14 rfl #[.string (rdOf ByteArray.empty t327 7)] rfl zb2 ?_;(with_reducible refine (tollbarref09_Number.calls kj10 (rdOf ByteArray.empty t327 7) t354 t355 _ A32.out).mono ?_);rintro e w107 ⟨rfl,hb⟩;(try clear A32);refine ⟨_,rfl,?_⟩;replace HO_4:=Aside0.mk (Kd.R_below zb4 hb);replace HO_6:=Aside0.mk (Kd.N_below zb9 hb);replace HO_8:=Aside0.mk (Kd.R_below zb10 hb);replace HO336:=Aside0.mk (Kd.V_below zb11 hb);replace BK337:=Aside0.mk (blk_below (g:=gb337) (o:=.cells #[.string (rdOf ByteArray.empty t327 1),.slice A92 y332.length c92,.int .i64 0,.int .i64 0,.int .i64 0,.int .i64 0,.int .i64 0,.int .i64 0] 64 (0,0)) zb12 hb);replace HB:=Aside0.mk (below_step zb3 hb);(try clear hb)))
                 go_ret2
                 exact ⟨_,zb6,zb18,zb3⟩
                subst c37
                rw [if_pos rfl] at H
                by_cases c38:t355=true
                ·subst c38
                 rw [if_pos rfl] at H
                 by_cases c39:x6_1.length < 1599289640401;rotate_left
                 ·rw [if_neg c39] at H
                  exact absurd H zb24
                 rw [if_pos c39] at H
                 have LMc39:=Aside0.mk c39
                 clear c39
                 obtain ⟨y356,hy356⟩ : ∃ y_:List (S64),y_=(x6_1 ++ [(⟨rdOf ByteArray.empty t327 1,y332,t339,t342,t345,t348,t351,t354⟩:S64)]):=⟨_,rfl⟩
                 replace H:(tollbarref09_Read.l0 kj10 t318 y356 (wrap64 (x7_1 + 1)))=some (r1,r2):=by first|(rw [hy356];with_reducible exact H)|(have H2_:=(Option.bind_some _ _).symm.trans H;rw [hy356];with_reducible exact H2_)|(have H2_:=(Option.bind_some _ _).symm.trans H;with_reducible exact H2_)|with_reducible exact H|(rw [hy356];exact H)|exact H
                 have Ny356:=Aside0.mk hy356
                 clear hy356
                 have H' := Aside0.mk H
                 clear H
                 try go_wp2
                 replace HO_4:=Aside0.mk (Kd.R_drew HO_4.out)
                 replace HO_6:=Aside0.mk (Kd.N_drew HO_6.out)
                 replace HO_8:=Aside0.mk (Kd.R_drew HO_8.out)
                 replace HB:=Aside0.mk (below_drew1 HB.out)
                 obtain ⟨Ao41,co41,eo41⟩:=Kd.R_slice HO_8.out
                 (first|subst eo41|(injection eo41 with f1_ f2_ f3_;have f4_:=f1_.symm;have f5_:=f3_.symm;clear f1_ f2_ f3_;subst f4_;subst f5_))
                 have p331:0 ≤ (1:Int):=zb16
                 have q331:1 < (t327.length:Int):=of_decide_eq_true zb1
                 obtain ⟨ad331,e331,hx331_0⟩:=Kd.at_string (Kd.R_reads' HO_8.out).2.2 1 p331 q331
                 cases e331
                 (try simp only [show (1:Int).toNat=1 from rfl,Nat.reduceMul,Nat.reduceEqDiff,Go.Addr.add,↓reduceIte] at hx331_0)
                 have qi331:(1 < t327.length)=True:=eq_true zb16
                 (try rw [show ((1:Int)).toNat=1 from rfl] at hx331_0)
                 replace p331:=eq_true p331
                 replace q331:=eq_true q331
                 have q42:(8:Int) ≤ ((t327.length:Int):Int):=of_decide_eq_true zb1
                 obtain ⟨i042,hi042,_,hsz42,_⟩:=info_parts info9
                 have hroom42:t327.length ≤ co41:=(Kd.R_reads' HO_8.out).2.1
                 have hC42:Kd.F Kd.string _ _ (some ad331) t327.length t327:=(Kd.V_at (base:=w.heap.size) (Kd.R_V (Kd.R_apart' (HO_8.out) (Kd.N_typed HO_6.out) zb22))).2.2
                 have hcut42:=cut_from (P:=Tryz.prog) 34 9 .i64 Tryz.underlying34 hi042 1 hsz42 (some ad331) t327.length co41 8 zb16 q42
                 have hr42:=Kd.F_cut (m:=(8:Int).toNat) (c:=co41) hC42 zb16 hroom42
                 obtain ⟨A42,hA42⟩ : ∃ A1,A1=(if co41=(8:Int).toNat then (some ad331) else ((some ad331):Option Addr).map (·.add ((8:Int).toNat * 1))):=⟨_,rfl⟩
                 obtain ⟨c42,hc42⟩ : ∃ c1,c1=co41 - (8:Int).toNat:=⟨_,rfl⟩
                 have hy42:y332.length=t327.length - (8:Int).toNat:=zb70
                 rw [show (t327).drop (8:Int).toNat=y332 from Ny332.out.symm] at hr42
                 replace hr42:Kd.F Kd.string _ _ A42 y332.length y332:=(by rw [hA42];exact hr42)
                 rw [← hy42,← hA42,← hc42] at hcut42
                 have HO336:=Aside0.mk (show Kd.V Kd.string 9 _ w.heap.size _ (.slice A42 y332.length c42) y332 from Kd.V_mk (by rw [hy42,hc42];exact Nat.sub_le_sub_right hroom42 _) hr42)
                 have HC336:=Aside0.mk (show y332.length ≤ c42 from by rw [hy42,hc42];exact Nat.sub_le_sub_right hroom42 _)
                 clear hr42 hC42 hroom42 hi042 hsz42 hc42
                 have KY42:=Aside0.mk hy42
                 have KA42:=Aside0.mk hA42
                 clear hy42 hA42
                 replace q42:=eq_true q42
                 refine start_ (n:=8) (S:=fun w' => w'.cell? ⟨ad331.block,ad331.off + 1,none⟩=some (.string (rdOf ByteArray.empty t327 1))) (ds:=[]) (zl 8 0) zb14 rfl rfl (hx331_0) (fun hHeld=>?_);refine with_tabW tollbarref09_Read.tab13 tollbarref09_Read.bits13 (fun HT_ HW_=>?_)
                 generalize wc.drew=w40 at HO_4 HO_6 HO_8 HB HO336 hx331_0 hHeld ⊢
                 refine zpu 0 (N:=some 54) (zl 8 1) HT_.out rfl rfl ?_
                 refine zpu 1 (N:=some 55) (zl 8 3) HT_.out rfl rfl ?_
                 refine zpu 3 (N:=some 57) (zl 8 11) HT_.out rfl rfl ?_
                 refine zpu 4 (N:=some 58) (zl 8 27) HT_.out rfl rfl ?_
                 refine take_ (i:=2) (N:=some 56) (v:=?_) (a' := ?_) (zl 8 31) rfl rfl (take_ofW HT_.out HW_.out zb14) (fun _ _ _ h=>h) (Or.inl ⟨zb45,?_⟩) hHeld ?_ ?_
                 rotate_left
                 ·intro w' s0
                  go_simp
                  with_reducible rfl
                 rotate_left
                 ·simp only [Act.put,zqA,zqB,zqC,i64_w,i32_w];rfl
                 refine zpu 5 (N:=some 59) (zl 8 63) HT_.out rfl rfl ?_
                 refine one_ (i:=6) (N:=some 9) (zl 8 127) rfl rfl (one_of HT_.out zb14) zb22 (fun K hK=>?_)
                 refine box_step ?hg (N:=9) ?hd (cs:=#[.string (⟨#[]⟩:ByteArray),.slice none 0 0,.int .i64 0,.int .i64 0,.int .i64 0,.int .i64 0,.int .i64 0,.int .i64 0]) (t:=64) ?hr ?_;(case hd=>rfl);(case hg=>rfl);(case hr=>first|(go_simp;done)|(go_simp;rfl))
                 intro gb337 hg w43 hbox hb
                 have HS0_:=(hb.cell (World.block_lt_of_cell? _ _ (hHeld))).trans (hHeld)
                 have n0_:=Aside0.mk (Kd.R_below zb4 hb)
                 have n1_:=Aside0.mk (Kd.N_below (Kd.N_elderB zb9 gb337 (Nat.le_of_eq hg.symm)) hb)
                 have n2_:=Aside0.mk (Kd.R_below zb10 hb)
                 have n3_:=Aside0.mk (Kd.V_below (Kd.V_elderB zb11 gb337 (Nat.le_of_eq hg.symm)) hb)
                 have n4_:=Aside0.mk (below_step zb0 hb)
                 have n5_:=Aside0.mk (hbox)
                 have n6_:=zG hg zb0
                 have n7_:=zG hg zb0
                 clear HO_4 HO_6 HO_8 HO336 HB
                 have HO_4:=n0_
                 have HO_6:=n1_
                 have HO_8:=n2_
                 have HO336:=n3_
                 have HB:=n4_
                 have BK337:=n5_
                 have GW337:=n6_
                 have GE337:=n7_
                 clear n0_ n1_ n2_ n3_ n4_ n5_ n6_ n7_ hb hbox hg
                 refine hK.out _ _ (HS0_) (fun hHeld=>?_)
                 clear hK K
                 refine norm_ (a' := ?_) ?_ ?_
                 rotate_left
                 ·show Act.put _ (some 9) _=_
                  simp only [Act.put,zqA,zqB,zqC,i64_w,i32_w]
                  rfl
                 refine one_ (i:=7) (N:=none) (zl 8 255) rfl rfl (one_of HT_.out zb14) zb22 (fun K hK=>?_)
                 have hs44:w43.cell? ⟨gb337,0,none⟩=some (.string (⟨#[]⟩:ByteArray)):=(blk_cell BK337.out 0).trans rfl
                 have hfs44:=blk_frozen BK337.out 0
                 have hs45:w43.cell? ⟨gb337,1,none⟩=some (.slice none 0 0):=(blk_cell BK337.out 1).trans rfl
                 have hfs45:=blk_frozen BK337.out 1
                 have hs46:w43.cell? ⟨gb337,2,none⟩=some (.int .i64 0):=(blk_cell BK337.out 2).trans rfl
                 have hfs46:=blk_frozen BK337.out 2
                 have hs47:w43.cell? ⟨gb337,3,none⟩=some (.int .i64 0):=(blk_cell BK337.out 3).trans rfl
                 have hfs47:=blk_frozen BK337.out 3
                 have hs48:w43.cell? ⟨gb337,4,none⟩=some (.int .i64 0):=(blk_cell BK337.out 4).trans rfl
                 have hfs48:=blk_frozen BK337.out 4
                 have hs49:w43.cell? ⟨gb337,5,none⟩=some (.int .i64 0):=(blk_cell BK337.out 5).trans rfl
                 have hfs49:=blk_frozen BK337.out 5
                 have hs50:w43.cell? ⟨gb337,6,none⟩=some (.int .i64 0):=(blk_cell BK337.out 6).trans rfl
                 have hfs50:=blk_frozen BK337.out 6
                 have hs51:w43.cell? ⟨gb337,7,none⟩=some (.int .i64 0):=(blk_cell BK337.out 7).trans rfl
                 have hfs51:=blk_frozen BK337.out 7
                 refine skip_ (w1:=?_) zb45 rfl ?_ ?_
                 rotate_left
                 ·go_simp
                  rfl
                 have hfar_:=Kd.own_blk (Kd.R_ne HO_8.out BK337.out zb22)
                 refine hK.out _ _ (tollbarref09_Read.far8 hfar_ hHeld) (fun hHeld=>?_)
                 clear hK K
                 refine done_ (done_of HT_.out zb14) ?_
                 have p338:0 ≤ (2:Int):=zb16
                 have q338:2 < (t327.length:Int):=of_decide_eq_true zb1
                 obtain ⟨ad338,e338,hx338_0⟩:=Kd.at_string (Kd.R_reads' HO_8.out).2.2 2 p338 q338
                 obtain rfl:ad331=ad338:=(by injection e338)
                 (try simp only [show (2:Int).toNat=2 from rfl,Nat.reduceMul,Nat.reduceEqDiff,Go.Addr.add,↓reduceIte] at hx338_0)
                 have qi338:(2 < t327.length)=True:=eq_true zb16
                 (try rw [show ((2:Int)).toNat=2 from rfl] at hx338_0)
                 have hn338_0:ad331.block ≠ gb337:=Kd.own_blk (Kd.R_ne HO_8.out BK337.out zb22)
                 have hn338_1:ad331.block ≠ gb337:=Kd.own_blk (Kd.R_ne HO_8.out BK337.out zb22)
                 have hn338_2:ad331.block ≠ gb337:=Kd.own_blk (Kd.R_ne HO_8.out BK337.out zb22)
                 have hn338_3:ad331.block ≠ gb337:=Kd.own_blk (Kd.R_ne HO_8.out BK337.out zb22)
                 have hn338_4:ad331.block ≠ gb337:=Kd.own_blk (Kd.R_ne HO_8.out BK337.out zb22)
                 have hn338_5:ad331.block ≠ gb337:=Kd.own_blk (Kd.R_ne HO_8.out BK337.out zb22)
                 have hn338_6:ad331.block ≠ gb337:=Kd.own_blk (Kd.R_ne HO_8.out BK337.out zb22)
                 have hn338_7:ad331.block ≠ gb337:=Kd.own_blk (Kd.R_ne HO_8.out BK337.out zb22)
                 replace hx338_0:=(cell_far (p:=⟨gb337,0,none⟩) zb33 (.string (rdOf ByteArray.empty t327 1))).trans hx338_0
                 replace hx338_0:=(cell_far (p:=⟨gb337,1,none⟩) zb34 (.slice A42 y332.length c42)).trans hx338_0
                 replace hx338_0:=(cell_far (p:=⟨gb337,2,none⟩) zb35 (.int .i64 0)).trans hx338_0
                 replace hx338_0:=(cell_far (p:=⟨gb337,3,none⟩) zb36 (.int .i64 0)).trans hx338_0
                 replace hx338_0:=(cell_far (p:=⟨gb337,4,none⟩) zb37 (.int .i64 0)).trans hx338_0
                 replace hx338_0:=(cell_far (p:=⟨gb337,5,none⟩) zb38 (.int .i64 0)).trans hx338_0
                 replace hx338_0:=(cell_far (p:=⟨gb337,6,none⟩) zb39 (.int .i64 0)).trans hx338_0
                 replace hx338_0:=(cell_far (p:=⟨gb337,7,none⟩) zb40 (.int .i64 0)).trans hx338_0
                 clear hn338_0 hn338_1 hn338_2 hn338_3 hn338_4 hn338_5 hn338_6 hn338_7
                 replace p338:=eq_true p338
                 replace q338:=eq_true q338
                 try go_wp2_with (first|((with_reducible refine gate_callee (f:=38) rfl ?_);refine goesL_ (some 64) rfl rfl Tryz.func38 zb14 rfl #[.string (rdOf ByteArray.empty t327 2)] rfl zb2 ?_;(with_reducible refine (tollbarref09_Number.calls kj10 (rdOf ByteArray.empty t327 2) t339 true _ A22.out).mono ?_);rintro e w52 ⟨rfl,hb⟩;(try clear A22);refine ⟨_,rfl,?_⟩;replace HO_4:=Aside0.mk (Kd.R_below (by (with_reducible repeat (first|apply Kd.R_alloc|apply Kd.R_drewN|apply Kd.R_drew));exact (Kd.R_mono (Kd.R_far (p:=⟨gb337,7,none⟩) (Kd.R_far (p:=⟨gb337,6,none⟩) (Kd.R_far (p:=⟨gb337,5,none⟩) (Kd.R_far (p:=⟨gb337,4,none⟩) (Kd.R_far (p:=⟨gb337,3,none⟩) (Kd.R_far (p:=⟨gb337,2,none⟩) (Kd.R_far (p:=⟨gb337,1,none⟩) (Kd.R_far (p:=⟨gb337,0,none⟩) (Kd.R_types HO_4.out BK337.out (by decide)) (fun _ hk=>hk.2) (.string (rdOf ByteArray.empty t327 1))) (fun _ hk=>hk.2) (.slice A42 y332.length c42)) (fun _ hk=>hk.2) (.int .i64 0)) (fun _ hk=>hk.2) (.int .i64 0)) (fun _ hk=>hk.2) (.int .i64 0)) (fun _ hk=>hk.2) (.int .i64 0)) (fun _ hk=>hk.2) (.int .i64 0)) (fun _ hk=>hk.2) (.int .i64 0)) (fun _ h_=>h_.1))) hb);replace HO_6:=Aside0.mk (Kd.N_below (by (with_reducible repeat (first|apply Kd.N_alloc|apply Kd.N_drewN|apply Kd.N_drew));exact (Kd.N_mono (Kd.N_far (p:=⟨gb337,7,none⟩) (Kd.N_far (p:=⟨gb337,6,none⟩) (Kd.N_far (p:=⟨gb337,5,none⟩) (Kd.N_far (p:=⟨gb337,4,none⟩) (Kd.N_far (p:=⟨gb337,3,none⟩) (Kd.N_far (p:=⟨gb337,2,none⟩) (Kd.N_far (p:=⟨gb337,1,none⟩) (Kd.N_far (p:=⟨gb337,0,none⟩) (Kd.N_mono HO_6.out (fun k_ hk=>(⟨hk,hk.2⟩:_∧k_ ≠ gb337))) (fun _ hk=>hk.2) (.string (rdOf ByteArray.empty t327 1))) (fun _ hk=>hk.2) (.slice A42 y332.length c42)) (fun _ hk=>hk.2) (.int .i64 0)) (fun _ hk=>hk.2) (.int .i64 0)) (fun _ hk=>hk.2) (.int .i64 0)) (fun _ hk=>hk.2) (.int .i64 0)) (fun _ hk=>hk.2) (.int .i64 0)) (fun _ hk=>hk.2) (.int .i64 0)) (fun _ h_=>h_.1))) hb);replace HO_8:=Aside0.mk (Kd.R_below (by (with_reducible repeat (first|apply Kd.R_alloc|apply Kd.R_drewN|apply Kd.R_drew));exact (Kd.R_mono (Kd.R_far (p:=⟨gb337,7,none⟩) (Kd.R_far (p:=⟨gb337,6,none⟩) (Kd.R_far (p:=⟨gb337,5,none⟩) (Kd.R_far (p:=⟨gb337,4,none⟩) (Kd.R_far (p:=⟨gb337,3,none⟩) (Kd.R_far (p:=⟨gb337,2,none⟩) (Kd.R_far (p:=⟨gb337,1,none⟩) (Kd.R_far (p:=⟨gb337,0,none⟩) (Kd.R_types HO_8.out BK337.out (by decide)) (fun _ hk=>hk.2) (.string (rdOf ByteArray.empty t327 1))) (fun _ hk=>hk.2) (.slice A42 y332.length c42)) (fun _ hk=>hk.2) (.int .i64 0)) (fun _ hk=>hk.2) (.int .i64 0)) (fun _ hk=>hk.2) (.int .i64 0)) (fun _ hk=>hk.2) (.int .i64 0)) (fun _ hk=>hk.2) (.int .i64 0)) (fun _ hk=>hk.2) (.int .i64 0)) (fun _ h_=>h_.1))) hb);replace HO336:=Aside0.mk (Kd.V_below (by (with_reducible repeat (first|apply Kd.V_alloc|apply Kd.V_drewN|apply Kd.V_drew));exact (Kd.V_mono (Kd.V_far (p:=⟨gb337,7,none⟩) (Kd.V_far (p:=⟨gb337,6,none⟩) (Kd.V_far (p:=⟨gb337,5,none⟩) (Kd.V_far (p:=⟨gb337,4,none⟩) (Kd.V_far (p:=⟨gb337,3,none⟩) (Kd.V_far (p:=⟨gb337,2,none⟩) (Kd.V_far (p:=⟨gb337,1,none⟩) (Kd.V_far (p:=⟨gb337,0,none⟩) (Kd.V_mono HO336.out (fun k_ hk=>(⟨hk,hk.2⟩:_∧k_ ≠ gb337))) (fun _ hk=>hk.2) (.string (rdOf ByteArray.empty t327 1))) (fun _ hk=>hk.2) (.slice A42 y332.length c42)) (fun _ hk=>hk.2) (.int .i64 0)) (fun _ hk=>hk.2) (.int .i64 0)) (fun _ hk=>hk.2) (.int .i64 0)) (fun _ hk=>hk.2) (.int .i64 0)) (fun _ hk=>hk.2) (.int .i64 0)) (fun _ hk=>hk.2) (.int .i64 0)) (fun _ h_=>h_.1))) hb);replace BK337:=Aside0.mk (blk_below (g:=gb337) (o:=.cells #[.string (rdOf ByteArray.empty t327 1),.slice A42 y332.length c42,.int .i64 0,.int .i64 0,.int .i64 0,.int .i64 0,.int .i64 0,.int .i64 0] 64 (0,0)) (by (with_reducible repeat (first|refine blk_drewN ?_ _|refine blk_drew ?_|refine blk_alloc ?_ _));refine blk_put (cs:=#[.string (rdOf ByteArray.empty t327 1),.slice A42 y332.length c42,.int .i64 0,.int .i64 0,.int .i64 0,.int .i64 0,.int .i64 0,.int .i64 0]) ?_ 7 _ rfl;(with_reducible repeat (first|refine blk_drewN ?_ _|refine blk_drew ?_|refine blk_alloc ?_ _));refine blk_put (cs:=#[.string (rdOf ByteArray.empty t327 1),.slice A42 y332.length c42,.int .i64 0,.int .i64 0,.int .i64 0,.int .i64 0,.int .i64 0,.int .i64 0]) ?_ 6 _ rfl;(with_reducible repeat (first|refine blk_drewN ?_ _|refine blk_drew ?_|refine blk_alloc ?_ _));refine blk_put (cs:=#[.string (rdOf ByteArray.empty t327 1),.slice A42 y332.length c42,.int .i64 0,.int .i64 0,.int .i64 0,.int .i64 0,.int .i64 0,.int .i64 0]) ?_ 5 _ rfl;(with_reducible repeat (first|refine blk_drewN ?_ _|refine blk_drew ?_|refine blk_alloc ?_ _));refine blk_put (cs:=#[.string (rdOf ByteArray.empty t327 1),.slice A42 y332.length c42,.int .i64 0,.int .i64 0,.int .i64 0,.int .i64 0,.int .i64 0,.int .i64 0]) ?_ 4 _ rfl;(with_reducible repeat (first|refine blk_drewN ?_ _|refine blk_drew ?_|refine blk_alloc ?_ _));refine blk_put (cs:=#[.string (rdOf ByteArray.empty t327 1),.slice A42 y332.length c42,.int .i64 0,.int .i64 0,.int .i64 0,.int .i64 0,.int .i64 0,.int .i64 0]) ?_ 3 _ rfl;(with_reducible repeat (first|refine blk_drewN ?_ _|refine blk_drew ?_|refine blk_alloc ?_ _));refine blk_put (cs:=#[.string (rdOf ByteArray.empty t327 1),.slice A42 y332.length c42,.int .i64 0,.int .i64 0,.int .i64 0,.int .i64 0,.int .i64 0,.int .i64 0]) ?_ 2 _ rfl;(with_reducible repeat (first|refine blk_drewN ?_ _|refine blk_drew ?_|refine blk_alloc ?_ _));refine blk_put (cs:=#[.string (rdOf ByteArray.empty t327 1),.slice none 0 0,.int .i64 0,.int .i64 0,.int .i64 0,.int .i64 0,.int .i64 0,.int .i64 0]) ?_ 1 _ rfl;(with_reducible repeat (first|refine blk_drewN ?_ _|refine blk_drew ?_|refine blk_alloc ?_ _));refine blk_put (cs:=#[.string (⟨#[]⟩:ByteArray),.slice none 0 0,.int .i64 0,.int .i64 0,.int .i64 0,.int .i64 0,.int .i64 0,.int .i64 0]) ?_ 0 _ rfl;(with_reducible repeat (first|refine blk_drewN ?_ _|refine blk_drew ?_|refine blk_alloc ?_ _));exact BK337.out) hb);replace HB:=Aside0.mk (below_step zb3 hb);(try clear hb);have p341:0 ≤ (3:Int):=zb16;have q341:3 < (t327.length:Int):=of_decide_eq_true zb1;obtain ⟨ad341,e341,hx341_0⟩:=Kd.at_string (Kd.R_reads' HO_8.out).2.2 3 p341 q341;obtain rfl:ad331=ad341:=(by injection e341);(try simp only [show (3:Int).toNat=3 from rfl,Nat.reduceMul,Nat.reduceEqDiff,Go.Addr.add,↓reduceIte] at hx341_0);have qi341:(3 < t327.length)=True:=eq_true zb16;(try rw [show ((3:Int)).toNat=3 from rfl] at hx341_0);replace p341:=eq_true p341;replace q341:=eq_true q341)|((with_reducible refine gate_callee (f:=38) rfl ?_);refine goesL_ (some 71) rfl rfl Tryz.func38 zb14 rfl #[.string (rdOf ByteArray.empty t327 3)] rfl zb2 ?_;(with_reducible refine (tollbarref09_Number.calls kj10 (rdOf ByteArray.empty t327 3) t342 true _ A24.out).mono ?_);rintro e w53 ⟨rfl,hb⟩;(try clear A24);refine ⟨_,rfl,?_⟩;replace HO_4:=Aside0.mk (Kd.R_below zb4 hb);replace HO_6:=Aside0.mk (Kd.N_below zb9 hb);replace HO_8:=Aside0.mk (Kd.R_below zb10 hb);replace HO336:=Aside0.mk (Kd.V_below zb11 hb);replace BK337:=Aside0.mk (blk_below (g:=gb337) (o:=.cells #[.string (rdOf ByteArray.empty t327 1),.slice A42 y332.length c42,.int .i64 0,.int .i64 0,.int .i64 0,.int .i64 0,.int .i64 0,.int .i64 0] 64 (0,0)) zb12 hb);replace HB:=Aside0.mk (below_step zb3 hb);(try clear hb);have p344:0 ≤ (4:Int):=zb16;have q344:4 < (t327.length:Int):=of_decide_eq_true zb1;obtain ⟨ad344,e344,hx344_0⟩:=Kd.at_string (Kd.R_reads' HO_8.out).2.2 4 p344 q344;obtain rfl:ad331=ad344:=(by injection e344);(try simp only [show (4:Int).toNat=4 from rfl,Nat.reduceMul,Nat.reduceEqDiff,Go.Addr.add,↓reduceIte] at hx344_0);have qi344:(4 < t327.length)=True:=eq_true zb16;(try rw [show ((4:Int)).toNat=4 from rfl] at hx344_0);replace p344:=eq_true p344;replace q344:=eq_true q344)|((with_reducible refine gate_callee (f:=38) rfl ?_);refine goesL_ (some 78) rfl rfl Tryz.func38 zb14 rfl #[.string (rdOf ByteArray.empty t327 4)] rfl zb2 ?_;(with_reducible refine (tollbarref09_Number.calls kj10 (rdOf ByteArray.empty t327 4) t345 true _ A26.out).mono ?_);rintro e w54 ⟨rfl,hb⟩;(try clear A26);refine ⟨_,rfl,?_⟩;replace HO_4:=Aside0.mk (Kd.R_below zb4 hb);replace HO_6:=Aside0.mk (Kd.N_below zb9 hb);replace HO_8:=Aside0.mk (Kd.R_below zb10 hb);replace HO336:=Aside0.mk (Kd.V_below zb11 hb);replace BK337:=Aside0.mk (blk_below (g:=gb337) (o:=.cells #[.string (rdOf ByteArray.empty t327 1),.slice A42 y332.length c42,.int .i64 0,.int .i64 0,.int .i64 0,.int .i64 0,.int .i64 0,.int .i64 0] 64 (0,0)) zb12 hb);replace HB:=Aside0.mk (below_step zb3 hb);(try clear hb);have p347:0 ≤ (5:Int):=zb16;have q347:5 < (t327.length:Int):=of_decide_eq_true zb1;obtain ⟨ad347,e347,hx347_0⟩:=Kd.at_string (Kd.R_reads' HO_8.out).2.2 5 p347 q347;obtain rfl:ad331=ad347:=(by injection e347);(try simp only [show (5:Int).toNat=5 from rfl,Nat.reduceMul,Nat.reduceEqDiff,Go.Addr.add,↓reduceIte] at hx347_0);have qi347:(5 < t327.length)=True:=eq_true zb16;(try rw [show ((5:Int)).toNat=5 from rfl] at hx347_0);replace p347:=eq_true p347;replace q347:=eq_true q347)|((with_reducible refine gate_callee (f:=38) rfl ?_);refine goesL_ (some 85) rfl rfl Tryz.func38 zb14 rfl #[.string (rdOf ByteArray.empty t327 5)] rfl zb2 ?_;(with_reducible refine (tollbarref09_Number.calls kj10 (rdOf ByteArray.empty t327 5) t348 true _ A28.out).mono ?_);rintro e w55 ⟨rfl,hb⟩;(try clear A28);refine ⟨_,rfl,?_⟩;replace HO_4:=Aside0.mk (Kd.R_below zb4 hb);replace HO_6:=Aside0.mk (Kd.N_below zb9 hb);replace HO_8:=Aside0.mk (Kd.R_below zb10 hb);replace HO336:=Aside0.mk (Kd.V_below zb11 hb);replace BK337:=Aside0.mk (blk_below (g:=gb337) (o:=.cells #[.string (rdOf ByteArray.empty t327 1),.slice A42 y332.length c42,.int .i64 0,.int .i64 0,.int .i64 0,.int .i64 0,.int .i64 0,.int .i64 0] 64 (0,0)) zb12 hb);replace HB:=Aside0.mk (below_step zb3 hb);(try clear hb);have p350:0 ≤ (6:Int):=zb16;have q350:6 < (t327.length:Int):=of_decide_eq_true zb1;obtain ⟨ad350,e350,hx350_0⟩:=Kd.at_string (Kd.R_reads' HO_8.out).2.2 6 p350 q350;obtain rfl:ad331=ad350:=(by injection e350);(try simp only [show (6:Int).toNat=6 from rfl,Nat.reduceMul,Nat.reduceEqDiff,Go.Addr.add,↓reduceIte] at hx350_0);have qi350:(6 < t327.length)=True:=eq_true zb16;(try rw [show ((6:Int)).toNat=6 from rfl] at hx350_0);replace p350:=eq_true p350;replace q350:=eq_true q350)|((with_reducible refine gate_callee (f:=38) rfl ?_);refine goesL_ (some 92) rfl rfl Tryz.func38 zb14 rfl #[.string (rdOf ByteArray.empty t327 6)] rfl zb2 ?_;(with_reducible refine (tollbarref09_Number.calls kj10 (rdOf ByteArray.empty t327 6) t351 true _ A30.out).mono ?_);rintro e w56 ⟨rfl,hb⟩;(try clear A30);refine ⟨_,rfl,?_⟩;replace HO_4:=Aside0.mk (Kd.R_below zb4 hb);replace HO_6:=Aside0.mk (Kd.N_below zb9 hb);replace HO_8:=Aside0.mk (Kd.R_below zb10 hb);replace HO336:=Aside0.mk (Kd.V_below zb11 hb);replace BK337:=Aside0.mk (blk_below (g:=gb337) (o:=.cells #[.string (rdOf ByteArray.empty t327 1),.slice A42 y332.length c42,.int .i64 0,.int .i64 0,.int .i64 0,.int .i64 0,.int .i64 0,.int .i64 0] 64 (0,0)) zb12 hb);replace HB:=Aside0.mk (below_step zb3 hb);(try clear hb);have p353:0 ≤ (7:Int):=zb16;have q353:7 < (t327.length:Int):=of_decide_eq_true zb1;obtain ⟨ad353,e353,hx353_0⟩:=Kd.at_string (Kd.R_reads' HO_8.out).2.2 7 p353 q353;obtain rfl:ad331=ad353:=(by injection e353);(try simp only [show (7:Int).toNat=7 from rfl,Nat.reduceMul,Nat.reduceEqDiff,Go.Addr.add,↓reduceIte] at hx353_0);have qi353:(7 < t327.length)=True:=eq_true zb16;(try rw [show ((7:Int)).toNat=7 from rfl] at hx353_0);replace p353:=eq_true p353;replace q353:=eq_true q353)|((with_reducible refine gate_callee (f:=38) rfl ?_);refine goesL_ (some 99) rfl rfl Tryz.func38 zb14 rfl #[.string (rdOf ByteArray.empty t327 7)] rfl zb2 ?_;(with_reducible refine (tollbarref09_Number.calls kj10 (rdOf ByteArray.empty t327 7) t354 true _ A32.out).mono ?_);rintro e w57 ⟨rfl,hb⟩;(try clear A32);refine ⟨_,rfl,?_⟩;replace HO_4:=Aside0.mk (Kd.R_below zb4 hb);replace HO_6:=Aside0.mk (Kd.N_below zb9 hb);replace HO_8:=Aside0.mk (Kd.R_below zb10 hb);replace HO336:=Aside0.mk (Kd.V_below zb11 hb);replace BK337:=Aside0.mk (blk_below (g:=gb337) (o:=.cells #[.string (rdOf ByteArray.empty t327 1),.slice A42 y332.length c42,.int .i64 0,.int .i64 0,.int .i64 0,.int .i64 0,.int .i64 0,.int .i64 0] 64 (0,0)) zb12 hb);replace HB:=Aside0.mk (below_step zb3 hb);(try clear hb);have hcz58_0:w57.cell? ⟨gb337,0,none⟩=some (.string (rdOf ByteArray.empty t327 1)):=(blk_cell BK337.out 0).trans rfl;have hcz58_1:w57.cell? ⟨gb337,1,none⟩=some (.slice A42 y332.length c42):=(blk_cell BK337.out 1).trans rfl;have hcz58_2:w57.cell? ⟨gb337,2,none⟩=some (.int .i64 0):=(blk_cell BK337.out 2).trans rfl;have hcz58_3:w57.cell? ⟨gb337,3,none⟩=some (.int .i64 0):=(blk_cell BK337.out 3).trans rfl;have hcz58_4:w57.cell? ⟨gb337,4,none⟩=some (.int .i64 0):=(blk_cell BK337.out 4).trans rfl;have hcz58_5:w57.cell? ⟨gb337,5,none⟩=some (.int .i64 0):=(blk_cell BK337.out 5).trans rfl;have hcz58_6:w57.cell? ⟨gb337,6,none⟩=some (.int .i64 0):=(blk_cell BK337.out 6).trans rfl;have hcz58_7:w57.cell? ⟨gb337,7,none⟩=some (.int .i64 0):=(blk_cell BK337.out 7).trans rfl;have hfz58_0:=blk_frozen BK337.out 0;have hfz58_1:=blk_frozen BK337.out 1;have hfz58_2:=blk_frozen BK337.out 2;have hfz58_3:=blk_frozen BK337.out 3;have hfz58_4:=blk_frozen BK337.out 4;have hfz58_5:=blk_frozen BK337.out 5;have hfz58_6:=blk_frozen BK337.out 6;have hfz58_7:=blk_frozen BK337.out 7)|((with_reducible refine gate_store (t:=3) (p:=121) rfl ?_);refine store_event (t:=3) (p:=121) (v:=?vo_w59) (w1:=(w57.setCell ⟨gb337,2,none⟩ (.int .i64 t339))) ?hg ?ho ?hn ?hr ?_;(case ho=>rfl);(case hg=>rfl);(case hn=>rfl);(case hr=>first|(go_simp;done)|(go_simp;rfl));intro w59 hw;have n0_:Aside0 (Kd.R Kd.string 9 w59 w.heap.size (fun k_=>(w.heap.size ≤ k_)∧some k_ ≠ (.slice (some ad331) t327.length co41:Value).ownBlock) (.slice (some ad326) t318.length co12) t318):=⟨(by rw [hw];exact (by (with_reducible repeat (first|apply Kd.R_alloc|apply Kd.R_drewN|apply Kd.R_drew));exact Kd.R_mono (Kd.R_far (p:=⟨gb337,2,none⟩) (Kd.R_types HO_4.out BK337.out (by decide)) (fun _ hk=>hk.2) (.int .i64 t339)) (fun _ hk=>⟨hk.1.1,hk.1.2⟩)))⟩;have n1_:Aside0 (Kd.N k64 64 w59 w.heap.size (fun k_=>(w.heap.size ≤ k_)∧some k_ ≠ (.slice (some ad326) t318.length co12:Value).ownBlock∧some k_ ≠ (.slice (some ad331) t327.length co41:Value).ownBlock∧k_ ≠ gb337) u6 x6_1):=⟨(by rw [hw];exact (by (with_reducible repeat (first|apply Kd.N_alloc|apply Kd.N_drewN|apply Kd.N_drew));exact Kd.N_mono (Kd.N_far (p:=⟨gb337,2,none⟩) (Kd.N_mono HO_6.out (fun k_ hk=>(⟨hk,hk.2⟩:_∧k_ ≠ gb337))) (fun _ hk=>hk.2) (.int .i64 t339)) (fun _ hk=>⟨hk.1.1.1,⟨hk.1.1.2.1,⟨hk.1.1.2.2,hk.1.2⟩⟩⟩)))⟩;have n2_:Aside0 (Kd.R Kd.string 9 w59 w.heap.size (fun k_=>(w.heap.size ≤ k_)∧some k_ ≠ (.slice (some ad326) t318.length co12:Value).ownBlock) (.slice (some ad331) t327.length co41) t327):=⟨(by rw [hw];exact (by (with_reducible repeat (first|apply Kd.R_alloc|apply Kd.R_drewN|apply Kd.R_drew));exact Kd.R_mono (Kd.R_far (p:=⟨gb337,2,none⟩) (Kd.R_types HO_8.out BK337.out (by decide)) (fun _ hk=>hk.2) (.int .i64 t339)) (fun _ hk=>⟨hk.1.1,hk.1.2⟩)))⟩;have n3_:Aside0 (Kd.V Kd.string 9 w59 w.heap.size (fun k_=>(w.heap.size ≤ k_)∧some k_ ≠ (.slice (some ad326) t318.length co12:Value).ownBlock∧some k_ ≠ (u6:Value).ownBlock∧k_ ≠ gb337) (.slice A42 y332.length c42) y332):=⟨(by rw [hw];exact (by (with_reducible repeat (first|apply Kd.V_alloc|apply Kd.V_drewN|apply Kd.V_drew));exact Kd.V_mono (Kd.V_far (p:=⟨gb337,2,none⟩) (Kd.V_mono HO336.out (fun k_ hk=>(⟨hk,hk.2⟩:_∧k_ ≠ gb337))) (fun _ hk=>hk.2) (.int .i64 t339)) (fun _ hk=>⟨hk.1.1.1.1,⟨hk.1.1.1.2,⟨hk.1.1.2,hk.1.2⟩⟩⟩)))⟩;have n4_:Aside0 (w59.heap[gb337]? = some (.cells #[.string (rdOf ByteArray.empty t327 1),.slice A42 y332.length c42,.int .i64 t339,.int .i64 0,.int .i64 0,.int .i64 0,.int .i64 0,.int .i64 0] 64 (0,0))):=⟨(by rw [hw];exact (by (with_reducible repeat (first|refine blk_drewN ?_ _|refine blk_drew ?_|refine blk_alloc ?_ _));refine blk_put (cs:=#[.string (rdOf ByteArray.empty t327 1),.slice A42 y332.length c42,.int .i64 0,.int .i64 0,.int .i64 0,.int .i64 0,.int .i64 0,.int .i64 0]) ?_ 2 _ rfl;(with_reducible repeat (first|refine blk_drewN ?_ _|refine blk_drew ?_|refine blk_alloc ?_ _));exact BK337.out))⟩;have n5_:Aside0 (Below w.heap.size w w59):=⟨zb27⟩;clear hw;clear HO_4;clear HO_6;clear HO_8;clear HO336;clear BK337;clear HB;have HO_4:=n0_;have HO_6:=n1_;have HO_8:=n2_;have HO336:=n3_;have BK337:=n4_;have HB:=n5_;clear n0_ n1_ n2_ n3_ n4_ n5_;have hcz60_0:w59.cell? ⟨gb337,0,none⟩=some (.string (rdOf ByteArray.empty t327 1)):=(blk_cell BK337.out 0).trans rfl;have hcz60_1:w59.cell? ⟨gb337,1,none⟩=some (.slice A42 y332.length c42):=(blk_cell BK337.out 1).trans rfl;have hcz60_2:w59.cell? ⟨gb337,2,none⟩=some (.int .i64 t339):=(blk_cell BK337.out 2).trans rfl;have hcz60_3:w59.cell? ⟨gb337,3,none⟩=some (.int .i64 0):=(blk_cell BK337.out 3).trans rfl;have hcz60_4:w59.cell? ⟨gb337,4,none⟩=some (.int .i64 0):=(blk_cell BK337.out 4).trans rfl;have hcz60_5:w59.cell? ⟨gb337,5,none⟩=some (.int .i64 0):=(blk_cell BK337.out 5).trans rfl;have hcz60_6:w59.cell? ⟨gb337,6,none⟩=some (.int .i64 0):=(blk_cell BK337.out 6).trans rfl;have hcz60_7:w59.cell? ⟨gb337,7,none⟩=some (.int .i64 0):=(blk_cell BK337.out 7).trans rfl;have hfz60_0:=blk_frozen BK337.out 0;have hfz60_1:=blk_frozen BK337.out 1;have hfz60_2:=blk_frozen BK337.out 2;have hfz60_3:=blk_frozen BK337.out 3;have hfz60_4:=blk_frozen BK337.out 4;have hfz60_5:=blk_frozen BK337.out 5;have hfz60_6:=blk_frozen BK337.out 6;have hfz60_7:=blk_frozen BK337.out 7)|((with_reducible refine gate_store (t:=3) (p:=123) rfl ?_);refine store_event (t:=3) (p:=123) (v:=?vo_w61) (w1:=(w59.setCell ⟨gb337,3,none⟩ (.int .i64 t342))) ?hg ?ho ?hn ?hr ?_;(case ho=>rfl);(case hg=>rfl);(case hn=>rfl);(case hr=>first|(go_simp;done)|(go_simp;rfl));intro w61 hw;have n0_:Aside0 (Kd.R Kd.string 9 w61 w.heap.size (fun k_=>(w.heap.size ≤ k_)∧some k_ ≠ (.slice (some ad331) t327.length co41:Value).ownBlock) (.slice (some ad326) t318.length co12) t318):=⟨(by rw [hw];exact (by (with_reducible repeat (first|apply Kd.R_alloc|apply Kd.R_drewN|apply Kd.R_drew));exact Kd.R_mono (Kd.R_far (p:=⟨gb337,3,none⟩) (Kd.R_types HO_4.out BK337.out (by decide)) (fun _ hk=>hk.2) (.int .i64 t342)) (fun _ hk=>⟨hk.1.1,hk.1.2⟩)))⟩;have n1_:Aside0 (Kd.N k64 64 w61 w.heap.size (fun k_=>(w.heap.size ≤ k_)∧some k_ ≠ (.slice (some ad326) t318.length co12:Value).ownBlock∧some k_ ≠ (.slice (some ad331) t327.length co41:Value).ownBlock∧k_ ≠ gb337) u6 x6_1):=⟨(by rw [hw];exact (by (with_reducible repeat (first|apply Kd.N_alloc|apply Kd.N_drewN|apply Kd.N_drew));exact Kd.N_mono (Kd.N_far (p:=⟨gb337,3,none⟩) (Kd.N_mono HO_6.out (fun k_ hk=>(⟨hk,hk.2.2.2⟩:_∧k_ ≠ gb337))) (fun _ hk=>hk.2) (.int .i64 t342)) (fun _ hk=>⟨hk.1.1,⟨hk.1.2.1,⟨hk.1.2.2.1,hk.1.2.2.2⟩⟩⟩)))⟩;have n2_:Aside0 (Kd.R Kd.string 9 w61 w.heap.size (fun k_=>(w.heap.size ≤ k_)∧some k_ ≠ (.slice (some ad326) t318.length co12:Value).ownBlock) (.slice (some ad331) t327.length co41) t327):=⟨(by rw [hw];exact (by (with_reducible repeat (first|apply Kd.R_alloc|apply Kd.R_drewN|apply Kd.R_drew));exact Kd.R_mono (Kd.R_far (p:=⟨gb337,3,none⟩) (Kd.R_types HO_8.out BK337.out (by decide)) (fun _ hk=>hk.2) (.int .i64 t342)) (fun _ hk=>⟨hk.1.1,hk.1.2⟩)))⟩;have n3_:Aside0 (Kd.V Kd.string 9 w61 w.heap.size (fun k_=>(w.heap.size ≤ k_)∧some k_ ≠ (.slice (some ad326) t318.length co12:Value).ownBlock∧some k_ ≠ (u6:Value).ownBlock∧k_ ≠ gb337) (.slice A42 y332.length c42) y332):=⟨(by rw [hw];exact (by (with_reducible repeat (first|apply Kd.V_alloc|apply Kd.V_drewN|apply Kd.V_drew));exact Kd.V_mono (Kd.V_far (p:=⟨gb337,3,none⟩) (Kd.V_mono HO336.out (fun k_ hk=>(⟨hk,hk.2.2.2⟩:_∧k_ ≠ gb337))) (fun _ hk=>hk.2) (.int .i64 t342)) (fun _ hk=>⟨hk.1.1,⟨hk.1.2.1,⟨hk.1.2.2.1,hk.1.2.2.2⟩⟩⟩)))⟩;have n4_:Aside0 (w61.heap[gb337]? = some (.cells #[.string (rdOf ByteArray.empty t327 1),.slice A42 y332.length c42,.int .i64 t339,.int .i64 t342,.int .i64 0,.int .i64 0,.int .i64 0,.int .i64 0] 64 (0,0))):=⟨(by rw [hw];exact (by (with_reducible repeat (first|refine blk_drewN ?_ _|refine blk_drew ?_|refine blk_alloc ?_ _));refine blk_put (cs:=#[.string (rdOf ByteArray.empty t327 1),.slice A42 y332.length c42,.int .i64 t339,.int .i64 0,.int .i64 0,.int .i64 0,.int .i64 0,.int .i64 0]) ?_ 3 _ rfl;(with_reducible repeat (first|refine blk_drewN ?_ _|refine blk_drew ?_|refine blk_alloc ?_ _));exact BK337.out))⟩;have n5_:Aside0 (Below w.heap.size w w61):=⟨zb27⟩;clear hw;clear HO_4;clear HO_6;clear HO_8;clear HO336;clear BK337;clear HB;have HO_4:=n0_;have HO_6:=n1_;have HO_8:=n2_;have HO336:=n3_;have BK337:=n4_;have HB:=n5_;clear n0_ n1_ n2_ n3_ n4_ n5_;have hcz62_0:w61.cell? ⟨gb337,0,none⟩=some (.string (rdOf ByteArray.empty t327 1)):=(blk_cell BK337.out 0).trans rfl;have hcz62_1:w61.cell? ⟨gb337,1,none⟩=some (.slice A42 y332.length c42):=(blk_cell BK337.out 1).trans rfl;have hcz62_2:w61.cell? ⟨gb337,2,none⟩=some (.int .i64 t339):=(blk_cell BK337.out 2).trans rfl;have hcz62_3:w61.cell? ⟨gb337,3,none⟩=some (.int .i64 t342):=(blk_cell BK337.out 3).trans rfl;have hcz62_4:w61.cell? ⟨gb337,4,none⟩=some (.int .i64 0):=(blk_cell BK337.out 4).trans rfl;have hcz62_5:w61.cell? ⟨gb337,5,none⟩=some (.int .i64 0):=(blk_cell BK337.out 5).trans rfl;have hcz62_6:w61.cell? ⟨gb337,6,none⟩=some (.int .i64 0):=(blk_cell BK337.out 6).trans rfl;have hcz62_7:w61.cell? ⟨gb337,7,none⟩=some (.int .i64 0):=(blk_cell BK337.out 7).trans rfl;have hfz62_0:=blk_frozen BK337.out 0;have hfz62_1:=blk_frozen BK337.out 1;have hfz62_2:=blk_frozen BK337.out 2;have hfz62_3:=blk_frozen BK337.out 3;have hfz62_4:=blk_frozen BK337.out 4;have hfz62_5:=blk_frozen BK337.out 5;have hfz62_6:=blk_frozen BK337.out 6;have hfz62_7:=blk_frozen BK337.out 7)|((with_reducible refine gate_store (t:=3) (p:=125) rfl ?_);refine store_event (t:=3) (p:=125) (v:=?vo_w63) (w1:=(w61.setCell ⟨gb337,4,none⟩ (.int .i64 t345))) ?hg ?ho ?hn ?hr ?_;(case ho=>rfl);(case hg=>rfl);(case hn=>rfl);(case hr=>first|(go_simp;done)|(go_simp;rfl));intro w63 hw;have n0_:Aside0 (Kd.R Kd.string 9 w63 w.heap.size (fun k_=>(w.heap.size ≤ k_)∧some k_ ≠ (.slice (some ad331) t327.length co41:Value).ownBlock) (.slice (some ad326) t318.length co12) t318):=⟨(by rw [hw];exact (by (with_reducible repeat (first|apply Kd.R_alloc|apply Kd.R_drewN|apply Kd.R_drew));exact Kd.R_mono (Kd.R_far (p:=⟨gb337,4,none⟩) (Kd.R_types HO_4.out BK337.out (by decide)) (fun _ hk=>hk.2) (.int .i64 t345)) (fun _ hk=>⟨hk.1.1,hk.1.2⟩)))⟩;have n1_:Aside0 (Kd.N k64 64 w63 w.heap.size (fun k_=>(w.heap.size ≤ k_)∧some k_ ≠ (.slice (some ad326) t318.length co12:Value).ownBlock∧some k_ ≠ (.slice (some ad331) t327.length co41:Value).ownBlock∧k_ ≠ gb337) u6 x6_1):=⟨(by rw [hw];exact (by (with_reducible repeat (first|apply Kd.N_alloc|apply Kd.N_drewN|apply Kd.N_drew));exact Kd.N_mono (Kd.N_far (p:=⟨gb337,4,none⟩) (Kd.N_mono HO_6.out (fun k_ hk=>(⟨hk,hk.2.2.2⟩:_∧k_ ≠ gb337))) (fun _ hk=>hk.2) (.int .i64 t345)) (fun _ hk=>⟨hk.1.1,⟨hk.1.2.1,⟨hk.1.2.2.1,hk.1.2.2.2⟩⟩⟩)))⟩;have n2_:Aside0 (Kd.R Kd.string 9 w63 w.heap.size (fun k_=>(w.heap.size ≤ k_)∧some k_ ≠ (.slice (some ad326) t318.length co12:Value).ownBlock) (.slice (some ad331) t327.length co41) t327):=⟨(by rw [hw];exact (by (with_reducible repeat (first|apply Kd.R_alloc|apply Kd.R_drewN|apply Kd.R_drew));exact Kd.R_mono (Kd.R_far (p:=⟨gb337,4,none⟩) (Kd.R_types HO_8.out BK337.out (by decide)) (fun _ hk=>hk.2) (.int .i64 t345)) (fun _ hk=>⟨hk.1.1,hk.1.2⟩)))⟩;have n3_:Aside0 (Kd.V Kd.string 9 w63 w.heap.size (fun k_=>(w.heap.size ≤ k_)∧some k_ ≠ (.slice (some ad326) t318.length co12:Value).ownBlock∧some k_ ≠ (u6:Value).ownBlock∧k_ ≠ gb337) (.slice A42 y332.length c42) y332):=⟨(by rw [hw];exact (by (with_reducible repeat (first|apply Kd.V_alloc|apply Kd.V_drewN|apply Kd.V_drew));exact Kd.V_mono (Kd.V_far (p:=⟨gb337,4,none⟩) (Kd.V_mono HO336.out (fun k_ hk=>(⟨hk,hk.2.2.2⟩:_∧k_ ≠ gb337))) (fun _ hk=>hk.2) (.int .i64 t345)) (fun _ hk=>⟨hk.1.1,⟨hk.1.2.1,⟨hk.1.2.2.1,hk.1.2.2.2⟩⟩⟩)))⟩;have n4_:Aside0 (w63.heap[gb337]? = some (.cells #[.string (rdOf ByteArray.empty t327 1),.slice A42 y332.length c42,.int .i64 t339,.int .i64 t342,.int .i64 t345,.int .i64 0,.int .i64 0,.int .i64 0] 64 (0,0))):=⟨(by rw [hw];exact (by (with_reducible repeat (first|refine blk_drewN ?_ _|refine blk_drew ?_|refine blk_alloc ?_ _));refine blk_put (cs:=#[.string (rdOf ByteArray.empty t327 1),.slice A42 y332.length c42,.int .i64 t339,.int .i64 t342,.int .i64 0,.int .i64 0,.int .i64 0,.int .i64 0]) ?_ 4 _ rfl;(with_reducible repeat (first|refine blk_drewN ?_ _|refine blk_drew ?_|refine blk_alloc ?_ _));exact BK337.out))⟩;have n5_:Aside0 (Below w.heap.size w w63):=⟨zb27⟩;clear hw;clear HO_4;clear HO_6;clear HO_8;clear HO336;clear BK337;clear HB;have HO_4:=n0_;have HO_6:=n1_;have HO_8:=n2_;have HO336:=n3_;have BK337:=n4_;have HB:=n5_;clear n0_ n1_ n2_ n3_ n4_ n5_;have hcz64_0:w63.cell? ⟨gb337,0,none⟩=some (.string (rdOf ByteArray.empty t327 1)):=(blk_cell BK337.out 0).trans rfl;have hcz64_1:w63.cell? ⟨gb337,1,none⟩=some (.slice A42 y332.length c42):=(blk_cell BK337.out 1).trans rfl;have hcz64_2:w63.cell? ⟨gb337,2,none⟩=some (.int .i64 t339):=(blk_cell BK337.out 2).trans rfl;have hcz64_3:w63.cell? ⟨gb337,3,none⟩=some (.int .i64 t342):=(blk_cell BK337.out 3).trans rfl;have hcz64_4:w63.cell? ⟨gb337,4,none⟩=some (.int .i64 t345):=(blk_cell BK337.out 4).trans rfl;have hcz64_5:w63.cell? ⟨gb337,5,none⟩=some (.int .i64 0):=(blk_cell BK337.out 5).trans rfl;have hcz64_6:w63.cell? ⟨gb337,6,none⟩=some (.int .i64 0):=(blk_cell BK337.out 6).trans rfl;have hcz64_7:w63.cell? ⟨gb337,7,none⟩=some (.int .i64 0):=(blk_cell BK337.out 7).trans rfl;have hfz64_0:=blk_frozen BK337.out 0;have hfz64_1:=blk_frozen BK337.out 1;have hfz64_2:=blk_frozen BK337.out 2;have hfz64_3:=blk_frozen BK337.out 3;have hfz64_4:=blk_frozen BK337.out 4;have hfz64_5:=blk_frozen BK337.out 5;have hfz64_6:=blk_frozen BK337.out 6;have hfz64_7:=blk_frozen BK337.out 7)|((with_reducible refine gate_store (t:=3) (p:=127) rfl ?_);refine store_event (t:=3) (p:=127) (v:=?vo_w65) (w1:=(w63.setCell ⟨gb337,5,none⟩ (.int .i64 t348))) ?hg ?ho ?hn ?hr ?_;(case ho=>rfl);(case hg=>rfl);(case hn=>rfl);(case hr=>first|(go_simp;done)|(go_simp;rfl));intro w65 hw;have n0_:Aside0 (Kd.R Kd.string 9 w65 w.heap.size (fun k_=>(w.heap.size ≤ k_)∧some k_ ≠ (.slice (some ad331) t327.length co41:Value).ownBlock) (.slice (some ad326) t318.length co12) t318):=⟨(by rw [hw];exact (by (with_reducible repeat (first|apply Kd.R_alloc|apply Kd.R_drewN|apply Kd.R_drew));exact Kd.R_mono (Kd.R_far (p:=⟨gb337,5,none⟩) (Kd.R_types HO_4.out BK337.out (by decide)) (fun _ hk=>hk.2) (.int .i64 t348)) (fun _ hk=>⟨hk.1.1,hk.1.2⟩)))⟩;have n1_:Aside0 (Kd.N k64 64 w65 w.heap.size (fun k_=>(w.heap.size ≤ k_)∧some k_ ≠ (.slice (some ad326) t318.length co12:Value).ownBlock∧some k_ ≠ (.slice (some ad331) t327.length co41:Value).ownBlock∧k_ ≠ gb337) u6 x6_1):=⟨(by rw [hw];exact (by (with_reducible repeat (first|apply Kd.N_alloc|apply Kd.N_drewN|apply Kd.N_drew));exact Kd.N_mono (Kd.N_far (p:=⟨gb337,5,none⟩) (Kd.N_mono HO_6.out (fun k_ hk=>(⟨hk,hk.2.2.2⟩:_∧k_ ≠ gb337))) (fun _ hk=>hk.2) (.int .i64 t348)) (fun _ hk=>⟨hk.1.1,⟨hk.1.2.1,⟨hk.1.2.2.1,hk.1.2.2.2⟩⟩⟩)))⟩;have n2_:Aside0 (Kd.R Kd.string 9 w65 w.heap.size (fun k_=>(w.heap.size ≤ k_)∧some k_ ≠ (.slice (some ad326) t318.length co12:Value).ownBlock) (.slice (some ad331) t327.length co41) t327):=⟨(by rw [hw];exact (by (with_reducible repeat (first|apply Kd.R_alloc|apply Kd.R_drewN|apply Kd.R_drew));exact Kd.R_mono (Kd.R_far (p:=⟨gb337,5,none⟩) (Kd.R_types HO_8.out BK337.out (by decide)) (fun _ hk=>hk.2) (.int .i64 t348)) (fun _ hk=>⟨hk.1.1,hk.1.2⟩)))⟩;have n3_:Aside0 (Kd.V Kd.string 9 w65 w.heap.size (fun k_=>(w.heap.size ≤ k_)∧some k_ ≠ (.slice (some ad326) t318.length co12:Value).ownBlock∧some k_ ≠ (u6:Value).ownBlock∧k_ ≠ gb337) (.slice A42 y332.length c42) y332):=⟨(by rw [hw];exact (by (with_reducible repeat (first|apply Kd.V_alloc|apply Kd.V_drewN|apply Kd.V_drew));exact Kd.V_mono (Kd.V_far (p:=⟨gb337,5,none⟩) (Kd.V_mono HO336.out (fun k_ hk=>(⟨hk,hk.2.2.2⟩:_∧k_ ≠ gb337))) (fun _ hk=>hk.2) (.int .i64 t348)) (fun _ hk=>⟨hk.1.1,⟨hk.1.2.1,⟨hk.1.2.2.1,hk.1.2.2.2⟩⟩⟩)))⟩;have n4_:Aside0 (w65.heap[gb337]? = some (.cells #[.string (rdOf ByteArray.empty t327 1),.slice A42 y332.length c42,.int .i64 t339,.int .i64 t342,.int .i64 t345,.int .i64 t348,.int .i64 0,.int .i64 0] 64 (0,0))):=⟨(by rw [hw];exact (by (with_reducible repeat (first|refine blk_drewN ?_ _|refine blk_drew ?_|refine blk_alloc ?_ _));refine blk_put (cs:=#[.string (rdOf ByteArray.empty t327 1),.slice A42 y332.length c42,.int .i64 t339,.int .i64 t342,.int .i64 t345,.int .i64 0,.int .i64 0,.int .i64 0]) ?_ 5 _ rfl;(with_reducible repeat (first|refine blk_drewN ?_ _|refine blk_drew ?_|refine blk_alloc ?_ _));exact BK337.out))⟩;have n5_:Aside0 (Below w.heap.size w w65):=⟨zb27⟩;clear hw;clear HO_4;clear HO_6;clear HO_8;clear HO336;clear BK337;clear HB;have HO_4:=n0_;have HO_6:=n1_;have HO_8:=n2_;have HO336:=n3_;have BK337:=n4_;have HB:=n5_;clear n0_ n1_ n2_ n3_ n4_ n5_;have hcz66_0:w65.cell? ⟨gb337,0,none⟩=some (.string (rdOf ByteArray.empty t327 1)):=(blk_cell BK337.out 0).trans rfl;have hcz66_1:w65.cell? ⟨gb337,1,none⟩=some (.slice A42 y332.length c42):=(blk_cell BK337.out 1).trans rfl;have hcz66_2:w65.cell? ⟨gb337,2,none⟩=some (.int .i64 t339):=(blk_cell BK337.out 2).trans rfl;have hcz66_3:w65.cell? ⟨gb337,3,none⟩=some (.int .i64 t342):=(blk_cell BK337.out 3).trans rfl;have hcz66_4:w65.cell? ⟨gb337,4,none⟩=some (.int .i64 t345):=(blk_cell BK337.out 4).trans rfl;have hcz66_5:w65.cell? ⟨gb337,5,none⟩=some (.int .i64 t348):=(blk_cell BK337.out 5).trans rfl;have hcz66_6:w65.cell? ⟨gb337,6,none⟩=some (.int .i64 0):=(blk_cell BK337.out 6).trans rfl;have hcz66_7:w65.cell? ⟨gb337,7,none⟩=some (.int .i64 0):=(blk_cell BK337.out 7).trans rfl;have hfz66_0:=blk_frozen BK337.out 0;have hfz66_1:=blk_frozen BK337.out 1;have hfz66_2:=blk_frozen BK337.out 2;have hfz66_3:=blk_frozen BK337.out 3;have hfz66_4:=blk_frozen BK337.out 4;have hfz66_5:=blk_frozen BK337.out 5;have hfz66_6:=blk_frozen BK337.out 6;have hfz66_7:=blk_frozen BK337.out 7)|((with_reducible refine gate_store (t:=3) (p:=129) rfl ?_);refine store_event (t:=3) (p:=129) (v:=?vo_w67) (w1:=(w65.setCell ⟨gb337,6,none⟩ (.int .i64 t351))) ?hg ?ho ?hn ?hr ?_;(case ho=>rfl);(case hg=>rfl);(case hn=>rfl);(case hr=>first|(go_simp;done)|(go_simp;rfl));intro w67 hw;have n0_:Aside0 (Kd.R Kd.string 9 w67 w.heap.size (fun k_=>(w.heap.size ≤ k_)∧some k_ ≠ (.slice (some ad331) t327.length co41:Value).ownBlock) (.slice (some ad326) t318.length co12) t318):=⟨(by rw [hw];exact (by (with_reducible repeat (first|apply Kd.R_alloc|apply Kd.R_drewN|apply Kd.R_drew));exact Kd.R_mono (Kd.R_far (p:=⟨gb337,6,none⟩) (Kd.R_types HO_4.out BK337.out (by decide)) (fun _ hk=>hk.2) (.int .i64 t351)) (fun _ hk=>⟨hk.1.1,hk.1.2⟩)))⟩;have n1_:Aside0 (Kd.N k64 64 w67 w.heap.size (fun k_=>(w.heap.size ≤ k_)∧some k_ ≠ (.slice (some ad326) t318.length co12:Value).ownBlock∧some k_ ≠ (.slice (some ad331) t327.length co41:Value).ownBlock∧k_ ≠ gb337) u6 x6_1):=⟨(by rw [hw];exact (by (with_reducible repeat (first|apply Kd.N_alloc|apply Kd.N_drewN|apply Kd.N_drew));exact Kd.N_mono (Kd.N_far (p:=⟨gb337,6,none⟩) (Kd.N_mono HO_6.out (fun k_ hk=>(⟨hk,hk.2.2.2⟩:_∧k_ ≠ gb337))) (fun _ hk=>hk.2) (.int .i64 t351)) (fun _ hk=>⟨hk.1.1,⟨hk.1.2.1,⟨hk.1.2.2.1,hk.1.2.2.2⟩⟩⟩)))⟩;have n2_:Aside0 (Kd.R Kd.string 9 w67 w.heap.size (fun k_=>(w.heap.size ≤ k_)∧some k_ ≠ (.slice (some ad326) t318.length co12:Value).ownBlock) (.slice (some ad331) t327.length co41) t327):=⟨(by rw [hw];exact (by (with_reducible repeat (first|apply Kd.R_alloc|apply Kd.R_drewN|apply Kd.R_drew));exact Kd.R_mono (Kd.R_far (p:=⟨gb337,6,none⟩) (Kd.R_types HO_8.out BK337.out (by decide)) (fun _ hk=>hk.2) (.int .i64 t351)) (fun _ hk=>⟨hk.1.1,hk.1.2⟩)))⟩;have n3_:Aside0 (Kd.V Kd.string 9 w67 w.heap.size (fun k_=>(w.heap.size ≤ k_)∧some k_ ≠ (.slice (some ad326) t318.length co12:Value).ownBlock∧some k_ ≠ (u6:Value).ownBlock∧k_ ≠ gb337) (.slice A42 y332.length c42) y332):=⟨(by rw [hw];exact (by (with_reducible repeat (first|apply Kd.V_alloc|apply Kd.V_drewN|apply Kd.V_drew));exact Kd.V_mono (Kd.V_far (p:=⟨gb337,6,none⟩) (Kd.V_mono HO336.out (fun k_ hk=>(⟨hk,hk.2.2.2⟩:_∧k_ ≠ gb337))) (fun _ hk=>hk.2) (.int .i64 t351)) (fun _ hk=>⟨hk.1.1,⟨hk.1.2.1,⟨hk.1.2.2.1,hk.1.2.2.2⟩⟩⟩)))⟩;have n4_:Aside0 (w67.heap[gb337]? = some (.cells #[.string (rdOf ByteArray.empty t327 1),.slice A42 y332.length c42,.int .i64 t339,.int .i64 t342,.int .i64 t345,.int .i64 t348,.int .i64 t351,.int .i64 0] 64 (0,0))):=⟨(by rw [hw];exact (by (with_reducible repeat (first|refine blk_drewN ?_ _|refine blk_drew ?_|refine blk_alloc ?_ _));refine blk_put (cs:=#[.string (rdOf ByteArray.empty t327 1),.slice A42 y332.length c42,.int .i64 t339,.int .i64 t342,.int .i64 t345,.int .i64 t348,.int .i64 0,.int .i64 0]) ?_ 6 _ rfl;(with_reducible repeat (first|refine blk_drewN ?_ _|refine blk_drew ?_|refine blk_alloc ?_ _));exact BK337.out))⟩;have n5_:Aside0 (Below w.heap.size w w67):=⟨zb27⟩;clear hw;clear HO_4;clear HO_6;clear HO_8;clear HO336;clear BK337;clear HB;have HO_4:=n0_;have HO_6:=n1_;have HO_8:=n2_;have HO336:=n3_;have BK337:=n4_;have HB:=n5_;clear n0_ n1_ n2_ n3_ n4_ n5_;have hcz68_0:w67.cell? ⟨gb337,0,none⟩=some (.string (rdOf ByteArray.empty t327 1)):=(blk_cell BK337.out 0).trans rfl;have hcz68_1:w67.cell? ⟨gb337,1,none⟩=some (.slice A42 y332.length c42):=(blk_cell BK337.out 1).trans rfl;have hcz68_2:w67.cell? ⟨gb337,2,none⟩=some (.int .i64 t339):=(blk_cell BK337.out 2).trans rfl;have hcz68_3:w67.cell? ⟨gb337,3,none⟩=some (.int .i64 t342):=(blk_cell BK337.out 3).trans rfl;have hcz68_4:w67.cell? ⟨gb337,4,none⟩=some (.int .i64 t345):=(blk_cell BK337.out 4).trans rfl;have hcz68_5:w67.cell? ⟨gb337,5,none⟩=some (.int .i64 t348):=(blk_cell BK337.out 5).trans rfl;have hcz68_6:w67.cell? ⟨gb337,6,none⟩=some (.int .i64 t351):=(blk_cell BK337.out 6).trans rfl;have hcz68_7:w67.cell? ⟨gb337,7,none⟩=some (.int .i64 0):=(blk_cell BK337.out 7).trans rfl;have hfz68_0:=blk_frozen BK337.out 0;have hfz68_1:=blk_frozen BK337.out 1;have hfz68_2:=blk_frozen BK337.out 2;have hfz68_3:=blk_frozen BK337.out 3;have hfz68_4:=blk_frozen BK337.out 4;have hfz68_5:=blk_frozen BK337.out 5;have hfz68_6:=blk_frozen BK337.out 6;have hfz68_7:=blk_frozen BK337.out 7)|((with_reducible refine gate_store (t:=3) (p:=131) rfl ?_);refine store_event (t:=3) (p:=131) (v:=?vo_w69) (w1:=(w67.setCell ⟨gb337,7,none⟩ (.int .i64 t354))) ?hg ?ho ?hn ?hr ?_;(case ho=>rfl);(case hg=>rfl);(case hn=>rfl);(case hr=>first|(go_simp;done)|(go_simp;rfl));intro w69 hw;have n0_:Aside0 (Kd.R Kd.string 9 w69 w.heap.size (fun k_=>(w.heap.size ≤ k_)∧some k_ ≠ (.slice (some ad331) t327.length co41:Value).ownBlock) (.slice (some ad326) t318.length co12) t318):=⟨(by rw [hw];exact (by (with_reducible repeat (first|apply Kd.R_alloc|apply Kd.R_drewN|apply Kd.R_drew));exact Kd.R_mono (Kd.R_far (p:=⟨gb337,7,none⟩) (Kd.R_types HO_4.out BK337.out (by decide)) (fun _ hk=>hk.2) (.int .i64 t354)) (fun _ hk=>⟨hk.1.1,hk.1.2⟩)))⟩;have n1_:Aside0 (Kd.N k64 64 w69 w.heap.size (fun k_=>(w.heap.size ≤ k_)∧some k_ ≠ (.slice (some ad326) t318.length co12:Value).ownBlock∧some k_ ≠ (.slice (some ad331) t327.length co41:Value).ownBlock∧k_ ≠ gb337) u6 x6_1):=⟨(by rw [hw];exact (by (with_reducible repeat (first|apply Kd.N_alloc|apply Kd.N_drewN|apply Kd.N_drew));exact Kd.N_mono (Kd.N_far (p:=⟨gb337,7,none⟩) (Kd.N_mono HO_6.out (fun k_ hk=>(⟨hk,hk.2.2.2⟩:_∧k_ ≠ gb337))) (fun _ hk=>hk.2) (.int .i64 t354)) (fun _ hk=>⟨hk.1.1,⟨hk.1.2.1,⟨hk.1.2.2.1,hk.1.2.2.2⟩⟩⟩)))⟩;have n2_:Aside0 (Kd.R Kd.string 9 w69 w.heap.size (fun k_=>(w.heap.size ≤ k_)∧some k_ ≠ (.slice (some ad326) t318.length co12:Value).ownBlock) (.slice (some ad331) t327.length co41) t327):=⟨(by rw [hw];exact (by (with_reducible repeat (first|apply Kd.R_alloc|apply Kd.R_drewN|apply Kd.R_drew));exact Kd.R_mono (Kd.R_far (p:=⟨gb337,7,none⟩) (Kd.R_types HO_8.out BK337.out (by decide)) (fun _ hk=>hk.2) (.int .i64 t354)) (fun _ hk=>⟨hk.1.1,hk.1.2⟩)))⟩;have n3_:Aside0 (Kd.V Kd.string 9 w69 w.heap.size (fun k_=>(w.heap.size ≤ k_)∧some k_ ≠ (.slice (some ad326) t318.length co12:Value).ownBlock∧some k_ ≠ (u6:Value).ownBlock∧k_ ≠ gb337) (.slice A42 y332.length c42) y332):=⟨(by rw [hw];exact (by (with_reducible repeat (first|apply Kd.V_alloc|apply Kd.V_drewN|apply Kd.V_drew));exact Kd.V_mono (Kd.V_far (p:=⟨gb337,7,none⟩) (Kd.V_mono HO336.out (fun k_ hk=>(⟨hk,hk.2.2.2⟩:_∧k_ ≠ gb337))) (fun _ hk=>hk.2) (.int .i64 t354)) (fun _ hk=>⟨hk.1.1,⟨hk.1.2.1,⟨hk.1.2.2.1,hk.1.2.2.2⟩⟩⟩)))⟩;have n4_:Aside0 (w69.heap[gb337]? = some (.cells #[.string (rdOf ByteArray.empty t327 1),.slice A42 y332.length c42,.int .i64 t339,.int .i64 t342,.int .i64 t345,.int .i64 t348,.int .i64 t351,.int .i64 t354] 64 (0,0))):=⟨(by rw [hw];exact (by (with_reducible repeat (first|refine blk_drewN ?_ _|refine blk_drew ?_|refine blk_alloc ?_ _));refine blk_put (cs:=#[.string (rdOf ByteArray.empty t327 1),.slice A42 y332.length c42,.int .i64 t339,.int .i64 t342,.int .i64 t345,.int .i64 t348,.int .i64 t351,.int .i64 0]) ?_ 7 _ rfl;(with_reducible repeat (first|refine blk_drewN ?_ _|refine blk_drew ?_|refine blk_alloc ?_ _));exact BK337.out))⟩;have n5_:Aside0 (Below w.heap.size w w69):=⟨zb27⟩;clear hw;clear HO_4;clear HO_6;clear HO_8;clear HO336;clear BK337;clear HB;have HO_4:=n0_;have HO_6:=n1_;have HO_8:=n2_;have HO336:=n3_;have BK337:=n4_;have HB:=n5_;clear n0_ n1_ n2_ n3_ n4_ n5_;have hcz70_0:w69.cell? ⟨gb337,0,none⟩=some (.string (rdOf ByteArray.empty t327 1)):=(blk_cell BK337.out 0).trans rfl;have hcz70_1:w69.cell? ⟨gb337,1,none⟩=some (.slice A42 y332.length c42):=(blk_cell BK337.out 1).trans rfl;have hcz70_2:w69.cell? ⟨gb337,2,none⟩=some (.int .i64 t339):=(blk_cell BK337.out 2).trans rfl;have hcz70_3:w69.cell? ⟨gb337,3,none⟩=some (.int .i64 t342):=(blk_cell BK337.out 3).trans rfl;have hcz70_4:w69.cell? ⟨gb337,4,none⟩=some (.int .i64 t345):=(blk_cell BK337.out 4).trans rfl;have hcz70_5:w69.cell? ⟨gb337,5,none⟩=some (.int .i64 t348):=(blk_cell BK337.out 5).trans rfl;have hcz70_6:w69.cell? ⟨gb337,6,none⟩=some (.int .i64 t351):=(blk_cell BK337.out 6).trans rfl;have hcz70_7:w69.cell? ⟨gb337,7,none⟩=some (.int .i64 t354):=(blk_cell BK337.out 7).trans rfl;have hfz70_0:=blk_frozen BK337.out 0;have hfz70_1:=blk_frozen BK337.out 1;have hfz70_2:=blk_frozen BK337.out 2;have hfz70_3:=blk_frozen BK337.out 3;have hfz70_4:=blk_frozen BK337.out 4;have hfz70_5:=blk_frozen BK337.out 5;have hfz70_6:=blk_frozen BK337.out 6;have hfz70_7:=blk_frozen BK337.out 7)|((with_reducible refine gate_builtin (b:=.append) (xs:=#[.tmp 132,.tmp 134]) rfl ?_);at_builtin;refine Kd.N_append k64 (w0:=w) w.heap.size rfl (.tmp 132) (.tmp 134) 23 64 (.agg #[(.string ⟨#[]⟩),(.slice none 0 0),(.int .i64 0),(.int .i64 0),(.int .i64 0),(.int .i64 0),(.int .i64 0),(.int .i64 0)]) 88 rfl Tryz.underlying23 info64 rfl zb22 zb16 u6 x6_1 (⟨rdOf ByteArray.empty t327 1,y332,t339,t342,t345,t348,t351,t354⟩:S64) [.string (rdOf ByteArray.empty t327 1),.slice A42 y332.length c42,.int .i64 t339,.int .i64 t342,.int .i64 t345,.int .i64 t348,.int .i64 t351,.int .i64 t354] (fun k_=>(w.heap.size ≤ k_)∧some k_ ≠ (.slice (some ad326) t318.length co12:Value).ownBlock∧k_ ≠ gb337) (fun k_=>((fun k_=>(w.heap.size ≤ k_)∧some k_ ≠ (.slice (some ad326) t318.length co12:Value).ownBlock∧k_ ≠ gb337)) k_∧some k_ ≠ (u6:Value).ownBlock) rfl rfl ?aP (fun _ hk=>hk) ?aF ?aO ?aB ?aS ?aL ?_;(case aP=>exact (k64_mkF _ _ (⟨rdOf ByteArray.empty t327 1,y332,t339,t342,t345,t348,t351,t354⟩:S64) (Kd.V_reads' (Kd.V_mono (ok' := (fun k_=>((fun k_=>(w.heap.size ≤ k_)∧some k_ ≠ (.slice (some ad326) t318.length co12:Value).ownBlock∧k_ ≠ gb337)) k_∧some k_ ≠ (u6:Value).ownBlock)) (HO336.out) (fun k_ hk=>⟨⟨hk.1,⟨hk.2.1,hk.2.2.2⟩⟩,hk.2.2.1⟩))).2.1 (Kd.V_F (Kd.V_mono (ok' := (fun k_=>((fun k_=>(w.heap.size ≤ k_)∧some k_ ≠ (.slice (some ad326) t318.length co12:Value).ownBlock∧k_ ≠ gb337)) k_∧some k_ ≠ (u6:Value).ownBlock)) (HO336.out) (fun k_ hk=>⟨⟨hk.1,⟨hk.2.1,hk.2.2.2⟩⟩,hk.2.2.1⟩)))));(case aB=>exact zb3);(case aF=>exact (fun k_ hk=>⟨(Nat.le_trans (below_size zb3) hk),Kd.fresh' (Kd.R_lt zb4) k_ hk,Kd.freshB (g:=gb337) (o:=.cells #[.string (rdOf ByteArray.empty t327 1),.slice A42 y332.length c42,.int .i64 t339,.int .i64 t342,.int .i64 t345,.int .i64 t348,.int .i64 t351,.int .i64 t354] 64 (0,0)) zb12 k_ hk⟩));(case aO=>exact (by (with_reducible repeat (first|apply Kd.N_alloc|apply Kd.N_drewN|apply Kd.N_drew));exact Kd.N_mono HO_6.out (fun _ hk=>⟨hk.1,⟨hk.2.1,hk.2.2.2⟩⟩)));(case aS=>exact (below_size zb3));(case aL=>have:=LMc39.out;omega);intro v357 w71 ho hb hg hat;rw [← Ny356.out] at ho;replace HO_4:=Aside0.mk (Kd.R_over' zb4 (Kd.N_typed zb9) zb22 hg);replace HO_8:=Aside0.mk (Kd.R_over' zb10 (Kd.N_typed zb9) zb22 hg);replace HO336:=Aside0.mk (Kd.V_afterv (ok:=(fun k_=>(w.heap.size ≤ k_)∧some k_ ≠ (.slice (some ad326) t318.length co12:Value).ownBlock∧k_ ≠ gb337)) (by (with_reducible repeat (first|apply Kd.V_alloc|apply Kd.V_drewN|apply Kd.V_drew));exact Kd.V_mono HO336.out (fun _ hk=>⟨⟨hk.1,⟨hk.2.1,hk.2.2.2⟩⟩,hk.2.2.1⟩)) hg hat);replace BK337:=Aside0.mk (blk_grown (g:=gb337) (o:=.cells #[.string (rdOf ByteArray.empty t327 1),.slice A42 y332.length c42,.int .i64 t339,.int .i64 t342,.int .i64 t345,.int .i64 t348,.int .i64 t351,.int .i64 t354] 64 (0,0)) zb12 hg (Kd.N_away HO_6.out (fun _ hk=>hk.2.2.2)));replace HB:=Aside0.mk (hb);have HO358:=Aside0.mk (ho);clear ho hb hg hat))
                 go_roundg kj10
                 case measure=>have:=HK1.out;have:=HJ10.out;omega
                 case rel=>exact ⟨(y356),(wrap64 (x7_1 + 1)),zb5,H',⟨by have:=HK1.out;have:=HJ10.out;omega⟩,⟨by (with_reducible repeat (first|apply Kd.R_alloc|apply Kd.R_drewN|apply Kd.R_drew));exact Kd.R_mono HO_4.out (fun _ hk=>hk.1)⟩,⟨by (with_reducible repeat (first|apply Kd.N_alloc|apply Kd.N_drewN|apply Kd.N_drew));exact Kd.N_mono HO358.out (fun _ hk=>⟨hk.1,hk.2.1⟩)⟩,⟨zb3⟩⟩
                ·replace c38:=Bool.eq_false_iff.mpr c38
                 subst c38
                 rw [if_neg (show ¬ (false=true) by decide)] at H
                 simp only [Option.some.injEq,Prod.mk.injEq] at H
                 obtain ⟨rfl,rfl⟩:=H
                 try go_wp2
                 replace HO_4:=Aside0.mk (Kd.R_drew HO_4.out)
                 replace HO_6:=Aside0.mk (Kd.N_drew HO_6.out)
                 replace HO_8:=Aside0.mk (Kd.R_drew HO_8.out)
                 replace HB:=Aside0.mk (below_drew1 HB.out)
                 obtain ⟨Ao73,co73,eo73⟩:=Kd.R_slice HO_8.out
                 (first|subst eo73|(injection eo73 with f1_ f2_ f3_;have f4_:=f1_.symm;have f5_:=f3_.symm;clear f1_ f2_ f3_;subst f4_;subst f5_))
                 have p331:0 ≤ (1:Int):=zb16
                 have q331:1 < (t327.length:Int):=of_decide_eq_true zb1
                 obtain ⟨ad331,e331,hx331_0⟩:=Kd.at_string (Kd.R_reads' HO_8.out).2.2 1 p331 q331
                 cases e331
                 (try simp only [show (1:Int).toNat=1 from rfl,Nat.reduceMul,Nat.reduceEqDiff,Go.Addr.add,↓reduceIte] at hx331_0)
                 have qi331:(1 < t327.length)=True:=eq_true zb16
                 (try rw [show ((1:Int)).toNat=1 from rfl] at hx331_0)
                 replace p331:=eq_true p331
                 replace q331:=eq_true q331
                 have q74:(8:Int) ≤ ((t327.length:Int):Int):=of_decide_eq_true zb1
                 obtain ⟨i074,hi074,_,hsz74,_⟩:=info_parts info9
                 have hroom74:t327.length ≤ co73:=(Kd.R_reads' HO_8.out).2.1
                 have hC74:Kd.F Kd.string _ _ (some ad331) t327.length t327:=(Kd.V_at (base:=w.heap.size) (Kd.R_V (Kd.R_apart' (HO_8.out) (Kd.N_typed HO_6.out) zb22))).2.2
                 have hcut74:=cut_from (P:=Tryz.prog) 34 9 .i64 Tryz.underlying34 hi074 1 hsz74 (some ad331) t327.length co73 8 zb16 q74
                 have hr74:=Kd.F_cut (m:=(8:Int).toNat) (c:=co73) hC74 zb16 hroom74
                 obtain ⟨A74,hA74⟩ : ∃ A1,A1=(if co73=(8:Int).toNat then (some ad331) else ((some ad331):Option Addr).map (·.add ((8:Int).toNat * 1))):=⟨_,rfl⟩
                 obtain ⟨c74,hc74⟩ : ∃ c1,c1=co73 - (8:Int).toNat:=⟨_,rfl⟩
                 have hy74:y332.length=t327.length - (8:Int).toNat:=zb70
                 rw [show (t327).drop (8:Int).toNat=y332 from Ny332.out.symm] at hr74
                 replace hr74:Kd.F Kd.string _ _ A74 y332.length y332:=(by rw [hA74];exact hr74)
                 rw [← hy74,← hA74,← hc74] at hcut74
                 have HO336:=Aside0.mk (show Kd.V Kd.string 9 _ w.heap.size _ (.slice A74 y332.length c74) y332 from Kd.V_mk (by rw [hy74,hc74];exact Nat.sub_le_sub_right hroom74 _) hr74)
                 have HC336:=Aside0.mk (show y332.length ≤ c74 from by rw [hy74,hc74];exact Nat.sub_le_sub_right hroom74 _)
                 clear hr74 hC74 hroom74 hi074 hsz74 hc74
                 have KY74:=Aside0.mk hy74
                 have KA74:=Aside0.mk hA74
                 clear hy74 hA74
                 replace q74:=eq_true q74
                 refine start_ (n:=8) (S:=fun w' => w'.cell? ⟨ad331.block,ad331.off + 1,none⟩=some (.string (rdOf ByteArray.empty t327 1))) (ds:=[]) (zl 8 0) zb14 rfl rfl (hx331_0) (fun hHeld=>?_);refine with_tabW tollbarref09_Read.tab13 tollbarref09_Read.bits13 (fun HT_ HW_=>?_)
                 generalize wc.drew=w72 at HO_4 HO_6 HO_8 HB HO336 hx331_0 hHeld ⊢
                 refine zpu 0 (N:=some 54) (zl 8 1) HT_.out rfl rfl ?_
                 refine zpu 1 (N:=some 55) (zl 8 3) HT_.out rfl rfl ?_
                 refine zpu 3 (N:=some 57) (zl 8 11) HT_.out rfl rfl ?_
                 refine zpu 4 (N:=some 58) (zl 8 27) HT_.out rfl rfl ?_
                 refine take_ (i:=2) (N:=some 56) (v:=?_) (a' := ?_) (zl 8 31) rfl rfl (take_ofW HT_.out HW_.out zb14) (fun _ _ _ h=>h) (Or.inl ⟨zb45,?_⟩) hHeld ?_ ?_
                 rotate_left
                 ·intro w' s0
                  go_simp
                  with_reducible rfl
                 rotate_left
                 ·simp only [Act.put,zqA,zqB,zqC,i64_w,i32_w];rfl
                 refine zpu 5 (N:=some 59) (zl 8 63) HT_.out rfl rfl ?_
                 refine one_ (i:=6) (N:=some 9) (zl 8 127) rfl rfl (one_of HT_.out zb14) zb22 (fun K hK=>?_)
                 refine box_step ?hg (N:=9) ?hd (cs:=#[.string (⟨#[]⟩:ByteArray),.slice none 0 0,.int .i64 0,.int .i64 0,.int .i64 0,.int .i64 0,.int .i64 0,.int .i64 0]) (t:=64) ?hr ?_;(case hd=>rfl);(case hg=>rfl);(case hr=>first|(go_simp;done)|(go_simp;rfl))
                 intro gb337 hg w75 hbox hb
                 have HS0_:=(hb.cell (World.block_lt_of_cell? _ _ (hHeld))).trans (hHeld)
                 have n0_:=Aside0.mk (Kd.R_below zb4 hb)
                 have n1_:=Aside0.mk (Kd.N_below (Kd.N_elderB zb9 gb337 (Nat.le_of_eq hg.symm)) hb)
                 have n2_:=Aside0.mk (Kd.R_below zb10 hb)
                 have n3_:=Aside0.mk (Kd.V_below (Kd.V_elderB zb11 gb337 (Nat.le_of_eq hg.symm)) hb)
                 have n4_:=Aside0.mk (below_step zb0 hb)
                 have n5_:=Aside0.mk (hbox)
                 have n6_:=zG hg zb0
                 have n7_:=zG hg zb0
                 clear HO_4 HO_6 HO_8 HO336 HB
                 have HO_4:=n0_
                 have HO_6:=n1_
                 have HO_8:=n2_
                 have HO336:=n3_
                 have HB:=n4_
                 have BK337:=n5_
                 have GW337:=n6_
                 have GE337:=n7_
                 clear n0_ n1_ n2_ n3_ n4_ n5_ n6_ n7_ hb hbox hg
                 refine hK.out _ _ (HS0_) (fun hHeld=>?_)
                 clear hK K
                 refine norm_ (a' := ?_) ?_ ?_
                 rotate_left
                 ·show Act.put _ (some 9) _=_
                  simp only [Act.put,zqA,zqB,zqC,i64_w,i32_w]
                  rfl
                 refine one_ (i:=7) (N:=none) (zl 8 255) rfl rfl (one_of HT_.out zb14) zb22 (fun K hK=>?_)
                 have hs76:w75.cell? ⟨gb337,0,none⟩=some (.string (⟨#[]⟩:ByteArray)):=(blk_cell BK337.out 0).trans rfl
                 have hfs76:=blk_frozen BK337.out 0
                 have hs77:w75.cell? ⟨gb337,1,none⟩=some (.slice none 0 0):=(blk_cell BK337.out 1).trans rfl
                 have hfs77:=blk_frozen BK337.out 1
                 have hs78:w75.cell? ⟨gb337,2,none⟩=some (.int .i64 0):=(blk_cell BK337.out 2).trans rfl
                 have hfs78:=blk_frozen BK337.out 2
                 have hs79:w75.cell? ⟨gb337,3,none⟩=some (.int .i64 0):=(blk_cell BK337.out 3).trans rfl
                 have hfs79:=blk_frozen BK337.out 3
                 have hs80:w75.cell? ⟨gb337,4,none⟩=some (.int .i64 0):=(blk_cell BK337.out 4).trans rfl
                 have hfs80:=blk_frozen BK337.out 4
                 have hs81:w75.cell? ⟨gb337,5,none⟩=some (.int .i64 0):=(blk_cell BK337.out 5).trans rfl
                 have hfs81:=blk_frozen BK337.out 5
                 have hs82:w75.cell? ⟨gb337,6,none⟩=some (.int .i64 0):=(blk_cell BK337.out 6).trans rfl
                 have hfs82:=blk_frozen BK337.out 6
                 have hs83:w75.cell? ⟨gb337,7,none⟩=some (.int .i64 0):=(blk_cell BK337.out 7).trans rfl
                 have hfs83:=blk_frozen BK337.out 7
                 refine skip_ (w1:=?_) zb45 rfl ?_ ?_
                 rotate_left
                 ·go_simp
                  rfl
                 have hfar_:=Kd.own_blk (Kd.R_ne HO_8.out BK337.out zb22)
                 refine hK.out _ _ (tollbarref09_Read.far8 hfar_ hHeld) (fun hHeld=>?_)
                 clear hK K
                 refine done_ (done_of HT_.out zb14) ?_
                 have p338:0 ≤ (2:Int):=zb16
                 have q338:2 < (t327.length:Int):=of_decide_eq_true zb1
                 obtain ⟨ad338,e338,hx338_0⟩:=Kd.at_string (Kd.R_reads' HO_8.out).2.2 2 p338 q338
                 obtain rfl:ad331=ad338:=(by injection e338)
                 (try simp only [show (2:Int).toNat=2 from rfl,Nat.reduceMul,Nat.reduceEqDiff,Go.Addr.add,↓reduceIte] at hx338_0)
                 have qi338:(2 < t327.length)=True:=eq_true zb16
                 (try rw [show ((2:Int)).toNat=2 from rfl] at hx338_0)
                 have hn338_0:ad331.block ≠ gb337:=Kd.own_blk (Kd.R_ne HO_8.out BK337.out zb22)
                 have hn338_1:ad331.block ≠ gb337:=Kd.own_blk (Kd.R_ne HO_8.out BK337.out zb22)
                 have hn338_2:ad331.block ≠ gb337:=Kd.own_blk (Kd.R_ne HO_8.out BK337.out zb22)
                 have hn338_3:ad331.block ≠ gb337:=Kd.own_blk (Kd.R_ne HO_8.out BK337.out zb22)
                 have hn338_4:ad331.block ≠ gb337:=Kd.own_blk (Kd.R_ne HO_8.out BK337.out zb22)
                 have hn338_5:ad331.block ≠ gb337:=Kd.own_blk (Kd.R_ne HO_8.out BK337.out zb22)
                 have hn338_6:ad331.block ≠ gb337:=Kd.own_blk (Kd.R_ne HO_8.out BK337.out zb22)
                 have hn338_7:ad331.block ≠ gb337:=Kd.own_blk (Kd.R_ne HO_8.out BK337.out zb22)
                 replace hx338_0:=(cell_far (p:=⟨gb337,0,none⟩) zb33 (.string (rdOf ByteArray.empty t327 1))).trans hx338_0
                 replace hx338_0:=(cell_far (p:=⟨gb337,1,none⟩) zb34 (.slice A74 y332.length c74)).trans hx338_0
                 replace hx338_0:=(cell_far (p:=⟨gb337,2,none⟩) zb35 (.int .i64 0)).trans hx338_0
                 replace hx338_0:=(cell_far (p:=⟨gb337,3,none⟩) zb36 (.int .i64 0)).trans hx338_0
                 replace hx338_0:=(cell_far (p:=⟨gb337,4,none⟩) zb37 (.int .i64 0)).trans hx338_0
                 replace hx338_0:=(cell_far (p:=⟨gb337,5,none⟩) zb38 (.int .i64 0)).trans hx338_0
                 replace hx338_0:=(cell_far (p:=⟨gb337,6,none⟩) zb39 (.int .i64 0)).trans hx338_0
                 replace hx338_0:=(cell_far (p:=⟨gb337,7,none⟩) zb40 (.int .i64 0)).trans hx338_0
                 clear hn338_0 hn338_1 hn338_2 hn338_3 hn338_4 hn338_5 hn338_6 hn338_7
                 replace p338:=eq_true p338
                 replace q338:=eq_true q338
                 try go_wp2_with (first|((with_reducible refine gate_callee (f:=38) rfl ?_);refine goesL_ (some 64) rfl rfl Tryz.func38 zb14 rfl #[.string (rdOf ByteArray.empty t327 2)] rfl zb2 ?_;(with_reducible refine (tollbarref09_Number.calls kj10 (rdOf ByteArray.empty t327 2) t339 true _ A22.out).mono ?_);rintro e w84 ⟨rfl,hb⟩;(try clear A22);refine ⟨_,rfl,?_⟩;replace HO_4:=Aside0.mk (Kd.R_below (by (with_reducible repeat (first|apply Kd.R_alloc|apply Kd.R_drewN|apply Kd.R_drew));exact (Kd.R_mono (Kd.R_far (p:=⟨gb337,7,none⟩) (Kd.R_far (p:=⟨gb337,6,none⟩) (Kd.R_far (p:=⟨gb337,5,none⟩) (Kd.R_far (p:=⟨gb337,4,none⟩) (Kd.R_far (p:=⟨gb337,3,none⟩) (Kd.R_far (p:=⟨gb337,2,none⟩) (Kd.R_far (p:=⟨gb337,1,none⟩) (Kd.R_far (p:=⟨gb337,0,none⟩) (Kd.R_types HO_4.out BK337.out (by decide)) (fun _ hk=>hk.2) (.string (rdOf ByteArray.empty t327 1))) (fun _ hk=>hk.2) (.slice A74 y332.length c74)) (fun _ hk=>hk.2) (.int .i64 0)) (fun _ hk=>hk.2) (.int .i64 0)) (fun _ hk=>hk.2) (.int .i64 0)) (fun _ hk=>hk.2) (.int .i64 0)) (fun _ hk=>hk.2) (.int .i64 0)) (fun _ hk=>hk.2) (.int .i64 0)) (fun _ h_=>h_.1))) hb);replace HO_6:=Aside0.mk (Kd.N_below (by (with_reducible repeat (first|apply Kd.N_alloc|apply Kd.N_drewN|apply Kd.N_drew));exact (Kd.N_mono (Kd.N_far (p:=⟨gb337,7,none⟩) (Kd.N_far (p:=⟨gb337,6,none⟩) (Kd.N_far (p:=⟨gb337,5,none⟩) (Kd.N_far (p:=⟨gb337,4,none⟩) (Kd.N_far (p:=⟨gb337,3,none⟩) (Kd.N_far (p:=⟨gb337,2,none⟩) (Kd.N_far (p:=⟨gb337,1,none⟩) (Kd.N_far (p:=⟨gb337,0,none⟩) (Kd.N_mono HO_6.out (fun k_ hk=>(⟨hk,hk.2⟩:_∧k_ ≠ gb337))) (fun _ hk=>hk.2) (.string (rdOf ByteArray.empty t327 1))) (fun _ hk=>hk.2) (.slice A74 y332.length c74)) (fun _ hk=>hk.2) (.int .i64 0)) (fun _ hk=>hk.2) (.int .i64 0)) (fun _ hk=>hk.2) (.int .i64 0)) (fun _ hk=>hk.2) (.int .i64 0)) (fun _ hk=>hk.2) (.int .i64 0)) (fun _ hk=>hk.2) (.int .i64 0)) (fun _ h_=>h_.1))) hb);replace HO_8:=Aside0.mk (Kd.R_below (by (with_reducible repeat (first|apply Kd.R_alloc|apply Kd.R_drewN|apply Kd.R_drew));exact (Kd.R_mono (Kd.R_far (p:=⟨gb337,7,none⟩) (Kd.R_far (p:=⟨gb337,6,none⟩) (Kd.R_far (p:=⟨gb337,5,none⟩) (Kd.R_far (p:=⟨gb337,4,none⟩) (Kd.R_far (p:=⟨gb337,3,none⟩) (Kd.R_far (p:=⟨gb337,2,none⟩) (Kd.R_far (p:=⟨gb337,1,none⟩) (Kd.R_far (p:=⟨gb337,0,none⟩) (Kd.R_types HO_8.out BK337.out (by decide)) (fun _ hk=>hk.2) (.string (rdOf ByteArray.empty t327 1))) (fun _ hk=>hk.2) (.slice A74 y332.length c74)) (fun _ hk=>hk.2) (.int .i64 0)) (fun _ hk=>hk.2) (.int .i64 0)) (fun _ hk=>hk.2) (.int .i64 0)) (fun _ hk=>hk.2) (.int .i64 0)) (fun _ hk=>hk.2) (.int .i64 0)) (fun _ hk=>hk.2) (.int .i64 0)) (fun _ h_=>h_.1))) hb);replace HO336:=Aside0.mk (Kd.V_below (by (with_reducible repeat (first|apply Kd.V_alloc|apply Kd.V_drewN|apply Kd.V_drew));exact (Kd.V_mono (Kd.V_far (p:=⟨gb337,7,none⟩) (Kd.V_far (p:=⟨gb337,6,none⟩) (Kd.V_far (p:=⟨gb337,5,none⟩) (Kd.V_far (p:=⟨gb337,4,none⟩) (Kd.V_far (p:=⟨gb337,3,none⟩) (Kd.V_far (p:=⟨gb337,2,none⟩) (Kd.V_far (p:=⟨gb337,1,none⟩) (Kd.V_far (p:=⟨gb337,0,none⟩) (Kd.V_mono HO336.out (fun k_ hk=>(⟨hk,hk.2⟩:_∧k_ ≠ gb337))) (fun _ hk=>hk.2) (.string (rdOf ByteArray.empty t327 1))) (fun _ hk=>hk.2) (.slice A74 y332.length c74)) (fun _ hk=>hk.2) (.int .i64 0)) (fun _ hk=>hk.2) (.int .i64 0)) (fun _ hk=>hk.2) (.int .i64 0)) (fun _ hk=>hk.2) (.int .i64 0)) (fun _ hk=>hk.2) (.int .i64 0)) (fun _ hk=>hk.2) (.int .i64 0)) (fun _ h_=>h_.1))) hb);replace BK337:=Aside0.mk (blk_below (g:=gb337) (o:=.cells #[.string (rdOf ByteArray.empty t327 1),.slice A74 y332.length c74,.int .i64 0,.int .i64 0,.int .i64 0,.int .i64 0,.int .i64 0,.int .i64 0] 64 (0,0)) (by (with_reducible repeat (first|refine blk_drewN ?_ _|refine blk_drew ?_|refine blk_alloc ?_ _));refine blk_put (cs:=#[.string (rdOf ByteArray.empty t327 1),.slice A74 y332.length c74,.int .i64 0,.int .i64 0,.int .i64 0,.int .i64 0,.int .i64 0,.int .i64 0]) ?_ 7 _ rfl;(with_reducible repeat (first|refine blk_drewN ?_ _|refine blk_drew ?_|refine blk_alloc ?_ _));refine blk_put (cs:=#[.string (rdOf ByteArray.empty t327 1),.slice A74 y332.length c74,.int .i64 0,.int .i64 0,.int .i64 0,.int .i64 0,.int .i64 0,.int .i64 0]) ?_ 6 _ rfl;(with_reducible repeat (first|refine blk_drewN ?_ _|refine blk_drew ?_|refine blk_alloc ?_ _));refine blk_put (cs:=#[.string (rdOf ByteArray.empty t327 1),.slice A74 y332.length c74,.int .i64 0,.int .i64 0,.int .i64 0,.int .i64 0,.int .i64 0,.int .i64 0]) ?_ 5 _ rfl;(with_reducible repeat (first|refine blk_drewN ?_ _|refine blk_drew ?_|refine blk_alloc ?_ _));refine blk_put (cs:=#[.string (rdOf ByteArray.empty t327 1),.slice A74 y332.length c74,.int .i64 0,.int .i64 0,.int .i64 0,.int .i64 0,.int .i64 0,.int .i64 0]) ?_ 4 _ rfl;(with_reducible repeat (first|refine blk_drewN ?_ _|refine blk_drew ?_|refine blk_alloc ?_ _));refine blk_put (cs:=#[.string (rdOf ByteArray.empty t327 1),.slice A74 y332.length c74,.int .i64 0,.int .i64 0,.int .i64 0,.int .i64 0,.int .i64 0,.int .i64 0]) ?_ 3 _ rfl;(with_reducible repeat (first|refine blk_drewN ?_ _|refine blk_drew ?_|refine blk_alloc ?_ _));refine blk_put (cs:=#[.string (rdOf ByteArray.empty t327 1),.slice A74 y332.length c74,.int .i64 0,.int .i64 0,.int .i64 0,.int .i64 0,.int .i64 0,.int .i64 0]) ?_ 2 _ rfl;(with_reducible repeat (first|refine blk_drewN ?_ _|refine blk_drew ?_|refine blk_alloc ?_ _));refine blk_put (cs:=#[.string (rdOf ByteArray.empty t327 1),.slice none 0 0,.int .i64 0,.int .i64 0,.int .i64 0,.int .i64 0,.int .i64 0,.int .i64 0]) ?_ 1 _ rfl;(with_reducible repeat (first|refine blk_drewN ?_ _|refine blk_drew ?_|refine blk_alloc ?_ _));refine blk_put (cs:=#[.string (⟨#[]⟩:ByteArray),.slice none 0 0,.int .i64 0,.int .i64 0,.int .i64 0,.int .i64 0,.int .i64 0,.int .i64 0]) ?_ 0 _ rfl;(with_reducible repeat (first|refine blk_drewN ?_ _|refine blk_drew ?_|refine blk_alloc ?_ _));exact BK337.out) hb);replace HB:=Aside0.mk (below_step zb3 hb);(try clear hb);have p341:0 ≤ (3:Int):=zb16;have q341:3 < (t327.length:Int):=of_decide_eq_true zb1;obtain ⟨ad341,e341,hx341_0⟩:=Kd.at_string (Kd.R_reads' HO_8.out).2.2 3 p341 q341;obtain rfl:ad331=ad341:=(by injection e341);(try simp only [show (3:Int).toNat=3 from rfl,Nat.reduceMul,Nat.reduceEqDiff,Go.Addr.add,↓reduceIte] at hx341_0);have qi341:(3 < t327.length)=True:=eq_true zb16;(try rw [show ((3:Int)).toNat=3 from rfl] at hx341_0);replace p341:=eq_true p341;replace q341:=eq_true q341)|((with_reducible refine gate_callee (f:=38) rfl ?_);refine goesL_ (some 71) rfl rfl Tryz.func38 zb14 rfl #[.string (rdOf ByteArray.empty t327 3)] rfl zb2 ?_;(with_reducible refine (tollbarref09_Number.calls kj10 (rdOf ByteArray.empty t327 3) t342 true _ A24.out).mono ?_);rintro e w85 ⟨rfl,hb⟩;(try clear A24);refine ⟨_,rfl,?_⟩;replace HO_4:=Aside0.mk (Kd.R_below zb4 hb);replace HO_6:=Aside0.mk (Kd.N_below zb9 hb);replace HO_8:=Aside0.mk (Kd.R_below zb10 hb);replace HO336:=Aside0.mk (Kd.V_below zb11 hb);replace BK337:=Aside0.mk (blk_below (g:=gb337) (o:=.cells #[.string (rdOf ByteArray.empty t327 1),.slice A74 y332.length c74,.int .i64 0,.int .i64 0,.int .i64 0,.int .i64 0,.int .i64 0,.int .i64 0] 64 (0,0)) zb12 hb);replace HB:=Aside0.mk (below_step zb3 hb);(try clear hb);have p344:0 ≤ (4:Int):=zb16;have q344:4 < (t327.length:Int):=of_decide_eq_true zb1;obtain ⟨ad344,e344,hx344_0⟩:=Kd.at_string (Kd.R_reads' HO_8.out).2.2 4 p344 q344;obtain rfl:ad331=ad344:=(by injection e344);(try simp only [show (4:Int).toNat=4 from rfl,Nat.reduceMul,Nat.reduceEqDiff,Go.Addr.add,↓reduceIte] at hx344_0);have qi344:(4 < t327.length)=True:=eq_true zb16;(try rw [show ((4:Int)).toNat=4 from rfl] at hx344_0);replace p344:=eq_true p344;replace q344:=eq_true q344)|((with_reducible refine gate_callee (f:=38) rfl ?_);refine goesL_ (some 78) rfl rfl Tryz.func38 zb14 rfl #[.string (rdOf ByteArray.empty t327 4)] rfl zb2 ?_;(with_reducible refine (tollbarref09_Number.calls kj10 (rdOf ByteArray.empty t327 4) t345 true _ A26.out).mono ?_);rintro e w86 ⟨rfl,hb⟩;(try clear A26);refine ⟨_,rfl,?_⟩;replace HO_4:=Aside0.mk (Kd.R_below zb4 hb);replace HO_6:=Aside0.mk (Kd.N_below zb9 hb);replace HO_8:=Aside0.mk (Kd.R_below zb10 hb);replace HO336:=Aside0.mk (Kd.V_below zb11 hb);replace BK337:=Aside0.mk (blk_below (g:=gb337) (o:=.cells #[.string (rdOf ByteArray.empty t327 1),.slice A74 y332.length c74,.int .i64 0,.int .i64 0,.int .i64 0,.int .i64 0,.int .i64 0,.int .i64 0] 64 (0,0)) zb12 hb);replace HB:=Aside0.mk (below_step zb3 hb);(try clear hb);have p347:0 ≤ (5:Int):=zb16;have q347:5 < (t327.length:Int):=of_decide_eq_true zb1;obtain ⟨ad347,e347,hx347_0⟩:=Kd.at_string (Kd.R_reads' HO_8.out).2.2 5 p347 q347;obtain rfl:ad331=ad347:=(by injection e347);(try simp only [show (5:Int).toNat=5 from rfl,Nat.reduceMul,Nat.reduceEqDiff,Go.Addr.add,↓reduceIte] at hx347_0);have qi347:(5 < t327.length)=True:=eq_true zb16;(try rw [show ((5:Int)).toNat=5 from rfl] at hx347_0);replace p347:=eq_true p347;replace q347:=eq_true q347)|((with_reducible refine gate_callee (f:=38) rfl ?_);refine goesL_ (some 85) rfl rfl Tryz.func38 zb14 rfl #[.string (rdOf ByteArray.empty t327 5)] rfl zb2 ?_;(with_reducible refine (tollbarref09_Number.calls kj10 (rdOf ByteArray.empty t327 5) t348 true _ A28.out).mono ?_);rintro e w87 ⟨rfl,hb⟩;(try clear A28);refine ⟨_,rfl,?_⟩;replace HO_4:=Aside0.mk (Kd.R_below zb4 hb);replace HO_6:=Aside0.mk (Kd.N_below zb9 hb);replace HO_8:=Aside0.mk (Kd.R_below zb10 hb);replace HO336:=Aside0.mk (Kd.V_below zb11 hb);replace BK337:=Aside0.mk (blk_below (g:=gb337) (o:=.cells #[.string (rdOf ByteArray.empty t327 1),.slice A74 y332.length c74,.int .i64 0,.int .i64 0,.int .i64 0,.int .i64 0,.int .i64 0,.int .i64 0] 64 (0,0)) zb12 hb);replace HB:=Aside0.mk (below_step zb3 hb);(try clear hb);have p350:0 ≤ (6:Int):=zb16;have q350:6 < (t327.length:Int):=of_decide_eq_true zb1;obtain ⟨ad350,e350,hx350_0⟩:=Kd.at_string (Kd.R_reads' HO_8.out).2.2 6 p350 q350;obtain rfl:ad331=ad350:=(by injection e350);(try simp only [show (6:Int).toNat=6 from rfl,Nat.reduceMul,Nat.reduceEqDiff,Go.Addr.add,↓reduceIte] at hx350_0);have qi350:(6 < t327.length)=True:=eq_true zb16;(try rw [show ((6:Int)).toNat=6 from rfl] at hx350_0);replace p350:=eq_true p350;replace q350:=eq_true q350)|((with_reducible refine gate_callee (f:=38) rfl ?_);refine goesL_ (some 92) rfl rfl Tryz.func38 zb14 rfl #[.string (rdOf ByteArray.empty t327 6)] rfl zb2 ?_;(with_reducible refine (tollbarref09_Number.calls kj10 (rdOf ByteArray.empty t327 6) t351 true _ A30.out).mono ?_);rintro e w88 ⟨rfl,hb⟩;(try clear A30);refine ⟨_,rfl,?_⟩;replace HO_4:=Aside0.mk (Kd.R_below zb4 hb);replace HO_6:=Aside0.mk (Kd.N_below zb9 hb);replace HO_8:=Aside0.mk (Kd.R_below zb10 hb);replace HO336:=Aside0.mk (Kd.V_below zb11 hb);replace BK337:=Aside0.mk (blk_below (g:=gb337) (o:=.cells #[.string (rdOf ByteArray.empty t327 1),.slice A74 y332.length c74,.int .i64 0,.int .i64 0,.int .i64 0,.int .i64 0,.int .i64 0,.int .i64 0] 64 (0,0)) zb12 hb);replace HB:=Aside0.mk (below_step zb3 hb);(try clear hb);have p353:0 ≤ (7:Int):=zb16;have q353:7 < (t327.length:Int):=of_decide_eq_true zb1;obtain ⟨ad353,e353,hx353_0⟩:=Kd.at_string (Kd.R_reads' HO_8.out).2.2 7 p353 q353;obtain rfl:ad331=ad353:=(by injection e353);(try simp only [show (7:Int).toNat=7 from rfl,Nat.reduceMul,Nat.reduceEqDiff,Go.Addr.add,↓reduceIte] at hx353_0);have qi353:(7 < t327.length)=True:=eq_true zb16;(try rw [show ((7:Int)).toNat=7 from rfl] at hx353_0);replace p353:=eq_true p353;replace q353:=eq_true q353)|((with_reducible refine gate_callee (f:=38) rfl ?_);refine goesL_ (some 99) rfl rfl Tryz.func38 zb14 rfl #[.string (rdOf ByteArray.empty t327 7)] rfl zb2 ?_;(with_reducible refine (tollbarref09_Number.calls kj10 (rdOf ByteArray.empty t327 7) t354 false _ A32.out).mono ?_);rintro e w89 ⟨rfl,hb⟩;(try clear A32);refine ⟨_,rfl,?_⟩;replace HO_4:=Aside0.mk (Kd.R_below zb4 hb);replace HO_6:=Aside0.mk (Kd.N_below zb9 hb);replace HO_8:=Aside0.mk (Kd.R_below zb10 hb);replace HO336:=Aside0.mk (Kd.V_below zb11 hb);replace BK337:=Aside0.mk (blk_below (g:=gb337) (o:=.cells #[.string (rdOf ByteArray.empty t327 1),.slice A74 y332.length c74,.int .i64 0,.int .i64 0,.int .i64 0,.int .i64 0,.int .i64 0,.int .i64 0] 64 (0,0)) zb12 hb);replace HB:=Aside0.mk (below_step zb3 hb);(try clear hb)))
                 go_ret2
                 exact ⟨_,zb6,zb18,zb3⟩
               ·replace c36:=Bool.eq_false_iff.mpr c36
                subst c36
                rw [if_neg (show ¬ (false=true) by decide)] at H
                simp only [Option.some.injEq,Prod.mk.injEq] at H
                obtain ⟨rfl,rfl⟩:=H
                try go_wp2
                replace HO_4:=Aside0.mk (Kd.R_drew HO_4.out)
                replace HO_6:=Aside0.mk (Kd.N_drew HO_6.out)
                replace HO_8:=Aside0.mk (Kd.R_drew HO_8.out)
                replace HB:=Aside0.mk (below_drew1 HB.out)
                obtain ⟨Ao109,co109,eo109⟩:=Kd.R_slice HO_8.out
                (first|subst eo109|(injection eo109 with f1_ f2_ f3_;have f4_:=f1_.symm;have f5_:=f3_.symm;clear f1_ f2_ f3_;subst f4_;subst f5_))
                have p331:0 ≤ (1:Int):=zb16
                have q331:1 < (t327.length:Int):=of_decide_eq_true zb1
                obtain ⟨ad331,e331,hx331_0⟩:=Kd.at_string (Kd.R_reads' HO_8.out).2.2 1 p331 q331
                cases e331
                (try simp only [show (1:Int).toNat=1 from rfl,Nat.reduceMul,Nat.reduceEqDiff,Go.Addr.add,↓reduceIte] at hx331_0)
                have qi331:(1 < t327.length)=True:=eq_true zb16
                (try rw [show ((1:Int)).toNat=1 from rfl] at hx331_0)
                replace p331:=eq_true p331
                replace q331:=eq_true q331
                have q110:(8:Int) ≤ ((t327.length:Int):Int):=of_decide_eq_true zb1
                obtain ⟨i0110,hi0110,_,hsz110,_⟩:=info_parts info9
                have hroom110:t327.length ≤ co109:=(Kd.R_reads' HO_8.out).2.1
                have hC110:Kd.F Kd.string _ _ (some ad331) t327.length t327:=(Kd.V_at (base:=w.heap.size) (Kd.R_V (Kd.R_apart' (HO_8.out) (Kd.N_typed HO_6.out) zb22))).2.2
                have hcut110:=cut_from (P:=Tryz.prog) 34 9 .i64 Tryz.underlying34 hi0110 1 hsz110 (some ad331) t327.length co109 8 zb16 q110
                have hr110:=Kd.F_cut (m:=(8:Int).toNat) (c:=co109) hC110 zb16 hroom110
                obtain ⟨A110,hA110⟩ : ∃ A1,A1=(if co109=(8:Int).toNat then (some ad331) else ((some ad331):Option Addr).map (·.add ((8:Int).toNat * 1))):=⟨_,rfl⟩
                obtain ⟨c110,hc110⟩ : ∃ c1,c1=co109 - (8:Int).toNat:=⟨_,rfl⟩
                have hy110:y332.length=t327.length - (8:Int).toNat:=zb70
                rw [show (t327).drop (8:Int).toNat=y332 from Ny332.out.symm] at hr110
                replace hr110:Kd.F Kd.string _ _ A110 y332.length y332:=(by rw [hA110];exact hr110)
                rw [← hy110,← hA110,← hc110] at hcut110
                have HO336:=Aside0.mk (show Kd.V Kd.string 9 _ w.heap.size _ (.slice A110 y332.length c110) y332 from Kd.V_mk (by rw [hy110,hc110];exact Nat.sub_le_sub_right hroom110 _) hr110)
                have HC336:=Aside0.mk (show y332.length ≤ c110 from by rw [hy110,hc110];exact Nat.sub_le_sub_right hroom110 _)
                clear hr110 hC110 hroom110 hi0110 hsz110 hc110
                have KY110:=Aside0.mk hy110
                have KA110:=Aside0.mk hA110
                clear hy110 hA110
                replace q110:=eq_true q110
                refine start_ (n:=8) (S:=fun w' => w'.cell? ⟨ad331.block,ad331.off + 1,none⟩=some (.string (rdOf ByteArray.empty t327 1))) (ds:=[]) (zl 8 0) zb14 rfl rfl (hx331_0) (fun hHeld=>?_);refine with_tabW tollbarref09_Read.tab13 tollbarref09_Read.bits13 (fun HT_ HW_=>?_)
                generalize wc.drew=w108 at HO_4 HO_6 HO_8 HB HO336 hx331_0 hHeld ⊢
                refine zpu 0 (N:=some 54) (zl 8 1) HT_.out rfl rfl ?_
                refine zpu 1 (N:=some 55) (zl 8 3) HT_.out rfl rfl ?_
                refine zpu 3 (N:=some 57) (zl 8 11) HT_.out rfl rfl ?_
                refine zpu 4 (N:=some 58) (zl 8 27) HT_.out rfl rfl ?_
                refine take_ (i:=2) (N:=some 56) (v:=?_) (a' := ?_) (zl 8 31) rfl rfl (take_ofW HT_.out HW_.out zb14) (fun _ _ _ h=>h) (Or.inl ⟨zb45,?_⟩) hHeld ?_ ?_
                rotate_left
                ·intro w' s0
                 go_simp
                 with_reducible rfl
                rotate_left
                ·simp only [Act.put,zqA,zqB,zqC,i64_w,i32_w];rfl
                refine zpu 5 (N:=some 59) (zl 8 63) HT_.out rfl rfl ?_
                refine one_ (i:=6) (N:=some 9) (zl 8 127) rfl rfl (one_of HT_.out zb14) zb22 (fun K hK=>?_)
                refine box_step ?hg (N:=9) ?hd (cs:=#[.string (⟨#[]⟩:ByteArray),.slice none 0 0,.int .i64 0,.int .i64 0,.int .i64 0,.int .i64 0,.int .i64 0,.int .i64 0]) (t:=64) ?hr ?_;(case hd=>rfl);(case hg=>rfl);(case hr=>first|(go_simp;done)|(go_simp;rfl))
                intro gb337 hg w111 hbox hb
                have HS0_:=(hb.cell (World.block_lt_of_cell? _ _ (hHeld))).trans (hHeld)
                have n0_:=Aside0.mk (Kd.R_below zb4 hb)
                have n1_:=Aside0.mk (Kd.N_below (Kd.N_elderB zb9 gb337 (Nat.le_of_eq hg.symm)) hb)
                have n2_:=Aside0.mk (Kd.R_below zb10 hb)
                have n3_:=Aside0.mk (Kd.V_below (Kd.V_elderB zb11 gb337 (Nat.le_of_eq hg.symm)) hb)
                have n4_:=Aside0.mk (below_step zb0 hb)
                have n5_:=Aside0.mk (hbox)
                have n6_:=zG hg zb0
                have n7_:=zG hg zb0
                clear HO_4 HO_6 HO_8 HO336 HB
                have HO_4:=n0_
                have HO_6:=n1_
                have HO_8:=n2_
                have HO336:=n3_
                have HB:=n4_
                have BK337:=n5_
                have GW337:=n6_
                have GE337:=n7_
                clear n0_ n1_ n2_ n3_ n4_ n5_ n6_ n7_ hb hbox hg
                refine hK.out _ _ (HS0_) (fun hHeld=>?_)
                clear hK K
                refine norm_ (a' := ?_) ?_ ?_
                rotate_left
                ·show Act.put _ (some 9) _=_
                 simp only [Act.put,zqA,zqB,zqC,i64_w,i32_w]
                 rfl
                refine one_ (i:=7) (N:=none) (zl 8 255) rfl rfl (one_of HT_.out zb14) zb22 (fun K hK=>?_)
                have hs112:w111.cell? ⟨gb337,0,none⟩=some (.string (⟨#[]⟩:ByteArray)):=(blk_cell BK337.out 0).trans rfl
                have hfs112:=blk_frozen BK337.out 0
                have hs113:w111.cell? ⟨gb337,1,none⟩=some (.slice none 0 0):=(blk_cell BK337.out 1).trans rfl
                have hfs113:=blk_frozen BK337.out 1
                have hs114:w111.cell? ⟨gb337,2,none⟩=some (.int .i64 0):=(blk_cell BK337.out 2).trans rfl
                have hfs114:=blk_frozen BK337.out 2
                have hs115:w111.cell? ⟨gb337,3,none⟩=some (.int .i64 0):=(blk_cell BK337.out 3).trans rfl
                have hfs115:=blk_frozen BK337.out 3
                have hs116:w111.cell? ⟨gb337,4,none⟩=some (.int .i64 0):=(blk_cell BK337.out 4).trans rfl
                have hfs116:=blk_frozen BK337.out 4
                have hs117:w111.cell? ⟨gb337,5,none⟩=some (.int .i64 0):=(blk_cell BK337.out 5).trans rfl
                have hfs117:=blk_frozen BK337.out 5
                have hs118:w111.cell? ⟨gb337,6,none⟩=some (.int .i64 0):=(blk_cell BK337.out 6).trans rfl
                have hfs118:=blk_frozen BK337.out 6
                have hs119:w111.cell? ⟨gb337,7,none⟩=some (.int .i64 0):=(blk_cell BK337.out 7).trans rfl
                have hfs119:=blk_frozen BK337.out 7
                refine skip_ (w1:=?_) zb45 rfl ?_ ?_
                rotate_left
                ·go_simp
                 rfl
                have hfar_:=Kd.own_blk (Kd.R_ne HO_8.out BK337.out zb22)
                refine hK.out _ _ (tollbarref09_Read.far8 hfar_ hHeld) (fun hHeld=>?_)
                clear hK K
                refine done_ (done_of HT_.out zb14) ?_
                have p338:0 ≤ (2:Int):=zb16
                have q338:2 < (t327.length:Int):=of_decide_eq_true zb1
                obtain ⟨ad338,e338,hx338_0⟩:=Kd.at_string (Kd.R_reads' HO_8.out).2.2 2 p338 q338
                obtain rfl:ad331=ad338:=(by injection e338)
                (try simp only [show (2:Int).toNat=2 from rfl,Nat.reduceMul,Nat.reduceEqDiff,Go.Addr.add,↓reduceIte] at hx338_0)
                have qi338:(2 < t327.length)=True:=eq_true zb16
                (try rw [show ((2:Int)).toNat=2 from rfl] at hx338_0)
                have hn338_0:ad331.block ≠ gb337:=Kd.own_blk (Kd.R_ne HO_8.out BK337.out zb22)
                have hn338_1:ad331.block ≠ gb337:=Kd.own_blk (Kd.R_ne HO_8.out BK337.out zb22)
                have hn338_2:ad331.block ≠ gb337:=Kd.own_blk (Kd.R_ne HO_8.out BK337.out zb22)
                have hn338_3:ad331.block ≠ gb337:=Kd.own_blk (Kd.R_ne HO_8.out BK337.out zb22)
                have hn338_4:ad331.block ≠ gb337:=Kd.own_blk (Kd.R_ne HO_8.out BK337.out zb22)
                have hn338_5:ad331.block ≠ gb337:=Kd.own_blk (Kd.R_ne HO_8.out BK337.out zb22)
                have hn338_6:ad331.block ≠ gb337:=Kd.own_blk (Kd.R_ne HO_8.out BK337.out zb22)
                have hn338_7:ad331.block ≠ gb337:=Kd.own_blk (Kd.R_ne HO_8.out BK337.out zb22)
                replace hx338_0:=(cell_far (p:=⟨gb337,0,none⟩) zb33 (.string (rdOf ByteArray.empty t327 1))).trans hx338_0
                replace hx338_0:=(cell_far (p:=⟨gb337,1,none⟩) zb34 (.slice A110 y332.length c110)).trans hx338_0
                replace hx338_0:=(cell_far (p:=⟨gb337,2,none⟩) zb35 (.int .i64 0)).trans hx338_0
                replace hx338_0:=(cell_far (p:=⟨gb337,3,none⟩) zb36 (.int .i64 0)).trans hx338_0
                replace hx338_0:=(cell_far (p:=⟨gb337,4,none⟩) zb37 (.int .i64 0)).trans hx338_0
                replace hx338_0:=(cell_far (p:=⟨gb337,5,none⟩) zb38 (.int .i64 0)).trans hx338_0
                replace hx338_0:=(cell_far (p:=⟨gb337,6,none⟩) zb39 (.int .i64 0)).trans hx338_0
                replace hx338_0:=(cell_far (p:=⟨gb337,7,none⟩) zb40 (.int .i64 0)).trans hx338_0
                clear hn338_0 hn338_1 hn338_2 hn338_3 hn338_4 hn338_5 hn338_6 hn338_7
                replace p338:=eq_true p338
                replace q338:=eq_true q338
                try go_wp2_with (first|((with_reducible refine gate_callee (f:=38) rfl ?_);refine goesL_ (some 64) rfl rfl Tryz.func38 zb14 rfl #[.string (rdOf ByteArray.empty t327 2)] rfl zb2 ?_;(with_reducible refine (tollbarref09_Number.calls kj10 (rdOf ByteArray.empty t327 2) t339 true _ A22.out).mono ?_);rintro e w120 ⟨rfl,hb⟩;(try clear A22);refine ⟨_,rfl,?_⟩;replace HO_4:=Aside0.mk (Kd.R_below (by (with_reducible repeat (first|apply Kd.R_alloc|apply Kd.R_drewN|apply Kd.R_drew));exact (Kd.R_mono (Kd.R_far (p:=⟨gb337,7,none⟩) (Kd.R_far (p:=⟨gb337,6,none⟩) (Kd.R_far (p:=⟨gb337,5,none⟩) (Kd.R_far (p:=⟨gb337,4,none⟩) (Kd.R_far (p:=⟨gb337,3,none⟩) (Kd.R_far (p:=⟨gb337,2,none⟩) (Kd.R_far (p:=⟨gb337,1,none⟩) (Kd.R_far (p:=⟨gb337,0,none⟩) (Kd.R_types HO_4.out BK337.out (by decide)) (fun _ hk=>hk.2) (.string (rdOf ByteArray.empty t327 1))) (fun _ hk=>hk.2) (.slice A110 y332.length c110)) (fun _ hk=>hk.2) (.int .i64 0)) (fun _ hk=>hk.2) (.int .i64 0)) (fun _ hk=>hk.2) (.int .i64 0)) (fun _ hk=>hk.2) (.int .i64 0)) (fun _ hk=>hk.2) (.int .i64 0)) (fun _ hk=>hk.2) (.int .i64 0)) (fun _ h_=>h_.1))) hb);replace HO_6:=Aside0.mk (Kd.N_below (by (with_reducible repeat (first|apply Kd.N_alloc|apply Kd.N_drewN|apply Kd.N_drew));exact (Kd.N_mono (Kd.N_far (p:=⟨gb337,7,none⟩) (Kd.N_far (p:=⟨gb337,6,none⟩) (Kd.N_far (p:=⟨gb337,5,none⟩) (Kd.N_far (p:=⟨gb337,4,none⟩) (Kd.N_far (p:=⟨gb337,3,none⟩) (Kd.N_far (p:=⟨gb337,2,none⟩) (Kd.N_far (p:=⟨gb337,1,none⟩) (Kd.N_far (p:=⟨gb337,0,none⟩) (Kd.N_mono HO_6.out (fun k_ hk=>(⟨hk,hk.2⟩:_∧k_ ≠ gb337))) (fun _ hk=>hk.2) (.string (rdOf ByteArray.empty t327 1))) (fun _ hk=>hk.2) (.slice A110 y332.length c110)) (fun _ hk=>hk.2) (.int .i64 0)) (fun _ hk=>hk.2) (.int .i64 0)) (fun _ hk=>hk.2) (.int .i64 0)) (fun _ hk=>hk.2) (.int .i64 0)) (fun _ hk=>hk.2) (.int .i64 0)) (fun _ hk=>hk.2) (.int .i64 0)) (fun _ h_=>h_.1))) hb);replace HO_8:=Aside0.mk (Kd.R_below (by (with_reducible repeat (first|apply Kd.R_alloc|apply Kd.R_drewN|apply Kd.R_drew));exact (Kd.R_mono (Kd.R_far (p:=⟨gb337,7,none⟩) (Kd.R_far (p:=⟨gb337,6,none⟩) (Kd.R_far (p:=⟨gb337,5,none⟩) (Kd.R_far (p:=⟨gb337,4,none⟩) (Kd.R_far (p:=⟨gb337,3,none⟩) (Kd.R_far (p:=⟨gb337,2,none⟩) (Kd.R_far (p:=⟨gb337,1,none⟩) (Kd.R_far (p:=⟨gb337,0,none⟩) (Kd.R_types HO_8.out BK337.out (by decide)) (fun _ hk=>hk.2) (.string (rdOf ByteArray.empty t327 1))) (fun _ hk=>hk.2) (.slice A110 y332.length c110)) (fun _ hk=>hk.2) (.int .i64 0)) (fun _ hk=>hk.2) (.int .i64 0)) (fun _ hk=>hk.2) (.int .i64 0)) (fun _ hk=>hk.2) (.int .i64 0)) (fun _ hk=>hk.2) (.int .i64 0)) (fun _ hk=>hk.2) (.int .i64 0)) (fun _ h_=>h_.1))) hb);replace HO336:=Aside0.mk (Kd.V_below (by (with_reducible repeat (first|apply Kd.V_alloc|apply Kd.V_drewN|apply Kd.V_drew));exact (Kd.V_mono (Kd.V_far (p:=⟨gb337,7,none⟩) (Kd.V_far (p:=⟨gb337,6,none⟩) (Kd.V_far (p:=⟨gb337,5,none⟩) (Kd.V_far (p:=⟨gb337,4,none⟩) (Kd.V_far (p:=⟨gb337,3,none⟩) (Kd.V_far (p:=⟨gb337,2,none⟩) (Kd.V_far (p:=⟨gb337,1,none⟩) (Kd.V_far (p:=⟨gb337,0,none⟩) (Kd.V_mono HO336.out (fun k_ hk=>(⟨hk,hk.2⟩:_∧k_ ≠ gb337))) (fun _ hk=>hk.2) (.string (rdOf ByteArray.empty t327 1))) (fun _ hk=>hk.2) (.slice A110 y332.length c110)) (fun _ hk=>hk.2) (.int .i64 0)) (fun _ hk=>hk.2) (.int .i64 0)) (fun _ hk=>hk.2) (.int .i64 0)) (fun _ hk=>hk.2) (.int .i64 0)) (fun _ hk=>hk.2) (.int .i64 0)) (fun _ hk=>hk.2) (.int .i64 0)) (fun _ h_=>h_.1))) hb);replace BK337:=Aside0.mk (blk_below (g:=gb337) (o:=.cells #[.string (rdOf ByteArray.empty t327 1),.slice A110 y332.length c110,.int .i64 0,.int .i64 0,.int .i64 0,.int .i64 0,.int .i64 0,.int .i64 0] 64 (0,0)) (by (with_reducible repeat (first|refine blk_drewN ?_ _|refine blk_drew ?_|refine blk_alloc ?_ _));refine blk_put (cs:=#[.string (rdOf ByteArray.empty t327 1),.slice A110 y332.length c110,.int .i64 0,.int .i64 0,.int .i64 0,.int .i64 0,.int .i64 0,.int .i64 0]) ?_ 7 _ rfl;(with_reducible repeat (first|refine blk_drewN ?_ _|refine blk_drew ?_|refine blk_alloc ?_ _));refine blk_put (cs:=#[.string (rdOf ByteArray.empty t327 1),.slice A110 y332.length c110,.int .i64 0,.int .i64 0,.int .i64 0,.int .i64 0,.int .i64 0,.int .i64 0]) ?_ 6 _ rfl;(with_reducible repeat (first|refine blk_drewN ?_ _|refine blk_drew ?_|refine blk_alloc ?_ _));refine blk_put (cs:=#[.string (rdOf ByteArray.empty t327 1),.slice A110 y332.length c110,.int .i64 0,.int .i64 0,.int .i64 0,.int .i64 0,.int .i64 0,.int .i64 0]) ?_ 5 _ rfl;(with_reducible repeat (first|refine blk_drewN ?_ _|refine blk_drew ?_|refine blk_alloc ?_ _));refine blk_put (cs:=#[.string (rdOf ByteArray.empty t327 1),.slice A110 y332.length c110,.int .i64 0,.int .i64 0,.int .i64 0,.int .i64 0,.int .i64 0,.int .i64 0]) ?_ 4 _ rfl;(with_reducible repeat (first|refine blk_drewN ?_ _|refine blk_drew ?_|refine blk_alloc ?_ _));refine blk_put (cs:=#[.string (rdOf ByteArray.empty t327 1),.slice A110 y332.length c110,.int .i64 0,.int .i64 0,.int .i64 0,.int .i64 0,.int .i64 0,.int .i64 0]) ?_ 3 _ rfl;(with_reducible repeat (first|refine blk_drewN ?_ _|refine blk_drew ?_|refine blk_alloc ?_ _));refine blk_put (cs:=#[.string (rdOf ByteArray.empty t327 1),.slice A110 y332.length c110,.int .i64 0,.int .i64 0,.int .i64 0,.int .i64 0,.int .i64 0,.int .i64 0]) ?_ 2 _ rfl;(with_reducible repeat (first|refine blk_drewN ?_ _|refine blk_drew ?_|refine blk_alloc ?_ _));refine blk_put (cs:=#[.string (rdOf ByteArray.empty t327 1),.slice none 0 0,.int .i64 0,.int .i64 0,.int .i64 0,.int .i64 0,.int .i64 0,.int .i64 0]) ?_ 1 _ rfl;(with_reducible repeat (first|refine blk_drewN ?_ _|refine blk_drew ?_|refine blk_alloc ?_ _));refine blk_put (cs:=#[.string (⟨#[]⟩:ByteArray),.slice none 0 0,.int .i64 0,.int .i64 0,.int .i64 0,.int .i64 0,.int .i64 0,.int .i64 0]) ?_ 0 _ rfl;(with_reducible repeat (first|refine blk_drewN ?_ _|refine blk_drew ?_|refine blk_alloc ?_ _));exact BK337.out) hb);replace HB:=Aside0.mk (below_step zb3 hb);(try clear hb);have p341:0 ≤ (3:Int):=zb16;have q341:3 < (t327.length:Int):=of_decide_eq_true zb1;obtain ⟨ad341,e341,hx341_0⟩:=Kd.at_string (Kd.R_reads' HO_8.out).2.2 3 p341 q341;obtain rfl:ad331=ad341:=(by injection e341);(try simp only [show (3:Int).toNat=3 from rfl,Nat.reduceMul,Nat.reduceEqDiff,Go.Addr.add,↓reduceIte] at hx341_0);have qi341:(3 < t327.length)=True:=eq_true zb16;(try rw [show ((3:Int)).toNat=3 from rfl] at hx341_0);replace p341:=eq_true p341;replace q341:=eq_true q341)|((with_reducible refine gate_callee (f:=38) rfl ?_);refine goesL_ (some 71) rfl rfl Tryz.func38 zb14 rfl #[.string (rdOf ByteArray.empty t327 3)] rfl zb2 ?_;(with_reducible refine (tollbarref09_Number.calls kj10 (rdOf ByteArray.empty t327 3) t342 true _ A24.out).mono ?_);rintro e w121 ⟨rfl,hb⟩;(try clear A24);refine ⟨_,rfl,?_⟩;replace HO_4:=Aside0.mk (Kd.R_below zb4 hb);replace HO_6:=Aside0.mk (Kd.N_below zb9 hb);replace HO_8:=Aside0.mk (Kd.R_below zb10 hb);replace HO336:=Aside0.mk (Kd.V_below zb11 hb);replace BK337:=Aside0.mk (blk_below (g:=gb337) (o:=.cells #[.string (rdOf ByteArray.empty t327 1),.slice A110 y332.length c110,.int .i64 0,.int .i64 0,.int .i64 0,.int .i64 0,.int .i64 0,.int .i64 0] 64 (0,0)) zb12 hb);replace HB:=Aside0.mk (below_step zb3 hb);(try clear hb);have p344:0 ≤ (4:Int):=zb16;have q344:4 < (t327.length:Int):=of_decide_eq_true zb1;obtain ⟨ad344,e344,hx344_0⟩:=Kd.at_string (Kd.R_reads' HO_8.out).2.2 4 p344 q344;obtain rfl:ad331=ad344:=(by injection e344);(try simp only [show (4:Int).toNat=4 from rfl,Nat.reduceMul,Nat.reduceEqDiff,Go.Addr.add,↓reduceIte] at hx344_0);have qi344:(4 < t327.length)=True:=eq_true zb16;(try rw [show ((4:Int)).toNat=4 from rfl] at hx344_0);replace p344:=eq_true p344;replace q344:=eq_true q344)|((with_reducible refine gate_callee (f:=38) rfl ?_);refine goesL_ (some 78) rfl rfl Tryz.func38 zb14 rfl #[.string (rdOf ByteArray.empty t327 4)] rfl zb2 ?_;(with_reducible refine (tollbarref09_Number.calls kj10 (rdOf ByteArray.empty t327 4) t345 true _ A26.out).mono ?_);rintro e w122 ⟨rfl,hb⟩;(try clear A26);refine ⟨_,rfl,?_⟩;replace HO_4:=Aside0.mk (Kd.R_below zb4 hb);replace HO_6:=Aside0.mk (Kd.N_below zb9 hb);replace HO_8:=Aside0.mk (Kd.R_below zb10 hb);replace HO336:=Aside0.mk (Kd.V_below zb11 hb);replace BK337:=Aside0.mk (blk_below (g:=gb337) (o:=.cells #[.string (rdOf ByteArray.empty t327 1),.slice A110 y332.length c110,.int .i64 0,.int .i64 0,.int .i64 0,.int .i64 0,.int .i64 0,.int .i64 0] 64 (0,0)) zb12 hb);replace HB:=Aside0.mk (below_step zb3 hb);(try clear hb);have p347:0 ≤ (5:Int):=zb16;have q347:5 < (t327.length:Int):=of_decide_eq_true zb1;obtain ⟨ad347,e347,hx347_0⟩:=Kd.at_string (Kd.R_reads' HO_8.out).2.2 5 p347 q347;obtain rfl:ad331=ad347:=(by injection e347);(try simp only [show (5:Int).toNat=5 from rfl,Nat.reduceMul,Nat.reduceEqDiff,Go.Addr.add,↓reduceIte] at hx347_0);have qi347:(5 < t327.length)=True:=eq_true zb16;(try rw [show ((5:Int)).toNat=5 from rfl] at hx347_0);replace p347:=eq_true p347;replace q347:=eq_true q347)|((with_reducible refine gate_callee (f:=38) rfl ?_);refine goesL_ (some 85) rfl rfl Tryz.func38 zb14 rfl #[.string (rdOf ByteArray.empty t327 5)] rfl zb2 ?_;(with_reducible refine (tollbarref09_Number.calls kj10 (rdOf ByteArray.empty t327 5) t348 false _ A28.out).mono ?_);rintro e w123 ⟨rfl,hb⟩;(try clear A28);refine ⟨_,rfl,?_⟩;replace HO_4:=Aside0.mk (Kd.R_below zb4 hb);replace HO_6:=Aside0.mk (Kd.N_below zb9 hb);replace HO_8:=Aside0.mk (Kd.R_below zb10 hb);replace HO336:=Aside0.mk (Kd.V_below zb11 hb);replace BK337:=Aside0.mk (blk_below (g:=gb337) (o:=.cells #[.string (rdOf ByteArray.empty t327 1),.slice A110 y332.length c110,.int .i64 0,.int .i64 0,.int .i64 0,.int .i64 0,.int .i64 0,.int .i64 0] 64 (0,0)) zb12 hb);replace HB:=Aside0.mk (below_step zb3 hb);(try clear hb);have p350:0 ≤ (6:Int):=zb16;have q350:6 < (t327.length:Int):=of_decide_eq_true zb1;obtain ⟨ad350,e350,hx350_0⟩:=Kd.at_string (Kd.R_reads' HO_8.out).2.2 6 p350 q350;obtain rfl:ad331=ad350:=(by injection e350);(try simp only [show (6:Int).toNat=6 from rfl,Nat.reduceMul,Nat.reduceEqDiff,Go.Addr.add,↓reduceIte] at hx350_0);have qi350:(6 < t327.length)=True:=eq_true zb16;(try rw [show ((6:Int)).toNat=6 from rfl] at hx350_0);replace p350:=eq_true p350;replace q350:=eq_true q350)|((with_reducible refine gate_callee (f:=38) rfl ?_);refine goesL_ (some 92) rfl rfl Tryz.func38 zb14 rfl #[.string (rdOf ByteArray.empty t327 6)] rfl zb2 ?_;(with_reducible refine (tollbarref09_Number.calls kj10 (rdOf ByteArray.empty t327 6) t351 t352 _ A30.out).mono ?_);rintro e w124 ⟨rfl,hb⟩;(try clear A30);refine ⟨_,rfl,?_⟩;replace HO_4:=Aside0.mk (Kd.R_below zb4 hb);replace HO_6:=Aside0.mk (Kd.N_below zb9 hb);replace HO_8:=Aside0.mk (Kd.R_below zb10 hb);replace HO336:=Aside0.mk (Kd.V_below zb11 hb);replace BK337:=Aside0.mk (blk_below (g:=gb337) (o:=.cells #[.string (rdOf ByteArray.empty t327 1),.slice A110 y332.length c110,.int .i64 0,.int .i64 0,.int .i64 0,.int .i64 0,.int .i64 0,.int .i64 0] 64 (0,0)) zb12 hb);replace HB:=Aside0.mk (below_step zb3 hb);(try clear hb);have p353:0 ≤ (7:Int):=zb16;have q353:7 < (t327.length:Int):=of_decide_eq_true zb1;obtain ⟨ad353,e353,hx353_0⟩:=Kd.at_string (Kd.R_reads' HO_8.out).2.2 7 p353 q353;obtain rfl:ad331=ad353:=(by injection e353);(try simp only [show (7:Int).toNat=7 from rfl,Nat.reduceMul,Nat.reduceEqDiff,Go.Addr.add,↓reduceIte] at hx353_0);have qi353:(7 < t327.length)=True:=eq_true zb16;(try rw [show ((7:Int)).toNat=7 from rfl] at hx353_0);replace p353:=eq_true p353;replace q353:=eq_true q353)|((with_reducible refine gate_callee (f:=38) rfl ?_);refine goesL_ (some 99) rfl rfl Tryz.func38 zb14 rfl #[.string (rdOf ByteArray.empty t327 7)] rfl zb2 ?_;(with_reducible refine (tollbarref09_Number.calls kj10 (rdOf ByteArray.empty t327 7) t354 t355 _ A32.out).mono ?_);rintro e w125 ⟨rfl,hb⟩;(try clear A32);refine ⟨_,rfl,?_⟩;replace HO_4:=Aside0.mk (Kd.R_below zb4 hb);replace HO_6:=Aside0.mk (Kd.N_below zb9 hb);replace HO_8:=Aside0.mk (Kd.R_below zb10 hb);replace HO336:=Aside0.mk (Kd.V_below zb11 hb);replace BK337:=Aside0.mk (blk_below (g:=gb337) (o:=.cells #[.string (rdOf ByteArray.empty t327 1),.slice A110 y332.length c110,.int .i64 0,.int .i64 0,.int .i64 0,.int .i64 0,.int .i64 0,.int .i64 0] 64 (0,0)) zb12 hb);replace HB:=Aside0.mk (below_step zb3 hb);(try clear hb)))
                go_ret2
                exact ⟨_,zb6,zb18,zb3⟩
              ·replace c34:=Bool.eq_false_iff.mpr c34
               subst c34
               rw [if_neg (show ¬ (false=true) by decide)] at H
               simp only [Option.some.injEq,Prod.mk.injEq] at H
               obtain ⟨rfl,rfl⟩:=H
               try go_wp2
               replace HO_4:=Aside0.mk (Kd.R_drew HO_4.out)
               replace HO_6:=Aside0.mk (Kd.N_drew HO_6.out)
               replace HO_8:=Aside0.mk (Kd.R_drew HO_8.out)
               replace HB:=Aside0.mk (below_drew1 HB.out)
               obtain ⟨Ao145,co145,eo145⟩:=Kd.R_slice HO_8.out
               (first|subst eo145|(injection eo145 with f1_ f2_ f3_;have f4_:=f1_.symm;have f5_:=f3_.symm;clear f1_ f2_ f3_;subst f4_;subst f5_))
               have p331:0 ≤ (1:Int):=zb16
               have q331:1 < (t327.length:Int):=of_decide_eq_true zb1
               obtain ⟨ad331,e331,hx331_0⟩:=Kd.at_string (Kd.R_reads' HO_8.out).2.2 1 p331 q331
               cases e331
               (try simp only [show (1:Int).toNat=1 from rfl,Nat.reduceMul,Nat.reduceEqDiff,Go.Addr.add,↓reduceIte] at hx331_0)
               have qi331:(1 < t327.length)=True:=eq_true zb16
               (try rw [show ((1:Int)).toNat=1 from rfl] at hx331_0)
               replace p331:=eq_true p331
               replace q331:=eq_true q331
               have q146:(8:Int) ≤ ((t327.length:Int):Int):=of_decide_eq_true zb1
               obtain ⟨i0146,hi0146,_,hsz146,_⟩:=info_parts info9
               have hroom146:t327.length ≤ co145:=(Kd.R_reads' HO_8.out).2.1
               have hC146:Kd.F Kd.string _ _ (some ad331) t327.length t327:=(Kd.V_at (base:=w.heap.size) (Kd.R_V (Kd.R_apart' (HO_8.out) (Kd.N_typed HO_6.out) zb22))).2.2
               have hcut146:=cut_from (P:=Tryz.prog) 34 9 .i64 Tryz.underlying34 hi0146 1 hsz146 (some ad331) t327.length co145 8 zb16 q146
               have hr146:=Kd.F_cut (m:=(8:Int).toNat) (c:=co145) hC146 zb16 hroom146
               obtain ⟨A146,hA146⟩ : ∃ A1,A1=(if co145=(8:Int).toNat then (some ad331) else ((some ad331):Option Addr).map (·.add ((8:Int).toNat * 1))):=⟨_,rfl⟩
               obtain ⟨c146,hc146⟩ : ∃ c1,c1=co145 - (8:Int).toNat:=⟨_,rfl⟩
               have hy146:y332.length=t327.length - (8:Int).toNat:=zb70
               rw [show (t327).drop (8:Int).toNat=y332 from Ny332.out.symm] at hr146
               replace hr146:Kd.F Kd.string _ _ A146 y332.length y332:=(by rw [hA146];exact hr146)
               rw [← hy146,← hA146,← hc146] at hcut146
               have HO336:=Aside0.mk (show Kd.V Kd.string 9 _ w.heap.size _ (.slice A146 y332.length c146) y332 from Kd.V_mk (by rw [hy146,hc146];exact Nat.sub_le_sub_right hroom146 _) hr146)
               have HC336:=Aside0.mk (show y332.length ≤ c146 from by rw [hy146,hc146];exact Nat.sub_le_sub_right hroom146 _)
               clear hr146 hC146 hroom146 hi0146 hsz146 hc146
               have KY146:=Aside0.mk hy146
               have KA146:=Aside0.mk hA146
               clear hy146 hA146
               replace q146:=eq_true q146
               refine start_ (n:=8) (S:=fun w' => w'.cell? ⟨ad331.block,ad331.off + 1,none⟩=some (.string (rdOf ByteArray.empty t327 1))) (ds:=[]) (zl 8 0) zb14 rfl rfl (hx331_0) (fun hHeld=>?_);refine with_tabW tollbarref09_Read.tab13 tollbarref09_Read.bits13 (fun HT_ HW_=>?_)
               generalize wc.drew=w144 at HO_4 HO_6 HO_8 HB HO336 hx331_0 hHeld ⊢
               refine zpu 0 (N:=some 54) (zl 8 1) HT_.out rfl rfl ?_
               refine zpu 1 (N:=some 55) (zl 8 3) HT_.out rfl rfl ?_
               refine zpu 3 (N:=some 57) (zl 8 11) HT_.out rfl rfl ?_
               refine zpu 4 (N:=some 58) (zl 8 27) HT_.out rfl rfl ?_
               refine take_ (i:=2) (N:=some 56) (v:=?_) (a' := ?_) (zl 8 31) rfl rfl (take_ofW HT_.out HW_.out zb14) (fun _ _ _ h=>h) (Or.inl ⟨zb45,?_⟩) hHeld ?_ ?_
               rotate_left
               ·intro w' s0
                go_simp
                with_reducible rfl
               rotate_left
               ·simp only [Act.put,zqA,zqB,zqC,i64_w,i32_w];rfl
               refine zpu 5 (N:=some 59) (zl 8 63) HT_.out rfl rfl ?_
               refine one_ (i:=6) (N:=some 9) (zl 8 127) rfl rfl (one_of HT_.out zb14) zb22 (fun K hK=>?_)
               refine box_step ?hg (N:=9) ?hd (cs:=#[.string (⟨#[]⟩:ByteArray),.slice none 0 0,.int .i64 0,.int .i64 0,.int .i64 0,.int .i64 0,.int .i64 0,.int .i64 0]) (t:=64) ?hr ?_;(case hd=>rfl);(case hg=>rfl);(case hr=>first|(go_simp;done)|(go_simp;rfl))
               intro gb337 hg w147 hbox hb
               have HS0_:=(hb.cell (World.block_lt_of_cell? _ _ (hHeld))).trans (hHeld)
               have n0_:=Aside0.mk (Kd.R_below zb4 hb)
               have n1_:=Aside0.mk (Kd.N_below (Kd.N_elderB zb9 gb337 (Nat.le_of_eq hg.symm)) hb)
               have n2_:=Aside0.mk (Kd.R_below zb10 hb)
               have n3_:=Aside0.mk (Kd.V_below (Kd.V_elderB zb11 gb337 (Nat.le_of_eq hg.symm)) hb)
               have n4_:=Aside0.mk (below_step zb0 hb)
               have n5_:=Aside0.mk (hbox)
               have n6_:=zG hg zb0
               have n7_:=zG hg zb0
               clear HO_4 HO_6 HO_8 HO336 HB
               have HO_4:=n0_
               have HO_6:=n1_
               have HO_8:=n2_
               have HO336:=n3_
               have HB:=n4_
               have BK337:=n5_
               have GW337:=n6_
               have GE337:=n7_
               clear n0_ n1_ n2_ n3_ n4_ n5_ n6_ n7_ hb hbox hg
               refine hK.out _ _ (HS0_) (fun hHeld=>?_)
               clear hK K
               refine norm_ (a' := ?_) ?_ ?_
               rotate_left
               ·show Act.put _ (some 9) _=_
                simp only [Act.put,zqA,zqB,zqC,i64_w,i32_w]
                rfl
               refine one_ (i:=7) (N:=none) (zl 8 255) rfl rfl (one_of HT_.out zb14) zb22 (fun K hK=>?_)
               have hs148:w147.cell? ⟨gb337,0,none⟩=some (.string (⟨#[]⟩:ByteArray)):=(blk_cell BK337.out 0).trans rfl
               have hfs148:=blk_frozen BK337.out 0
               have hs149:w147.cell? ⟨gb337,1,none⟩=some (.slice none 0 0):=(blk_cell BK337.out 1).trans rfl
               have hfs149:=blk_frozen BK337.out 1
               have hs150:w147.cell? ⟨gb337,2,none⟩=some (.int .i64 0):=(blk_cell BK337.out 2).trans rfl
               have hfs150:=blk_frozen BK337.out 2
               have hs151:w147.cell? ⟨gb337,3,none⟩=some (.int .i64 0):=(blk_cell BK337.out 3).trans rfl
               have hfs151:=blk_frozen BK337.out 3
               have hs152:w147.cell? ⟨gb337,4,none⟩=some (.int .i64 0):=(blk_cell BK337.out 4).trans rfl
               have hfs152:=blk_frozen BK337.out 4
               have hs153:w147.cell? ⟨gb337,5,none⟩=some (.int .i64 0):=(blk_cell BK337.out 5).trans rfl
               have hfs153:=blk_frozen BK337.out 5
               have hs154:w147.cell? ⟨gb337,6,none⟩=some (.int .i64 0):=(blk_cell BK337.out 6).trans rfl
               have hfs154:=blk_frozen BK337.out 6
               have hs155:w147.cell? ⟨gb337,7,none⟩=some (.int .i64 0):=(blk_cell BK337.out 7).trans rfl
               have hfs155:=blk_frozen BK337.out 7
               refine skip_ (w1:=?_) zb45 rfl ?_ ?_
               rotate_left
               ·go_simp
                rfl
               have hfar_:=Kd.own_blk (Kd.R_ne HO_8.out BK337.out zb22)
               refine hK.out _ _ (tollbarref09_Read.far8 hfar_ hHeld) (fun hHeld=>?_)
               clear hK K
               refine done_ (done_of HT_.out zb14) ?_
               have p338:0 ≤ (2:Int):=zb16
               have q338:2 < (t327.length:Int):=of_decide_eq_true zb1
               obtain ⟨ad338,e338,hx338_0⟩:=Kd.at_string (Kd.R_reads' HO_8.out).2.2 2 p338 q338
               obtain rfl:ad331=ad338:=(by injection e338)
               (try simp only [show (2:Int).toNat=2 from rfl,Nat.reduceMul,Nat.reduceEqDiff,Go.Addr.add,↓reduceIte] at hx338_0)
               have qi338:(2 < t327.length)=True:=eq_true zb16
               (try rw [show ((2:Int)).toNat=2 from rfl] at hx338_0)
               have hn338_0:ad331.block ≠ gb337:=Kd.own_blk (Kd.R_ne HO_8.out BK337.out zb22)
               have hn338_1:ad331.block ≠ gb337:=Kd.own_blk (Kd.R_ne HO_8.out BK337.out zb22)
               have hn338_2:ad331.block ≠ gb337:=Kd.own_blk (Kd.R_ne HO_8.out BK337.out zb22)
               have hn338_3:ad331.block ≠ gb337:=Kd.own_blk (Kd.R_ne HO_8.out BK337.out zb22)
               have hn338_4:ad331.block ≠ gb337:=Kd.own_blk (Kd.R_ne HO_8.out BK337.out zb22)
               have hn338_5:ad331.block ≠ gb337:=Kd.own_blk (Kd.R_ne HO_8.out BK337.out zb22)
               have hn338_6:ad331.block ≠ gb337:=Kd.own_blk (Kd.R_ne HO_8.out BK337.out zb22)
               have hn338_7:ad331.block ≠ gb337:=Kd.own_blk (Kd.R_ne HO_8.out BK337.out zb22)
               replace hx338_0:=(cell_far (p:=⟨gb337,0,none⟩) zb33 (.string (rdOf ByteArray.empty t327 1))).trans hx338_0
               replace hx338_0:=(cell_far (p:=⟨gb337,1,none⟩) zb34 (.slice A146 y332.length c146)).trans hx338_0
               replace hx338_0:=(cell_far (p:=⟨gb337,2,none⟩) zb35 (.int .i64 0)).trans hx338_0
               replace hx338_0:=(cell_far (p:=⟨gb337,3,none⟩) zb36 (.int .i64 0)).trans hx338_0
               replace hx338_0:=(cell_far (p:=⟨gb337,4,none⟩) zb37 (.int .i64 0)).trans hx338_0
               replace hx338_0:=(cell_far (p:=⟨gb337,5,none⟩) zb38 (.int .i64 0)).trans hx338_0
               replace hx338_0:=(cell_far (p:=⟨gb337,6,none⟩) zb39 (.int .i64 0)).trans hx338_0
               replace hx338_0:=(cell_far (p:=⟨gb337,7,none⟩) zb40 (.int .i64 0)).trans hx338_0
               clear hn338_0 hn338_1 hn338_2 hn338_3 hn338_4 hn338_5 hn338_6 hn338_7
               replace p338:=eq_true p338
               replace q338:=eq_true q338
               try go_wp2_with (first|((with_reducible refine gate_callee (f:=38) rfl ?_);refine goesL_ (some 64) rfl rfl Tryz.func38 zb14 rfl #[.string (rdOf ByteArray.empty t327 2)] rfl zb2 ?_;(with_reducible refine (tollbarref09_Number.calls kj10 (rdOf ByteArray.empty t327 2) t339 true _ A22.out).mono ?_);rintro e w156 ⟨rfl,hb⟩;(try clear A22);refine ⟨_,rfl,?_⟩;replace HO_4:=Aside0.mk (Kd.R_below (by (with_reducible repeat (first|apply Kd.R_alloc|apply Kd.R_drewN|apply Kd.R_drew));exact (Kd.R_mono (Kd.R_far (p:=⟨gb337,7,none⟩) (Kd.R_far (p:=⟨gb337,6,none⟩) (Kd.R_far (p:=⟨gb337,5,none⟩) (Kd.R_far (p:=⟨gb337,4,none⟩) (Kd.R_far (p:=⟨gb337,3,none⟩) (Kd.R_far (p:=⟨gb337,2,none⟩) (Kd.R_far (p:=⟨gb337,1,none⟩) (Kd.R_far (p:=⟨gb337,0,none⟩) (Kd.R_types HO_4.out BK337.out (by decide)) (fun _ hk=>hk.2) (.string (rdOf ByteArray.empty t327 1))) (fun _ hk=>hk.2) (.slice A146 y332.length c146)) (fun _ hk=>hk.2) (.int .i64 0)) (fun _ hk=>hk.2) (.int .i64 0)) (fun _ hk=>hk.2) (.int .i64 0)) (fun _ hk=>hk.2) (.int .i64 0)) (fun _ hk=>hk.2) (.int .i64 0)) (fun _ hk=>hk.2) (.int .i64 0)) (fun _ h_=>h_.1))) hb);replace HO_6:=Aside0.mk (Kd.N_below (by (with_reducible repeat (first|apply Kd.N_alloc|apply Kd.N_drewN|apply Kd.N_drew));exact (Kd.N_mono (Kd.N_far (p:=⟨gb337,7,none⟩) (Kd.N_far (p:=⟨gb337,6,none⟩) (Kd.N_far (p:=⟨gb337,5,none⟩) (Kd.N_far (p:=⟨gb337,4,none⟩) (Kd.N_far (p:=⟨gb337,3,none⟩) (Kd.N_far (p:=⟨gb337,2,none⟩) (Kd.N_far (p:=⟨gb337,1,none⟩) (Kd.N_far (p:=⟨gb337,0,none⟩) (Kd.N_mono HO_6.out (fun k_ hk=>(⟨hk,hk.2⟩:_∧k_ ≠ gb337))) (fun _ hk=>hk.2) (.string (rdOf ByteArray.empty t327 1))) (fun _ hk=>hk.2) (.slice A146 y332.length c146)) (fun _ hk=>hk.2) (.int .i64 0)) (fun _ hk=>hk.2) (.int .i64 0)) (fun _ hk=>hk.2) (.int .i64 0)) (fun _ hk=>hk.2) (.int .i64 0)) (fun _ hk=>hk.2) (.int .i64 0)) (fun _ hk=>hk.2) (.int .i64 0)) (fun _ h_=>h_.1))) hb);replace HO_8:=Aside0.mk (Kd.R_below (by (with_reducible repeat (first|apply Kd.R_alloc|apply Kd.R_drewN|apply Kd.R_drew));exact (Kd.R_mono (Kd.R_far (p:=⟨gb337,7,none⟩) (Kd.R_far (p:=⟨gb337,6,none⟩) (Kd.R_far (p:=⟨gb337,5,none⟩) (Kd.R_far (p:=⟨gb337,4,none⟩) (Kd.R_far (p:=⟨gb337,3,none⟩) (Kd.R_far (p:=⟨gb337,2,none⟩) (Kd.R_far (p:=⟨gb337,1,none⟩) (Kd.R_far (p:=⟨gb337,0,none⟩) (Kd.R_types HO_8.out BK337.out (by decide)) (fun _ hk=>hk.2) (.string (rdOf ByteArray.empty t327 1))) (fun _ hk=>hk.2) (.slice A146 y332.length c146)) (fun _ hk=>hk.2) (.int .i64 0)) (fun _ hk=>hk.2) (.int .i64 0)) (fun _ hk=>hk.2) (.int .i64 0)) (fun _ hk=>hk.2) (.int .i64 0)) (fun _ hk=>hk.2) (.int .i64 0)) (fun _ hk=>hk.2) (.int .i64 0)) (fun _ h_=>h_.1))) hb);replace HO336:=Aside0.mk (Kd.V_below (by (with_reducible repeat (first|apply Kd.V_alloc|apply Kd.V_drewN|apply Kd.V_drew));exact (Kd.V_mono (Kd.V_far (p:=⟨gb337,7,none⟩) (Kd.V_far (p:=⟨gb337,6,none⟩) (Kd.V_far (p:=⟨gb337,5,none⟩) (Kd.V_far (p:=⟨gb337,4,none⟩) (Kd.V_far (p:=⟨gb337,3,none⟩) (Kd.V_far (p:=⟨gb337,2,none⟩) (Kd.V_far (p:=⟨gb337,1,none⟩) (Kd.V_far (p:=⟨gb337,0,none⟩) (Kd.V_mono HO336.out (fun k_ hk=>(⟨hk,hk.2⟩:_∧k_ ≠ gb337))) (fun _ hk=>hk.2) (.string (rdOf ByteArray.empty t327 1))) (fun _ hk=>hk.2) (.slice A146 y332.length c146)) (fun _ hk=>hk.2) (.int .i64 0)) (fun _ hk=>hk.2) (.int .i64 0)) (fun _ hk=>hk.2) (.int .i64 0)) (fun _ hk=>hk.2) (.int .i64 0)) (fun _ hk=>hk.2) (.int .i64 0)) (fun _ hk=>hk.2) (.int .i64 0)) (fun _ h_=>h_.1))) hb);replace BK337:=Aside0.mk (blk_below (g:=gb337) (o:=.cells #[.string (rdOf ByteArray.empty t327 1),.slice A146 y332.length c146,.int .i64 0,.int .i64 0,.int .i64 0,.int .i64 0,.int .i64 0,.int .i64 0] 64 (0,0)) (by (with_reducible repeat (first|refine blk_drewN ?_ _|refine blk_drew ?_|refine blk_alloc ?_ _));refine blk_put (cs:=#[.string (rdOf ByteArray.empty t327 1),.slice A146 y332.length c146,.int .i64 0,.int .i64 0,.int .i64 0,.int .i64 0,.int .i64 0,.int .i64 0]) ?_ 7 _ rfl;(with_reducible repeat (first|refine blk_drewN ?_ _|refine blk_drew ?_|refine blk_alloc ?_ _));refine blk_put (cs:=#[.string (rdOf ByteArray.empty t327 1),.slice A146 y332.length c146,.int .i64 0,.int .i64 0,.int .i64 0,.int .i64 0,.int .i64 0,.int .i64 0]) ?_ 6 _ rfl;(with_reducible repeat (first|refine blk_drewN ?_ _|refine blk_drew ?_|refine blk_alloc ?_ _));refine blk_put (cs:=#[.string (rdOf ByteArray.empty t327 1),.slice A146 y332.length c146,.int .i64 0,.int .i64 0,.int .i64 0,.int .i64 0,.int .i64 0,.int .i64 0]) ?_ 5 _ rfl;(with_reducible repeat (first|refine blk_drewN ?_ _|refine blk_drew ?_|refine blk_alloc ?_ _));refine blk_put (cs:=#[.string (rdOf ByteArray.empty t327 1),.slice A146 y332.length c146,.int .i64 0,.int .i64 0,.int .i64 0,.int .i64 0,.int .i64 0,.int .i64 0]) ?_ 4 _ rfl;(with_reducible repeat (first|refine blk_drewN ?_ _|refine blk_drew ?_|refine blk_alloc ?_ _));refine blk_put (cs:=#[.string (rdOf ByteArray.empty t327 1),.slice A146 y332.length c146,.int .i64 0,.int .i64 0,.int .i64 0,.int .i64 0,.int .i64 0,.int .i64 0]) ?_ 3 _ rfl;(with_reducible repeat (first|refine blk_drewN ?_ _|refine blk_drew ?_|refine blk_alloc ?_ _));refine blk_put (cs:=#[.string (rdOf ByteArray.empty t327 1),.slice A146 y332.length c146,.int .i64 0,.int .i64 0,.int .i64 0,.int .i64 0,.int .i64 0,.int .i64 0]) ?_ 2 _ rfl;(with_reducible repeat (first|refine blk_drewN ?_ _|refine blk_drew ?_|refine blk_alloc ?_ _));refine blk_put (cs:=#[.string (rdOf ByteArray.empty t327 1),.slice none 0 0,.int .i64 0,.int .i64 0,.int .i64 0,.int .i64 0,.int .i64 0,.int .i64 0]) ?_ 1 _ rfl;(with_reducible repeat (first|refine blk_drewN ?_ _|refine blk_drew ?_|refine blk_alloc ?_ _));refine blk_put (cs:=#[.string (⟨#[]⟩:ByteArray),.slice none 0 0,.int .i64 0,.int .i64 0,.int .i64 0,.int .i64 0,.int .i64 0,.int .i64 0]) ?_ 0 _ rfl;(with_reducible repeat (first|refine blk_drewN ?_ _|refine blk_drew ?_|refine blk_alloc ?_ _));exact BK337.out) hb);replace HB:=Aside0.mk (below_step zb3 hb);(try clear hb);have p341:0 ≤ (3:Int):=zb16;have q341:3 < (t327.length:Int):=of_decide_eq_true zb1;obtain ⟨ad341,e341,hx341_0⟩:=Kd.at_string (Kd.R_reads' HO_8.out).2.2 3 p341 q341;obtain rfl:ad331=ad341:=(by injection e341);(try simp only [show (3:Int).toNat=3 from rfl,Nat.reduceMul,Nat.reduceEqDiff,Go.Addr.add,↓reduceIte] at hx341_0);have qi341:(3 < t327.length)=True:=eq_true zb16;(try rw [show ((3:Int)).toNat=3 from rfl] at hx341_0);replace p341:=eq_true p341;replace q341:=eq_true q341)|((with_reducible refine gate_callee (f:=38) rfl ?_);refine goesL_ (some 71) rfl rfl Tryz.func38 zb14 rfl #[.string (rdOf ByteArray.empty t327 3)] rfl zb2 ?_;(with_reducible refine (tollbarref09_Number.calls kj10 (rdOf ByteArray.empty t327 3) t342 false _ A24.out).mono ?_);rintro e w157 ⟨rfl,hb⟩;(try clear A24);refine ⟨_,rfl,?_⟩;replace HO_4:=Aside0.mk (Kd.R_below zb4 hb);replace HO_6:=Aside0.mk (Kd.N_below zb9 hb);replace HO_8:=Aside0.mk (Kd.R_below zb10 hb);replace HO336:=Aside0.mk (Kd.V_below zb11 hb);replace BK337:=Aside0.mk (blk_below (g:=gb337) (o:=.cells #[.string (rdOf ByteArray.empty t327 1),.slice A146 y332.length c146,.int .i64 0,.int .i64 0,.int .i64 0,.int .i64 0,.int .i64 0,.int .i64 0] 64 (0,0)) zb12 hb);replace HB:=Aside0.mk (below_step zb3 hb);(try clear hb);have p344:0 ≤ (4:Int):=zb16;have q344:4 < (t327.length:Int):=of_decide_eq_true zb1;obtain ⟨ad344,e344,hx344_0⟩:=Kd.at_string (Kd.R_reads' HO_8.out).2.2 4 p344 q344;obtain rfl:ad331=ad344:=(by injection e344);(try simp only [show (4:Int).toNat=4 from rfl,Nat.reduceMul,Nat.reduceEqDiff,Go.Addr.add,↓reduceIte] at hx344_0);have qi344:(4 < t327.length)=True:=eq_true zb16;(try rw [show ((4:Int)).toNat=4 from rfl] at hx344_0);replace p344:=eq_true p344;replace q344:=eq_true q344)|((with_reducible refine gate_callee (f:=38) rfl ?_);refine goesL_ (some 78) rfl rfl Tryz.func38 zb14 rfl #[.string (rdOf ByteArray.empty t327 4)] rfl zb2 ?_;(with_reducible refine (tollbarref09_Number.calls kj10 (rdOf ByteArray.empty t327 4) t345 t346 _ A26.out).mono ?_);rintro e w158 ⟨rfl,hb⟩;(try clear A26);refine ⟨_,rfl,?_⟩;replace HO_4:=Aside0.mk (Kd.R_below zb4 hb);replace HO_6:=Aside0.mk (Kd.N_below zb9 hb);replace HO_8:=Aside0.mk (Kd.R_below zb10 hb);replace HO336:=Aside0.mk (Kd.V_below zb11 hb);replace BK337:=Aside0.mk (blk_below (g:=gb337) (o:=.cells #[.string (rdOf ByteArray.empty t327 1),.slice A146 y332.length c146,.int .i64 0,.int .i64 0,.int .i64 0,.int .i64 0,.int .i64 0,.int .i64 0] 64 (0,0)) zb12 hb);replace HB:=Aside0.mk (below_step zb3 hb);(try clear hb);have p347:0 ≤ (5:Int):=zb16;have q347:5 < (t327.length:Int):=of_decide_eq_true zb1;obtain ⟨ad347,e347,hx347_0⟩:=Kd.at_string (Kd.R_reads' HO_8.out).2.2 5 p347 q347;obtain rfl:ad331=ad347:=(by injection e347);(try simp only [show (5:Int).toNat=5 from rfl,Nat.reduceMul,Nat.reduceEqDiff,Go.Addr.add,↓reduceIte] at hx347_0);have qi347:(5 < t327.length)=True:=eq_true zb16;(try rw [show ((5:Int)).toNat=5 from rfl] at hx347_0);replace p347:=eq_true p347;replace q347:=eq_true q347)|((with_reducible refine gate_callee (f:=38) rfl ?_);refine goesL_ (some 85) rfl rfl Tryz.func38 zb14 rfl #[.string (rdOf ByteArray.empty t327 5)] rfl zb2 ?_;(with_reducible refine (tollbarref09_Number.calls kj10 (rdOf ByteArray.empty t327 5) t348 t349 _ A28.out).mono ?_);rintro e w159 ⟨rfl,hb⟩;(try clear A28);refine ⟨_,rfl,?_⟩;replace HO_4:=Aside0.mk (Kd.R_below zb4 hb);replace HO_6:=Aside0.mk (Kd.N_below zb9 hb);replace HO_8:=Aside0.mk (Kd.R_below zb10 hb);replace HO336:=Aside0.mk (Kd.V_below zb11 hb);replace BK337:=Aside0.mk (blk_below (g:=gb337) (o:=.cells #[.string (rdOf ByteArray.empty t327 1),.slice A146 y332.length c146,.int .i64 0,.int .i64 0,.int .i64 0,.int .i64 0,.int .i64 0,.int .i64 0] 64 (0,0)) zb12 hb);replace HB:=Aside0.mk (below_step zb3 hb);(try clear hb);have p350:0 ≤ (6:Int):=zb16;have q350:6 < (t327.length:Int):=of_decide_eq_true zb1;obtain ⟨ad350,e350,hx350_0⟩:=Kd.at_string (Kd.R_reads' HO_8.out).2.2 6 p350 q350;obtain rfl:ad331=ad350:=(by injection e350);(try simp only [show (6:Int).toNat=6 from rfl,Nat.reduceMul,Nat.reduceEqDiff,Go.Addr.add,↓reduceIte] at hx350_0);have qi350:(6 < t327.length)=True:=eq_true zb16;(try rw [show ((6:Int)).toNat=6 from rfl] at hx350_0);replace p350:=eq_true p350;replace q350:=eq_true q350)|((with_reducible refine gate_callee (f:=38) rfl ?_);refine goesL_ (some 92) rfl rfl Tryz.func38 zb14 rfl #[.string (rdOf ByteArray.empty t327 6)] rfl zb2 ?_;(with_reducible refine (tollbarref09_Number.calls kj10 (rdOf ByteArray.empty t327 6) t351 t352 _ A30.out).mono ?_);rintro e w160 ⟨rfl,hb⟩;(try clear A30);refine ⟨_,rfl,?_⟩;replace HO_4:=Aside0.mk (Kd.R_below zb4 hb);replace HO_6:=Aside0.mk (Kd.N_below zb9 hb);replace HO_8:=Aside0.mk (Kd.R_below zb10 hb);replace HO336:=Aside0.mk (Kd.V_below zb11 hb);replace BK337:=Aside0.mk (blk_below (g:=gb337) (o:=.cells #[.string (rdOf ByteArray.empty t327 1),.slice A146 y332.length c146,.int .i64 0,.int .i64 0,.int .i64 0,.int .i64 0,.int .i64 0,.int .i64 0] 64 (0,0)) zb12 hb);replace HB:=Aside0.mk (below_step zb3 hb);(try clear hb);have p353:0 ≤ (7:Int):=zb16;have q353:7 < (t327.length:Int):=of_decide_eq_true zb1;obtain ⟨ad353,e353,hx353_0⟩:=Kd.at_string (Kd.R_reads' HO_8.out).2.2 7 p353 q353;obtain rfl:ad331=ad353:=(by injection e353);(try simp only [show (7:Int).toNat=7 from rfl,Nat.reduceMul,Nat.reduceEqDiff,Go.Addr.add,↓reduceIte] at hx353_0);have qi353:(7 < t327.length)=True:=eq_true zb16;(try rw [show ((7:Int)).toNat=7 from rfl] at hx353_0);replace p353:=eq_true p353;replace q353:=eq_true q353)|((with_reducible refine gate_callee (f:=38) rfl ?_);refine goesL_ (some 99) rfl rfl Tryz.func38 zb14 rfl #[.string (rdOf ByteArray.empty t327 7)] rfl zb2 ?_;(with_reducible refine (tollbarref09_Number.calls kj10 (rdOf ByteArray.empty t327 7) t354 t355 _ A32.out).mono ?_);rintro e w161 ⟨rfl,hb⟩;(try clear A32);refine ⟨_,rfl,?_⟩;replace HO_4:=Aside0.mk (Kd.R_below zb4 hb);replace HO_6:=Aside0.mk (Kd.N_below zb9 hb);replace HO_8:=Aside0.mk (Kd.R_below zb10 hb);replace HO336:=Aside0.mk (Kd.V_below zb11 hb);replace BK337:=Aside0.mk (blk_below (g:=gb337) (o:=.cells #[.string (rdOf ByteArray.empty t327 1),.slice A146 y332.length c146,.int .i64 0,.int .i64 0,.int .i64 0,.int .i64 0,.int .i64 0,.int .i64 0] 64 (0,0)) zb12 hb);replace HB:=Aside0.mk (below_step zb3 hb);(try clear hb)))
               go_ret2
               exact ⟨_,zb6,zb18,zb3⟩
             ·rw [if_neg c31] at H
              exact absurd H zb24
            ·rw [if_neg c29] at H
             exact absurd H zb24
           ·rw [if_neg c27] at H
            exact absurd H zb24
          ·rw [if_neg c25] at H
           exact absurd H zb24
         ·rw [if_neg c23] at H
          exact absurd H zb24
        ·rw [if_neg c21] at H
         exact absurd H zb24
       ·rw [if_neg c20] at H
        exact absurd H zb24
      ·rw [if_neg c19] at H
       exact absurd H zb24
   ·rw [if_neg c9] at H
    exact absurd H zb24
def tollbarref01_SameInts.l0:Nat → List Int → List Int → Int → Option (Bool)
 | 0,_,_,_=>none
 | k + 1,x0,x1,x5=>if x5 < (x0.length:Int) then (if 0 ≤ x5 then (if x5 < (x1.length:Int) then (if (rd x0 x5)=(rd x1 x5) then (tollbarref01_SameInts.l0 k x0 x1 (wrap64 (x5 + 1))) else (some false)) else (none)) else (none)) else (some true)
def tollbarref01_SameInts.f (k:Nat) (l0:List Int) (l1:List Int):Option (Bool):=if (l0.length:Int)=(l1.length:Int) then (tollbarref01_SameInts.l0 k l0 l1 0) else (some false)
set_option maxHeartbeats 8000000 in
set_option maxRecDepth 100000 in
theorem tollbarref01_SameInts.calls (k:Nat) (A0:Option Addr) (c0:Nat) (l0:List Int) (A1:Option Addr) (c1:Nat) (l1:List Int) (r:Bool) (w:World) (hr0:Kd.C (Kd.int .i64) w A0 l0.length l0) (hc0:l0.length ≤ c0) (hr1:Kd.C (Kd.int .i64) w A1 l1.length l1) (hc1:l1.length ≤ c1) (h:tollbarref01_SameInts.f k l0 l1=some r) :
 Calls Tryz.prog 41 #[.slice A0 l0.length c0,.slice A1 l1.length c1] w fun e w' => e = .returned (.bool r)∧Drawn0 w w' := by
 have HR0:=Aside0.mk hr0
 have HC0:=Aside0.mk hc0
 clear hr0 hc0
 have HR1:=Aside0.mk hr1
 have HC1:=Aside0.mk hc1
 clear hr1 hc1
 unfold tollbarref01_SameInts.f at h
 have H:=h
 clear h
 by_cases c3:(l0.length:Int)=(l1.length:Int);rotate_left
 ·rw [if_neg c3] at H
  have c3b0:=beq_eq_false_iff_ne.mpr c3
  have c3b1:=bne_iff_ne.mpr c3
  have c3b2:(l0.length == l1.length)=false:=by first|simpa using c3|(simp at c3 ⊢;omega)
  obtain rfl:=Option.some.inj H
  go_enter Tryz.func41,Tryz.ntmps41
  go_wp2
  repeat (go_quiet (fail);try go_wp2)
  go_ret
  exact ⟨zb5,zb13⟩
 rw [if_pos c3] at H
 have c3b0:=beq_iff_eq.mpr c3
 have c3b1:=bne_eq_false_iff_eq.mpr c3
 have c3b2:(l0.length == l1.length)=true:=by first|simpa using c3|(simp at c3 ⊢;omega)
 clear c3
 have H' := Aside0.mk H
 clear H
 go_enter Tryz.func41,Tryz.ntmps41
 go_wp2
 repeat (go_quiet (fail);try go_wp2)
 go_loopg [5] k (fun kq v5 w' => ∃ (x5_1:Int),v5 = .int .i64 x5_1∧Aside0 (tollbarref01_SameInts.l0 kq l0 l1 x5_1=some r)∧Aside0 (kq ≤ k)∧Drawn0 w w')
 case atStart=>exact ⟨(0),zb5,H',⟨Nat.le_refl _⟩,zb13⟩
 case round =>
  clear H'
  try clear c1
  try clear p2
  try clear c3
  try clear c3b0
  try clear c3b1
  try clear c3b2
  obtain ⟨x5_1,rfl,HA,HK1,⟨m1,rfl⟩⟩:=hrel
  cases gk with
  | zero=>exact absurd HA.out (by simp [tollbarref01_SameInts.l0])
  | succ k1 =>
   have H:=HA.out
   clear HA
   simp only [tollbarref01_SameInts.l0] at H
   by_cases c4:x5_1 < (l0.length:Int)
   ·rw [if_pos c4] at H
    have c4b0:=decide_eq_true c4
    clear c4
    by_cases c5:0 ≤ x5_1
    ·rw [if_pos c5] at H
     have c5b0:=decide_eq_true c5
     clear c5
     by_cases c6:x5_1 < (l1.length:Int);rotate_left
     ·rw [if_neg c6] at H
      exact absurd H zb24
     rw [if_pos c6] at H
     have c6b0:=decide_eq_true c6
     clear c6
     by_cases c7:(rd l0 x5_1)=(rd l1 x5_1);rotate_left
     ·rw [if_neg c7] at H
      have c7b0:=beq_eq_false_iff_ne.mpr c7
      have c7b1:=bne_iff_ne.mpr c7
      obtain rfl:=Option.some.inj H
      have p361:0 ≤ (x5_1:Int):=of_decide_eq_true zb1
      have q361:x5_1 < (l0.length:Int):=of_decide_eq_true zb1
      obtain ⟨ad361,e361,hx361_0⟩:=Kd.at_int HR0.out x5_1 p361 q361
      cases e361
      replace p361:=eq_true p361
      replace q361:=eq_true q361
      have p362:0 ≤ (x5_1:Int):=of_decide_eq_true zb1
      have q362:x5_1 < (l1.length:Int):=of_decide_eq_true zb1
      obtain ⟨ad362,e362,hx362_0⟩:=Kd.at_int HR1.out x5_1 p362 q362
      cases e362
      replace p362:=eq_true p362
      replace q362:=eq_true q362
      go_wp2
      repeat (go_quiet (fail);try go_wp2)
      go_ret
      exact ⟨zb5,zb13⟩
     rw [if_pos c7] at H
     have c7b0:=beq_iff_eq.mpr c7
     have c7b1:=bne_eq_false_iff_eq.mpr c7
     clear c7
     have H' := Aside0.mk H
     clear H
     have p361:0 ≤ (x5_1:Int):=of_decide_eq_true zb1
     have q361:x5_1 < (l0.length:Int):=of_decide_eq_true zb1
     obtain ⟨ad361,e361,hx361_0⟩:=Kd.at_int HR0.out x5_1 p361 q361
     cases e361
     replace p361:=eq_true p361
     replace q361:=eq_true q361
     have p362:0 ≤ (x5_1:Int):=of_decide_eq_true zb1
     have q362:x5_1 < (l1.length:Int):=of_decide_eq_true zb1
     obtain ⟨ad362,e362,hx362_0⟩:=Kd.at_int HR1.out x5_1 p362 q362
     cases e362
     replace p362:=eq_true p362
     replace q362:=eq_true q362
     go_wp2
     repeat (go_quiet (fail);try go_wp2)
     go_roundg k1
     case measure=>have:=HK1.out;omega
     case rel=>exact ⟨(wrap64 (x5_1 + 1)),zb5,H',⟨zb54⟩,zb13⟩
    ·rw [if_neg c5] at H
     exact absurd H zb24
   ·rw [if_neg c4] at H
    have c4b0:=decide_eq_false c4
    clear c4
    obtain rfl:=Option.some.inj H
    go_wp2
    repeat (go_quiet (fail);try go_wp2)
    go_ret
    exact ⟨zb5,zb13⟩
def tollbarref01_SameTexts.l0:Nat → List ByteArray → List ByteArray → Int → Option (Bool)
 | 0,_,_,_=>none
 | k + 1,x0,x1,x5=>if x5 < (x0.length:Int) then (if 0 ≤ x5 then (if x5 < (x1.length:Int) then (if (rdOf ByteArray.empty x0 x5).toList=(rdOf ByteArray.empty x1 x5).toList then (tollbarref01_SameTexts.l0 k x0 x1 (wrap64 (x5 + 1))) else (some false)) else (none)) else (none)) else (some true)
def tollbarref01_SameTexts.f (k:Nat) (l0:List ByteArray) (l1:List ByteArray):Option (Bool):=if (l0.length:Int)=(l1.length:Int) then (tollbarref01_SameTexts.l0 k l0 l1 0) else (some false)
set_option maxHeartbeats 8000000 in
set_option maxRecDepth 100000 in
theorem tollbarref01_SameTexts.calls (k:Nat) (A0:Option Addr) (c0:Nat) (l0:List ByteArray) (A1:Option Addr) (c1:Nat) (l1:List ByteArray) (r:Bool) (w:World) (hr0:Kd.C Kd.string w A0 l0.length l0) (hc0:l0.length ≤ c0) (hr1:Kd.C Kd.string w A1 l1.length l1) (hc1:l1.length ≤ c1) (h:tollbarref01_SameTexts.f k l0 l1=some r) :
 Calls Tryz.prog 40 #[.slice A0 l0.length c0,.slice A1 l1.length c1] w fun e w' => e = .returned (.bool r)∧Drawn0 w w' := by
 have HR0:=Aside0.mk hr0
 have HC0:=Aside0.mk hc0
 clear hr0 hc0
 have HR1:=Aside0.mk hr1
 have HC1:=Aside0.mk hc1
 clear hr1 hc1
 unfold tollbarref01_SameTexts.f at h
 have H:=h
 clear h
 by_cases c3:(l0.length:Int)=(l1.length:Int);rotate_left
 ·rw [if_neg c3] at H
  have c3b0:=beq_eq_false_iff_ne.mpr c3
  have c3b1:=bne_iff_ne.mpr c3
  have c3b2:(l0.length == l1.length)=false:=by first|simpa using c3|(simp at c3 ⊢;omega)
  obtain rfl:=Option.some.inj H
  go_enter Tryz.func40,Tryz.ntmps40
  go_wp2
  repeat (go_quiet (fail);try go_wp2)
  go_ret
  exact ⟨zb5,zb13⟩
 rw [if_pos c3] at H
 have c3b0:=beq_iff_eq.mpr c3
 have c3b1:=bne_eq_false_iff_eq.mpr c3
 have c3b2:(l0.length == l1.length)=true:=by first|simpa using c3|(simp at c3 ⊢;omega)
 clear c3
 have H' := Aside0.mk H
 clear H
 go_enter Tryz.func40,Tryz.ntmps40
 go_wp2
 repeat (go_quiet (fail);try go_wp2)
 go_loopg [5] k (fun kq v5 w' => ∃ (x5_1:Int),v5 = .int .i64 x5_1∧Aside0 (tollbarref01_SameTexts.l0 kq l0 l1 x5_1=some r)∧Aside0 (kq ≤ k)∧Drawn0 w w')
 case atStart=>exact ⟨(0),zb5,H',⟨Nat.le_refl _⟩,zb13⟩
 case round =>
  clear H'
  try clear c1
  try clear p2
  try clear c3
  try clear c3b0
  try clear c3b1
  try clear c3b2
  obtain ⟨x5_1,rfl,HA,HK1,⟨m1,rfl⟩⟩:=hrel
  cases gk with
  | zero=>exact absurd HA.out (by simp [tollbarref01_SameTexts.l0])
  | succ k1 =>
   have H:=HA.out
   clear HA
   simp only [tollbarref01_SameTexts.l0] at H
   by_cases c4:x5_1 < (l0.length:Int)
   ·rw [if_pos c4] at H
    have c4b0:=decide_eq_true c4
    clear c4
    by_cases c5:0 ≤ x5_1
    ·rw [if_pos c5] at H
     have c5b0:=decide_eq_true c5
     clear c5
     by_cases c6:x5_1 < (l1.length:Int);rotate_left
     ·rw [if_neg c6] at H
      exact absurd H zb24
     rw [if_pos c6] at H
     have c6b0:=decide_eq_true c6
     clear c6
     by_cases c7:(rdOf ByteArray.empty l0 x5_1).toList=(rdOf ByteArray.empty l1 x5_1).toList;rotate_left
     ·rw [if_neg c7] at H
      have c7b0:=beq_eq_false_iff_ne.mpr c7
      have c7b1:=bne_iff_ne.mpr c7
      obtain rfl:=Option.some.inj H
      have p359:0 ≤ (x5_1:Int):=of_decide_eq_true zb1
      have q359:x5_1 < (l0.length:Int):=of_decide_eq_true zb1
      obtain ⟨ad359,e359,hx359_0⟩:=Kd.at_string HR0.out x5_1 p359 q359
      cases e359
      replace p359:=eq_true p359
      replace q359:=eq_true q359
      have p360:0 ≤ (x5_1:Int):=of_decide_eq_true zb1
      have q360:x5_1 < (l1.length:Int):=of_decide_eq_true zb1
      obtain ⟨ad360,e360,hx360_0⟩:=Kd.at_string HR1.out x5_1 p360 q360
      cases e360
      replace p360:=eq_true p360
      replace q360:=eq_true q360
      go_wp2
      repeat (go_quiet (fail);try go_wp2)
      go_ret
      exact ⟨zb5,zb13⟩
     rw [if_pos c7] at H
     have c7b0:=beq_iff_eq.mpr c7
     have c7b1:=bne_eq_false_iff_eq.mpr c7
     clear c7
     have H' := Aside0.mk H
     clear H
     have p359:0 ≤ (x5_1:Int):=of_decide_eq_true zb1
     have q359:x5_1 < (l0.length:Int):=of_decide_eq_true zb1
     obtain ⟨ad359,e359,hx359_0⟩:=Kd.at_string HR0.out x5_1 p359 q359
     cases e359
     replace p359:=eq_true p359
     replace q359:=eq_true q359
     have p360:0 ≤ (x5_1:Int):=of_decide_eq_true zb1
     have q360:x5_1 < (l1.length:Int):=of_decide_eq_true zb1
     obtain ⟨ad360,e360,hx360_0⟩:=Kd.at_string HR1.out x5_1 p360 q360
     cases e360
     replace p360:=eq_true p360
     replace q360:=eq_true q360
     go_wp2
     repeat (go_quiet (fail);try go_wp2)
     go_roundg k1
     case measure=>have:=HK1.out;omega
     case rel=>exact ⟨(wrap64 (x5_1 + 1)),zb5,H',⟨zb54⟩,zb13⟩
    ·rw [if_neg c5] at H
     exact absurd H zb24
   ·rw [if_neg c4] at H
    have c4b0:=decide_eq_false c4
    clear c4
    obtain rfl:=Option.some.inj H
    go_wp2
    repeat (go_quiet (fail);try go_wp2)
    go_ret
    exact ⟨zb5,zb13⟩
end Go.Proofs.YtclpanalnbmejaaGreatDoor.P
