/- Each function below answers as its Lean twin says; plain lemmas; a row where its theorem stands. No further condition. (Laid by this repo's pack.py out of its texts and of the print's words.) -/
import Derived.Test.YtfjeinnemimjoaaDoorZd8102f62
import Derived.Test.YtfjeinnemimjoaaDoorZ654de3b0
namespace Go.Proofs.YtfjeinnemimjoaaDoor.P
open Go.RowKit Go.Proofs.YtfjeinnemimjoaaDoorW.PrintWords Go.Proofs.YtfjeinnemimjoaaDoorW.PrintLast Go.Proofs.YtfjeinnemimjoaaDoorW.PrintMore
attribute [local go_sem] max2_int min2_int max_two min_two max_three min_three max_four min_four
set_option linter.unusedVariables false
set_option linter.unusedSimpArgs false
def tollbarref12_Hop.j0:Nat → List (S41) → ByteArray → Bool → Option (Bool)
 | 0,_,_,_=>none
 | k + 1,x0,x1,x19=>if x19=true then (some true) else ((tollbarref04_List.f k x0 (⟨#[99,111,110,110,101,99,116,105,111,110]⟩:ByteArray)).bind fun t476=>((tollbarref04_In.f k t476 x1).bind fun t479=>(some t479)))
def tollbarref12_Hop.f (k:Nat) (l0:List (S41)) (a1:ByteArray):Option (Bool):=(tollbarref02_Fold.f k a1).bind fun t474=>((tollbarref10_Kept.f k a1).bind fun t475=>(if t475=true then (tollbarref12_Hop.j0 k l0 a1 true) else (if (t474.size:Int) ≥ 10 then (if 0 ≤ 10 then (if 10 ≤ (t474.size:Int) then (tollbarref12_Hop.j0 k l0 a1 ((t474.extract 0 10).toList == ([120,45,116,111,108,108,98,97,114,45]:List UInt8))) else (none)) else (none)) else (tollbarref12_Hop.j0 k l0 a1 false))))
set_option maxHeartbeats 8000000 in
set_option maxRecDepth 100000 in
theorem tollbarref12_Hop.calls (k:Nat) (A0:Option Addr) (c0:Nat) (l0:List (S41)) (a1:ByteArray) (r:Bool) (w:World) (hr0:Kd.C k41 w A0 l0.length l0) (hc0:l0.length ≤ c0) (h:tollbarref12_Hop.f k l0 a1=some r) :
  Calls Tryd.prog 13 #[.slice A0 l0.length c0,.string a1] w fun e w' => e = .returned (.bool r)∧Below w.heap.size w w' := by
 have HR0:=Aside0.mk hr0
 have HC0:=Aside0.mk hc0
 clear hr0 hc0
 have HB:=Aside0.mk (Below.refl w.heap.size w)
 have H:((tollbarref02_Fold.f k a1).bind fun t474=>((tollbarref10_Kept.f k a1).bind fun t475=>(if t475=true then (tollbarref12_Hop.j0 k l0 a1 true) else (if (t474.size:Int) ≥ 10 then (if 0 ≤ 10 then (if 10 ≤ (t474.size:Int) then (tollbarref12_Hop.j0 k l0 a1 ((t474.extract 0 10).toList == ([120,45,116,111,108,108,98,97,114,45]:List UInt8))) else (none)) else (none)) else (tollbarref12_Hop.j0 k l0 a1 false)))))=some r:=h
 clear h
 replace H:=Option.bind_eq_some_iff.mp H
 obtain ⟨t474,A30,H⟩:=H
 replace H:((tollbarref10_Kept.f k a1).bind fun t475=>(if t475=true then (tollbarref12_Hop.j0 k l0 a1 true) else (if (t474.size:Int) ≥ 10 then (if 0 ≤ 10 then (if 10 ≤ (t474.size:Int) then (tollbarref12_Hop.j0 k l0 a1 ((t474.extract 0 10).toList == ([120,45,116,111,108,108,98,97,114,45]:List UInt8))) else (none)) else (none)) else (tollbarref12_Hop.j0 k l0 a1 false))))=some r:=H
 have A3:=Aside0.mk A30
 clear A30
 have HC4:=Aside0.mk H
 clear H
 go_enter Tryd.func13,Tryd.ntmps13
 go_upto_region 2 with (first|((with_reducible refine gate_callee (f:=31) rfl ?_);refine goesL_ (some 7) rfl rfl Tryd.func31 (by kernel_rfl) rfl #[.string a1] rfl (by (try simp only [List.map_toArray,List.map_cons,List.map_nil]);first|done|rfl|(simp only [List.length_drop,List.length_take];rfl)) ?_;(with_reducible refine (tollbarref02_Fold.calls k a1 t474 _ A3.out).mono ?_);rintro e w5 ⟨rfl,hb⟩;refine ⟨_,rfl,?_⟩;have n0_:=Aside0.mk (below_step (by repeat (first|(with_reducible first|exact HB.out|apply below_alloc|apply pw_below_drewN|apply below_drew1)|exact HB.out)) hb);clear HB;have HB:=n0_;clear n0_;(try clear hb);(try clear hb2);(try clear hk);(try clear hi)))
 (try simp only [Act.put,zqA,zqB,zqC])
 go_cut [19] (fun v19 wc => ∃ (kq:Nat) (x19_3:Bool),v19 = .bool x19_3∧Aside0 (tollbarref12_Hop.j0 kq l0 a1 x19_3=some r)∧Aside0 (kq ≤ k)∧Aside0 (Below w.heap.size w wc))
 case first =>
  have H:=HC4.out
  clear HC4
  replace H:=Option.bind_eq_some_iff.mp H
  obtain ⟨t475,A60,H⟩:=H
  replace H:(if t475=true then (tollbarref12_Hop.j0 k l0 a1 true) else (if (t474.size:Int) ≥ 10 then (if 0 ≤ 10 then (if 10 ≤ (t474.size:Int) then (tollbarref12_Hop.j0 k l0 a1 ((t474.extract 0 10).toList == ([120,45,116,111,108,108,98,97,114,45]:List UInt8))) else (none)) else (none)) else (tollbarref12_Hop.j0 k l0 a1 false)))=some r:=H
  have A6:=Aside0.mk A60
  clear A60
  by_cases c7:t475=true
  ·subst c7
   have H1:(tollbarref12_Hop.j0 k l0 a1 true)=some r:=by rw [if_pos rfl] at H;exact H
   clear H
   have H:=H1
   clear H1
   have H' := Aside0.mk H
   clear H
   go_wp2_with (first|((with_reducible refine gate_callee (f:=32) rfl ?_);refine goesL_ (some 9) rfl rfl Tryd.func32 (by kernel_rfl) rfl #[.string a1] rfl (by (try simp only [List.map_toArray,List.map_cons,List.map_nil]);first|done|rfl|(simp only [List.length_drop,List.length_take];rfl)) ?_;(with_reducible refine (tollbarref10_Kept.calls k a1 true _ A6.out).mono ?_);rintro e w8 ⟨rfl,hb⟩;(try clear A6);refine ⟨_,rfl,?_⟩;have n0_:=Aside0.mk (below_step (by repeat (first|(with_reducible first|exact HB.out|apply below_alloc|apply pw_below_drewN|apply below_drew1)|exact HB.out)) hb);clear HB;have HB:=n0_;clear n0_;(try clear hb);(try clear hb2);(try clear hk);(try clear hi)))
   go_meet
   case rel=>exact ⟨_,(true),(by first|rfl|(simp;done)|(simp [*];done)),H',⟨by first|omega|exact Nat.le_refl _⟩,⟨by repeat (first|(with_reducible first|exact HB.out|apply below_alloc|apply pw_below_drewN|apply below_drew1)|exact HB.out)⟩⟩
  ·replace c7:=Bool.eq_false_iff.mpr c7
   subst c7
   have H1:(if (t474.size:Int) ≥ 10 then (if 0 ≤ 10 then (if 10 ≤ (t474.size:Int) then (tollbarref12_Hop.j0 k l0 a1 ((t474.extract 0 10).toList == ([120,45,116,111,108,108,98,97,114,45]:List UInt8))) else (none)) else (none)) else (tollbarref12_Hop.j0 k l0 a1 false))=some r:=by rw [if_neg (show ¬ (false=true) by decide)] at H;exact H
   clear H
   have H:=H1
   clear H1
   by_cases c9:(t474.size:Int) ≥ 10
   ·rw [if_pos c9] at H
    have c9b0:decide (10 ≤ (t474.size:Int))=true:=decide_eq_true c9
    have c9b1:decide (10 ≤ t474.size)=true:=decide_eq_true (by omega)
    clear c9
    (first|rw [c9b0]|(simp only [i64_w,i32_w];rw [c9b0])|rw [c9b1]|skip)
    by_cases c10:0 ≤ 10
    ·rw [if_pos c10] at H
     have c10b0:=eq_true c10
     have c10b1:decide (0 ≤ 10)=true:=decide_eq_true c10
     clear c10
     by_cases c11:10 ≤ (t474.size:Int)
     ·rw [if_pos c11] at H
      have c11b0:=eq_true c11
      have c11b1:decide (10 ≤ (t474.size:Int))=true:=decide_eq_true c11
      clear c11
      have H' := Aside0.mk H
      clear H
      go_wp2_with (first|((with_reducible refine gate_callee (f:=32) rfl ?_);refine goesL_ (some 9) rfl rfl Tryd.func32 (by kernel_rfl) rfl #[.string a1] rfl (by (try simp only [List.map_toArray,List.map_cons,List.map_nil]);first|done|rfl|(simp only [List.length_drop,List.length_take];rfl)) ?_;(with_reducible refine (tollbarref10_Kept.calls k a1 false _ A6.out).mono ?_);rintro e w12 ⟨rfl,hb⟩;(try clear A6);refine ⟨_,rfl,?_⟩;have n0_:=Aside0.mk (below_step (by repeat (first|(with_reducible first|exact HB.out|apply below_alloc|apply pw_below_drewN|apply below_drew1)|exact HB.out)) hb);clear HB;have HB:=n0_;clear n0_;(try clear hb);(try clear hb2);(try clear hk);(try clear hi)))
      go_meet
      case rel=>exact ⟨_,(((t474.extract 0 10).toList == ([120,45,116,111,108,108,98,97,114,45]:List UInt8))),(by first|rfl|(simp;done)|(simp [*];done)),H',⟨by first|omega|exact Nat.le_refl _⟩,⟨by repeat (first|(with_reducible first|exact HB.out|apply below_alloc|apply pw_below_drewN|apply below_drew1)|exact HB.out)⟩⟩
     ·rw [if_neg c11] at H
      exact absurd H (by simp)
    ·exact absurd c10 (by decide)
   ·rw [if_neg c9] at H
    have c9b0:decide (10 ≤ (t474.size:Int))=false:=decide_eq_false c9
    have c9b1:decide (10 ≤ t474.size)=false:=decide_eq_false (by omega)
    clear c9
    (first|rw [c9b0]|(simp only [i64_w,i32_w];rw [c9b0])|rw [c9b1]|skip)
    have H' := Aside0.mk H
    clear H
    go_wp2_with (first|((with_reducible refine gate_callee (f:=32) rfl ?_);refine goesL_ (some 9) rfl rfl Tryd.func32 (by kernel_rfl) rfl #[.string a1] rfl (by (try simp only [List.map_toArray,List.map_cons,List.map_nil]);first|done|rfl|(simp only [List.length_drop,List.length_take];rfl)) ?_;(with_reducible refine (tollbarref10_Kept.calls k a1 false _ A6.out).mono ?_);rintro e w13 ⟨rfl,hb⟩;(try clear A6);refine ⟨_,rfl,?_⟩;have n0_:=Aside0.mk (below_step (by repeat (first|(with_reducible first|exact HB.out|apply below_alloc|apply pw_below_drewN|apply below_drew1)|exact HB.out)) hb);clear HB;have HB:=n0_;clear n0_;(try clear hb);(try clear hb2);(try clear hk);(try clear hi)))
    go_meet
    case rel=>exact ⟨_,(false),(by first|rfl|(simp;done)|(simp [*];done)),H',⟨by first|omega|exact Nat.le_refl _⟩,⟨by repeat (first|(with_reducible first|exact HB.out|apply below_alloc|apply pw_below_drewN|apply below_drew1)|exact HB.out)⟩⟩
 case rest =>
  clear HC4
  try clear c1
  try clear p2
  try clear c3
  try clear c7
  try clear c9
  try clear c9b0
  try clear c9b1
  try clear c10
  try clear c10b0
  try clear c10b1
  try clear c11
  try clear c11b0
  try clear c11b1
  try clear c13
  obtain ⟨kq,x19_3,rfl,HA,HJ3,HB⟩:=hcut
  cases kq with
  | zero=>exact absurd HA.out (by simp [tollbarref12_Hop.j0])
  | succ kj3 =>
   have H:=HA.out
   clear HA
   simp only [tollbarref12_Hop.j0] at H
   by_cases c14:x19_3=true
   ·subst c14
    have H1:(some true)=some r:=by rw [if_pos rfl] at H;exact H
    clear H
    have H:=H1
    clear H1
    obtain rfl:=Option.some.inj H
    go_wp2
    go_ret
    exact ⟨by first|rfl|(simp [errW_none,errW_some] <;> rfl)|(simp [*,errW_none,errW_some] <;> rfl),by repeat (first|(with_reducible first|exact HB.out|apply below_alloc|apply pw_below_drewN|apply below_drew1)|exact HB.out)⟩
   ·replace c14:=Bool.eq_false_iff.mpr c14
    subst c14
    have H1:((tollbarref04_List.f kj3 l0 (⟨#[99,111,110,110,101,99,116,105,111,110]⟩:ByteArray)).bind fun t476=>((tollbarref04_In.f kj3 t476 a1).bind fun t479=>(some t479)))=some r:=by rw [if_neg (show ¬ (false=true) by decide)] at H;exact H
    clear H
    have H:=H1
    clear H1
    replace H:=Option.bind_eq_some_iff.mp H
    obtain ⟨t476,A150,H⟩:=H
    replace H:((tollbarref04_In.f kj3 t476 a1).bind fun t479=>(some t479))=some r:=H
    have A15:=Aside0.mk A150
    clear A150
    replace H:=Option.bind_eq_some_iff.mp H
    obtain ⟨t479,A160,H⟩:=H
    replace H:(some t479)=some r:=H
    have A16:=Aside0.mk A160
    clear A160
    obtain rfl:=Option.some.inj H
    go_wp2_with (first|((with_reducible refine gate_callee (f:=34) rfl ?_);refine goesL_ (some 21) rfl rfl Tryd.func34 (by kernel_rfl) rfl #[.slice A0 l0.length c0,.string (⟨#[99,111,110,110,101,99,116,105,111,110]⟩:ByteArray)] rfl (by (try simp only [List.map_toArray,List.map_cons,List.map_nil]);first|done|rfl|(simp only [List.length_drop,List.length_take];rfl)) ?_;(with_reducible refine (tollbarref04_List.calls kj3 _ _ l0 (⟨#[99,111,110,110,101,99,116,105,111,110]⟩:ByteArray) t476 _ ?side1 ?side2 A15.out).mono ?_);(case side1=>repeat (first|exact (Kd.C_below HR0.out HB.out)|(with_reducible refine Kd.C_alloc ?_ _)|(with_reducible refine Kd.C_drewN ?_ _)|(with_reducible refine Kd.C_drew ?_)));(case side2=>exact HC0.out);rintro e w17 ⟨v477,rfl,ho0,hb⟩;(try clear A15);refine ⟨_,rfl,?_⟩;have n0_:=Aside0.mk (Kd.R_lower ho0 (below_size (by repeat (first|(with_reducible first|exact HB.out|apply below_alloc|apply pw_below_drewN|apply below_drew1)|exact HB.out))));have n1_:=Aside0.mk (below_step (by repeat (first|(with_reducible first|exact HB.out|apply below_alloc|apply pw_below_drewN|apply below_drew1)|exact HB.out)) hb);clear HB;have HO478:=n0_;have HB:=n1_;clear n0_ n1_;(try clear hb);(try clear hb2);(try clear hk);(try clear hi);(try clear ho0);obtain ⟨Ao18,co18,eo18⟩:=Kd.R_slice HO478.out;subst eo18)|((with_reducible refine gate_callee (f:=33) rfl ?_);refine goesL_ (some 23) rfl rfl Tryd.func33 (by kernel_rfl) rfl #[.slice Ao18 t476.length co18,.string a1] rfl (by (try simp only [List.map_toArray,List.map_cons,List.map_nil]);first|done|rfl|(simp only [List.length_drop,List.length_take];rfl)) ?_;(with_reducible refine (tollbarref04_In.calls kj3 _ _ t476 a1 t479 _ ?side1 ?side2 A16.out).mono ?_);(case side1=>repeat (first|exact (Kd.R_reads' HO478.out).2.2|(with_reducible refine Kd.C_alloc ?_ _)|(with_reducible refine Kd.C_drewN ?_ _)|(with_reducible refine Kd.C_drew ?_)));(case side2=>exact (Kd.R_reads' HO478.out).2.1);rintro e w19 ⟨rfl,hb⟩;(try clear A16);refine ⟨_,rfl,?_⟩;have n0_:=Aside0.mk (Kd.R_below (by (with_reducible repeat (first|apply Kd.R_alloc|apply Kd.R_drewN|apply Kd.R_drew));exact HO478.out) hb);have n1_:=Aside0.mk (below_step (by repeat (first|(with_reducible first|exact HB.out|apply below_alloc|apply pw_below_drewN|apply below_drew1)|exact HB.out)) hb);clear HO478;clear HB;have HO478:=n0_;have HB:=n1_;clear n0_ n1_;(try clear hb);(try clear hb2);(try clear hk);(try clear hi)))
    go_ret
    exact ⟨by first|rfl|(simp [errW_none,errW_some] <;> rfl)|(simp [*,errW_none,errW_some] <;> rfl),by repeat (first|(with_reducible first|exact HB.out|apply below_alloc|apply pw_below_drewN|apply below_drew1)|exact HB.out)⟩
mutual
def tollbarref01_Join.l0:Nat → List Int → List Int → List Int → Int → Option (List Int)
 | 0,_,_,_,_=>none
 | k + 1,x0,x1,x5,x6=>if x6 < (x0.length:Int) then (if 0 ≤ x6 then (if x5.length < 140737488355328 then (tollbarref01_Join.l0 k x0 x1 (x5 ++ [rd x0 x6]) (wrap64 (x6 + 1))) else (none)) else (none)) else (tollbarref01_Join.l1 k x1 x5 0)
def tollbarref01_Join.l1:Nat → List Int → List Int → Int → Option (List Int)
 | 0,_,_,_=>none
 | k + 1,x1,x5,x7=>if x7 < (x1.length:Int) then (if 0 ≤ x7 then (if x5.length < 140737488355328 then (tollbarref01_Join.l1 k x1 (x5 ++ [rd x1 x7]) (wrap64 (x7 + 1))) else (none)) else (none)) else (some x5)
end
def tollbarref01_Join.f (k:Nat) (l0:List Int) (l1:List Int):Option (List Int):=tollbarref01_Join.l0 k l0 l1 (([]:List Int)) 0
set_option maxHeartbeats 8000000 in
set_option maxRecDepth 100000 in
theorem tollbarref01_Join.calls (k:Nat) (A0:Option Addr) (c0:Nat) (l0:List Int) (A1:Option Addr) (c1:Nat) (l1:List Int) (r:List Int) (w:World) (hr0:Kd.C (Kd.int .u8) w A0 l0.length l0) (hc0:l0.length ≤ c0) (hr1:Kd.C (Kd.int .u8) w A1 l1.length l1) (hc1:l1.length ≤ c1) (h:tollbarref01_Join.f k l0 l1=some r) :
  Calls Tryd.prog 40 #[.slice A0 l0.length c0,.slice A1 l1.length c1] w fun e w' => ∃ v0_:Value,e = .returned (v0_)∧Kd.R (Kd.int .u8) 5 w' w.heap.size (fun _=>True) v0_ r∧Below w.heap.size w w' := by
 have HR0:=Aside0.mk hr0
 have HC0:=Aside0.mk hc0
 clear hr0 hc0
 have HR1:=Aside0.mk hr1
 have HC1:=Aside0.mk hc1
 clear hr1 hc1
 have HB:=Aside0.mk (Below.refl w.heap.size w)
 have H:(tollbarref01_Join.l0 k l0 l1 (([]:List Int)) 0)=some r:=h
 clear h
 obtain ⟨y484,hy484⟩ : ∃ y_:List Int,y_=(([]:List Int)):=⟨_,rfl⟩
 replace H:(tollbarref01_Join.l0 k l0 l1 y484 0)=some r:=by first|(rw [hy484];with_reducible exact H)|(have H2_:=(Option.bind_some _ _).symm.trans H;rw [hy484];with_reducible exact H2_)|(have H2_:=(Option.bind_some _ _).symm.trans H;with_reducible exact H2_)|with_reducible exact H|(rw [hy484];exact H)|exact H
 have Ny484:=Aside0.mk hy484
 clear hy484
 have H' := Aside0.mk H
 clear H
 go_enter Tryd.func40,Tryd.ntmps40
 go_wp2_with (first|((with_reducible refine gate_dst (N:=8) rfl ?_);refine Kd.R_lit (Kd.int .u8) _ 5 ?hg (N:=8) ?hd (xs:=([]:List Int)) (inner:=[]) (ok:=fun _=>True) (okp:=fun _=>True) ?hr ?hp (fun _ hk=>hk) trivial (Below.refl _ _) (Nat.le_refl _) (by simp) ?_;(case hd=>rfl);(case hg=>rfl);(case hr=>first|(go_simp;done)|(go_simp;rfl));(case hp=>exact (Reps.none _ _));intro v485 w3 ho4 hb hg_ hnew_;clear hg_ hnew_;(first|rw [← Ny484.out] at ho4|(simp only [Int.reduceToNat] at ho4;rw [← Ny484.out] at ho4));have n0_:=Aside0.mk (Kd.R_lower ho4 (below_size (by repeat (first|(with_reducible first|exact HB.out|apply below_alloc|apply pw_below_drewN|apply below_drew1)|exact HB.out))));have n1_:=Aside0.mk (below_step (by repeat (first|(with_reducible first|exact HB.out|apply below_alloc|apply pw_below_drewN|apply below_drew1)|exact HB.out)) hb);clear HB;have HO486:=n0_;have HB:=n1_;clear n0_ n1_;clear hb ho4))
 go_loopg [5,6] k (fun kq v5 v6 w' => ∃ (x5_1:List Int) (x6_1:Int),v6 = .int .i64 x6_1∧Aside0 (tollbarref01_Join.l0 kq l0 l1 x5_1 x6_1=some r)∧Aside0 (kq ≤ k)∧Aside0 (Kd.R (Kd.int .u8) 5 w' w.heap.size (fun _=>True) v5 x5_1)∧Aside0 (Below w.heap.size w w'))
 case atStart=>exact ⟨(y484),(0),(by first|rfl|(simp;done)|(simp [*];done)),H',⟨Nat.le_refl _⟩,⟨by (with_reducible repeat (first|apply Kd.R_alloc|apply Kd.R_drewN|apply Kd.R_drew));exact HO486.out⟩,⟨by repeat (first|(with_reducible first|exact HB.out|apply below_alloc|apply pw_below_drewN|apply below_drew1)|exact HB.out)⟩⟩
 case round =>
  clear H'
  try clear c1
  try clear p2
  try clear c4
  obtain ⟨x5_1,x6_1,rfl,HA,HK1,HO_5,HB⟩:=hrel
  cases gk with
  | zero=>exact absurd HA.out (by simp [tollbarref01_Join.l0])
  | succ k1 =>
   have H:=HA.out
   clear HA
   simp only [tollbarref01_Join.l0] at H
   by_cases c5:x6_1 < (l0.length:Int)
   ·rw [if_pos c5] at H
    have c5b0:decide (x6_1 < (l0.length:Int))=true:=decide_eq_true c5
    clear c5
    by_cases c6:0 ≤ x6_1
    ·rw [if_pos c6] at H
     have c6b0:decide (0 ≤ x6_1)=true:=decide_eq_true c6
     clear c6
     by_cases c7:x5_1.length < 140737488355328
     ·rw [if_pos c7] at H
      have LMc7:=Aside0.mk c7
      clear c7
      obtain ⟨y488,hy488⟩ : ∃ y_:List Int,y_=(x5_1 ++ [rd l0 x6_1]):=⟨_,rfl⟩
      replace H:(tollbarref01_Join.l0 k1 l0 l1 y488 (wrap64 (x6_1 + 1)))=some r:=by first|(rw [hy488];with_reducible exact H)|(have H2_:=(Option.bind_some _ _).symm.trans H;rw [hy488];with_reducible exact H2_)|(have H2_:=(Option.bind_some _ _).symm.trans H;with_reducible exact H2_)|with_reducible exact H|(rw [hy488];exact H)|exact H
      have Ny488:=Aside0.mk hy488
      clear hy488
      have H' := Aside0.mk H
      clear H
      have p487:0 ≤ (x6_1:Int):=of_decide_eq_true (by first|(with_reducible assumption)|assumption)
      have q487:x6_1 < (l0.length:Int):=of_decide_eq_true (by first|(with_reducible assumption)|assumption)
      obtain ⟨ad487,e487,hx487_0⟩:=Kd.at_int HR0.out x6_1 p487 q487
      cases e487
      replace hx487_0:=(HB.out.cell (World.block_lt_of_cell? w _ hx487_0)).trans hx487_0
      replace p487:=eq_true p487
      replace q487:=eq_true q487
      go_wp2_with (first|((with_reducible refine gate_builtin (b:=.append) (xs:=#[.tmp 15,.tmp 20]) rfl ?_);at_builtin;refine Kd.R_append (Kd.int .u8) (w0:=w) w.heap.size rfl (.tmp 15) (.tmp 20) 25 5 (.int .u8 0) 1 rfl Tryd.underlying25 info5 rfl (by decide) (by omega) u5 x5_1 (rd l0 x6_1) [.int .u8 (rd l0 x6_1)] (fun _=>True) (fun _=>False) rfl rfl ?aP (fun _ hk=>hk.elim) ?aF ?aO ?aB ?aS ?aL ?_;(case aP=>exact rfl);(case aB=>exact (by repeat (first|(with_reducible first|exact HB.out|apply below_alloc|apply pw_below_drewN|apply below_drew1)|exact HB.out)));(case aF=>exact (fun _ _=>trivial));(case aO=>exact (by (with_reducible repeat (first|apply Kd.R_alloc|apply Kd.R_drewN|apply Kd.R_drew));exact HO_5.out));(case aS=>exact (below_size (by repeat (first|(with_reducible first|exact HB.out|apply below_alloc|apply pw_below_drewN|apply below_drew1)|exact HB.out))));(case aL=>have:=LMc7.out;omega);intro v489 w8 ho hb hg hat;rw [← Ny488.out] at ho;have n0_:=Aside0.mk (hb);have n1_:=Aside0.mk (ho);clear HB;clear HO_5;have HB:=n0_;have HO490:=n1_;clear n0_ n1_;clear ho hb hg hat))
      go_roundg k1
      case measure=>have:=HK1.out;omega
      case rel=>exact ⟨(y488),(wrap64 (x6_1 + 1)),(by first|rfl|(simp;done)|(simp [*];done)),H',⟨by have:=HK1.out;omega⟩,⟨by (with_reducible repeat (first|apply Kd.R_alloc|apply Kd.R_drewN|apply Kd.R_drew));exact HO490.out⟩,⟨by repeat (first|(with_reducible first|exact HB.out|apply below_alloc|apply pw_below_drewN|apply below_drew1)|exact HB.out)⟩⟩
     ·rw [if_neg c7] at H
      exact absurd H (by simp)
    ·rw [if_neg c6] at H
     exact absurd H (by simp)
   ·rw [if_neg c5] at H
    have c5b0:decide (x6_1 < (l0.length:Int))=false:=decide_eq_false c5
    clear c5
    have H' := Aside0.mk H
    clear H
    go_wp2
    go_loopg [5,7] k1 (fun kq v5 v7 w' => ∃ (x5_2:List Int) (x7_2:Int),v7 = .int .i64 x7_2∧Aside0 (tollbarref01_Join.l1 kq l1 x5_2 x7_2=some r)∧Aside0 (kq ≤ k1)∧Aside0 (Kd.R (Kd.int .u8) 5 w' w.heap.size (fun _=>True) v5 x5_2)∧Aside0 (Below w.heap.size w w'))
    case atStart=>exact ⟨(x5_1),(0),(by first|rfl|(simp;done)|(simp [*];done)),H',⟨Nat.le_refl _⟩,⟨by (with_reducible repeat (first|apply Kd.R_alloc|apply Kd.R_drewN|apply Kd.R_drew));exact HO_5.out⟩,⟨by repeat (first|(with_reducible first|exact HB.out|apply below_alloc|apply pw_below_drewN|apply below_drew1)|exact HB.out)⟩⟩
    case round =>
     clear H'
     try clear c1
     try clear p2
     try clear c4
     try clear p4
     try clear q4
     try clear hx4
     try clear c5
     try clear c5b0
     try clear c6
     try clear c6b0
     try clear p6
     try clear c7
     try clear hx487_0
     try clear p2
     try clear p487
     try clear q487
     obtain ⟨x5_2,x7_2,rfl,HA,HK2,HO_5,HB⟩:=hrel
     cases gk with
     | zero=>exact absurd HA.out (by simp [tollbarref01_Join.l1])
     | succ k2 =>
      have H:=HA.out
      clear HA
      simp only [tollbarref01_Join.l1] at H
      by_cases c9:x7_2 < (l1.length:Int)
      ·rw [if_pos c9] at H
       have c9b0:decide (x7_2 < (l1.length:Int))=true:=decide_eq_true c9
       clear c9
       by_cases c10:0 ≤ x7_2
       ·rw [if_pos c10] at H
        have c10b0:decide (0 ≤ x7_2)=true:=decide_eq_true c10
        clear c10
        by_cases c11:x5_2.length < 140737488355328
        ·rw [if_pos c11] at H
         have LMc11:=Aside0.mk c11
         clear c11
         obtain ⟨y492,hy492⟩ : ∃ y_:List Int,y_=(x5_2 ++ [rd l1 x7_2]):=⟨_,rfl⟩
         replace H:(tollbarref01_Join.l1 k2 l1 y492 (wrap64 (x7_2 + 1)))=some r:=by first|(rw [hy492];with_reducible exact H)|(have H2_:=(Option.bind_some _ _).symm.trans H;rw [hy492];with_reducible exact H2_)|(have H2_:=(Option.bind_some _ _).symm.trans H;with_reducible exact H2_)|with_reducible exact H|(rw [hy492];exact H)|exact H
         have Ny492:=Aside0.mk hy492
         clear hy492
         have H' := Aside0.mk H
         clear H
         have p491:0 ≤ (x7_2:Int):=of_decide_eq_true (by first|(with_reducible assumption)|assumption)
         have q491:x7_2 < (l1.length:Int):=of_decide_eq_true (by first|(with_reducible assumption)|assumption)
         obtain ⟨ad491,e491,hx491_0⟩:=Kd.at_int HR1.out x7_2 p491 q491
         cases e491
         replace hx491_0:=(HB.out.cell (World.block_lt_of_cell? w _ hx491_0)).trans hx491_0
         replace p491:=eq_true p491
         replace q491:=eq_true q491
         go_wp2_with (first|((with_reducible refine gate_builtin (b:=.append) (xs:=#[.tmp 28,.tmp 33]) rfl ?_);at_builtin;refine Kd.R_append (Kd.int .u8) (w0:=w) w.heap.size rfl (.tmp 28) (.tmp 33) 25 5 (.int .u8 0) 1 rfl Tryd.underlying25 info5 rfl (by decide) (by omega) u5 x5_2 (rd l1 x7_2) [.int .u8 (rd l1 x7_2)] (fun _=>True) (fun _=>False) rfl rfl ?aP (fun _ hk=>hk.elim) ?aF ?aO ?aB ?aS ?aL ?_;(case aP=>exact rfl);(case aB=>exact (by repeat (first|(with_reducible first|exact HB.out|apply below_alloc|apply pw_below_drewN|apply below_drew1)|exact HB.out)));(case aF=>exact (fun _ _=>trivial));(case aO=>exact (by (with_reducible repeat (first|apply Kd.R_alloc|apply Kd.R_drewN|apply Kd.R_drew));exact HO_5.out));(case aS=>exact (below_size (by repeat (first|(with_reducible first|exact HB.out|apply below_alloc|apply pw_below_drewN|apply below_drew1)|exact HB.out))));(case aL=>have:=LMc11.out;omega);intro v493 w12 ho hb hg hat;rw [← Ny492.out] at ho;have n0_:=Aside0.mk (hb);have n1_:=Aside0.mk (ho);clear HB;clear HO_5;have HB:=n0_;have HO494:=n1_;clear n0_ n1_;clear ho hb hg hat))
         go_roundg k2
         case measure=>have:=HK1.out;have:=HK2.out;omega
         case rel=>exact ⟨(y492),(wrap64 (x7_2 + 1)),(by first|rfl|(simp;done)|(simp [*];done)),H',⟨by have:=HK1.out;have:=HK2.out;omega⟩,⟨by (with_reducible repeat (first|apply Kd.R_alloc|apply Kd.R_drewN|apply Kd.R_drew));exact HO494.out⟩,⟨by repeat (first|(with_reducible first|exact HB.out|apply below_alloc|apply pw_below_drewN|apply below_drew1)|exact HB.out)⟩⟩
        ·rw [if_neg c11] at H
         exact absurd H (by simp)
       ·rw [if_neg c10] at H
        exact absurd H (by simp)
      ·rw [if_neg c9] at H
       have c9b0:decide (x7_2 < (l1.length:Int))=false:=decide_eq_false c9
       clear c9
       obtain rfl:=Option.some.inj H
       go_wp2
       go_ret
       exact ⟨_,by first|rfl|(simp [errW_none,errW_some] <;> rfl)|(simp [*,errW_none,errW_some] <;> rfl),by (with_reducible repeat (first|apply Kd.R_alloc|apply Kd.R_drewN|apply Kd.R_drew));exact HO_5.out,by repeat (first|(with_reducible first|exact HB.out|apply below_alloc|apply pw_below_drewN|apply below_drew1)|exact HB.out)⟩
mutual
def tollbarref02_Text.l0:Nat → Int → ByteArray → Option (ByteArray)
 | 0,_,_=>none
 | k + 1,x0,x3=>if x3.toList=([]:List UInt8) then ((some (([(wrap64 (48 + (Int.tmod x0 10))) % 256]:List Int):List Int)).bind fun y505=>(if (strOfNums y505).size + x3.size ≤ 9223372036854775807 then (tollbarref02_Text.l0 k (wrap64 (Int.tdiv x0 10)) ((strOfNums y505) ++ x3)) else (none))) else (if x0 > 0 then ((some (([(wrap64 (48 + (Int.tmod x0 10))) % 256]:List Int):List Int)).bind fun y508=>(if (strOfNums y508).size + x3.size ≤ 9223372036854775807 then (tollbarref02_Text.l0 k (wrap64 (Int.tdiv x0 10)) ((strOfNums y508) ++ x3)) else (none))) else (some x3))
def tollbarref02_Text.f:Nat → Int → Option (ByteArray)
 | 0,_=>none
 | k + 1,a0=>if a0=(-9223372036854775808) then (some (⟨#[45,57,50,50,51,51,55,50,48,51,54,56,53,52,55,55,53,56,48,56]⟩:ByteArray)) else (if a0 < 0 then ((tollbarref02_Text.f k (wrap64 (-a0))).bind fun t504=>(if 1 + t504.size ≤ 9223372036854775807 then (some ((⟨#[45]⟩:ByteArray) ++ t504)) else (none))) else (tollbarref02_Text.l0 k a0 (⟨#[]⟩:ByteArray)))
end
set_option maxHeartbeats 8000000 in
set_option maxRecDepth 100000 in
theorem tollbarref02_Text.calls (k:Nat) : ∀ (a0:Int) (r:ByteArray) (w:World) (h:tollbarref02_Text.f k a0=some r),
  Calls Tryd.prog 68 #[.int .i64 a0] w fun e w' => e = .returned (.string r)∧Below w.heap.size w w' := by
 induction k using Nat.strongRecOn with
 | _ k ih =>
 intro a0 r w h
 cases k with
 | zero=>exact absurd h (by simp [tollbarref02_Text.f])
 | succ k =>
 simp only [tollbarref02_Text.f] at h
 have HB:=Aside0.mk (Below.refl w.heap.size w)
 have H:(if a0=(-9223372036854775808) then (some (⟨#[45,57,50,50,51,51,55,50,48,51,54,56,53,52,55,55,53,56,48,56]⟩:ByteArray)) else (if a0 < 0 then ((tollbarref02_Text.f k (wrap64 (-a0))).bind fun t504=>(if 1 + t504.size ≤ 9223372036854775807 then (some ((⟨#[45]⟩:ByteArray) ++ t504)) else (none))) else (tollbarref02_Text.l0 k a0 (⟨#[]⟩:ByteArray))))=some r:=h
 clear h
 by_cases c2:a0=(-9223372036854775808)
 ·rw [if_pos c2] at H
  have c2b0:(a0 == (-9223372036854775808))=true:=beq_iff_eq.mpr c2
  have c2b1:(a0 != (-9223372036854775808))=false:=bne_eq_false_iff_eq.mpr c2
  clear c2
  obtain rfl:=Option.some.inj H
  go_enter Tryd.func68,Tryd.ntmps68
  go_wp2
  go_ret
  exact ⟨by first|rfl|(simp [errW_none,errW_some] <;> rfl)|(simp [*,errW_none,errW_some] <;> rfl),by repeat (first|(with_reducible first|exact HB.out|apply below_alloc|apply pw_below_drewN|apply below_drew1)|exact HB.out)⟩
 ·rw [if_neg c2] at H
  have c2b0:(a0 == (-9223372036854775808))=false:=beq_eq_false_iff_ne.mpr c2
  have c2b1:(a0 != (-9223372036854775808))=true:=bne_iff_ne.mpr c2
  by_cases c3:a0 < 0
  ·rw [if_pos c3] at H
   have c3b0:decide (a0 < 0)=true:=decide_eq_true c3
   clear c3
   replace H:=Option.bind_eq_some_iff.mp H
   obtain ⟨t504,A40,H⟩:=H
   replace H:(if 1 + t504.size ≤ 9223372036854775807 then (some ((⟨#[45]⟩:ByteArray) ++ t504)) else (none))=some r:=H
   have A4:=Aside0.mk A40
   clear A40
   by_cases c5:1 + t504.size ≤ 9223372036854775807
   ·rw [if_pos c5] at H
    have c5b0:=eq_true c5
    have c5b1:decide (1 + t504.size ≤ 9223372036854775807)=true:=decide_eq_true c5
    try have c5b2:(9223372036854775807 < 1 + t504.size)=False:=eq_false (Nat.not_lt.2 c5)
    obtain rfl:=Option.some.inj H
    go_enter Tryd.func68,Tryd.ntmps68
    go_wp2_with (first|((with_reducible refine gate_callee (f:=68) rfl ?_);refine goesL_ (some 10) rfl rfl Tryd.func68 (by kernel_rfl) rfl #[.int .i64 (wrap64 (-a0))] rfl (by (try simp only [List.map_toArray,List.map_cons,List.map_nil]);first|done|rfl|(simp only [List.length_drop,List.length_take];rfl)) ?_;(with_reducible refine (ih k (by omega) (wrap64 (-a0)) t504 _ A4.out).mono ?_);rintro e w6 ⟨rfl,hb⟩;(try clear A4);refine ⟨_,rfl,?_⟩;have n0_:=Aside0.mk (below_step (by repeat (first|(with_reducible first|exact HB.out|apply below_alloc|apply pw_below_drewN|apply below_drew1)|exact HB.out)) hb);clear HB;have HB:=n0_;clear n0_;(try clear hb);(try clear hb2);(try clear hk);(try clear hi)))
    go_ret
    exact ⟨by first|rfl|(simp [errW_none,errW_some] <;> rfl)|(simp [*,errW_none,errW_some] <;> rfl),by repeat (first|(with_reducible first|exact HB.out|apply below_alloc|apply pw_below_drewN|apply below_drew1)|exact HB.out)⟩
   ·rw [if_neg c5] at H
    exact absurd H (by simp)
  ·rw [if_neg c3] at H
   have c3b0:decide (a0 < 0)=false:=decide_eq_false c3
   clear c3
   have H' := Aside0.mk H
   clear H
   go_enter Tryd.func68,Tryd.ntmps68
   go_wp2
   go_loopg [0,3] k (fun kq v0 v3 w' => ∃ (x0_1:Int) (x3_1:ByteArray),v0 = .int .i64 x0_1∧v3 = .string x3_1∧Aside0 (tollbarref02_Text.l0 kq x0_1 x3_1=some r)∧Aside0 (kq ≤ k)∧Aside0 (Below w.heap.size w w'))
   case atStart=>exact ⟨(a0),((⟨#[]⟩:ByteArray)),(by first|rfl|(simp;done)|(simp [*];done)),(by first|rfl|(simp;done)|(simp [*];done)),H',⟨Nat.le_refl _⟩,⟨by repeat (first|(with_reducible first|exact HB.out|apply below_alloc|apply pw_below_drewN|apply below_drew1)|exact HB.out)⟩⟩
   case round =>
    clear H'
    try clear c2
    try clear c2b0
    try clear c2b1
    try clear p2
    try clear c3
    try clear c3b0
    try clear c5
    try clear c5b0
    try clear c5b1
    try clear c5b2
    try clear c6
    try clear p6
    obtain ⟨x0_1,x3_1,rfl,rfl,HA,HK1,HB⟩:=hrel
    cases gk with
    | zero=>exact absurd HA.out (by simp [tollbarref02_Text.l0])
    | succ k1 =>
     have H:=HA.out
     clear HA
     simp only [tollbarref02_Text.l0] at H
     by_cases c7:x3_1.toList=([]:List UInt8)
     ·rw [if_pos c7] at H
      have c7b0:(x3_1.toList == ([]:List UInt8))=true:=beq_iff_eq.mpr c7
      have c7b1:(x3_1.toList != ([]:List UInt8))=false:=bne_eq_false_iff_eq.mpr c7
      clear c7
      obtain ⟨y505,hy505⟩ : ∃ y_:List Int,y_=(([(wrap64 (48 + (Int.tmod x0_1 10))) % 256]:List Int)):=⟨_,rfl⟩
      replace H:(if (strOfNums y505).size + x3_1.size ≤ 9223372036854775807 then (tollbarref02_Text.l0 k1 (wrap64 (Int.tdiv x0_1 10)) ((strOfNums y505) ++ x3_1)) else (none))=some r:=by first|(rw [hy505];with_reducible exact H)|(have H2_:=(Option.bind_some _ _).symm.trans H;rw [hy505];with_reducible exact H2_)|(have H2_:=(Option.bind_some _ _).symm.trans H;with_reducible exact H2_)|with_reducible exact H|(rw [hy505];exact H)|exact H
      have Ny505:=Aside0.mk hy505
      clear hy505
      by_cases c8:(strOfNums y505).size + x3_1.size ≤ 9223372036854775807
      ·rw [if_pos c8] at H
       have c8b0:=eq_true c8
       have c8b1:decide ((strOfNums y505).size + x3_1.size ≤ 9223372036854775807)=true:=decide_eq_true c8
       try have c8b2:(9223372036854775807 < (strOfNums y505).size + x3_1.size)=False:=eq_false (Nat.not_lt.2 c8)
       have H' := Aside0.mk H
       clear H
       go_wp2_with (first|((with_reducible refine gate_dst (N:=22) rfl ?_);refine Kd.R_lit (Kd.int .u8) _ 5 ?hg (N:=22) ?hd (xs:=([(wrap64 (48 + (Int.tmod x0_1 10))) % 256]:List Int)) (inner:=[.int .u8 ((wrap64 (48 + (Int.tmod x0_1 10))) % 256)]) (ok:=fun _=>True) (okp:=fun _=>True) ?hr ?hp (fun _ hk=>hk) trivial (Below.refl _ _) (Nat.le_refl _) (by simp) ?_;(case hd=>rfl);(case hg=>rfl);(case hr=>first|(go_simp;done)|(go_simp;rfl));(case hp=>exact (Reps.one (show Kd.M (Kd.int .u8) _ _ _ ((wrap64 (48 + (Int.tmod x0_1 10))) % 256) [.int .u8 ((wrap64 (48 + (Int.tmod x0_1 10))) % 256)] from rfl) (Reps.none _ _)));intro v506 w9 ho10 hb hg_ hnew_;clear hg_ hnew_;(first|rw [← Ny505.out] at ho10|(simp only [Int.reduceToNat] at ho10;rw [← Ny505.out] at ho10));have n0_:=Aside0.mk (Kd.R_lower ho10 (below_size (by repeat (first|(with_reducible first|exact HB.out|apply below_alloc|apply pw_below_drewN|apply below_drew1)|exact HB.out))));have n1_:=Aside0.mk (below_step (by repeat (first|(with_reducible first|exact HB.out|apply below_alloc|apply pw_below_drewN|apply below_drew1)|exact HB.out)) hb);clear HB;have HO507:=n0_;have HB:=n1_;clear n0_ n1_;clear hb ho10;have hcv11:=own_string (P:=Tryd.prog) Tryd.underlying25 Tryd.underlying5 Tryd.underlying9 (Kd.own_of_R HO507.out)))
       go_roundg k1
       case measure=>have:=HK1.out;omega
       case rel=>exact ⟨(wrap64 (Int.tdiv x0_1 10)),((strOfNums y505) ++ x3_1),(by first|rfl|(simp;done)|(simp [*];done)),(by first|rfl|(simp;done)|(simp [*];done)),H',⟨by have:=HK1.out;omega⟩,⟨by repeat (first|(with_reducible first|exact HB.out|apply below_alloc|apply pw_below_drewN|apply below_drew1)|exact HB.out)⟩⟩
      ·rw [if_neg c8] at H
       exact absurd H (by simp)
     ·rw [if_neg c7] at H
      have c7b0:(x3_1.toList == ([]:List UInt8))=false:=beq_eq_false_iff_ne.mpr c7
      have c7b1:(x3_1.toList != ([]:List UInt8))=true:=bne_iff_ne.mpr c7
      by_cases c12:x0_1 > 0
      ·rw [if_pos c12] at H
       have c12b0:decide (0 < x0_1)=true:=decide_eq_true c12
       clear c12
       obtain ⟨y508,hy508⟩ : ∃ y_:List Int,y_=(([(wrap64 (48 + (Int.tmod x0_1 10))) % 256]:List Int)):=⟨_,rfl⟩
       replace H:(if (strOfNums y508).size + x3_1.size ≤ 9223372036854775807 then (tollbarref02_Text.l0 k1 (wrap64 (Int.tdiv x0_1 10)) ((strOfNums y508) ++ x3_1)) else (none))=some r:=by first|(rw [hy508];with_reducible exact H)|(have H2_:=(Option.bind_some _ _).symm.trans H;rw [hy508];with_reducible exact H2_)|(have H2_:=(Option.bind_some _ _).symm.trans H;with_reducible exact H2_)|with_reducible exact H|(rw [hy508];exact H)|exact H
       have Ny508:=Aside0.mk hy508
       clear hy508
       by_cases c13:(strOfNums y508).size + x3_1.size ≤ 9223372036854775807
       ·rw [if_pos c13] at H
        have c13b0:=eq_true c13
        have c13b1:decide ((strOfNums y508).size + x3_1.size ≤ 9223372036854775807)=true:=decide_eq_true c13
        try have c13b2:(9223372036854775807 < (strOfNums y508).size + x3_1.size)=False:=eq_false (Nat.not_lt.2 c13)
        have H' := Aside0.mk H
        clear H
        go_wp2_with (first|((with_reducible refine gate_dst (N:=22) rfl ?_);refine Kd.R_lit (Kd.int .u8) _ 5 ?hg (N:=22) ?hd (xs:=([(wrap64 (48 + (Int.tmod x0_1 10))) % 256]:List Int)) (inner:=[.int .u8 ((wrap64 (48 + (Int.tmod x0_1 10))) % 256)]) (ok:=fun _=>True) (okp:=fun _=>True) ?hr ?hp (fun _ hk=>hk) trivial (Below.refl _ _) (Nat.le_refl _) (by simp) ?_;(case hd=>rfl);(case hg=>rfl);(case hr=>first|(go_simp;done)|(go_simp;rfl));(case hp=>exact (Reps.one (show Kd.M (Kd.int .u8) _ _ _ ((wrap64 (48 + (Int.tmod x0_1 10))) % 256) [.int .u8 ((wrap64 (48 + (Int.tmod x0_1 10))) % 256)] from rfl) (Reps.none _ _)));intro v509 w14 ho15 hb hg_ hnew_;clear hg_ hnew_;(first|rw [← Ny508.out] at ho15|(simp only [Int.reduceToNat] at ho15;rw [← Ny508.out] at ho15));have n0_:=Aside0.mk (Kd.R_lower ho15 (below_size (by repeat (first|(with_reducible first|exact HB.out|apply below_alloc|apply pw_below_drewN|apply below_drew1)|exact HB.out))));have n1_:=Aside0.mk (below_step (by repeat (first|(with_reducible first|exact HB.out|apply below_alloc|apply pw_below_drewN|apply below_drew1)|exact HB.out)) hb);clear HB;have HO510:=n0_;have HB:=n1_;clear n0_ n1_;clear hb ho15;have hcv16:=own_string (P:=Tryd.prog) Tryd.underlying25 Tryd.underlying5 Tryd.underlying9 (Kd.own_of_R HO510.out)))
        go_roundg k1
        case measure=>have:=HK1.out;omega
        case rel=>exact ⟨(wrap64 (Int.tdiv x0_1 10)),((strOfNums y508) ++ x3_1),(by first|rfl|(simp;done)|(simp [*];done)),(by first|rfl|(simp;done)|(simp [*];done)),H',⟨by have:=HK1.out;omega⟩,⟨by repeat (first|(with_reducible first|exact HB.out|apply below_alloc|apply pw_below_drewN|apply below_drew1)|exact HB.out)⟩⟩
       ·rw [if_neg c13] at H
        exact absurd H (by simp)
      ·rw [if_neg c12] at H
       have c12b0:decide (0 < x0_1)=false:=decide_eq_false c12
       clear c12
       obtain rfl:=Option.some.inj H
       go_wp2
       go_ret
       exact ⟨by first|rfl|(simp [errW_none,errW_some] <;> rfl)|(simp [*,errW_none,errW_some] <;> rfl),by repeat (first|(with_reducible first|exact HB.out|apply below_alloc|apply pw_below_drewN|apply below_drew1)|exact HB.out)⟩
def tollbarref12_length.f (k:Nat) (a0:Int):Option (ByteArray × ByteArray):=(tollbarref02_Text.f k a0).bind fun t512=>(some ((⟨#[67,111,110,116,101,110,116,45,76,101,110,103,116,104]⟩:ByteArray),t512))
set_option maxHeartbeats 8000000 in
set_option maxRecDepth 100000 in
theorem tollbarref12_length.calls (k:Nat) (a0:Int) (r1:ByteArray) (r2:ByteArray) (w:World) (h:tollbarref12_length.f k a0=some (r1,r2)) :
  Calls Tryd.prog 42 #[.int .i64 a0] w fun e w' => e = .returned (.agg #[.string r1,.string r2])∧Below w.heap.size w w' := by
 have hu41:=Tryd.underlying41
 have HB:=Aside0.mk (Below.refl w.heap.size w)
 have H:((tollbarref02_Text.f k a0).bind fun t512=>(some ((⟨#[67,111,110,116,101,110,116,45,76,101,110,103,116,104]⟩:ByteArray),t512)))=some (r1,r2):=h
 clear h
 replace H:=Option.bind_eq_some_iff.mp H
 obtain ⟨t512,A20,H⟩:=H
 replace H:(some ((⟨#[67,111,110,116,101,110,116,45,76,101,110,103,116,104]⟩:ByteArray),t512))=some (r1,r2):=H
 have A2:=Aside0.mk A20
 clear A20
 simp only [Option.some.injEq,Prod.mk.injEq] at H
 obtain ⟨rfl,rfl⟩:=H
 go_enter Tryd.func42,Tryd.ntmps42
 go_wp2_with (first|((with_reducible refine gate_dst (N:=2) rfl ?_);refine box_event ?hg (N:=2) ?hd (cs:=#[.string (⟨#[]⟩:ByteArray),.string (⟨#[]⟩:ByteArray)]) (t:=41) ?hr ?_;(case hd=>rfl);(case hg=>rfl);(case hr=>first|(go_simp;done)|(go_simp;rfl));intro gb511 hg w3 hbox hb;have n0_:=Aside0.mk (below_step (by repeat (first|(with_reducible first|exact HB.out|apply below_alloc|apply pw_below_drewN|apply below_drew1)|exact HB.out)) hb);have n1_:=Aside0.mk (hbox);have n2_:=Aside0.mk ((by rw [hg];exact (below_size (by repeat (first|(with_reducible first|exact HB.out|apply below_alloc|apply pw_below_drewN|apply below_drew1)|exact HB.out))):w.heap.size ≤ gb511));have n3_:=Aside0.mk ((by rw [hg];exact (below_size (by repeat (first|(with_reducible first|exact HB.out|apply below_alloc|apply pw_below_drewN|apply below_drew1)|exact HB.out))):w.heap.size ≤ gb511));clear HB;have HB:=n0_;have BK511:=n1_;have GW511:=n2_;have GE511:=n3_;clear n0_ n1_ n2_ n3_;clear hb hbox hg)|((with_reducible refine gate_callee (f:=68) rfl ?_);refine goesL_ (some 4) rfl rfl Tryd.func68 (by kernel_rfl) rfl #[.int .i64 a0] rfl (by (try simp only [List.map_toArray,List.map_cons,List.map_nil]);first|done|rfl|(simp only [List.length_drop,List.length_take];rfl)) ?_;(with_reducible refine (tollbarref02_Text.calls k a0 t512 _ A2.out).mono ?_);rintro e w4 ⟨rfl,hb⟩;(try clear A2);refine ⟨_,rfl,?_⟩;have n0_:=Aside0.mk (blk_below (g:=gb511) (o:=.cells #[.string (⟨#[]⟩:ByteArray),.string (⟨#[]⟩:ByteArray)] 41 (0,0)) (by (with_reducible repeat (first|refine blk_drewN ?_ _|refine blk_drew ?_|refine blk_alloc ?_ _));exact BK511.out) hb);have n1_:=Aside0.mk (below_step (by repeat (first|(with_reducible first|exact HB.out|apply below_alloc|apply pw_below_drewN|apply below_drew1|refine below_set ?_ GE511.out)|exact HB.out)) hb);clear BK511;clear HB;have BK511:=n0_;have HB:=n1_;clear n0_ n1_;(try clear hb);(try clear hb2);(try clear hk);(try clear hi);have hcz5_0:w4.cell? ⟨gb511,0,none⟩=some (.string (⟨#[]⟩:ByteArray)):=(blk_cell BK511.out 0).trans rfl;have hcz5_1:w4.cell? ⟨gb511,1,none⟩=some (.string (⟨#[]⟩:ByteArray)):=(blk_cell BK511.out 1).trans rfl;have hfz5_0:=blk_frozen BK511.out 0;have hfz5_1:=blk_frozen BK511.out 1))
 refine bodyPost_ret (results_cell_row rfl _ _ gb511 41 #[.string (⟨#[67,111,110,116,101,110,116,45,76,101,110,103,116,104]⟩:ByteArray),.string t512] (0,0) _ rfl (by (with_reducible repeat (first|refine blk_drewN ?_ _|refine blk_drew ?_|refine blk_alloc ?_ _));refine blk_put (cs:=#[.string (⟨#[67,111,110,116,101,110,116,45,76,101,110,103,116,104]⟩:ByteArray),.string (⟨#[]⟩:ByteArray)]) ?_ 1 _ rfl;(with_reducible repeat (first|refine blk_drewN ?_ _|refine blk_drew ?_|refine blk_alloc ?_ _));refine blk_put (cs:=#[.string (⟨#[]⟩:ByteArray),.string (⟨#[]⟩:ByteArray)]) ?_ 0 _ rfl;(with_reducible repeat (first|refine blk_drewN ?_ _|refine blk_drew ?_|refine blk_alloc ?_ _));exact BK511.out) Tryd.underlying41 rfl (by kernel_rfl)) rfl ?_
 exact ⟨by first|rfl|(simp [errW_none,errW_some] <;> rfl)|(simp [*,errW_none,errW_some] <;> rfl),by repeat (first|(with_reducible first|exact HB.out|apply below_alloc|apply pw_below_drewN|apply below_drew1|refine below_set ?_ GE511.out)|exact HB.out)⟩
def tollbarref12_onward.l0:Nat → List (S41) → List (S41) → Int → Option ((List (S41)))
 | 0,_,_,_=>none
 | k + 1,x0,x3,x4=>if x4 < (x0.length:Int) then (if 0 ≤ x4 then ((tollbarref12_Hop.f k x0 ((rd_T41 x0 x4).f0)).bind fun t499=>(if t499=true then (tollbarref12_onward.l0 k x0 x3 (wrap64 (x4 + 1))) else (if x3.length < 4398046511104 then (tollbarref12_onward.l0 k x0 (x3 ++ [(⟨(rd_T41 x0 x4).f0,(rd_T41 x0 x4).f1⟩:S41)]) (wrap64 (x4 + 1))) else (none)))) else (none)) else (some x3)
def tollbarref12_onward.f (k:Nat) (l0:List (S41)):Option ((List (S41))):=tollbarref12_onward.l0 k l0 (([]:List (S41))) 0
set_option maxHeartbeats 8000000 in
set_option maxRecDepth 100000 in
theorem tollbarref12_onward.calls (k:Nat) (A0:Option Addr) (c0:Nat) (l0:List (S41)) (r:List (S41)) (w:World) (hr0:Kd.C k41 w A0 l0.length l0) (hc0:l0.length ≤ c0) (h:tollbarref12_onward.f k l0=some r) :
  Calls Tryd.prog 41 #[.slice A0 l0.length c0] w fun e w' => ∃ v0_:Value,e = .returned (v0_)∧Kd.R k41 41 w' w.heap.size (fun _=>True) v0_ r∧Below w.heap.size w w' := by
 have hu41:=Tryd.underlying41
 have HR0:=Aside0.mk hr0
 have HC0:=Aside0.mk hc0
 clear hr0 hc0
 have HB:=Aside0.mk (Below.refl w.heap.size w)
 have H:(tollbarref12_onward.l0 k l0 (([]:List (S41))) 0)=some r:=h
 clear h
 obtain ⟨y495,hy495⟩ : ∃ y_:List (S41),y_=(([]:List (S41))):=⟨_,rfl⟩
 replace H:(tollbarref12_onward.l0 k l0 y495 0)=some r:=by first|(rw [hy495];with_reducible exact H)|(have H2_:=(Option.bind_some _ _).symm.trans H;rw [hy495];with_reducible exact H2_)|(have H2_:=(Option.bind_some _ _).symm.trans H;with_reducible exact H2_)|with_reducible exact H|(rw [hy495];exact H)|exact H
 have Ny495:=Aside0.mk hy495
 clear hy495
 have H' := Aside0.mk H
 clear H
 go_enter Tryd.func41,Tryd.ntmps41
 go_wp2_with (first|((with_reducible refine gate_dst (N:=5) rfl ?_);refine Kd.R_lit k41 _ 41 ?hg (N:=5) ?hd (xs:=([]:List (S41))) (inner:=[]) (ok:=fun _=>True) (okp:=fun _=>True) ?hr ?hp (fun _ hk=>hk) trivial (Below.refl _ _) (Nat.le_refl _) (by simp) ?_;(case hd=>rfl);(case hg=>rfl);(case hr=>first|(go_simp;done)|(go_simp;rfl));(case hp=>exact (Reps.none _ _));intro v496 w2 ho3 hb hg_ hnew_;clear hg_ hnew_;(first|rw [← Ny495.out] at ho3|(simp only [Int.reduceToNat] at ho3;rw [← Ny495.out] at ho3));have n0_:=Aside0.mk (Kd.R_lower ho3 (below_size (by repeat (first|(with_reducible first|exact HB.out|apply below_alloc|apply pw_below_drewN|apply below_drew1)|exact HB.out))));have n1_:=Aside0.mk (below_step (by repeat (first|(with_reducible first|exact HB.out|apply below_alloc|apply pw_below_drewN|apply below_drew1)|exact HB.out)) hb);clear HB;have HO497:=n0_;have HB:=n1_;clear n0_ n1_;clear hb ho3))
 go_loopg [3,4] k (fun kq v3 v4 w' => ∃ (x3_1:List (S41)) (x4_1:Int),v4 = .int .i64 x4_1∧Aside0 (tollbarref12_onward.l0 kq l0 x3_1 x4_1=some r)∧Aside0 (kq ≤ k)∧Aside0 (Kd.R k41 41 w' w.heap.size (fun _=>True) v3 x3_1)∧Aside0 (Below w.heap.size w w'))
 case atStart=>exact ⟨(y495),(0),(by first|rfl|(simp;done)|(simp [*];done)),H',⟨Nat.le_refl _⟩,⟨by (with_reducible repeat (first|apply Kd.R_alloc|apply Kd.R_drewN|apply Kd.R_drew));exact HO497.out⟩,⟨by repeat (first|(with_reducible first|exact HB.out|apply below_alloc|apply pw_below_drewN|apply below_drew1)|exact HB.out)⟩⟩
 case round =>
  clear H'
  try clear p2
  obtain ⟨x3_1,x4_1,rfl,HA,HK1,HO_3,HB⟩:=hrel
  cases gk with
  | zero=>exact absurd HA.out (by simp [tollbarref12_onward.l0])
  | succ k1 =>
   have H:=HA.out
   clear HA
   simp only [tollbarref12_onward.l0] at H
   by_cases c4:x4_1 < (l0.length:Int)
   ·rw [if_pos c4] at H
    have c4b0:decide (x4_1 < (l0.length:Int))=true:=decide_eq_true c4
    clear c4
    by_cases c5:0 ≤ x4_1
    ·rw [if_pos c5] at H
     have c5b0:decide (0 ≤ x4_1)=true:=decide_eq_true c5
     clear c5
     replace H:=Option.bind_eq_some_iff.mp H
     obtain ⟨t499,A60,H⟩:=H
     replace H:(if t499=true then (tollbarref12_onward.l0 k1 l0 x3_1 (wrap64 (x4_1 + 1))) else (if x3_1.length < 4398046511104 then (tollbarref12_onward.l0 k1 l0 (x3_1 ++ [(⟨(rd_T41 l0 x4_1).f0,(rd_T41 l0 x4_1).f1⟩:S41)]) (wrap64 (x4_1 + 1))) else (none)))=some r:=H
     have A6:=Aside0.mk A60
     clear A60
     by_cases c7:t499=true
     ·subst c7
      have H1:(tollbarref12_onward.l0 k1 l0 x3_1 (wrap64 (x4_1 + 1)))=some r:=by rw [if_pos rfl] at H;exact H
      clear H
      have H:=H1
      clear H1
      have H' := Aside0.mk H
      clear H
      have p498:0 ≤ (x4_1:Int):=of_decide_eq_true (by first|(with_reducible assumption)|assumption)
      have q498:x4_1 < (l0.length:Int):=of_decide_eq_true (by first|(with_reducible assumption)|assumption)
      obtain ⟨ad498,e498,hx498_0,hx498_1⟩:=at_T41 HR0.out x4_1 p498 q498
      cases e498
      replace hx498_0:=(HB.out.cell (World.block_lt_of_cell? w _ hx498_0)).trans hx498_0
      replace hx498_1:=(HB.out.cell (World.block_lt_of_cell? w _ hx498_1)).trans hx498_1
      replace p498:=eq_true p498
      replace q498:=eq_true q498
      go_wp2_with (first|((with_reducible refine gate_callee (f:=13) rfl ?_);refine goesL_ (some 18) rfl rfl Tryd.func13 (by kernel_rfl) rfl #[.slice (some ad498) l0.length c0,.string ((rd_T41 l0 x4_1).f0)] rfl (by (try simp only [List.map_toArray,List.map_cons,List.map_nil]);first|done|rfl|(simp only [List.length_drop,List.length_take];rfl)) ?_;(with_reducible refine (tollbarref12_Hop.calls k1 _ _ l0 ((rd_T41 l0 x4_1).f0) true _ ?side1 ?side2 A6.out).mono ?_);(case side1=>repeat (first|exact (Kd.C_below HR0.out HB.out)|(with_reducible refine Kd.C_alloc ?_ _)|(with_reducible refine Kd.C_drewN ?_ _)|(with_reducible refine Kd.C_drew ?_)));(case side2=>exact HC0.out);rintro e w8 ⟨rfl,hb⟩;(try clear A6);refine ⟨_,rfl,?_⟩;have n0_:=Aside0.mk (Kd.R_below (by (with_reducible repeat (first|apply Kd.R_alloc|apply Kd.R_drewN|apply Kd.R_drew));exact HO_3.out) hb);have n1_:=Aside0.mk (below_step (by repeat (first|(with_reducible first|exact HB.out|apply below_alloc|apply pw_below_drewN|apply below_drew1)|exact HB.out)) hb);clear HO_3;clear HB;have HO_3:=n0_;have HB:=n1_;clear n0_ n1_;(try clear hb);(try clear hb2);(try clear hk);(try clear hi)))
      go_roundg k1
      case measure=>have:=HK1.out;omega
      case rel=>exact ⟨(x3_1),(wrap64 (x4_1 + 1)),(by first|rfl|(simp;done)|(simp [*];done)),H',⟨by have:=HK1.out;omega⟩,⟨by (with_reducible repeat (first|apply Kd.R_alloc|apply Kd.R_drewN|apply Kd.R_drew));exact HO_3.out⟩,⟨by repeat (first|(with_reducible first|exact HB.out|apply below_alloc|apply pw_below_drewN|apply below_drew1)|exact HB.out)⟩⟩
     ·replace c7:=Bool.eq_false_iff.mpr c7
      subst c7
      have H1:(if x3_1.length < 4398046511104 then (tollbarref12_onward.l0 k1 l0 (x3_1 ++ [(⟨(rd_T41 l0 x4_1).f0,(rd_T41 l0 x4_1).f1⟩:S41)]) (wrap64 (x4_1 + 1))) else (none))=some r:=by rw [if_neg (show ¬ (false=true) by decide)] at H;exact H
      clear H
      have H:=H1
      clear H1
      by_cases c9:x3_1.length < 4398046511104
      ·rw [if_pos c9] at H
       have LMc9:=Aside0.mk c9
       clear c9
       obtain ⟨y501,hy501⟩ : ∃ y_:List (S41),y_=(x3_1 ++ [(⟨(rd_T41 l0 x4_1).f0,(rd_T41 l0 x4_1).f1⟩:S41)]):=⟨_,rfl⟩
       replace H:(tollbarref12_onward.l0 k1 l0 y501 (wrap64 (x4_1 + 1)))=some r:=by first|(rw [hy501];with_reducible exact H)|(have H2_:=(Option.bind_some _ _).symm.trans H;rw [hy501];with_reducible exact H2_)|(have H2_:=(Option.bind_some _ _).symm.trans H;with_reducible exact H2_)|with_reducible exact H|(rw [hy501];exact H)|exact H
       have Ny501:=Aside0.mk hy501
       clear hy501
       have H' := Aside0.mk H
       clear H
       have p498:0 ≤ (x4_1:Int):=of_decide_eq_true (by first|(with_reducible assumption)|assumption)
       have q498:x4_1 < (l0.length:Int):=of_decide_eq_true (by first|(with_reducible assumption)|assumption)
       obtain ⟨ad498,e498,hx498_0,hx498_1⟩:=at_T41 HR0.out x4_1 p498 q498
       cases e498
       replace hx498_0:=(HB.out.cell (World.block_lt_of_cell? w _ hx498_0)).trans hx498_0
       replace hx498_1:=(HB.out.cell (World.block_lt_of_cell? w _ hx498_1)).trans hx498_1
       replace p498:=eq_true p498
       replace q498:=eq_true q498
       go_wp2_with (first|((with_reducible refine gate_callee (f:=13) rfl ?_);refine goesL_ (some 18) rfl rfl Tryd.func13 (by kernel_rfl) rfl #[.slice (some ad498) l0.length c0,.string ((rd_T41 l0 x4_1).f0)] rfl (by (try simp only [List.map_toArray,List.map_cons,List.map_nil]);first|done|rfl|(simp only [List.length_drop,List.length_take];rfl)) ?_;(with_reducible refine (tollbarref12_Hop.calls k1 _ _ l0 ((rd_T41 l0 x4_1).f0) false _ ?side1 ?side2 A6.out).mono ?_);(case side1=>repeat (first|exact (Kd.C_below HR0.out HB.out)|(with_reducible refine Kd.C_alloc ?_ _)|(with_reducible refine Kd.C_drewN ?_ _)|(with_reducible refine Kd.C_drew ?_)));(case side2=>exact HC0.out);rintro e w10 ⟨rfl,hb⟩;(try clear A6);refine ⟨_,rfl,?_⟩;have n0_:=Aside0.mk (Kd.R_below (by (with_reducible repeat (first|apply Kd.R_alloc|apply Kd.R_drewN|apply Kd.R_drew));exact HO_3.out) hb);have n1_:=Aside0.mk (below_step (by repeat (first|(with_reducible first|exact HB.out|apply below_alloc|apply pw_below_drewN|apply below_drew1)|exact HB.out)) hb);clear HO_3;clear HB;have HO_3:=n0_;have HB:=n1_;clear n0_ n1_;(try clear hb);(try clear hb2);(try clear hk);(try clear hi);have p500:0 ≤ (x4_1:Int):=of_decide_eq_true (by first|(with_reducible assumption)|assumption);have q500:x4_1 < (l0.length:Int):=of_decide_eq_true (by first|(with_reducible assumption)|assumption);obtain ⟨ad500,e500,hx500_0,hx500_1⟩:=at_T41 HR0.out x4_1 p500 q500;obtain rfl:ad498=ad500:=(by injection e500);replace hx500_0:=(HB.out.cell (World.block_lt_of_cell? w _ hx500_0)).trans hx500_0;replace hx500_1:=(HB.out.cell (World.block_lt_of_cell? w _ hx500_1)).trans hx500_1;replace p500:=eq_true p500;replace q500:=eq_true q500)|((with_reducible refine gate_builtin (b:=.append) (xs:=#[.tmp 20,.tmp 25]) rfl ?_);at_builtin;refine Kd.R_append k41 (w0:=w) w.heap.size rfl (.tmp 20) (.tmp 25) 31 41 (.agg #[(.string ⟨#[]⟩),(.string ⟨#[]⟩)]) 32 rfl Tryd.underlying31 info41 rfl (by decide) (by omega) u3 x3_1 (⟨(rd_T41 l0 x4_1).f0,(rd_T41 l0 x4_1).f1⟩:S41) [.string ((rd_T41 l0 x4_1).f0),.string ((rd_T41 l0 x4_1).f1)] (fun _=>True) (fun _=>False) rfl rfl ?aP (fun _ hk=>hk.elim) ?aF ?aO ?aB ?aS ?aL ?_;(case aP=>exact k41_mkM _ _ _ (⟨(rd_T41 l0 x4_1).f0,(rd_T41 l0 x4_1).f1⟩:S41));(case aB=>exact (by repeat (first|(with_reducible first|exact HB.out|apply below_alloc|apply pw_below_drewN|apply below_drew1)|exact HB.out)));(case aF=>exact (fun _ _=>trivial));(case aO=>exact (by (with_reducible repeat (first|apply Kd.R_alloc|apply Kd.R_drewN|apply Kd.R_drew));exact HO_3.out));(case aS=>exact (below_size (by repeat (first|(with_reducible first|exact HB.out|apply below_alloc|apply pw_below_drewN|apply below_drew1)|exact HB.out))));(case aL=>have:=LMc9.out;omega);intro v502 w11 ho hb hg hat;rw [← Ny501.out] at ho;have n0_:=Aside0.mk (hb);have n1_:=Aside0.mk (ho);clear HB;clear HO_3;have HB:=n0_;have HO503:=n1_;clear n0_ n1_;clear ho hb hg hat))
       go_roundg k1
       case measure=>have:=HK1.out;omega
       case rel=>exact ⟨(y501),(wrap64 (x4_1 + 1)),(by first|rfl|(simp;done)|(simp [*];done)),H',⟨by have:=HK1.out;omega⟩,⟨by (with_reducible repeat (first|apply Kd.R_alloc|apply Kd.R_drewN|apply Kd.R_drew));exact HO503.out⟩,⟨by repeat (first|(with_reducible first|exact HB.out|apply below_alloc|apply pw_below_drewN|apply below_drew1)|exact HB.out)⟩⟩
      ·rw [if_neg c9] at H
       exact absurd H (by simp)
    ·rw [if_neg c5] at H
     exact absurd H (by simp)
   ·rw [if_neg c4] at H
    have c4b0:decide (x4_1 < (l0.length:Int))=false:=decide_eq_false c4
    clear c4
    obtain rfl:=Option.some.inj H
    go_wp2
    go_ret
    exact ⟨_,by first|rfl|(simp [errW_none,errW_some] <;> rfl)|(simp [*,errW_none,errW_some] <;> rfl),by (with_reducible repeat (first|apply Kd.R_alloc|apply Kd.R_drewN|apply Kd.R_drew));exact HO_3.out,by repeat (first|(with_reducible first|exact HB.out|apply below_alloc|apply pw_below_drewN|apply below_drew1)|exact HB.out)⟩
end Go.Proofs.YtfjeinnemimjoaaDoor.P
