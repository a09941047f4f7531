/- Each function below answers as its Lean twin says; plain lemmas; a row where its theorem stands. No further condition. (Laid by this repo's pack.py out of its texts and of the print's words.) -/
import Derived.Test.YtfjeinnemimjoaaGreatDoorZ82d83582
import Derived.Test.YtfjeinnemimjoaaGreatDoorZ07f8021a
namespace Go.Proofs.YtfjeinnemimjoaaGreatDoor.P
open Go.RowKit Go.Proofs.YtfjeinnemimjoaaGreatDoorW.PrintWords Go.Proofs.YtfjeinnemimjoaaGreatDoorW.PrintLast Go.Proofs.YtfjeinnemimjoaaGreatDoorW.PrintMore
attribute [local go_sem] max2_int min2_int max_two min_two max_three min_three max_four min_four
set_option linter.unusedVariables false
set_option linter.unusedSimpArgs false
mutual
def tollbarref02_Split.l0:Nat → ByteArray → List ByteArray → Int → Int → Option (List ByteArray)
 | 0,_,_,_,_=>none
 | k + 1,x0,x3,x4,x5=>if x5 ≤ (x0.size:Int) then (if x5=(x0.size:Int) then (tollbarref02_Split.j1 k x0 x3 x4 x5 true) else (if 0 ≤ x5 then (if x5 < (x0.size:Int) then (tollbarref02_Split.j1 k x0 x3 x4 x5 ((bt x0 x5) == 44)) else (none)) else (none))) else (some x3)
def tollbarref02_Split.j1:Nat → ByteArray → List ByteArray → Int → Int → Bool → Option (List ByteArray)
 | 0,_,_,_,_,_=>none
 | k + 1,x0,x3,x4,x5,x23=>if x23=true then (if 0 ≤ x4 then (if x4 ≤ x5 then (if x5 ≤ (x0.size:Int) then ((tollbarref02_Trim.f k (x0.extract (x4:Int).toNat (x5:Int).toNat)).bind fun t385=>(if t385.toList=([]:List UInt8) then (tollbarref02_Split.l0 k x0 x3 (wrap64 (x5 + 1)) (wrap64 (x5 + 1))) else (if x3.length < 8796093022208 then (tollbarref02_Split.l0 k x0 (x3 ++ [t385]) (wrap64 (x5 + 1)) (wrap64 (x5 + 1))) else (none)))) else (none)) else (none)) else (none)) else (tollbarref02_Split.l0 k x0 x3 x4 (wrap64 (x5 + 1)))
end
def tollbarref02_Split.f (k:Nat) (a0:ByteArray):Option (List ByteArray):=tollbarref02_Split.l0 k a0 (([]:List ByteArray)) 0 0
set_option maxHeartbeats 8000000 in
set_option maxRecDepth 100000 in
theorem tollbarref02_Split.calls (k:Nat) (a0:ByteArray) (r:List ByteArray) (w:World) (h:tollbarref02_Split.f k a0=some r) :
  Calls Tryz.prog 148 #[.string a0] w fun e w' => ∃ v0_:Value,e = .returned (v0_)∧Kd.R Kd.string 9 w' w.heap.size (fun _=>True) v0_ r∧Below w.heap.size w w' := by
 have HB:=Aside0.mk (Below.refl w.heap.size w)
 have H:(tollbarref02_Split.l0 k a0 (([]:List ByteArray)) 0 0)=some r:=h
 clear h
 obtain ⟨y382,hy382⟩ : ∃ y_:List ByteArray,y_=(([]:List ByteArray)):=⟨_,rfl⟩
 replace H:(tollbarref02_Split.l0 k a0 y382 0 0)=some r:=by first|(rw [hy382];with_reducible exact H)|(have H2_:=(Option.bind_some _ _).symm.trans H;rw [hy382];with_reducible exact H2_)|(have H2_:=(Option.bind_some _ _).symm.trans H;with_reducible exact H2_)|with_reducible exact H|(rw [hy382];exact H)|exact H
 have Ny382:=Aside0.mk hy382
 clear hy382
 have H' := Aside0.mk H
 clear H
 go_enter Tryz.func148,Tryz.ntmps148
 go_wp2_with (first|((with_reducible refine gate_dst (N:=7) rfl ?_);refine Kd.R_lit Kd.string _ 9 ?hg (N:=7) ?hd (xs:=([]:List ByteArray)) (inner:=[]) (ok:=fun _=>True) (okp:=fun _=>True) ?hr ?hp (fun _ hk=>hk) trivial (Below.refl _ _) (Nat.le_refl _) (by simp) ?_;(case hd=>rfl);(case hg=>rfl);(case hr=>first|(go_simp;done)|(go_simp;rfl));(case hp=>exact (Reps.none _ _));intro v383 w2 ho3 hb hg_ hnew_;clear hg_ hnew_;(first|rw [← Ny382.out] at ho3|(simp only [Int.reduceToNat] at ho3;rw [← Ny382.out] at ho3));have n0_:=Aside0.mk (Kd.R_lower ho3 (below_size (by repeat (first|(with_reducible first|exact HB.out|apply below_alloc|apply pw_below_drewN|apply below_drew1)|exact HB.out))));have n1_:=Aside0.mk (below_step (by repeat (first|(with_reducible first|exact HB.out|apply below_alloc|apply pw_below_drewN|apply below_drew1)|exact HB.out)) hb);clear HB;have HO384:=n0_;have HB:=n1_;clear n0_ n1_;clear hb ho3))
 go_loopg [3,4,5] k (fun kq v3 v4 v5 w' => ∃ (x3_1:List ByteArray) (x4_1:Int) (x5_1:Int),v4 = .int .i64 x4_1∧v5 = .int .i64 x5_1∧Aside0 (tollbarref02_Split.l0 kq a0 x3_1 x4_1 x5_1=some r)∧Aside0 (kq ≤ k)∧Aside0 (Kd.R Kd.string 9 w' w.heap.size (fun _=>True) v3 x3_1)∧Aside0 (Below w.heap.size w w'))
 case atStart=>exact ⟨(y382),(0),(0),(by first|rfl|(simp;done)|(simp [*];done)),(by first|rfl|(simp;done)|(simp [*];done)),H',⟨Nat.le_refl _⟩,⟨by (with_reducible repeat (first|apply Kd.R_alloc|apply Kd.R_drewN|apply Kd.R_drew));exact HO384.out⟩,⟨by repeat (first|(with_reducible first|exact HB.out|apply below_alloc|apply pw_below_drewN|apply below_drew1)|exact HB.out)⟩⟩
 case round =>
  clear H'
  try clear c1
  try clear p2
  obtain ⟨x3_1,x4_1,x5_1,rfl,rfl,HA,HK1,HO_3,HB⟩:=hrel
  cases gk with
  | zero=>exact absurd HA.out (by simp [tollbarref02_Split.l0])
  | succ k1 =>
   have H:=HA.out
   clear HA
   simp only [tollbarref02_Split.l0] at H
   by_cases c4:x5_1 ≤ (a0.size:Int)
   ·rw [if_pos c4] at H
    have c4b0:decide (x5_1 ≤ (a0.size:Int))=true:=decide_eq_true c4
    clear c4
    have HC5:=Aside0.mk H
    clear H
    go_upto_region 6 with (fail)
    go_cut [23] (fun v23 wc => ∃ (kq:Nat) (x23_4:Bool),v23 = .bool x23_4∧Aside0 (tollbarref02_Split.j1 kq a0 x3_1 x4_1 x5_1 x23_4=some r)∧Aside0 (kq ≤ k1)∧Aside0 (Kd.R Kd.string 9 wc w.heap.size (fun _=>True) u3 x3_1)∧Aside0 (Below w.heap.size w wc))
    case first =>
     have H:=HC5.out
     clear HC5
     by_cases c6:x5_1=(a0.size:Int)
     ·rw [if_pos c6] at H
      have c6b0:(x5_1 == (a0.size:Int))=true:=beq_iff_eq.mpr c6
      have c6b1:(x5_1 != (a0.size:Int))=false:=bne_eq_false_iff_eq.mpr c6
      clear c6
      (first|rw [c6b0]|(simp only [i64_w,i32_w];rw [c6b0])|rw [c6b1]|skip)
      have H' := Aside0.mk H
      clear H
      go_wp2
      go_meet
      case rel=>exact ⟨_,(true),(by first|rfl|(simp;done)|(simp [*];done)),H',⟨by have:=HK1.out;first|omega|exact Nat.le_refl _⟩,⟨by (with_reducible repeat (first|apply Kd.R_alloc|apply Kd.R_drewN|apply Kd.R_drew));exact HO_3.out⟩,⟨by repeat (first|(with_reducible first|exact HB.out|apply below_alloc|apply pw_below_drewN|apply below_drew1)|exact HB.out)⟩⟩
     ·rw [if_neg c6] at H
      have c6b0:(x5_1 == (a0.size:Int))=false:=beq_eq_false_iff_ne.mpr c6
      have c6b1:(x5_1 != (a0.size:Int))=true:=bne_iff_ne.mpr c6
      (first|rw [c6b0]|(simp only [i64_w,i32_w];rw [c6b0])|rw [c6b1]|skip)
      by_cases c7:0 ≤ x5_1
      ·rw [if_pos c7] at H
       have c7b0:decide (0 ≤ x5_1)=true:=decide_eq_true c7
       clear c7
       by_cases c8:x5_1 < (a0.size:Int)
       ·rw [if_pos c8] at H
        have c8b0:decide (x5_1 < (a0.size:Int))=true:=decide_eq_true c8
        clear c8
        have H' := Aside0.mk H
        clear H
        have p9:0 ≤ (x5_1:Int):=of_decide_eq_true (by first|(with_reducible assumption)|assumption)
        have q9:x5_1 < (a0.size:Int):=of_decide_eq_true (by first|(with_reducible assumption)|assumption)
        have hx9:=bt_at a0 x5_1
        replace p9:=eq_true p9
        replace q9:=eq_true q9
        go_wp2
        go_meet
        case rel=>exact ⟨_,(((bt a0 x5_1) == 44)),(by first|rfl|(simp;done)|(simp [*];done)),H',⟨by have:=HK1.out;first|omega|exact Nat.le_refl _⟩,⟨by (with_reducible repeat (first|apply Kd.R_alloc|apply Kd.R_drewN|apply Kd.R_drew));exact HO_3.out⟩,⟨by repeat (first|(with_reducible first|exact HB.out|apply below_alloc|apply pw_below_drewN|apply below_drew1)|exact HB.out)⟩⟩
       ·rw [if_neg c8] at H
        exact absurd H (by simp)
      ·rw [if_neg c7] at H
       exact absurd H (by simp)
    case rest =>
     clear HC5
     try clear c1
     try clear p2
     try clear c4
     try clear c4b0
     try clear c6
     try clear c6b0
     try clear c6b1
     try clear c7
     try clear c7b0
     try clear c8
     try clear c8b0
     try clear p9
     try clear q9
     try clear hx9
     try clear p2
     try clear p9
     try clear q9
     obtain ⟨kq,x23_4,rfl,HA,HJ4,HO_3,HB⟩:=hcut
     cases kq with
     | zero=>exact absurd HA.out (by simp [tollbarref02_Split.j1])
     | succ kj4 =>
      have H:=HA.out
      clear HA
      simp only [tollbarref02_Split.j1] at H
      by_cases c10:x23_4=true
      ·subst c10
       have H1:(if 0 ≤ x4_1 then (if x4_1 ≤ x5_1 then (if x5_1 ≤ (a0.size:Int) then ((tollbarref02_Trim.f kj4 (a0.extract (x4_1:Int).toNat (x5_1:Int).toNat)).bind fun t385=>(if t385.toList=([]:List UInt8) then (tollbarref02_Split.l0 kj4 a0 x3_1 (wrap64 (x5_1 + 1)) (wrap64 (x5_1 + 1))) else (if x3_1.length < 8796093022208 then (tollbarref02_Split.l0 kj4 a0 (x3_1 ++ [t385]) (wrap64 (x5_1 + 1)) (wrap64 (x5_1 + 1))) else (none)))) else (none)) else (none)) else (none))=some r:=by rw [if_pos rfl] at H;exact H
       clear H
       have H:=H1
       clear H1
       by_cases c11:0 ≤ x4_1
       ·rw [if_pos c11] at H
        have c11b0:=eq_true c11
        have c11b1:decide (0 ≤ x4_1)=true:=decide_eq_true c11
        clear c11
        by_cases c12:x4_1 ≤ x5_1
        ·rw [if_pos c12] at H
         have c12b0:=eq_true c12
         have c12b1:decide (x4_1 ≤ x5_1)=true:=decide_eq_true c12
         clear c12
         by_cases c13:x5_1 ≤ (a0.size:Int)
         ·rw [if_pos c13] at H
          have c13b0:=eq_true c13
          have c13b1:decide (x5_1 ≤ (a0.size:Int))=true:=decide_eq_true c13
          clear c13
          replace H:=Option.bind_eq_some_iff.mp H
          obtain ⟨t385,A140,H⟩:=H
          replace H:(if t385.toList=([]:List UInt8) then (tollbarref02_Split.l0 kj4 a0 x3_1 (wrap64 (x5_1 + 1)) (wrap64 (x5_1 + 1))) else (if x3_1.length < 8796093022208 then (tollbarref02_Split.l0 kj4 a0 (x3_1 ++ [t385]) (wrap64 (x5_1 + 1)) (wrap64 (x5_1 + 1))) else (none)))=some r:=H
          have A14:=Aside0.mk A140
          clear A140
          by_cases c15:t385.toList=([]:List UInt8)
          ·rw [if_pos c15] at H
           have c15b0:(t385.toList == ([]:List UInt8))=true:=beq_iff_eq.mpr c15
           have c15b1:(t385.toList != ([]:List UInt8))=false:=bne_eq_false_iff_eq.mpr c15
           clear c15
           have H' := Aside0.mk H
           clear H
           go_wp2_with (first|((with_reducible refine gate_callee (f:=32) rfl ?_);refine goesL_ (some 28) rfl rfl Tryz.func32 (by kernel_rfl) rfl #[.string (a0.extract (x4_1:Int).toNat (x5_1:Int).toNat)] rfl (by (try simp only [List.map_toArray,List.map_cons,List.map_nil]);first|done|rfl|(simp only [List.length_drop,List.length_take];rfl)) ?_;(with_reducible refine (tollbarref02_Trim.calls kj4 (a0.extract (x4_1:Int).toNat (x5_1:Int).toNat) t385 _ A14.out).mono ?_);rintro e w' ⟨rfl,⟨nd,rfl⟩⟩;(try clear A14);refine ⟨_,rfl,?_⟩))
           go_roundg kj4
           case measure=>have:=HK1.out;have:=HJ4.out;omega
           case rel=>exact ⟨(x3_1),(wrap64 (x5_1 + 1)),(wrap64 (x5_1 + 1)),(by first|rfl|(simp;done)|(simp [*];done)),(by first|rfl|(simp;done)|(simp [*];done)),H',⟨by have:=HK1.out;have:=HJ4.out;omega⟩,⟨by (with_reducible repeat (first|apply Kd.R_alloc|apply Kd.R_drewN|apply Kd.R_drew));exact HO_3.out⟩,⟨by repeat (first|(with_reducible first|exact HB.out|apply below_alloc|apply pw_below_drewN|apply below_drew1)|exact HB.out)⟩⟩
          ·rw [if_neg c15] at H
           have c15b0:(t385.toList == ([]:List UInt8))=false:=beq_eq_false_iff_ne.mpr c15
           have c15b1:(t385.toList != ([]:List UInt8))=true:=bne_iff_ne.mpr c15
           by_cases c16:x3_1.length < 8796093022208
           ·rw [if_pos c16] at H
            have LMc16:=Aside0.mk c16
            clear c16
            obtain ⟨y386,hy386⟩ : ∃ y_:List ByteArray,y_=(x3_1 ++ [t385]):=⟨_,rfl⟩
            replace H:(tollbarref02_Split.l0 kj4 a0 y386 (wrap64 (x5_1 + 1)) (wrap64 (x5_1 + 1)))=some r:=by first|(rw [hy386];with_reducible exact H)|(have H2_:=(Option.bind_some _ _).symm.trans H;rw [hy386];with_reducible exact H2_)|(have H2_:=(Option.bind_some _ _).symm.trans H;with_reducible exact H2_)|with_reducible exact H|(rw [hy386];exact H)|exact H
            have Ny386:=Aside0.mk hy386
            clear hy386
            have H' := Aside0.mk H
            clear H
            go_wp2_with (first|((with_reducible refine gate_callee (f:=32) rfl ?_);refine goesL_ (some 28) rfl rfl Tryz.func32 (by kernel_rfl) rfl #[.string (a0.extract (x4_1:Int).toNat (x5_1:Int).toNat)] rfl (by (try simp only [List.map_toArray,List.map_cons,List.map_nil]);first|done|rfl|(simp only [List.length_drop,List.length_take];rfl)) ?_;(with_reducible refine (tollbarref02_Trim.calls kj4 (a0.extract (x4_1:Int).toNat (x5_1:Int).toNat) t385 _ A14.out).mono ?_);rintro e w' ⟨rfl,⟨nd,rfl⟩⟩;(try clear A14);refine ⟨_,rfl,?_⟩)|((with_reducible refine gate_builtin (b:=.append) (xs:=#[.tmp 31,.tmp 33]) rfl ?_);at_builtin;refine Kd.R_append Kd.string (w0:=w) w.heap.size rfl (.tmp 31) (.tmp 33) 44 9 (.string ⟨#[]⟩) 16 rfl Tryz.underlying44 info9 rfl (by decide) (by omega) u3 x3_1 t385 [.string t385] (fun _=>True) (fun _=>False) rfl rfl ?aP (fun _ hk=>hk.elim) ?aF ?aO ?aB ?aS ?aL ?_;(case aP=>exact rfl);(case aB=>exact (by repeat (first|(with_reducible first|exact HB.out|apply below_alloc|apply pw_below_drewN|apply below_drew1)|exact HB.out)));(case aF=>exact (fun _ _=>trivial));(case aO=>exact (by (with_reducible repeat (first|apply Kd.R_alloc|apply Kd.R_drewN|apply Kd.R_drew));exact HO_3.out));(case aS=>exact (below_size (by repeat (first|(with_reducible first|exact HB.out|apply below_alloc|apply pw_below_drewN|apply below_drew1)|exact HB.out))));(case aL=>have:=LMc16.out;omega);intro v387 w17 ho hb hg hat;rw [← Ny386.out] at ho;have n0_:=Aside0.mk (hb);have n1_:=Aside0.mk (ho);clear HB;clear HO_3;have HB:=n0_;have HO388:=n1_;clear n0_ n1_;clear ho hb hg hat))
            go_roundg kj4
            case measure=>have:=HK1.out;have:=HJ4.out;omega
            case rel=>exact ⟨(y386),(wrap64 (x5_1 + 1)),(wrap64 (x5_1 + 1)),(by first|rfl|(simp;done)|(simp [*];done)),(by first|rfl|(simp;done)|(simp [*];done)),H',⟨by have:=HK1.out;have:=HJ4.out;omega⟩,⟨by (with_reducible repeat (first|apply Kd.R_alloc|apply Kd.R_drewN|apply Kd.R_drew));exact HO388.out⟩,⟨by repeat (first|(with_reducible first|exact HB.out|apply below_alloc|apply pw_below_drewN|apply below_drew1)|exact HB.out)⟩⟩
           ·rw [if_neg c16] at H
            exact absurd H (by simp)
         ·rw [if_neg c13] at H
          exact absurd H (by simp)
        ·rw [if_neg c12] at H
         exact absurd H (by simp)
       ·rw [if_neg c11] at H
        exact absurd H (by simp)
      ·replace c10:=Bool.eq_false_iff.mpr c10
       subst c10
       have H1:(tollbarref02_Split.l0 kj4 a0 x3_1 x4_1 (wrap64 (x5_1 + 1)))=some r:=by rw [if_neg (show ¬ (false=true) by decide)] at H;exact H
       clear H
       have H:=H1
       clear H1
       have H' := Aside0.mk H
       clear H
       go_wp2
       go_roundg kj4
       case measure=>have:=HK1.out;have:=HJ4.out;omega
       case rel=>exact ⟨(x3_1),(x4_1),(wrap64 (x5_1 + 1)),(by first|rfl|(simp;done)|(simp [*];done)),(by first|rfl|(simp;done)|(simp [*];done)),H',⟨by have:=HK1.out;have:=HJ4.out;omega⟩,⟨by (with_reducible repeat (first|apply Kd.R_alloc|apply Kd.R_drewN|apply Kd.R_drew));exact HO_3.out⟩,⟨by repeat (first|(with_reducible first|exact HB.out|apply below_alloc|apply pw_below_drewN|apply below_drew1)|exact HB.out)⟩⟩
   ·rw [if_neg c4] at H
    have c4b0:decide (x5_1 ≤ (a0.size:Int))=false:=decide_eq_false c4
    clear c4
    obtain rfl:=Option.some.inj H
    go_wp2
    go_ret
    exact ⟨_,by first|rfl|(simp [errW_none,errW_some] <;> rfl)|(simp [*,errW_none,errW_some] <;> rfl),by (with_reducible repeat (first|apply Kd.R_alloc|apply Kd.R_drewN|apply Kd.R_drew));exact HO_3.out,by repeat (first|(with_reducible first|exact HB.out|apply below_alloc|apply pw_below_drewN|apply below_drew1)|exact HB.out)⟩
def tollbarref04_same.f (k:Nat) (a0:ByteArray) (a1:ByteArray):Option (Bool):=(tollbarref02_Fold.f k a0).bind fun t369=>((tollbarref02_Fold.f k a1).bind fun t370=>(some (t369.toList == t370.toList)))
set_option maxHeartbeats 8000000 in
set_option maxRecDepth 100000 in
theorem tollbarref04_same.calls (k:Nat) (a0:ByteArray) (a1:ByteArray) (r:Bool) (w:World) (h:tollbarref04_same.f k a0 a1=some r) :
  Calls Tryz.prog 104 #[.string a0,.string a1] w fun e w' => e = .returned (.bool r)∧Below w.heap.size w w' := by
 have HB:=Aside0.mk (Below.refl w.heap.size w)
 have H:((tollbarref02_Fold.f k a0).bind fun t369=>((tollbarref02_Fold.f k a1).bind fun t370=>(some (t369.toList == t370.toList))))=some r:=h
 clear h
 replace H:=Option.bind_eq_some_iff.mp H
 obtain ⟨t369,A30,H⟩:=H
 replace H:((tollbarref02_Fold.f k a1).bind fun t370=>(some (t369.toList == t370.toList)))=some r:=H
 have A3:=Aside0.mk A30
 clear A30
 replace H:=Option.bind_eq_some_iff.mp H
 obtain ⟨t370,A40,H⟩:=H
 replace H:(some (t369.toList == t370.toList))=some r:=H
 have A4:=Aside0.mk A40
 clear A40
 obtain rfl:=Option.some.inj H
 go_enter Tryz.func104,Tryz.ntmps104
 go_wp2_with (first|((with_reducible refine gate_callee (f:=106) rfl ?_);refine goesL_ (some 6) rfl rfl Tryz.func106 (by kernel_rfl) rfl #[.string a0] rfl (by (try simp only [List.map_toArray,List.map_cons,List.map_nil]);first|done|rfl|(simp only [List.length_drop,List.length_take];rfl)) ?_;(with_reducible refine (tollbarref02_Fold.calls k a0 t369 _ A3.out).mono ?_);rintro e w5 ⟨rfl,hb⟩;(try clear A3);refine ⟨_,rfl,?_⟩;have n0_:=Aside0.mk (below_step (by repeat (first|(with_reducible first|exact HB.out|apply below_alloc|apply pw_below_drewN|apply below_drew1)|exact HB.out)) hb);clear HB;have HB:=n0_;clear n0_;(try clear hb);(try clear hb2);(try clear hk);(try clear hi))|((with_reducible refine gate_callee (f:=106) rfl ?_);refine goesL_ (some 8) rfl rfl Tryz.func106 (by kernel_rfl) rfl #[.string a1] rfl (by (try simp only [List.map_toArray,List.map_cons,List.map_nil]);first|done|rfl|(simp only [List.length_drop,List.length_take];rfl)) ?_;(with_reducible refine (tollbarref02_Fold.calls k a1 t370 _ A4.out).mono ?_);rintro e w6 ⟨rfl,hb⟩;(try clear A4);refine ⟨_,rfl,?_⟩;have n0_:=Aside0.mk (below_step (by repeat (first|(with_reducible first|exact HB.out|apply below_alloc|apply pw_below_drewN|apply below_drew1)|exact HB.out)) hb);clear HB;have HB:=n0_;clear n0_;(try clear hb);(try clear hb2);(try clear hk);(try clear hi)))
 go_ret
 exact ⟨by first|rfl|(simp [errW_none,errW_some] <;> rfl)|(simp [*,errW_none,errW_some] <;> rfl),by repeat (first|(with_reducible first|exact HB.out|apply below_alloc|apply pw_below_drewN|apply below_drew1)|exact HB.out)⟩
def tollbarref04_Get.l0:Nat → List (S55) → ByteArray → List ByteArray → Int → Option (List ByteArray)
 | 0,_,_,_,_=>none
 | k + 1,x0,x1,x5,x6=>if x6 < (x0.length:Int) then (if 0 ≤ x6 then ((tollbarref04_same.f k ((rd_T55 x0 x6).f0) x1).bind fun t375=>(if t375=true then (if x5.length < 8796093022208 then (tollbarref04_Get.l0 k x0 x1 (x5 ++ [(rd_T55 x0 x6).f1]) (wrap64 (x6 + 1))) else (none)) else (tollbarref04_Get.l0 k x0 x1 x5 (wrap64 (x6 + 1))))) else (none)) else (some x5)
def tollbarref04_Get.f (k:Nat) (l0:List (S55)) (a1:ByteArray):Option (List ByteArray):=tollbarref04_Get.l0 k l0 a1 (([]:List ByteArray)) 0
set_option maxHeartbeats 8000000 in
set_option maxRecDepth 100000 in
theorem tollbarref04_Get.calls (k:Nat) (A0:Option Addr) (c0:Nat) (l0:List (S55)) (a1:ByteArray) (r:List ByteArray) (w:World) (hr0:Kd.C k55 w A0 l0.length l0) (hc0:l0.length ≤ c0) (h:tollbarref04_Get.f k l0 a1=some r) :
  Calls Tryz.prog 61 #[.slice A0 l0.length c0,.string a1] w fun e w' => ∃ v0_:Value,e = .returned (v0_)∧Kd.R Kd.string 9 w' w.heap.size (fun _=>True) v0_ r∧Below w.heap.size w w' := by
 have HR0:=Aside0.mk hr0
 have HC0:=Aside0.mk hc0
 clear hr0 hc0
 have HB:=Aside0.mk (Below.refl w.heap.size w)
 have H:(tollbarref04_Get.l0 k l0 a1 (([]:List ByteArray)) 0)=some r:=h
 clear h
 obtain ⟨y371,hy371⟩ : ∃ y_:List ByteArray,y_=(([]:List ByteArray)):=⟨_,rfl⟩
 replace H:(tollbarref04_Get.l0 k l0 a1 y371 0)=some r:=by first|(rw [hy371];with_reducible exact H)|(have H2_:=(Option.bind_some _ _).symm.trans H;rw [hy371];with_reducible exact H2_)|(have H2_:=(Option.bind_some _ _).symm.trans H;with_reducible exact H2_)|with_reducible exact H|(rw [hy371];exact H)|exact H
 have Ny371:=Aside0.mk hy371
 clear hy371
 have H' := Aside0.mk H
 clear H
 go_enter Tryz.func61,Tryz.ntmps61
 go_wp2_with (first|((with_reducible refine gate_dst (N:=7) rfl ?_);refine Kd.R_lit Kd.string _ 9 ?hg (N:=7) ?hd (xs:=([]:List ByteArray)) (inner:=[]) (ok:=fun _=>True) (okp:=fun _=>True) ?hr ?hp (fun _ hk=>hk) trivial (Below.refl _ _) (Nat.le_refl _) (by simp) ?_;(case hd=>rfl);(case hg=>rfl);(case hr=>first|(go_simp;done)|(go_simp;rfl));(case hp=>exact (Reps.none _ _));intro v372 w3 ho4 hb hg_ hnew_;clear hg_ hnew_;(first|rw [← Ny371.out] at ho4|(simp only [Int.reduceToNat] at ho4;rw [← Ny371.out] at ho4));have n0_:=Aside0.mk (Kd.R_lower ho4 (below_size (by repeat (first|(with_reducible first|exact HB.out|apply below_alloc|apply pw_below_drewN|apply below_drew1)|exact HB.out))));have n1_:=Aside0.mk (below_step (by repeat (first|(with_reducible first|exact HB.out|apply below_alloc|apply pw_below_drewN|apply below_drew1)|exact HB.out)) hb);clear HB;have HO373:=n0_;have HB:=n1_;clear n0_ n1_;clear hb ho4))
 go_loopg [5,6] k (fun kq v5 v6 w' => ∃ (x5_1:List ByteArray) (x6_1:Int),v6 = .int .i64 x6_1∧Aside0 (tollbarref04_Get.l0 kq l0 a1 x5_1 x6_1=some r)∧Aside0 (kq ≤ k)∧Aside0 (Kd.R Kd.string 9 w' w.heap.size (fun _=>True) v5 x5_1)∧Aside0 (Below w.heap.size w w'))
 case atStart=>exact ⟨(y371),(0),(by first|rfl|(simp;done)|(simp [*];done)),H',⟨Nat.le_refl _⟩,⟨by (with_reducible repeat (first|apply Kd.R_alloc|apply Kd.R_drewN|apply Kd.R_drew));exact HO373.out⟩,⟨by repeat (first|(with_reducible first|exact HB.out|apply below_alloc|apply pw_below_drewN|apply below_drew1)|exact HB.out)⟩⟩
 case round =>
  clear H'
  try clear p2
  obtain ⟨x5_1,x6_1,rfl,HA,HK1,HO_5,HB⟩:=hrel
  cases gk with
  | zero=>exact absurd HA.out (by simp [tollbarref04_Get.l0])
  | succ k1 =>
   have H:=HA.out
   clear HA
   simp only [tollbarref04_Get.l0] at H
   by_cases c5:x6_1 < (l0.length:Int)
   ·rw [if_pos c5] at H
    have c5b0:decide (x6_1 < (l0.length:Int))=true:=decide_eq_true c5
    clear c5
    by_cases c6:0 ≤ x6_1
    ·rw [if_pos c6] at H
     have c6b0:decide (0 ≤ x6_1)=true:=decide_eq_true c6
     clear c6
     replace H:=Option.bind_eq_some_iff.mp H
     obtain ⟨t375,A70,H⟩:=H
     replace H:(if t375=true then (if x5_1.length < 8796093022208 then (tollbarref04_Get.l0 k1 l0 a1 (x5_1 ++ [(rd_T55 l0 x6_1).f1]) (wrap64 (x6_1 + 1))) else (none)) else (tollbarref04_Get.l0 k1 l0 a1 x5_1 (wrap64 (x6_1 + 1))))=some r:=H
     have A7:=Aside0.mk A70
     clear A70
     by_cases c8:t375=true
     ·subst c8
      have H1:(if x5_1.length < 8796093022208 then (tollbarref04_Get.l0 k1 l0 a1 (x5_1 ++ [(rd_T55 l0 x6_1).f1]) (wrap64 (x6_1 + 1))) else (none))=some r:=by rw [if_pos rfl] at H;exact H
      clear H
      have H:=H1
      clear H1
      by_cases c9:x5_1.length < 8796093022208
      ·rw [if_pos c9] at H
       have LMc9:=Aside0.mk c9
       clear c9
       obtain ⟨y377,hy377⟩ : ∃ y_:List ByteArray,y_=(x5_1 ++ [(rd_T55 l0 x6_1).f1]):=⟨_,rfl⟩
       replace H:(tollbarref04_Get.l0 k1 l0 a1 y377 (wrap64 (x6_1 + 1)))=some r:=by first|(rw [hy377];with_reducible exact H)|(have H2_:=(Option.bind_some _ _).symm.trans H;rw [hy377];with_reducible exact H2_)|(have H2_:=(Option.bind_some _ _).symm.trans H;with_reducible exact H2_)|with_reducible exact H|(rw [hy377];exact H)|exact H
       have Ny377:=Aside0.mk hy377
       clear hy377
       have H' := Aside0.mk H
       clear H
       have p374:0 ≤ (x6_1:Int):=of_decide_eq_true (by first|(with_reducible assumption)|assumption)
       have q374:x6_1 < (l0.length:Int):=of_decide_eq_true (by first|(with_reducible assumption)|assumption)
       obtain ⟨ad374,e374,hx374_0,hx374_1⟩:=at_T55 HR0.out x6_1 p374 q374
       cases e374
       replace hx374_0:=(HB.out.cell (World.block_lt_of_cell? w _ hx374_0)).trans hx374_0
       replace hx374_1:=(HB.out.cell (World.block_lt_of_cell? w _ hx374_1)).trans hx374_1
       replace p374:=eq_true p374
       replace q374:=eq_true q374
       go_wp2_with (first|((with_reducible refine gate_callee (f:=104) rfl ?_);refine goesL_ (some 20) rfl rfl Tryz.func104 (by kernel_rfl) rfl #[.string ((rd_T55 l0 x6_1).f0),.string a1] rfl (by (try simp only [List.map_toArray,List.map_cons,List.map_nil]);first|done|rfl|(simp only [List.length_drop,List.length_take];rfl)) ?_;(with_reducible refine (tollbarref04_same.calls k1 ((rd_T55 l0 x6_1).f0) a1 true _ A7.out).mono ?_);rintro e w10 ⟨rfl,hb⟩;(try clear A7);refine ⟨_,rfl,?_⟩;have n0_:=Aside0.mk (Kd.R_below (by (with_reducible repeat (first|apply Kd.R_alloc|apply Kd.R_drewN|apply Kd.R_drew));exact HO_5.out) hb);have n1_:=Aside0.mk (below_step (by repeat (first|(with_reducible first|exact HB.out|apply below_alloc|apply pw_below_drewN|apply below_drew1)|exact HB.out)) hb);clear HO_5;clear HB;have HO_5:=n0_;have HB:=n1_;clear n0_ n1_;(try clear hb);(try clear hb2);(try clear hk);(try clear hi);have p376:0 ≤ (x6_1:Int):=of_decide_eq_true (by first|(with_reducible assumption)|assumption);have q376:x6_1 < (l0.length:Int):=of_decide_eq_true (by first|(with_reducible assumption)|assumption);obtain ⟨ad376,e376,hx376_0,hx376_1⟩:=at_T55 HR0.out x6_1 p376 q376;obtain rfl:ad374=ad376:=(by injection e376);replace hx376_0:=(HB.out.cell (World.block_lt_of_cell? w _ hx376_0)).trans hx376_0;replace hx376_1:=(HB.out.cell (World.block_lt_of_cell? w _ hx376_1)).trans hx376_1;replace p376:=eq_true p376;replace q376:=eq_true q376)|((with_reducible refine gate_builtin (b:=.append) (xs:=#[.tmp 21,.tmp 27]) rfl ?_);at_builtin;refine Kd.R_append Kd.string (w0:=w) w.heap.size rfl (.tmp 21) (.tmp 27) 44 9 (.string ⟨#[]⟩) 16 rfl Tryz.underlying44 info9 rfl (by decide) (by omega) u5 x5_1 ((rd_T55 l0 x6_1).f1) [.string ((rd_T55 l0 x6_1).f1)] (fun _=>True) (fun _=>False) rfl rfl ?aP (fun _ hk=>hk.elim) ?aF ?aO ?aB ?aS ?aL ?_;(case aP=>exact rfl);(case aB=>exact (by repeat (first|(with_reducible first|exact HB.out|apply below_alloc|apply pw_below_drewN|apply below_drew1)|exact HB.out)));(case aF=>exact (fun _ _=>trivial));(case aO=>exact (by (with_reducible repeat (first|apply Kd.R_alloc|apply Kd.R_drewN|apply Kd.R_drew));exact HO_5.out));(case aS=>exact (below_size (by repeat (first|(with_reducible first|exact HB.out|apply below_alloc|apply pw_below_drewN|apply below_drew1)|exact HB.out))));(case aL=>have:=LMc9.out;omega);intro v378 w11 ho hb hg hat;rw [← Ny377.out] at ho;have n0_:=Aside0.mk (hb);have n1_:=Aside0.mk (ho);clear HB;clear HO_5;have HB:=n0_;have HO379:=n1_;clear n0_ n1_;clear ho hb hg hat))
       go_roundg k1
       case measure=>have:=HK1.out;omega
       case rel=>exact ⟨(y377),(wrap64 (x6_1 + 1)),(by first|rfl|(simp;done)|(simp [*];done)),H',⟨by have:=HK1.out;omega⟩,⟨by (with_reducible repeat (first|apply Kd.R_alloc|apply Kd.R_drewN|apply Kd.R_drew));exact HO379.out⟩,⟨by repeat (first|(with_reducible first|exact HB.out|apply below_alloc|apply pw_below_drewN|apply below_drew1)|exact HB.out)⟩⟩
      ·rw [if_neg c9] at H
       exact absurd H (by simp)
     ·replace c8:=Bool.eq_false_iff.mpr c8
      subst c8
      have H1:(tollbarref04_Get.l0 k1 l0 a1 x5_1 (wrap64 (x6_1 + 1)))=some r:=by rw [if_neg (show ¬ (false=true) by decide)] at H;exact H
      clear H
      have H:=H1
      clear H1
      have H' := Aside0.mk H
      clear H
      have p374:0 ≤ (x6_1:Int):=of_decide_eq_true (by first|(with_reducible assumption)|assumption)
      have q374:x6_1 < (l0.length:Int):=of_decide_eq_true (by first|(with_reducible assumption)|assumption)
      obtain ⟨ad374,e374,hx374_0,hx374_1⟩:=at_T55 HR0.out x6_1 p374 q374
      cases e374
      replace hx374_0:=(HB.out.cell (World.block_lt_of_cell? w _ hx374_0)).trans hx374_0
      replace hx374_1:=(HB.out.cell (World.block_lt_of_cell? w _ hx374_1)).trans hx374_1
      replace p374:=eq_true p374
      replace q374:=eq_true q374
      go_wp2_with (first|((with_reducible refine gate_callee (f:=104) rfl ?_);refine goesL_ (some 20) rfl rfl Tryz.func104 (by kernel_rfl) rfl #[.string ((rd_T55 l0 x6_1).f0),.string a1] rfl (by (try simp only [List.map_toArray,List.map_cons,List.map_nil]);first|done|rfl|(simp only [List.length_drop,List.length_take];rfl)) ?_;(with_reducible refine (tollbarref04_same.calls k1 ((rd_T55 l0 x6_1).f0) a1 false _ A7.out).mono ?_);rintro e w12 ⟨rfl,hb⟩;(try clear A7);refine ⟨_,rfl,?_⟩;have n0_:=Aside0.mk (Kd.R_below (by (with_reducible repeat (first|apply Kd.R_alloc|apply Kd.R_drewN|apply Kd.R_drew));exact HO_5.out) hb);have n1_:=Aside0.mk (below_step (by repeat (first|(with_reducible first|exact HB.out|apply below_alloc|apply pw_below_drewN|apply below_drew1)|exact HB.out)) hb);clear HO_5;clear HB;have HO_5:=n0_;have HB:=n1_;clear n0_ n1_;(try clear hb);(try clear hb2);(try clear hk);(try clear hi)))
      go_roundg k1
      case measure=>have:=HK1.out;omega
      case rel=>exact ⟨(x5_1),(wrap64 (x6_1 + 1)),(by first|rfl|(simp;done)|(simp [*];done)),H',⟨by have:=HK1.out;omega⟩,⟨by (with_reducible repeat (first|apply Kd.R_alloc|apply Kd.R_drewN|apply Kd.R_drew));exact HO_5.out⟩,⟨by repeat (first|(with_reducible first|exact HB.out|apply below_alloc|apply pw_below_drewN|apply below_drew1)|exact HB.out)⟩⟩
    ·rw [if_neg c6] at H
     exact absurd H (by simp)
   ·rw [if_neg c5] at H
    have c5b0:decide (x6_1 < (l0.length:Int))=false:=decide_eq_false c5
    clear c5
    obtain rfl:=Option.some.inj H
    go_wp2
    go_ret
    exact ⟨_,by first|rfl|(simp [errW_none,errW_some] <;> rfl)|(simp [*,errW_none,errW_some] <;> rfl),by (with_reducible repeat (first|apply Kd.R_alloc|apply Kd.R_drewN|apply Kd.R_drew));exact HO_5.out,by repeat (first|(with_reducible first|exact HB.out|apply below_alloc|apply pw_below_drewN|apply below_drew1)|exact HB.out)⟩
mutual
def tollbarref04_List.l0:Nat → List ByteArray → List ByteArray → Int → Option (List ByteArray)
 | 0,_,_,_=>none
 | k + 1,x5,x6,x7=>if x7 < (x6.length:Int) then (if 0 ≤ x7 then ((tollbarref02_Split.f k (rdOf ByteArray.empty x6 x7)).bind fun t396=>(tollbarref04_List.l1 k x5 x6 x7 t396 0)) else (none)) else (some x5)
def tollbarref04_List.l1:Nat → List ByteArray → List ByteArray → Int → List ByteArray → Int → Option (List ByteArray)
 | 0,_,_,_,_,_=>none
 | k + 1,x5,x6,x7,x8,x9=>if x9 < (x8.length:Int) then (if 0 ≤ x9 then (if x5.length < 8796093022208 then (tollbarref04_List.l1 k (x5 ++ [rdOf ByteArray.empty x8 x9]) x6 x7 x8 (wrap64 (x9 + 1))) else (none)) else (none)) else (tollbarref04_List.l0 k x5 x6 (wrap64 (x7 + 1)))
end
def tollbarref04_List.f (k:Nat) (l0:List (S55)) (a1:ByteArray):Option (List ByteArray):=(tollbarref04_Get.f k l0 a1).bind fun t392=>(tollbarref04_List.l0 k (([]:List ByteArray)) t392 0)
set_option maxHeartbeats 8000000 in
set_option maxRecDepth 100000 in
theorem tollbarref04_List.calls (k:Nat) (A0:Option Addr) (c0:Nat) (l0:List (S55)) (a1:ByteArray) (r:List ByteArray) (w:World) (hr0:Kd.C k55 w A0 l0.length l0) (hc0:l0.length ≤ c0) (h:tollbarref04_List.f k l0 a1=some r) :
  Calls Tryz.prog 103 #[.slice A0 l0.length c0,.string a1] w fun e w' => ∃ v0_:Value,e = .returned (v0_)∧Kd.R Kd.string 9 w' w.heap.size (fun _=>True) v0_ r∧Below w.heap.size w w' := by
 have HR0:=Aside0.mk hr0
 have HC0:=Aside0.mk hc0
 clear hr0 hc0
 have HB:=Aside0.mk (Below.refl w.heap.size w)
 have H:((tollbarref04_Get.f k l0 a1).bind fun t392=>(tollbarref04_List.l0 k (([]:List ByteArray)) t392 0))=some r:=h
 clear h
 obtain ⟨y389,hy389⟩ : ∃ y_:List ByteArray,y_=(([]:List ByteArray)):=⟨_,rfl⟩
 replace H:((tollbarref04_Get.f k l0 a1).bind fun t392=>(tollbarref04_List.l0 k y389 t392 0))=some r:=by first|(rw [hy389];with_reducible exact H)|(have H2_:=(Option.bind_some _ _).symm.trans H;rw [hy389];with_reducible exact H2_)|(have H2_:=(Option.bind_some _ _).symm.trans H;with_reducible exact H2_)|with_reducible exact H|(rw [hy389];exact H)|exact H
 have Ny389:=Aside0.mk hy389
 clear hy389
 replace H:=Option.bind_eq_some_iff.mp H
 obtain ⟨t392,A30,H⟩:=H
 replace H:(tollbarref04_List.l0 k y389 t392 0)=some r:=H
 have A3:=Aside0.mk A30
 clear A30
 have H' := Aside0.mk H
 clear H
 go_enter Tryz.func103,Tryz.ntmps103
 go_wp2_with (first|((with_reducible refine gate_dst (N:=10) rfl ?_);refine Kd.R_lit Kd.string _ 9 ?hg (N:=10) ?hd (xs:=([]:List ByteArray)) (inner:=[]) (ok:=fun _=>True) (okp:=fun _=>True) ?hr ?hp (fun _ hk=>hk) trivial (Below.refl _ _) (Nat.le_refl _) (by simp) ?_;(case hd=>rfl);(case hg=>rfl);(case hr=>first|(go_simp;done)|(go_simp;rfl));(case hp=>exact (Reps.none _ _));intro v390 w4 ho5 hb hg_ hnew_;clear hg_ hnew_;(first|rw [← Ny389.out] at ho5|(simp only [Int.reduceToNat] at ho5;rw [← Ny389.out] at ho5));have n0_:=Aside0.mk (Kd.R_lower ho5 (below_size (by repeat (first|(with_reducible first|exact HB.out|apply below_alloc|apply pw_below_drewN|apply below_drew1)|exact HB.out))));have n1_:=Aside0.mk (below_step (by repeat (first|(with_reducible first|exact HB.out|apply below_alloc|apply pw_below_drewN|apply below_drew1)|exact HB.out)) hb);clear HB;have HO391:=n0_;have HB:=n1_;clear n0_ n1_;clear hb ho5)|((with_reducible refine gate_callee (f:=61) rfl ?_);refine goesL_ (some 13) rfl rfl Tryz.func61 (by kernel_rfl) rfl #[.slice A0 l0.length c0,.string a1] rfl (by (try simp only [List.map_toArray,List.map_cons,List.map_nil]);first|done|rfl|(simp only [List.length_drop,List.length_take];rfl)) ?_;(with_reducible refine (tollbarref04_Get.calls k _ _ l0 a1 t392 _ ?side1 ?side2 A3.out).mono ?_);(case side1=>repeat (first|exact (Kd.C_below HR0.out HB.out)|(with_reducible refine Kd.C_alloc ?_ _)|(with_reducible refine Kd.C_drewN ?_ _)|(with_reducible refine Kd.C_drew ?_)));(case side2=>exact HC0.out);rintro e w6 ⟨v393,rfl,ho0,hb⟩;(try clear A3);refine ⟨_,rfl,?_⟩;have n0_:=Aside0.mk (Kd.R_elder' (by (with_reducible repeat (first|apply Kd.R_alloc|apply Kd.R_drewN|apply Kd.R_drew));exact HO391.out) (Kd.R_base ho0) hb);have n1_:=Aside0.mk (Kd.R_lower (Kd.R_new' ho0 (Kd.R_lt (by (with_reducible repeat (first|apply Kd.R_alloc|apply Kd.R_drewN|apply Kd.R_drew));exact HO391.out))) (below_size (by repeat (first|(with_reducible first|exact HB.out|apply below_alloc|apply pw_below_drewN|apply below_drew1)|exact HB.out))));have n2_:=Aside0.mk (below_step (by repeat (first|(with_reducible first|exact HB.out|apply below_alloc|apply pw_below_drewN|apply below_drew1)|exact HB.out)) hb);clear HO391;clear HB;have HO391:=n0_;have HO394:=n1_;have HB:=n2_;clear n0_ n1_ n2_;(try clear hb);(try clear hb2);(try clear hk);(try clear hi);(try clear ho0)))
 go_loopg [5,7] k (fun kq v5 v7 w' => ∃ (x5_1:List ByteArray) (x7_1:Int),v7 = .int .i64 x7_1∧Aside0 (tollbarref04_List.l0 kq x5_1 t392 x7_1=some r)∧Aside0 (kq ≤ k)∧Aside0 (Kd.R Kd.string 9 w' w.heap.size (fun k_=>some k_ ≠ (v393:Value).ownBlock) v5 x5_1)∧Aside0 (Kd.R Kd.string 9 w' w.heap.size (fun k_=>some k_ ≠ (v5:Value).ownBlock) v393 t392)∧Aside0 (Below w.heap.size w w'))
 case atStart=>exact ⟨(y389),(0),(by first|rfl|(simp;done)|(simp [*];done)),H',⟨Nat.le_refl _⟩,⟨by (with_reducible repeat (first|apply Kd.R_alloc|apply Kd.R_drewN|apply Kd.R_drew));exact Kd.R_mono HO391.out (fun _ hk=>hk.2)⟩,⟨by (with_reducible repeat (first|apply Kd.R_alloc|apply Kd.R_drewN|apply Kd.R_drew));exact Kd.R_mono HO394.out (fun _ hk=>hk.2)⟩,⟨by repeat (first|(with_reducible first|exact HB.out|apply below_alloc|apply pw_below_drewN|apply below_drew1)|exact HB.out)⟩⟩
 case round =>
  clear H'
  try clear c1
  try clear p2
  try clear c6
  obtain ⟨x5_1,x7_1,rfl,HA,HK1,HO_5,HO_6,HB⟩:=hrel
  cases gk with
  | zero=>exact absurd HA.out (by simp [tollbarref04_List.l0])
  | succ k1 =>
   have H:=HA.out
   clear HA
   simp only [tollbarref04_List.l0] at H
   by_cases c7:x7_1 < (t392.length:Int)
   ·rw [if_pos c7] at H
    have c7b0:decide (x7_1 < (t392.length:Int))=true:=decide_eq_true c7
    clear c7
    by_cases c8:0 ≤ x7_1
    ·rw [if_pos c8] at H
     have c8b0:decide (0 ≤ x7_1)=true:=decide_eq_true c8
     clear c8
     replace H:=Option.bind_eq_some_iff.mp H
     obtain ⟨t396,A90,H⟩:=H
     replace H:(tollbarref04_List.l1 k1 x5_1 t392 x7_1 t396 0)=some r:=H
     have A9:=Aside0.mk A90
     clear A90
     have H' := Aside0.mk H
     clear H
     obtain ⟨Ao10,co10,eo10⟩:=Kd.R_slice HO_6.out
     subst eo10
     have p395:0 ≤ (x7_1:Int):=of_decide_eq_true (by first|(with_reducible assumption)|assumption)
     have q395:x7_1 < (t392.length:Int):=of_decide_eq_true (by first|(with_reducible assumption)|assumption)
     obtain ⟨ad395,e395,hx395_0⟩:=Kd.at_string (Kd.R_reads' HO_6.out).2.2 x7_1 p395 q395
     cases e395
     replace p395:=eq_true p395
     replace q395:=eq_true q395
     go_wp2_with (first|((with_reducible refine gate_callee (f:=148) rfl ?_);refine goesL_ (some 24) rfl rfl Tryz.func148 (by kernel_rfl) rfl #[.string (rdOf ByteArray.empty t392 x7_1)] rfl (by (try simp only [List.map_toArray,List.map_cons,List.map_nil]);first|done|rfl|(simp only [List.length_drop,List.length_take];rfl)) ?_;(with_reducible refine (tollbarref02_Split.calls k1 (rdOf ByteArray.empty t392 x7_1) t396 _ A9.out).mono ?_);rintro e w11 ⟨v397,rfl,ho0,hb⟩;(try clear A9);refine ⟨_,rfl,?_⟩;have n0_:=Aside0.mk (Kd.R_elder' (by (with_reducible repeat (first|apply Kd.R_alloc|apply Kd.R_drewN|apply Kd.R_drew));exact HO_5.out) (Kd.R_base ho0) hb);have n1_:=Aside0.mk (Kd.R_elder' (by (with_reducible repeat (first|apply Kd.R_alloc|apply Kd.R_drewN|apply Kd.R_drew));exact HO_6.out) (Kd.R_base ho0) hb);have n2_:=Aside0.mk (Kd.R_lower (Kd.R_new' (Kd.R_new' ho0 (Kd.R_lt (by (with_reducible repeat (first|apply Kd.R_alloc|apply Kd.R_drewN|apply Kd.R_drew));exact HO_5.out))) (Kd.R_lt (by (with_reducible repeat (first|apply Kd.R_alloc|apply Kd.R_drewN|apply Kd.R_drew));exact HO_6.out))) (below_size (by repeat (first|(with_reducible first|exact HB.out|apply below_alloc|apply pw_below_drewN|apply below_drew1)|exact HB.out))));have n3_:=Aside0.mk (below_step (by repeat (first|(with_reducible first|exact HB.out|apply below_alloc|apply pw_below_drewN|apply below_drew1)|exact HB.out)) hb);clear HO_5;clear HO_6;clear HB;have HO_5:=n0_;have HO_6:=n1_;have HO398:=n2_;have HB:=n3_;clear n0_ n1_ n2_ n3_;(try clear hb);(try clear hb2);(try clear hk);(try clear hi);(try clear ho0)))
     go_loopg [5,9] k1 (fun kq v5 v9 w' => ∃ (x5_2:List ByteArray) (x9_2:Int),v9 = .int .i64 x9_2∧Aside0 (tollbarref04_List.l1 kq x5_2 t392 x7_1 t396 x9_2=some r)∧Aside0 (kq ≤ k1)∧Aside0 (Kd.R Kd.string 9 w' w.heap.size (fun k_=>some k_ ≠ ((.slice (some ad395) t392.length co10):Value).ownBlock∧some k_ ≠ (v397:Value).ownBlock) v5 x5_2)∧Aside0 (Kd.R Kd.string 9 w' w.heap.size (fun k_=>some k_ ≠ (v5:Value).ownBlock∧some k_ ≠ (v397:Value).ownBlock) (.slice (some ad395) t392.length co10) t392)∧Aside0 (Kd.R Kd.string 9 w' w.heap.size (fun k_=>some k_ ≠ (v5:Value).ownBlock∧some k_ ≠ ((.slice (some ad395) t392.length co10):Value).ownBlock) v397 t396)∧Aside0 (Below w.heap.size w w'))
     case atStart=>exact ⟨(x5_1),(0),(by first|rfl|(simp;done)|(simp [*];done)),H',⟨Nat.le_refl _⟩,⟨by (with_reducible repeat (first|apply Kd.R_alloc|apply Kd.R_drewN|apply Kd.R_drew));exact HO_5.out⟩,⟨by (with_reducible repeat (first|apply Kd.R_alloc|apply Kd.R_drewN|apply Kd.R_drew));exact HO_6.out⟩,⟨by (with_reducible repeat (first|apply Kd.R_alloc|apply Kd.R_drewN|apply Kd.R_drew));exact Kd.R_mono HO398.out (fun _ hk=>⟨hk.1.2,hk.2⟩)⟩,⟨by repeat (first|(with_reducible first|exact HB.out|apply below_alloc|apply pw_below_drewN|apply below_drew1)|exact HB.out)⟩⟩
     case round =>
      clear H'
      try clear c1
      try clear p2
      try clear p3
      try clear q3
      try clear hx3
      try clear c6
      try clear c7
      try clear c7b0
      try clear c8
      try clear c8b0
      try clear c10
      try clear hx395_0
      try clear p2
      try clear p395
      try clear q395
      obtain ⟨x5_2,x9_2,rfl,HA,HK2,HO_5,HO_6,HO_8,HB⟩:=hrel
      cases gk with
      | zero=>exact absurd HA.out (by simp [tollbarref04_List.l1])
      | succ k2 =>
       have H:=HA.out
       clear HA
       simp only [tollbarref04_List.l1] at H
       by_cases c12:x9_2 < (t396.length:Int)
       ·rw [if_pos c12] at H
        have c12b0:decide (x9_2 < (t396.length:Int))=true:=decide_eq_true c12
        clear c12
        by_cases c13:0 ≤ x9_2
        ·rw [if_pos c13] at H
         have c13b0:decide (0 ≤ x9_2)=true:=decide_eq_true c13
         clear c13
         by_cases c14:x5_2.length < 8796093022208
         ·rw [if_pos c14] at H
          have LMc14:=Aside0.mk c14
          clear c14
          obtain ⟨y400,hy400⟩ : ∃ y_:List ByteArray,y_=(x5_2 ++ [rdOf ByteArray.empty t396 x9_2]):=⟨_,rfl⟩
          replace H:(tollbarref04_List.l1 k2 y400 t392 x7_1 t396 (wrap64 (x9_2 + 1)))=some r:=by first|(rw [hy400];with_reducible exact H)|(have H2_:=(Option.bind_some _ _).symm.trans H;rw [hy400];with_reducible exact H2_)|(have H2_:=(Option.bind_some _ _).symm.trans H;with_reducible exact H2_)|with_reducible exact H|(rw [hy400];exact H)|exact H
          have Ny400:=Aside0.mk hy400
          clear hy400
          have H' := Aside0.mk H
          clear H
          obtain ⟨Ao15,co15,eo15⟩:=Kd.R_slice HO_8.out
          subst eo15
          have p399:0 ≤ (x9_2:Int):=of_decide_eq_true (by first|(with_reducible assumption)|assumption)
          have q399:x9_2 < (t396.length:Int):=of_decide_eq_true (by first|(with_reducible assumption)|assumption)
          obtain ⟨ad399,e399,hx399_0⟩:=Kd.at_string (Kd.R_reads' HO_8.out).2.2 x9_2 p399 q399
          cases e399
          replace p399:=eq_true p399
          replace q399:=eq_true q399
          go_wp2_with (first|((with_reducible refine gate_builtin (b:=.append) (xs:=#[.tmp 31,.tmp 36]) rfl ?_);at_builtin;refine Kd.R_append Kd.string (w0:=w) w.heap.size rfl (.tmp 31) (.tmp 36) 44 9 (.string ⟨#[]⟩) 16 rfl Tryz.underlying44 info9 rfl (by decide) (by omega) u5 x5_2 (rdOf ByteArray.empty t396 x9_2) [.string (rdOf ByteArray.empty t396 x9_2)] (fun k_=>some k_ ≠ (.slice (some ad395) t392.length co10:Value).ownBlock∧some k_ ≠ (.slice (some ad399) t396.length co15:Value).ownBlock) (fun _=>False) rfl rfl ?aP (fun _ hk=>hk.elim) ?aF ?aO ?aB ?aS ?aL ?_;(case aP=>exact rfl);(case aB=>exact (by repeat (first|(with_reducible first|exact HB.out|apply below_alloc|apply pw_below_drewN|apply below_drew1)|exact HB.out)));(case aF=>exact (fun k_ hk=>⟨Kd.fresh' (Kd.R_lt (by (with_reducible repeat (first|apply Kd.R_alloc|apply Kd.R_drewN|apply Kd.R_drew));exact HO_6.out)) k_ hk,Kd.fresh' (Kd.R_lt (by (with_reducible repeat (first|apply Kd.R_alloc|apply Kd.R_drewN|apply Kd.R_drew));exact HO_8.out)) k_ hk⟩));(case aO=>exact (by (with_reducible repeat (first|apply Kd.R_alloc|apply Kd.R_drewN|apply Kd.R_drew));exact HO_5.out));(case aS=>exact (below_size (by repeat (first|(with_reducible first|exact HB.out|apply below_alloc|apply pw_below_drewN|apply below_drew1)|exact HB.out))));(case aL=>have:=LMc14.out;omega);intro v401 w16 ho hb hg hat;rw [← Ny400.out] at ho;have n0_:=Aside0.mk (Kd.R_after (ok:=(fun k_=>some k_ ≠ (.slice (some ad399) t396.length co15:Value).ownBlock)) (by (with_reducible repeat (first|apply Kd.R_alloc|apply Kd.R_drewN|apply Kd.R_drew));exact Kd.R_mono HO_6.out (fun _ hk=>⟨hk.2,hk.1⟩)) hg hat);have n1_:=Aside0.mk (Kd.R_after (ok:=(fun k_=>some k_ ≠ (.slice (some ad395) t392.length co10:Value).ownBlock)) (by (with_reducible repeat (first|apply Kd.R_alloc|apply Kd.R_drewN|apply Kd.R_drew));exact Kd.R_mono HO_8.out (fun _ hk=>⟨hk.2,hk.1⟩)) hg hat);have n2_:=Aside0.mk (hb);have n3_:=Aside0.mk (ho);clear HO_6;clear HO_8;clear HB;clear HO_5;have HO_6:=n0_;have HO_8:=n1_;have HB:=n2_;have HO402:=n3_;clear n0_ n1_ n2_ n3_;clear ho hb hg hat))
          go_roundg k2
          case measure=>have:=HK1.out;have:=HK2.out;omega
          case rel=>exact ⟨(y400),(wrap64 (x9_2 + 1)),(by first|rfl|(simp;done)|(simp [*];done)),H',⟨by have:=HK1.out;have:=HK2.out;omega⟩,⟨by (with_reducible repeat (first|apply Kd.R_alloc|apply Kd.R_drewN|apply Kd.R_drew));exact HO402.out⟩,⟨by (with_reducible repeat (first|apply Kd.R_alloc|apply Kd.R_drewN|apply Kd.R_drew));exact Kd.R_mono HO_6.out (fun _ hk=>⟨hk.2,hk.1⟩)⟩,⟨by (with_reducible repeat (first|apply Kd.R_alloc|apply Kd.R_drewN|apply Kd.R_drew));exact Kd.R_mono HO_8.out (fun _ hk=>⟨hk.2,hk.1⟩)⟩,⟨by repeat (first|(with_reducible first|exact HB.out|apply below_alloc|apply pw_below_drewN|apply below_drew1)|exact HB.out)⟩⟩
         ·rw [if_neg c14] at H
          exact absurd H (by simp)
        ·rw [if_neg c13] at H
         exact absurd H (by simp)
       ·rw [if_neg c12] at H
        have c12b0:decide (x9_2 < (t396.length:Int))=false:=decide_eq_false c12
        clear c12
        have H' := Aside0.mk H
        clear H
        obtain ⟨Ao17,co17,eo17⟩:=Kd.R_slice HO_8.out
        subst eo17
        go_wp2
        go_roundg k2
        case measure=>have:=HK1.out;have:=HK2.out;omega
        case rel=>exact ⟨(x5_2),(wrap64 (x7_1 + 1)),(by first|rfl|(simp;done)|(simp [*];done)),H',⟨by have:=HK1.out;have:=HK2.out;omega⟩,⟨by (with_reducible repeat (first|apply Kd.R_alloc|apply Kd.R_drewN|apply Kd.R_drew));exact Kd.R_mono HO_5.out (fun _ hk=>hk.1)⟩,⟨by (with_reducible repeat (first|apply Kd.R_alloc|apply Kd.R_drewN|apply Kd.R_drew));exact Kd.R_mono HO_6.out (fun _ hk=>hk.1)⟩,⟨by repeat (first|(with_reducible first|exact HB.out|apply below_alloc|apply pw_below_drewN|apply below_drew1)|exact HB.out)⟩⟩
    ·rw [if_neg c8] at H
     exact absurd H (by simp)
   ·rw [if_neg c7] at H
    have c7b0:decide (x7_1 < (t392.length:Int))=false:=decide_eq_false c7
    clear c7
    obtain rfl:=Option.some.inj H
    obtain ⟨Ao18,co18,eo18⟩:=Kd.R_slice HO_6.out
    subst eo18
    go_wp2
    go_ret
    exact ⟨_,by first|rfl|(simp [errW_none,errW_some] <;> rfl)|(simp [*,errW_none,errW_some] <;> rfl),by (with_reducible repeat (first|apply Kd.R_alloc|apply Kd.R_drewN|apply Kd.R_drew));exact Kd.R_mono HO_5.out (fun _ hk=>trivial),by repeat (first|(with_reducible first|exact HB.out|apply below_alloc|apply pw_below_drewN|apply below_drew1)|exact HB.out)⟩
def tollbarref07_Coded.f (k:Nat) (l0:List (S55)):Option (Bool):=(tollbarref04_List.f k l0 (⟨#[116,114,97,110,115,102,101,114,45,101,110,99,111,100,105,110,103]⟩:ByteArray)).bind fun t437=>(if (t437.length:Int)=1 then (if 0 < (t437.length:Int) then ((tollbarref02_Fold.f k (rdOf ByteArray.empty t437 0)).bind fun t441=>(some (t441.toList == ([99,104,117,110,107,101,100]:List UInt8)))) else (none)) else (some false))
set_option maxHeartbeats 8000000 in
set_option maxRecDepth 100000 in
theorem tollbarref07_Coded.calls (k:Nat) (A0:Option Addr) (c0:Nat) (l0:List (S55)) (r:Bool) (w:World) (hr0:Kd.C k55 w A0 l0.length l0) (hc0:l0.length ≤ c0) (h:tollbarref07_Coded.f k l0=some r) :
  Calls Tryz.prog 90 #[.slice A0 l0.length c0] w fun e w' => e = .returned (.bool r)∧Below w.heap.size w w' := by
 have HR0:=Aside0.mk hr0
 have HC0:=Aside0.mk hc0
 clear hr0 hc0
 have HB:=Aside0.mk (Below.refl w.heap.size w)
 have H:((tollbarref04_List.f k l0 (⟨#[116,114,97,110,115,102,101,114,45,101,110,99,111,100,105,110,103]⟩:ByteArray)).bind fun t437=>(if (t437.length:Int)=1 then (if 0 < (t437.length:Int) then ((tollbarref02_Fold.f k (rdOf ByteArray.empty t437 0)).bind fun t441=>(some (t441.toList == ([99,104,117,110,107,101,100]:List UInt8)))) else (none)) else (some false)))=some r:=h
 clear h
 replace H:=Option.bind_eq_some_iff.mp H
 obtain ⟨t437,A20,H⟩:=H
 replace H:(if (t437.length:Int)=1 then (if 0 < (t437.length:Int) then ((tollbarref02_Fold.f k (rdOf ByteArray.empty t437 0)).bind fun t441=>(some (t441.toList == ([99,104,117,110,107,101,100]:List UInt8)))) else (none)) else (some false))=some r:=H
 have A2:=Aside0.mk A20
 clear A20
 by_cases c3:(t437.length:Int)=1
 ·rw [if_pos c3] at H
  have c3b0:((t437.length:Int) == 1)=true:=beq_iff_eq.mpr c3
  have c3b1:((t437.length:Int) != 1)=false:=bne_eq_false_iff_eq.mpr c3
  clear c3
  by_cases c4:0 < (t437.length:Int)
  ·rw [if_pos c4] at H
   have c4b0:decide (0 < (t437.length:Int))=true:=decide_eq_true c4
   have c4b1:decide (0 < t437.length)=true:=decide_eq_true (by omega)
   clear c4
   replace H:=Option.bind_eq_some_iff.mp H
   obtain ⟨t441,A50,H⟩:=H
   replace H:(some (t441.toList == ([99,104,117,110,107,101,100]:List UInt8)))=some r:=H
   have A5:=Aside0.mk A50
   clear A50
   obtain rfl:=Option.some.inj H
   go_enter Tryz.func90,Tryz.ntmps90
   go_wp2_with (first|((with_reducible refine gate_callee (f:=103) rfl ?_);refine goesL_ (some 5) rfl rfl Tryz.func103 (by kernel_rfl) rfl #[.slice A0 l0.length c0,.string (⟨#[116,114,97,110,115,102,101,114,45,101,110,99,111,100,105,110,103]⟩:ByteArray)] rfl (by (try simp only [List.map_toArray,List.map_cons,List.map_nil]);first|done|rfl|(simp only [List.length_drop,List.length_take];rfl)) ?_;(with_reducible refine (tollbarref04_List.calls k _ _ l0 (⟨#[116,114,97,110,115,102,101,114,45,101,110,99,111,100,105,110,103]⟩:ByteArray) t437 _ ?side1 ?side2 A2.out).mono ?_);(case side1=>repeat (first|exact HR0.out|(with_reducible refine Kd.C_alloc ?_ _)|(with_reducible refine Kd.C_drewN ?_ _)|(with_reducible refine Kd.C_drew ?_)));(case side2=>exact HC0.out);rintro e w6 ⟨v438,rfl,ho0,hb⟩;(try clear A2);refine ⟨_,rfl,?_⟩;have n0_:=Aside0.mk (Kd.R_lower ho0 (below_size (by repeat (first|(with_reducible first|exact HB.out|apply below_alloc|apply pw_below_drewN|apply below_drew1)|exact HB.out))));have n1_:=Aside0.mk (below_step (by repeat (first|(with_reducible first|exact HB.out|apply below_alloc|apply pw_below_drewN|apply below_drew1)|exact HB.out)) hb);clear HB;have HO439:=n0_;have HB:=n1_;clear n0_ n1_;(try clear hb);(try clear hb2);(try clear hk);(try clear hi);(try clear ho0);obtain ⟨Ao7,co7,eo7⟩:=Kd.R_slice HO439.out;subst eo7;have p440:0 ≤ (0:Int):=(by omega);have q440:0 < (t437.length:Int):=of_decide_eq_true (by first|(with_reducible assumption)|assumption);obtain ⟨ad440,e440,hx440_0⟩:=Kd.at_string (Kd.R_reads' HO439.out).2.2 0 p440 q440;cases e440;have qi440:(0 < t437.length)=True:=eq_true (by omega);(try rw [show ((0:Int)).toNat=0 from rfl] at hx440_0);(try rw [Addr.add_zero'] at hx440_0);replace p440:=eq_true p440;replace q440:=eq_true q440)|(go_at_call 106;(with_reducible refine (tollbarref02_Fold.calls k (rdOf ByteArray.empty t437 0) t441 _ A5.out).mono ?_);rintro e w8 ⟨rfl,hb⟩;(try clear A5);have n0_:=Aside0.mk (Kd.R_below (by (with_reducible repeat (first|apply Kd.R_alloc|apply Kd.R_drewN|apply Kd.R_drew));exact HO439.out) hb);have n1_:=Aside0.mk (below_step (by repeat (first|(with_reducible first|exact HB.out|apply below_alloc|apply pw_below_drewN|apply below_drew1)|exact HB.out)) hb);clear HO439;clear HB;have HO439:=n0_;have HB:=n1_;clear n0_ n1_;(try clear hb);(try clear hb2);(try clear hk);(try clear hi)))
   go_ret
   exact ⟨by first|rfl|(simp [errW_none,errW_some] <;> rfl)|(simp [*,errW_none,errW_some] <;> rfl),by repeat (first|(with_reducible first|exact HB.out|apply below_alloc|apply pw_below_drewN|apply below_drew1)|exact HB.out)⟩
  ·rw [if_neg c4] at H
   exact absurd H (by simp)
 ·rw [if_neg c3] at H
  have c3b0:((t437.length:Int) == 1)=false:=beq_eq_false_iff_ne.mpr c3
  have c3b1:((t437.length:Int) != 1)=true:=bne_iff_ne.mpr c3
  obtain rfl:=Option.some.inj H
  go_enter Tryz.func90,Tryz.ntmps90
  go_wp2_with (first|((with_reducible refine gate_callee (f:=103) rfl ?_);refine goesL_ (some 5) rfl rfl Tryz.func103 (by kernel_rfl) rfl #[.slice A0 l0.length c0,.string (⟨#[116,114,97,110,115,102,101,114,45,101,110,99,111,100,105,110,103]⟩:ByteArray)] rfl (by (try simp only [List.map_toArray,List.map_cons,List.map_nil]);first|done|rfl|(simp only [List.length_drop,List.length_take];rfl)) ?_;(with_reducible refine (tollbarref04_List.calls k _ _ l0 (⟨#[116,114,97,110,115,102,101,114,45,101,110,99,111,100,105,110,103]⟩:ByteArray) t437 _ ?side1 ?side2 A2.out).mono ?_);(case side1=>repeat (first|exact HR0.out|(with_reducible refine Kd.C_alloc ?_ _)|(with_reducible refine Kd.C_drewN ?_ _)|(with_reducible refine Kd.C_drew ?_)));(case side2=>exact HC0.out);rintro e w9 ⟨v438,rfl,ho0,hb⟩;(try clear A2);refine ⟨_,rfl,?_⟩;have n0_:=Aside0.mk (Kd.R_lower ho0 (below_size (by repeat (first|(with_reducible first|exact HB.out|apply below_alloc|apply pw_below_drewN|apply below_drew1)|exact HB.out))));have n1_:=Aside0.mk (below_step (by repeat (first|(with_reducible first|exact HB.out|apply below_alloc|apply pw_below_drewN|apply below_drew1)|exact HB.out)) hb);clear HB;have HO439:=n0_;have HB:=n1_;clear n0_ n1_;(try clear hb);(try clear hb2);(try clear hk);(try clear hi);(try clear ho0);obtain ⟨Ao10,co10,eo10⟩:=Kd.R_slice HO439.out;subst eo10))
  go_ret
  exact ⟨by first|rfl|(simp [errW_none,errW_some] <;> rfl)|(simp [*,errW_none,errW_some] <;> rfl),by repeat (first|(with_reducible first|exact HB.out|apply below_alloc|apply pw_below_drewN|apply below_drew1)|exact HB.out)⟩
def tollbarref02_Digit.f (a0:Int):Option (Bool):=if a0 ≥ 48 then (some (decide (a0 ≤ 57))) else (some false)
set_option maxHeartbeats 8000000 in
set_option maxRecDepth 100000 in
theorem tollbarref02_Digit.calls (a0:Int) (r:Bool) (w:World) (h:tollbarref02_Digit.f a0=some r) :
  Calls Tryz.prog 105 #[.int .u8 a0] w fun e w' => e = .returned (.bool r)∧Drawn0 w w' := by
 have H:(if a0 ≥ 48 then (some (decide (a0 ≤ 57))) else (some false))=some r:=h
 clear h
 by_cases c2:a0 ≥ 48
 ·rw [if_pos c2] at H
  have c2b0:decide (48 ≤ a0)=true:=decide_eq_true c2
  clear c2
  obtain rfl:=Option.some.inj H
  go_enter Tryz.func105,Tryz.ntmps105
  go_wp2
  go_ret
  exact ⟨by first|rfl|(simp;done)|(simp [*];done),by repeat (first|exact Drawn0.refl _|apply Drawn0.step)⟩
 ·rw [if_neg c2] at H
  have c2b0:decide (48 ≤ a0)=false:=decide_eq_false c2
  clear c2
  obtain rfl:=Option.some.inj H
  go_enter Tryz.func105,Tryz.ntmps105
  go_wp2
  go_ret
  exact ⟨by first|rfl|(simp;done)|(simp [*];done),by repeat (first|exact Drawn0.refl _|apply Drawn0.step)⟩
mutual
def tollbarref02_Decimal.j0:Nat → ByteArray → Bool → Option (Int × Bool)
 | 0,_,_=>none
 | k + 1,x0,x13=>if x13=true then (some (0,false)) else (tollbarref02_Decimal.l0 k x0 0 0)
def tollbarref02_Decimal.l0:Nat → ByteArray → Int → Int → Option (Int × Bool)
 | 0,_,_,_=>none
 | k + 1,x0,x4,x5=>if x5 < (x0.size:Int) then (if 0 ≤ x5 then ((tollbarref02_Digit.f (bt x0 x5)).bind fun t427=>(if t427=true then (tollbarref02_Decimal.l0 k x0 (wrap64 ((wrap64 (x4 * 10)) + (((bt x0 x5) - 48) % 256))) (wrap64 (x5 + 1))) else (some (0,false)))) else (none)) else (some (x4,true))
end
def tollbarref02_Decimal.f (k:Nat) (a0:ByteArray):Option (Int × Bool):=if (a0.size:Int) < 1 then (tollbarref02_Decimal.j0 k a0 true) else (tollbarref02_Decimal.j0 k a0 (decide ((a0.size:Int) > 18)))
set_option maxHeartbeats 8000000 in
set_option maxRecDepth 100000 in
theorem tollbarref02_Decimal.calls (k:Nat) (a0:ByteArray) (r1:Int) (r2:Bool) (w:World) (h:tollbarref02_Decimal.f k a0=some (r1,r2)) :
  Calls Tryz.prog 134 #[.string a0] w fun e w' => e = .returned (.tuple #[.int .i64 r1,.bool r2])∧Drawn0 w w' := by
 have H:(if (a0.size:Int) < 1 then (tollbarref02_Decimal.j0 k a0 true) else (tollbarref02_Decimal.j0 k a0 (decide ((a0.size:Int) > 18))))=some (r1,r2):=h
 clear h
 have HC2:=Aside0.mk H
 clear H
 go_enter Tryz.func134,Tryz.ntmps134
 go_upto_region 1 with (fail)
 go_cut [13] (fun v13 wc => ∃ (kq:Nat) (x13_1:Bool),v13 = .bool x13_1∧Aside0 (tollbarref02_Decimal.j0 kq a0 x13_1=some (r1,r2))∧Aside0 (kq ≤ k)∧Drawn0 w wc)
 case first =>
  have H:=HC2.out
  clear HC2
  by_cases c3:(a0.size:Int) < 1
  ·rw [if_pos c3] at H
   have c3b0:decide ((a0.size:Int) < 1)=true:=decide_eq_true c3
   have c3b1:decide (a0.size < 1)=true:=decide_eq_true (by omega)
   clear c3
   (first|rw [c3b0]|(simp only [i64_w,i32_w];rw [c3b0])|rw [c3b1]|skip)
   have H' := Aside0.mk H
   clear H
   go_wp2
   go_meet
   case rel=>exact ⟨_,(true),(by first|rfl|(simp;done)|(simp [*];done)),H',⟨by first|omega|exact Nat.le_refl _⟩,by repeat (first|exact Drawn0.refl _|apply Drawn0.step)⟩
  ·rw [if_neg c3] at H
   have c3b0:decide ((a0.size:Int) < 1)=false:=decide_eq_false c3
   have c3b1:decide (a0.size < 1)=false:=decide_eq_false (by omega)
   clear c3
   (first|rw [c3b0]|(simp only [i64_w,i32_w];rw [c3b0])|rw [c3b1]|skip)
   have H' := Aside0.mk H
   clear H
   go_wp2
   go_meet
   case rel=>exact ⟨_,(decide ((a0.size:Int) > 18)),(by first|rfl|(simp;done)|(simp [*];done)),H',⟨by first|omega|exact Nat.le_refl _⟩,by repeat (first|exact Drawn0.refl _|apply Drawn0.step)⟩
 case rest =>
  clear HC2
  try clear c1
  try clear p2
  try clear c3
  try clear c3b0
  try clear c3b1
  obtain ⟨kq,x13_1,rfl,HA,HJ1,⟨mc1,rfl⟩⟩:=hcut
  cases kq with
  | zero=>exact absurd HA.out (by simp [tollbarref02_Decimal.j0])
  | succ kj1 =>
   have H:=HA.out
   clear HA
   simp only [tollbarref02_Decimal.j0] at H
   by_cases c4:x13_1=true
   ·subst c4
    have H1:(some (0,false))=some (r1,r2):=by rw [if_pos rfl] at H;exact H
    clear H
    have H:=H1
    clear H1
    simp only [Option.some.injEq,Prod.mk.injEq] at H
    obtain ⟨rfl,rfl⟩:=H
    go_wp2
    go_ret2
    exact ⟨by first|rfl|(simp;done)|(simp [*];done),by repeat (first|exact Drawn0.refl _|apply Drawn0.step)⟩
   ·replace c4:=Bool.eq_false_iff.mpr c4
    subst c4
    have H1:(tollbarref02_Decimal.l0 kj1 a0 0 0)=some (r1,r2):=by rw [if_neg (show ¬ (false=true) by decide)] at H;exact H
    clear H
    have H:=H1
    clear H1
    have H' := Aside0.mk H
    clear H
    go_wp2
    go_loopg [4,5] kj1 (fun kq v4 v5 w' => ∃ (x4_2:Int) (x5_2:Int),v4 = .int .i64 x4_2∧v5 = .int .i64 x5_2∧Aside0 (tollbarref02_Decimal.l0 kq a0 x4_2 x5_2=some (r1,r2))∧Aside0 (kq ≤ kj1)∧Drawn0 w w')
    case atStart=>exact ⟨(0),(0),(by first|rfl|(simp;done)|(simp [*];done)),(by first|rfl|(simp;done)|(simp [*];done)),H',⟨Nat.le_refl _⟩,by repeat (first|exact Drawn0.refl _|apply Drawn0.step)⟩
    case round =>
     clear H'
     try clear c1
     try clear p2
     try clear c3
     try clear c3b0
     try clear c3b1
     try clear c4
     try clear p2
     obtain ⟨x4_2,x5_2,rfl,rfl,HA,HK2,⟨m2,rfl⟩⟩:=hrel
     cases gk with
     | zero=>exact absurd HA.out (by simp [tollbarref02_Decimal.l0])
     | succ k2 =>
      have H:=HA.out
      clear HA
      simp only [tollbarref02_Decimal.l0] at H
      by_cases c5:x5_2 < (a0.size:Int)
      ·rw [if_pos c5] at H
       have c5b0:decide (x5_2 < (a0.size:Int))=true:=decide_eq_true c5
       clear c5
       by_cases c6:0 ≤ x5_2
       ·rw [if_pos c6] at H
        have c6b0:decide (0 ≤ x5_2)=true:=decide_eq_true c6
        clear c6
        replace H:=Option.bind_eq_some_iff.mp H
        obtain ⟨t427,A80,H⟩:=H
        replace H:(if t427=true then (tollbarref02_Decimal.l0 k2 a0 (wrap64 ((wrap64 (x4_2 * 10)) + (((bt a0 x5_2) - 48) % 256))) (wrap64 (x5_2 + 1))) else (some (0,false)))=some (r1,r2):=H
        have A8:=Aside0.mk A80
        clear A80
        by_cases c9:t427=true
        ·subst c9
         have H1:(tollbarref02_Decimal.l0 k2 a0 (wrap64 ((wrap64 (x4_2 * 10)) + (((bt a0 x5_2) - 48) % 256))) (wrap64 (x5_2 + 1)))=some (r1,r2):=by rw [if_pos rfl] at H;exact H
         clear H
         have H:=H1
         clear H1
         have H' := Aside0.mk H
         clear H
         have p7:0 ≤ (x5_2:Int):=of_decide_eq_true (by first|(with_reducible assumption)|assumption)
         have q7:x5_2 < (a0.size:Int):=of_decide_eq_true (by first|(with_reducible assumption)|assumption)
         have hx7:=bt_at a0 x5_2
         replace p7:=eq_true p7
         replace q7:=eq_true q7
         go_wp2_with (first|((with_reducible refine gate_callee (f:=105) rfl ?_);refine goesL_ (some 23) rfl rfl Tryz.func105 (by kernel_rfl) rfl #[.int .u8 (bt a0 x5_2)] rfl (by (try simp only [List.map_toArray,List.map_cons,List.map_nil]);first|done|rfl|(simp only [List.length_drop,List.length_take];rfl)) ?_;(with_reducible refine (tollbarref02_Digit.calls (bt a0 x5_2) true _ A8.out).mono ?_);rintro e w' ⟨rfl,⟨nd,rfl⟩⟩;(try clear A8);refine ⟨_,rfl,?_⟩;have p10:0 ≤ (x5_2:Int):=of_decide_eq_true (by first|(with_reducible assumption)|assumption);have q10:x5_2 < (a0.size:Int):=of_decide_eq_true (by first|(with_reducible assumption)|assumption);have hx10:=bt_at a0 x5_2;replace p10:=eq_true p10;replace q10:=eq_true q10))
         go_roundg k2
         case measure=>have:=HJ1.out;have:=HK2.out;omega
         case rel=>exact ⟨(wrap64 ((wrap64 (x4_2 * 10)) + (((bt a0 x5_2) - 48) % 256))),(wrap64 (x5_2 + 1)),(by first|rfl|(simp;done)|(simp [*];done)),(by first|rfl|(simp;done)|(simp [*];done)),H',⟨by have:=HJ1.out;have:=HK2.out;omega⟩,by repeat (first|exact Drawn0.refl _|apply Drawn0.step)⟩
        ·replace c9:=Bool.eq_false_iff.mpr c9
         subst c9
         have H1:(some (0,false))=some (r1,r2):=by rw [if_neg (show ¬ (false=true) by decide)] at H;exact H
         clear H
         have H:=H1
         clear H1
         simp only [Option.some.injEq,Prod.mk.injEq] at H
         obtain ⟨rfl,rfl⟩:=H
         have p7:0 ≤ (x5_2:Int):=of_decide_eq_true (by first|(with_reducible assumption)|assumption)
         have q7:x5_2 < (a0.size:Int):=of_decide_eq_true (by first|(with_reducible assumption)|assumption)
         have hx7:=bt_at a0 x5_2
         replace p7:=eq_true p7
         replace q7:=eq_true q7
         go_wp2_with (first|((with_reducible refine gate_callee (f:=105) rfl ?_);refine goesL_ (some 23) rfl rfl Tryz.func105 (by kernel_rfl) rfl #[.int .u8 (bt a0 x5_2)] rfl (by (try simp only [List.map_toArray,List.map_cons,List.map_nil]);first|done|rfl|(simp only [List.length_drop,List.length_take];rfl)) ?_;(with_reducible refine (tollbarref02_Digit.calls (bt a0 x5_2) false _ A8.out).mono ?_);rintro e w' ⟨rfl,⟨nd,rfl⟩⟩;(try clear A8);refine ⟨_,rfl,?_⟩))
         go_ret2
         exact ⟨by first|rfl|(simp;done)|(simp [*];done),by repeat (first|exact Drawn0.refl _|apply Drawn0.step)⟩
       ·rw [if_neg c6] at H
        exact absurd H (by simp)
      ·rw [if_neg c5] at H
       have c5b0:decide (x5_2 < (a0.size:Int))=false:=decide_eq_false c5
       clear c5
       simp only [Option.some.injEq,Prod.mk.injEq] at H
       obtain ⟨rfl,rfl⟩:=H
       go_wp2
       go_ret2
       exact ⟨by first|rfl|(simp;done)|(simp [*];done),by repeat (first|exact Drawn0.refl _|apply Drawn0.step)⟩
def tollbarref07_Length.l0:Nat → List ByteArray → Int → Bool → Int → Option (Int × Bool)
 | 0,_,_,_,_=>none
 | k + 1,x4,x5,x6,x7=>if x7 < (x4.length:Int) then (if 0 ≤ x7 then ((tollbarref02_Decimal.f k (rdOf ByteArray.empty x4 x7)).bind fun bt435=>(if bt435.2=true then (if bt435.1=x5 then (tollbarref07_Length.l0 k x4 x5 x6 (wrap64 (x7 + 1))) else (some (0,false))) else (some (0,false)))) else (none)) else (some (x5,x6))
def tollbarref07_Length.f (k:Nat) (l0:List (S55)):Option (Int × Bool):=(tollbarref04_List.f k l0 (⟨#[99,111,110,116,101,110,116,45,108,101,110,103,116,104]⟩:ByteArray)).bind fun t428=>(if (t428.length:Int)=0 then (some (0,false)) else (if 0 < (t428.length:Int) then ((tollbarref02_Decimal.f k (rdOf ByteArray.empty t428 0)).bind fun bt432=>(tollbarref07_Length.l0 k t428 bt432.1 bt432.2 0)) else (none)))
set_option maxHeartbeats 8000000 in
set_option maxRecDepth 100000 in
theorem tollbarref07_Length.calls (k:Nat) (A0:Option Addr) (c0:Nat) (l0:List (S55)) (r1:Int) (r2:Bool) (w:World) (hr0:Kd.C k55 w A0 l0.length l0) (hc0:l0.length ≤ c0) (h:tollbarref07_Length.f k l0=some (r1,r2)) :
  Calls Tryz.prog 89 #[.slice A0 l0.length c0] w fun e w' => e = .returned (.tuple #[.int .i64 r1,.bool r2])∧Below w.heap.size w w' := by
 have HR0:=Aside0.mk hr0
 have HC0:=Aside0.mk hc0
 clear hr0 hc0
 have HB:=Aside0.mk (Below.refl w.heap.size w)
 have H:((tollbarref04_List.f k l0 (⟨#[99,111,110,116,101,110,116,45,108,101,110,103,116,104]⟩:ByteArray)).bind fun t428=>(if (t428.length:Int)=0 then (some (0,false)) else (if 0 < (t428.length:Int) then ((tollbarref02_Decimal.f k (rdOf ByteArray.empty t428 0)).bind fun bt432=>(tollbarref07_Length.l0 k t428 bt432.1 bt432.2 0)) else (none))))=some (r1,r2):=h
 clear h
 replace H:=Option.bind_eq_some_iff.mp H
 obtain ⟨t428,A20,H⟩:=H
 replace H:(if (t428.length:Int)=0 then (some (0,false)) else (if 0 < (t428.length:Int) then ((tollbarref02_Decimal.f k (rdOf ByteArray.empty t428 0)).bind fun bt432=>(tollbarref07_Length.l0 k t428 bt432.1 bt432.2 0)) else (none)))=some (r1,r2):=H
 have A2:=Aside0.mk A20
 clear A20
 by_cases c3:(t428.length:Int)=0
 ·rw [if_pos c3] at H
  have c3b0:((t428.length:Int) == 0)=true:=beq_iff_eq.mpr c3
  have c3b1:((t428.length:Int) != 0)=false:=bne_eq_false_iff_eq.mpr c3
  clear c3
  simp only [Option.some.injEq,Prod.mk.injEq] at H
  obtain ⟨rfl,rfl⟩:=H
  go_enter Tryz.func89,Tryz.ntmps89
  go_wp2_with (first|((with_reducible refine gate_callee (f:=103) rfl ?_);refine goesL_ (some 11) rfl rfl Tryz.func103 (by kernel_rfl) rfl #[.slice A0 l0.length c0,.string (⟨#[99,111,110,116,101,110,116,45,108,101,110,103,116,104]⟩:ByteArray)] rfl (by (try simp only [List.map_toArray,List.map_cons,List.map_nil]);first|done|rfl|(simp only [List.length_drop,List.length_take];rfl)) ?_;(with_reducible refine (tollbarref04_List.calls k _ _ l0 (⟨#[99,111,110,116,101,110,116,45,108,101,110,103,116,104]⟩:ByteArray) t428 _ ?side1 ?side2 A2.out).mono ?_);(case side1=>repeat (first|exact HR0.out|(with_reducible refine Kd.C_alloc ?_ _)|(with_reducible refine Kd.C_drewN ?_ _)|(with_reducible refine Kd.C_drew ?_)));(case side2=>exact HC0.out);rintro e w4 ⟨v429,rfl,ho0,hb⟩;(try clear A2);refine ⟨_,rfl,?_⟩;have n0_:=Aside0.mk (Kd.R_lower ho0 (below_size (by repeat (first|(with_reducible first|exact HB.out|apply below_alloc|apply pw_below_drewN|apply below_drew1)|exact HB.out))));have n1_:=Aside0.mk (below_step (by repeat (first|(with_reducible first|exact HB.out|apply below_alloc|apply pw_below_drewN|apply below_drew1)|exact HB.out)) hb);clear HB;have HO430:=n0_;have HB:=n1_;clear n0_ n1_;(try clear hb);(try clear hb2);(try clear hk);(try clear hi);(try clear ho0);obtain ⟨Ao5,co5,eo5⟩:=Kd.R_slice HO430.out;subst eo5))
  go_ret2
  exact ⟨by first|rfl|(simp [errW_none,errW_some] <;> rfl)|(simp [*,errW_none,errW_some] <;> rfl),by repeat (first|(with_reducible first|exact HB.out|apply below_alloc|apply pw_below_drewN|apply below_drew1)|exact HB.out)⟩
 ·rw [if_neg c3] at H
  have c3b0:((t428.length:Int) == 0)=false:=beq_eq_false_iff_ne.mpr c3
  have c3b1:((t428.length:Int) != 0)=true:=bne_iff_ne.mpr c3
  have c3b2 : ¬ (t428=[]):=fun h_=>c3 (by rw [h_];rfl)
  by_cases c6:0 < (t428.length:Int)
  ·rw [if_pos c6] at H
   have c6b0:decide (0 < (t428.length:Int))=true:=decide_eq_true c6
   have c6b1:decide (0 < t428.length)=true:=decide_eq_true (by omega)
   clear c6
   replace H:=Option.bind_eq_some_iff.mp H
   obtain ⟨⟨t432,t433⟩,A70,H⟩:=H
   replace H:(tollbarref07_Length.l0 k t428 t432 t433 0)=some (r1,r2):=H
   have A7:=Aside0.mk A70
   clear A70
   have H' := Aside0.mk H
   clear H
   go_enter Tryz.func89,Tryz.ntmps89
   go_wp2_with (first|((with_reducible refine gate_callee (f:=103) rfl ?_);refine goesL_ (some 11) rfl rfl Tryz.func103 (by kernel_rfl) rfl #[.slice A0 l0.length c0,.string (⟨#[99,111,110,116,101,110,116,45,108,101,110,103,116,104]⟩:ByteArray)] rfl (by (try simp only [List.map_toArray,List.map_cons,List.map_nil]);first|done|rfl|(simp only [List.length_drop,List.length_take];rfl)) ?_;(with_reducible refine (tollbarref04_List.calls k _ _ l0 (⟨#[99,111,110,116,101,110,116,45,108,101,110,103,116,104]⟩:ByteArray) t428 _ ?side1 ?side2 A2.out).mono ?_);(case side1=>repeat (first|exact HR0.out|(with_reducible refine Kd.C_alloc ?_ _)|(with_reducible refine Kd.C_drewN ?_ _)|(with_reducible refine Kd.C_drew ?_)));(case side2=>exact HC0.out);rintro e w8 ⟨v429,rfl,ho0,hb⟩;(try clear A2);refine ⟨_,rfl,?_⟩;have n0_:=Aside0.mk (Kd.R_lower ho0 (below_size (by repeat (first|(with_reducible first|exact HB.out|apply below_alloc|apply pw_below_drewN|apply below_drew1)|exact HB.out))));have n1_:=Aside0.mk (below_step (by repeat (first|(with_reducible first|exact HB.out|apply below_alloc|apply pw_below_drewN|apply below_drew1)|exact HB.out)) hb);clear HB;have HO430:=n0_;have HB:=n1_;clear n0_ n1_;(try clear hb);(try clear hb2);(try clear hk);(try clear hi);(try clear ho0);obtain ⟨Ao9,co9,eo9⟩:=Kd.R_slice HO430.out;subst eo9;have p431:0 ≤ (0:Int):=(by omega);have q431:0 < (t428.length:Int):=of_decide_eq_true (by first|(with_reducible assumption)|assumption);obtain ⟨ad431,e431,hx431_0⟩:=Kd.at_string (Kd.R_reads' HO430.out).2.2 0 p431 q431;cases e431;have qi431:(0 < t428.length)=True:=eq_true (by omega);(try rw [show ((0:Int)).toNat=0 from rfl] at hx431_0);(try rw [Addr.add_zero'] at hx431_0);replace p431:=eq_true p431;replace q431:=eq_true q431)|((with_reducible refine gate_callee (f:=134) rfl ?_);refine goesL_ (some 19) rfl rfl Tryz.func134 (by kernel_rfl) rfl #[.string (rdOf ByteArray.empty t428 0)] rfl (by (try simp only [List.map_toArray,List.map_cons,List.map_nil]);first|done|rfl|(simp only [List.length_drop,List.length_take];rfl)) ?_;(with_reducible refine (tollbarref02_Decimal.calls k (rdOf ByteArray.empty t428 0) t432 t433 _ A7.out).mono ?_);rintro e w' ⟨rfl,⟨nd,rfl⟩⟩;(try clear A7);refine ⟨_,rfl,?_⟩))
   go_loopg [7] k (fun kq v7 w' => ∃ (x7_1:Int),v7 = .int .i64 x7_1∧Aside0 (tollbarref07_Length.l0 kq t428 t432 t433 x7_1=some (r1,r2))∧Aside0 (kq ≤ k)∧Aside0 (Kd.R Kd.string 9 w' w.heap.size (fun _=>True) (.slice (some ad431) t428.length co9) t428)∧Aside0 (Below w.heap.size w w'))
   case atStart=>exact ⟨(0),(by first|rfl|(simp;done)|(simp [*];done)),H',⟨Nat.le_refl _⟩,⟨by (with_reducible repeat (first|apply Kd.R_alloc|apply Kd.R_drewN|apply Kd.R_drew));exact HO430.out⟩,⟨by repeat (first|(with_reducible first|exact HB.out|apply below_alloc|apply pw_below_drewN|apply below_drew1)|exact HB.out)⟩⟩
   case round =>
    clear H'
    try clear c1
    try clear p2
    try clear c3
    try clear c3b0
    try clear c3b1
    try clear c3b2
    try clear p4
    try clear q4
    try clear hx4
    try clear qi4
    try clear c6
    try clear c6b0
    try clear c6b1
    try clear c8
    try clear hx431_0
    try clear p431
    try clear q431
    obtain ⟨x7_1,rfl,HA,HK1,HO_4,HB⟩:=hrel
    cases gk with
    | zero=>exact absurd HA.out (by simp [tollbarref07_Length.l0])
    | succ k1 =>
     have H:=HA.out
     clear HA
     simp only [tollbarref07_Length.l0] at H
     by_cases c10:x7_1 < (t428.length:Int)
     ·rw [if_pos c10] at H
      have c10b0:decide (x7_1 < (t428.length:Int))=true:=decide_eq_true c10
      clear c10
      by_cases c11:0 ≤ x7_1
      ·rw [if_pos c11] at H
       have c11b0:decide (0 ≤ x7_1)=true:=decide_eq_true c11
       clear c11
       replace H:=Option.bind_eq_some_iff.mp H
       obtain ⟨⟨t435,t436⟩,A120,H⟩:=H
       replace H:(if t436=true then (if t435=t432 then (tollbarref07_Length.l0 k1 t428 t432 t433 (wrap64 (x7_1 + 1))) else (some (0,false))) else (some (0,false)))=some (r1,r2):=H
       have A12:=Aside0.mk A120
       clear A120
       by_cases c13:t436=true
       ·subst c13
        have H1:(if t435=t432 then (tollbarref07_Length.l0 k1 t428 t432 t433 (wrap64 (x7_1 + 1))) else (some (0,false)))=some (r1,r2):=by rw [if_pos rfl] at H;exact H
        clear H
        have H:=H1
        clear H1
        by_cases c14:t435=t432
        ·rw [if_pos c14] at H
         have c14b0:(t435 == t432)=true:=beq_iff_eq.mpr c14
         have c14b1:(t435 != t432)=false:=bne_eq_false_iff_eq.mpr c14
         clear c14
         have H' := Aside0.mk H
         clear H
         have p434:0 ≤ (x7_1:Int):=of_decide_eq_true (by first|(with_reducible assumption)|assumption)
         have q434:x7_1 < (t428.length:Int):=of_decide_eq_true (by first|(with_reducible assumption)|assumption)
         obtain ⟨ad434,e434,hx434_0⟩:=Kd.at_string (Kd.R_reads' HO_4.out).2.2 x7_1 p434 q434
         obtain rfl:ad431=ad434:=(by injection e434)
         replace p434:=eq_true p434
         replace q434:=eq_true q434
         go_wp2_with (first|((with_reducible refine gate_callee (f:=134) rfl ?_);refine goesL_ (some 33) rfl rfl Tryz.func134 (by kernel_rfl) rfl #[.string (rdOf ByteArray.empty t428 x7_1)] rfl (by (try simp only [List.map_toArray,List.map_cons,List.map_nil]);first|done|rfl|(simp only [List.length_drop,List.length_take];rfl)) ?_;(with_reducible refine (tollbarref02_Decimal.calls k1 (rdOf ByteArray.empty t428 x7_1) t435 true _ A12.out).mono ?_);rintro e w' ⟨rfl,⟨nd,rfl⟩⟩;(try clear A12);refine ⟨_,rfl,?_⟩))
         go_roundg k1
         case measure=>have:=HK1.out;omega
         case rel=>exact ⟨(wrap64 (x7_1 + 1)),(by first|rfl|(simp;done)|(simp [*];done)),H',⟨by have:=HK1.out;omega⟩,⟨by (with_reducible repeat (first|apply Kd.R_alloc|apply Kd.R_drewN|apply Kd.R_drew));exact HO_4.out⟩,⟨by repeat (first|(with_reducible first|exact HB.out|apply below_alloc|apply pw_below_drewN|apply below_drew1)|exact HB.out)⟩⟩
        ·rw [if_neg c14] at H
         have c14b0:(t435 == t432)=false:=beq_eq_false_iff_ne.mpr c14
         have c14b1:(t435 != t432)=true:=bne_iff_ne.mpr c14
         simp only [Option.some.injEq,Prod.mk.injEq] at H
         obtain ⟨rfl,rfl⟩:=H
         have p434:0 ≤ (x7_1:Int):=of_decide_eq_true (by first|(with_reducible assumption)|assumption)
         have q434:x7_1 < (t428.length:Int):=of_decide_eq_true (by first|(with_reducible assumption)|assumption)
         obtain ⟨ad434,e434,hx434_0⟩:=Kd.at_string (Kd.R_reads' HO_4.out).2.2 x7_1 p434 q434
         obtain rfl:ad431=ad434:=(by injection e434)
         replace p434:=eq_true p434
         replace q434:=eq_true q434
         go_wp2_with (first|((with_reducible refine gate_callee (f:=134) rfl ?_);refine goesL_ (some 33) rfl rfl Tryz.func134 (by kernel_rfl) rfl #[.string (rdOf ByteArray.empty t428 x7_1)] rfl (by (try simp only [List.map_toArray,List.map_cons,List.map_nil]);first|done|rfl|(simp only [List.length_drop,List.length_take];rfl)) ?_;(with_reducible refine (tollbarref02_Decimal.calls k1 (rdOf ByteArray.empty t428 x7_1) t435 true _ A12.out).mono ?_);rintro e w' ⟨rfl,⟨nd,rfl⟩⟩;(try clear A12);refine ⟨_,rfl,?_⟩))
         go_ret2
         exact ⟨by first|rfl|(simp [errW_none,errW_some] <;> rfl)|(simp [*,errW_none,errW_some] <;> rfl),by repeat (first|(with_reducible first|exact HB.out|apply below_alloc|apply pw_below_drewN|apply below_drew1)|exact HB.out)⟩
       ·replace c13:=Bool.eq_false_iff.mpr c13
        subst c13
        have H1:(some (0,false))=some (r1,r2):=by rw [if_neg (show ¬ (false=true) by decide)] at H;exact H
        clear H
        have H:=H1
        clear H1
        simp only [Option.some.injEq,Prod.mk.injEq] at H
        obtain ⟨rfl,rfl⟩:=H
        have p434:0 ≤ (x7_1:Int):=of_decide_eq_true (by first|(with_reducible assumption)|assumption)
        have q434:x7_1 < (t428.length:Int):=of_decide_eq_true (by first|(with_reducible assumption)|assumption)
        obtain ⟨ad434,e434,hx434_0⟩:=Kd.at_string (Kd.R_reads' HO_4.out).2.2 x7_1 p434 q434
        obtain rfl:ad431=ad434:=(by injection e434)
        replace p434:=eq_true p434
        replace q434:=eq_true q434
        go_wp2_with (first|((with_reducible refine gate_callee (f:=134) rfl ?_);refine goesL_ (some 33) rfl rfl Tryz.func134 (by kernel_rfl) rfl #[.string (rdOf ByteArray.empty t428 x7_1)] rfl (by (try simp only [List.map_toArray,List.map_cons,List.map_nil]);first|done|rfl|(simp only [List.length_drop,List.length_take];rfl)) ?_;(with_reducible refine (tollbarref02_Decimal.calls k1 (rdOf ByteArray.empty t428 x7_1) t435 false _ A12.out).mono ?_);rintro e w' ⟨rfl,⟨nd,rfl⟩⟩;(try clear A12);refine ⟨_,rfl,?_⟩))
        go_ret2
        exact ⟨by first|rfl|(simp [errW_none,errW_some] <;> rfl)|(simp [*,errW_none,errW_some] <;> rfl),by repeat (first|(with_reducible first|exact HB.out|apply below_alloc|apply pw_below_drewN|apply below_drew1)|exact HB.out)⟩
      ·rw [if_neg c11] at H
       exact absurd H (by simp)
     ·rw [if_neg c10] at H
      have c10b0:decide (x7_1 < (t428.length:Int))=false:=decide_eq_false c10
      clear c10
      simp only [Option.some.injEq,Prod.mk.injEq] at H
      obtain ⟨rfl,rfl⟩:=H
      go_wp2
      go_ret2
      exact ⟨by first|rfl|(simp [errW_none,errW_some] <;> rfl)|(simp [*,errW_none,errW_some] <;> rfl),by repeat (first|(with_reducible first|exact HB.out|apply below_alloc|apply pw_below_drewN|apply below_drew1)|exact HB.out)⟩
  ·rw [if_neg c6] at H
   exact absurd H (by simp)
def tollbarref07_There.f (k:Nat) (l0:List (S55)) (a1:ByteArray):Option (Bool):=(tollbarref04_Get.f k l0 a1).bind fun t424=>(some (decide ((t424.length:Int) > 0)))
set_option maxHeartbeats 8000000 in
set_option maxRecDepth 100000 in
theorem tollbarref07_There.calls (k:Nat) (A0:Option Addr) (c0:Nat) (l0:List (S55)) (a1:ByteArray) (r:Bool) (w:World) (hr0:Kd.C k55 w A0 l0.length l0) (hc0:l0.length ≤ c0) (h:tollbarref07_There.f k l0 a1=some r) :
  Calls Tryz.prog 88 #[.slice A0 l0.length c0,.string a1] w fun e w' => e = .returned (.bool r)∧Below w.heap.size w w' := by
 have HR0:=Aside0.mk hr0
 have HC0:=Aside0.mk hc0
 clear hr0 hc0
 have HB:=Aside0.mk (Below.refl w.heap.size w)
 have H:((tollbarref04_Get.f k l0 a1).bind fun t424=>(some (decide ((t424.length:Int) > 0))))=some r:=h
 clear h
 replace H:=Option.bind_eq_some_iff.mp H
 obtain ⟨t424,A30,H⟩:=H
 replace H:(some (decide ((t424.length:Int) > 0)))=some r:=H
 have A3:=Aside0.mk A30
 clear A30
 obtain rfl:=Option.some.inj H
 go_enter Tryz.func88,Tryz.ntmps88
 go_wp2_with (first|((with_reducible refine gate_callee (f:=61) rfl ?_);refine goesL_ (some 7) rfl rfl Tryz.func61 (by kernel_rfl) rfl #[.slice A0 l0.length c0,.string a1] rfl (by (try simp only [List.map_toArray,List.map_cons,List.map_nil]);first|done|rfl|(simp only [List.length_drop,List.length_take];rfl)) ?_;(with_reducible refine (tollbarref04_Get.calls k _ _ l0 a1 t424 _ ?side1 ?side2 A3.out).mono ?_);(case side1=>repeat (first|exact HR0.out|(with_reducible refine Kd.C_alloc ?_ _)|(with_reducible refine Kd.C_drewN ?_ _)|(with_reducible refine Kd.C_drew ?_)));(case side2=>exact HC0.out);rintro e w4 ⟨v425,rfl,ho0,hb⟩;(try clear A3);refine ⟨_,rfl,?_⟩;have n0_:=Aside0.mk (Kd.R_lower ho0 (below_size (by repeat (first|(with_reducible first|exact HB.out|apply below_alloc|apply pw_below_drewN|apply below_drew1)|exact HB.out))));have n1_:=Aside0.mk (below_step (by repeat (first|(with_reducible first|exact HB.out|apply below_alloc|apply pw_below_drewN|apply below_drew1)|exact HB.out)) hb);clear HB;have HO426:=n0_;have HB:=n1_;clear n0_ n1_;(try clear hb);(try clear hb2);(try clear hk);(try clear hi);(try clear ho0);obtain ⟨Ao5,co5,eo5⟩:=Kd.R_slice HO426.out;subst eo5))
 go_ret
 exact ⟨by first|rfl|(simp [errW_none,errW_some] <;> rfl)|(simp [*,errW_none,errW_some] <;> rfl),by repeat (first|(with_reducible first|exact HB.out|apply below_alloc|apply pw_below_drewN|apply below_drew1)|exact HB.out)⟩
mutual
def tollbarref07_Response.j0:Nat → Bool → Int → ByteArray → Int → List (S55) → List Int → Option (Int × Int × Bool)
 | 0,_,_,_,_,_,_=>none
 | k + 1,x27,x443000,x443001,x443002,x443003,x443004=>if x27=true then (some (0,0,true)) else ((tollbarref07_There.f k x443003 (⟨#[99,111,110,116,101,110,116,45,108,101,110,103,116,104]⟩:ByteArray)).bind fun t443=>((tollbarref07_There.f k x443003 (⟨#[116,114,97,110,115,102,101,114,45,101,110,99,111,100,105,110,103]⟩:ByteArray)).bind fun t444=>((tollbarref07_Length.f k x443003).bind fun bt445=>(if t443=true then (tollbarref07_Response.j1 k t443 t444 bt445.1 bt445.2 t444 x443000 x443001 x443002 x443003 x443004) else (tollbarref07_Response.j1 k t443 t444 bt445.1 bt445.2 false x443000 x443001 x443002 x443003 x443004)))))
def tollbarref07_Response.j1:Nat → Bool → Bool → Int → Bool → Bool → Int → ByteArray → Int → List (S55) → List Int → Option (Int × Int × Bool)
 | 0,_,_,_,_,_,_,_,_,_,_=>none
 | k + 1,x7,x8,x9,x10,x40,x443000,x443001,x443002,x443003,x443004=>if x40=true then (tollbarref07_Response.j2 k x7 x8 x9 x40) else (if x8=true then (if x443002=0 then (tollbarref07_Response.j2 k x7 x8 x9 true) else ((tollbarref07_Coded.f k x443003).bind fun t447=>(if t447=true then (if x7=true then (if x10=true then (tollbarref07_Response.j2 k x7 x8 x9 (decide (x9 > 4096))) else (tollbarref07_Response.j2 k x7 x8 x9 true)) else (tollbarref07_Response.j2 k x7 x8 x9 false)) else (tollbarref07_Response.j2 k x7 x8 x9 (!t447))))) else (if x7=true then (if x10=true then (tollbarref07_Response.j2 k x7 x8 x9 (decide (x9 > 4096))) else (tollbarref07_Response.j2 k x7 x8 x9 true)) else (tollbarref07_Response.j2 k x7 x8 x9 false)))
def tollbarref07_Response.j2:Nat → Bool → Bool → Int → Bool → Option (Int × Int × Bool)
 | 0,_,_,_,_=>none
 | k + 1,x7,x8,x9,x40=>if x40=true then (some (0,0,false)) else (if x8=true then (some (2,0,true)) else (if x7=true then (some (1,x9,true)) else (some (3,0,true))))
end
def tollbarref07_Response.f (k:Nat) (a0:ByteArray) (a1_0:Int) (a1_1:ByteArray) (a1_2:Int) (l1_3:List (S55)) (l1_4:List Int):Option (Int × Int × Bool):=if a0.toList=([72,69,65,68]:List UInt8) then (tollbarref07_Response.j0 k true a1_0 a1_1 a1_2 l1_3 l1_4) else (if a1_0 < 200 then (tollbarref07_Response.j0 k true a1_0 a1_1 a1_2 l1_3 l1_4) else (if a1_0=204 then (tollbarref07_Response.j0 k true a1_0 a1_1 a1_2 l1_3 l1_4) else (tollbarref07_Response.j0 k (a1_0 == 304) a1_0 a1_1 a1_2 l1_3 l1_4)))
def tollbarref07_Response.T3:Bool × List (List Nat × List Nat):=(true,[([],[]),([0],[0]),([1],[1]),([],[]),([3],[3]),([4,2],[4]),([2,5,0,1,2],[2]),([5,6,0,1,2,3,4,5,6],[5])])
def tollbarref07_Response.B3:List Nat:=[0,1,3,0,8,31,63,127]
theorem tollbarref07_Response.tab3:rtab .any (opsOf Tryz.f49 3)=tollbarref07_Response.T3:=by kernel_rfl
theorem tollbarref07_Response.bits3:waitsOk tollbarref07_Response.T3.2 tollbarref07_Response.B3=true:=by kernel_rfl
set_option maxHeartbeats 8000000 in
set_option maxRecDepth 100000 in
theorem tollbarref07_Response.calls (k:Nat) (a0:ByteArray) (a1_0:Int) (a1_1:ByteArray) (a1_2:Int) (A1_3:Option Addr) (c1_3:Nat) (l1_3:List (S55)) (A1_4:Option Addr) (c1_4:Nat) (l1_4:List Int) (r1:Int) (r2:Int) (r3:Bool) (w:World) (hr1_3:Kd.C k55 w A1_3 l1_3.length l1_3) (hc1_3:l1_3.length ≤ c1_3) (hr1_4:Kd.C (Kd.int .u8) w A1_4 l1_4.length l1_4) (hc1_4:l1_4.length ≤ c1_4) (h:tollbarref07_Response.f k a0 a1_0 a1_1 a1_2 l1_3 l1_4=some (r1,r2,r3)) :
  Calls Tryz.prog 49 #[.string a0,.agg #[.int .i64 a1_0,.string a1_1,.int .i64 a1_2,.slice A1_3 l1_3.length c1_3,.slice A1_4 l1_4.length c1_4]] w fun e w' => e = .returned (.tuple #[.int .i64 r1,.int .i64 r2,.bool r3])∧Below w.heap.size w w' := by
 have hu25:=Tryz.underlying25
 have HR1_3:=Aside0.mk hr1_3
 have HC1_3:=Aside0.mk hc1_3
 clear hr1_3 hc1_3
 have HR1_4:=Aside0.mk hr1_4
 have HC1_4:=Aside0.mk hc1_4
 clear hr1_4 hc1_4
 have HB:=Aside0.mk (Below.refl w.heap.size w)
 have H:(if a0.toList=([72,69,65,68]:List UInt8) then (tollbarref07_Response.j0 k true a1_0 a1_1 a1_2 l1_3 l1_4) else (if a1_0 < 200 then (tollbarref07_Response.j0 k true a1_0 a1_1 a1_2 l1_3 l1_4) else (if a1_0=204 then (tollbarref07_Response.j0 k true a1_0 a1_1 a1_2 l1_3 l1_4) else (tollbarref07_Response.j0 k (a1_0 == 304) a1_0 a1_1 a1_2 l1_3 l1_4))))=some (r1,r2,r3):=h
 clear h
 have HC3:=Aside0.mk H
 clear H
 go_enter Tryz.func49,Tryz.ntmps49
 go_upto_region 1 with (first|((with_reducible refine gate_dst (N:=3) rfl ?_);refine box_event ?hg (N:=3) ?hd (cs:=#[.int .i64 a1_0,.string a1_1,.int .i64 a1_2,.slice A1_3 l1_3.length c1_3,.slice A1_4 l1_4.length c1_4]) (t:=25) ?hr ?_;(case hd=>rfl);(case hg=>rfl);(case hr=>first|(go_simp;done)|(go_simp;rfl));intro gb44 hg w4 hbox hb;have n0_:=Aside0.mk (below_step (by repeat (first|(with_reducible first|exact HB.out|apply below_alloc|apply pw_below_drewN|apply below_drew1)|exact HB.out)) hb);have n1_:=Aside0.mk (hbox);have n2_:=Aside0.mk ((by rw [hg];exact (below_size (by repeat (first|(with_reducible first|exact HB.out|apply below_alloc|apply pw_below_drewN|apply below_drew1)|exact HB.out))):w.heap.size ≤ gb44));have n3_:=Aside0.mk ((by rw [hg];exact (below_size (by repeat (first|(with_reducible first|exact HB.out|apply below_alloc|apply pw_below_drewN|apply below_drew1)|exact HB.out))):w.heap.size ≤ gb44));clear HB;have HB:=n0_;have BK44:=n1_;have GW44:=n2_;have GE44:=n3_;clear n0_ n1_ n2_ n3_;clear hb hbox hg))
 (try simp only [Act.put,zqA,zqB,zqC])
 go_cut [27] (fun v27 wc => ∃ (kq:Nat) (x27_2:Bool),v27 = .bool x27_2∧Aside0 (tollbarref07_Response.j0 kq x27_2 a1_0 a1_1 a1_2 l1_3 l1_4=some (r1,r2,r3))∧Aside0 (kq ≤ k)∧Aside0 (wc.heap[gb44]? = some (.cells #[.int .i64 a1_0,.string a1_1,.int .i64 a1_2,(.slice A1_3 l1_3.length c1_3),(.slice A1_4 l1_4.length c1_4)] 25 (0,0)))∧Aside0 (Below w.heap.size w wc))
 case first =>
  have H:=HC3.out
  clear HC3
  by_cases c5:a0.toList=([72,69,65,68]:List UInt8)
  ·rw [if_pos c5] at H
   have c5b0:(a0.toList == ([72,69,65,68]:List UInt8))=true:=beq_iff_eq.mpr c5
   have c5b1:(a0.toList != ([72,69,65,68]:List UInt8))=false:=bne_eq_false_iff_eq.mpr c5
   clear c5
   (first|rw [c5b0]|(simp only [i64_w,i32_w];rw [c5b0])|rw [c5b1]|skip)
   have H' := Aside0.mk H
   clear H
   go_wp2
   go_meet
   case rel=>exact ⟨_,(true),(by first|rfl|(simp;done)|(simp [*];done)),H',⟨by first|omega|exact Nat.le_refl _⟩,⟨by (with_reducible repeat (first|refine blk_drewN ?_ _|refine blk_drew ?_|refine blk_alloc ?_ _));exact BK44.out⟩,⟨by repeat (first|(with_reducible first|exact HB.out|apply below_alloc|apply pw_below_drewN|apply below_drew1|refine below_set ?_ GE44.out)|exact HB.out)⟩⟩
  ·rw [if_neg c5] at H
   have c5b0:(a0.toList == ([72,69,65,68]:List UInt8))=false:=beq_eq_false_iff_ne.mpr c5
   have c5b1:(a0.toList != ([72,69,65,68]:List UInt8))=true:=bne_iff_ne.mpr c5
   (first|rw [c5b0]|(simp only [i64_w,i32_w];rw [c5b0])|rw [c5b1]|skip)
   by_cases c6:a1_0 < 200
   ·rw [if_pos c6] at H
    have c6b0:decide (a1_0 < 200)=true:=decide_eq_true c6
    clear c6
    have H' := Aside0.mk H
    clear H
    have hcz7_0:w4.cell? ⟨gb44,0,none⟩=some (.int .i64 a1_0):=(blk_cell BK44.out 0).trans rfl
    have hcz7_1:w4.cell? ⟨gb44,1,none⟩=some (.string a1_1):=(blk_cell BK44.out 1).trans rfl
    have hcz7_2:w4.cell? ⟨gb44,2,none⟩=some (.int .i64 a1_2):=(blk_cell BK44.out 2).trans rfl
    have hcz7_3:w4.cell? ⟨gb44,3,none⟩=some (.slice A1_3 l1_3.length c1_3):=(blk_cell BK44.out 3).trans rfl
    have hcz7_4:w4.cell? ⟨gb44,4,none⟩=some (.slice A1_4 l1_4.length c1_4):=(blk_cell BK44.out 4).trans rfl
    have hfz7_0:=blk_frozen BK44.out 0
    have hfz7_1:=blk_frozen BK44.out 1
    have hfz7_2:=blk_frozen BK44.out 2
    have hfz7_3:=blk_frozen BK44.out 3
    have hfz7_4:=blk_frozen BK44.out 4
    go_wp2
    go_meet
    case rel=>exact ⟨_,(true),(by first|rfl|(simp;done)|(simp [*];done)),H',⟨by first|omega|exact Nat.le_refl _⟩,⟨by (with_reducible repeat (first|refine blk_drewN ?_ _|refine blk_drew ?_|refine blk_alloc ?_ _));exact BK44.out⟩,⟨by repeat (first|(with_reducible first|exact HB.out|apply below_alloc|apply pw_below_drewN|apply below_drew1|refine below_set ?_ GE44.out)|exact HB.out)⟩⟩
   ·rw [if_neg c6] at H
    have c6b0:decide (a1_0 < 200)=false:=decide_eq_false c6
    clear c6
    by_cases c8:a1_0=204
    ·rw [if_pos c8] at H
     have c8b0:(a1_0 == 204)=true:=beq_iff_eq.mpr c8
     have c8b1:(a1_0 != 204)=false:=bne_eq_false_iff_eq.mpr c8
     clear c8
     have H' := Aside0.mk H
     clear H
     have hcz9_0:w4.cell? ⟨gb44,0,none⟩=some (.int .i64 a1_0):=(blk_cell BK44.out 0).trans rfl
     have hcz9_1:w4.cell? ⟨gb44,1,none⟩=some (.string a1_1):=(blk_cell BK44.out 1).trans rfl
     have hcz9_2:w4.cell? ⟨gb44,2,none⟩=some (.int .i64 a1_2):=(blk_cell BK44.out 2).trans rfl
     have hcz9_3:w4.cell? ⟨gb44,3,none⟩=some (.slice A1_3 l1_3.length c1_3):=(blk_cell BK44.out 3).trans rfl
     have hcz9_4:w4.cell? ⟨gb44,4,none⟩=some (.slice A1_4 l1_4.length c1_4):=(blk_cell BK44.out 4).trans rfl
     have hfz9_0:=blk_frozen BK44.out 0
     have hfz9_1:=blk_frozen BK44.out 1
     have hfz9_2:=blk_frozen BK44.out 2
     have hfz9_3:=blk_frozen BK44.out 3
     have hfz9_4:=blk_frozen BK44.out 4
     go_wp2
     go_meet
     case rel=>exact ⟨_,(true),(by first|rfl|(simp;done)|(simp [*];done)),H',⟨by first|omega|exact Nat.le_refl _⟩,⟨by (with_reducible repeat (first|refine blk_drewN ?_ _|refine blk_drew ?_|refine blk_alloc ?_ _));exact BK44.out⟩,⟨by repeat (first|(with_reducible first|exact HB.out|apply below_alloc|apply pw_below_drewN|apply below_drew1|refine below_set ?_ GE44.out)|exact HB.out)⟩⟩
    ·rw [if_neg c8] at H
     have c8b0:(a1_0 == 204)=false:=beq_eq_false_iff_ne.mpr c8
     have c8b1:(a1_0 != 204)=true:=bne_iff_ne.mpr c8
     have H' := Aside0.mk H
     clear H
     have hcz10_0:w4.cell? ⟨gb44,0,none⟩=some (.int .i64 a1_0):=(blk_cell BK44.out 0).trans rfl
     have hcz10_1:w4.cell? ⟨gb44,1,none⟩=some (.string a1_1):=(blk_cell BK44.out 1).trans rfl
     have hcz10_2:w4.cell? ⟨gb44,2,none⟩=some (.int .i64 a1_2):=(blk_cell BK44.out 2).trans rfl
     have hcz10_3:w4.cell? ⟨gb44,3,none⟩=some (.slice A1_3 l1_3.length c1_3):=(blk_cell BK44.out 3).trans rfl
     have hcz10_4:w4.cell? ⟨gb44,4,none⟩=some (.slice A1_4 l1_4.length c1_4):=(blk_cell BK44.out 4).trans rfl
     have hfz10_0:=blk_frozen BK44.out 0
     have hfz10_1:=blk_frozen BK44.out 1
     have hfz10_2:=blk_frozen BK44.out 2
     have hfz10_3:=blk_frozen BK44.out 3
     have hfz10_4:=blk_frozen BK44.out 4
     go_wp2
     go_meet
     case rel=>exact ⟨_,((a1_0 == 304)),(by first|rfl|(simp;done)|(simp [*];done)),H',⟨by first|omega|exact Nat.le_refl _⟩,⟨by (with_reducible repeat (first|refine blk_drewN ?_ _|refine blk_drew ?_|refine blk_alloc ?_ _));exact BK44.out⟩,⟨by repeat (first|(with_reducible first|exact HB.out|apply below_alloc|apply pw_below_drewN|apply below_drew1|refine below_set ?_ GE44.out)|exact HB.out)⟩⟩
 case rest =>
  clear HC3
  try clear c1
  try clear p2
  try clear c4
  try clear c5
  try clear c5b0
  try clear c5b1
  try clear c6
  try clear c6b0
  try clear c8
  try clear c8b0
  try clear c8b1
  try clear hcz10_0
  try clear hcz10_1
  try clear hcz10_2
  try clear hcz10_3
  try clear hcz10_4
  try clear hcz7_0
  try clear hcz7_1
  try clear hcz7_2
  try clear hcz7_3
  try clear hcz7_4
  try clear hcz9_0
  try clear hcz9_1
  try clear hcz9_2
  try clear hcz9_3
  try clear hcz9_4
  try clear hfz10_0
  try clear hfz10_1
  try clear hfz10_2
  try clear hfz10_3
  try clear hfz10_4
  try clear hfz7_0
  try clear hfz7_1
  try clear hfz7_2
  try clear hfz7_3
  try clear hfz7_4
  try clear hfz9_0
  try clear hfz9_1
  try clear hfz9_2
  try clear hfz9_3
  try clear hfz9_4
  obtain ⟨kq,x27_2,rfl,HA,HJ2,BK44,HB⟩:=hcut
  cases kq with
  | zero=>exact absurd HA.out (by simp [tollbarref07_Response.j0])
  | succ kj2 =>
   have H:=HA.out
   clear HA
   simp only [tollbarref07_Response.j0] at H
   by_cases c11:x27_2=true
   ·subst c11
    have H1:(some (0,0,true))=some (r1,r2,r3):=by rw [if_pos rfl] at H;exact H
    clear H
    have H:=H1
    clear H1
    simp only [Option.some.injEq,Prod.mk.injEq] at H
    obtain ⟨rfl,rfl,rfl⟩:=H
    go_wp2
    go_ret3
    exact ⟨by first|rfl|(simp [errW_none,errW_some] <;> rfl)|(simp [*,errW_none,errW_some] <;> rfl),by repeat (first|(with_reducible first|exact HB.out|apply below_alloc|apply pw_below_drewN|apply below_drew1|refine below_set ?_ GE44.out)|exact HB.out)⟩
   ·replace c11:=Bool.eq_false_iff.mpr c11
    subst c11
    have H1:((tollbarref07_There.f kj2 l1_3 (⟨#[99,111,110,116,101,110,116,45,108,101,110,103,116,104]⟩:ByteArray)).bind fun t46=>((tollbarref07_There.f kj2 l1_3 (⟨#[116,114,97,110,115,102,101,114,45,101,110,99,111,100,105,110,103]⟩:ByteArray)).bind fun t47=>((tollbarref07_Length.f kj2 l1_3).bind fun bt45=>(if t46=true then (tollbarref07_Response.j1 kj2 t46 t47 bt45.1 bt45.2 t47 a1_0 a1_1 a1_2 l1_3 l1_4) else (tollbarref07_Response.j1 kj2 t46 t47 bt45.1 bt45.2 false a1_0 a1_1 a1_2 l1_3 l1_4)))))=some (r1,r2,r3):=by rw [if_neg (show ¬ (false=true) by decide)] at H;exact H
    clear H
    have H:=H1
    clear H1
    replace H:=Option.bind_eq_some_iff.mp H
    obtain ⟨t46,A51,H⟩:=H
    replace H:((tollbarref07_There.f kj2 l1_3 (⟨#[116,114,97,110,115,102,101,114,45,101,110,99,111,100,105,110,103]⟩:ByteArray)).bind fun t47=>((tollbarref07_Length.f kj2 l1_3).bind fun bt45=>(if t46=true then (tollbarref07_Response.j1 kj2 t46 t47 bt45.1 bt45.2 t47 a1_0 a1_1 a1_2 l1_3 l1_4) else (tollbarref07_Response.j1 kj2 t46 t47 bt45.1 bt45.2 false a1_0 a1_1 a1_2 l1_3 l1_4))))=some (r1,r2,r3):=H
    have A12:=Aside0.mk A51
    clear A51
    replace H:=Option.bind_eq_some_iff.mp H
    obtain ⟨t47,A52,H⟩:=H
    replace H:((tollbarref07_Length.f kj2 l1_3).bind fun bt45=>(if t46=true then (tollbarref07_Response.j1 kj2 t46 t47 bt45.1 bt45.2 t47 a1_0 a1_1 a1_2 l1_3 l1_4) else (tollbarref07_Response.j1 kj2 t46 t47 bt45.1 bt45.2 false a1_0 a1_1 a1_2 l1_3 l1_4)))=some (r1,r2,r3):=H
    have A13:=Aside0.mk A52
    clear A52
    replace H:=Option.bind_eq_some_iff.mp H
    obtain ⟨⟨t45,t48⟩,A53,H⟩:=H
    replace H:(if t46=true then (tollbarref07_Response.j1 kj2 t46 t47 t45 t48 t47 a1_0 a1_1 a1_2 l1_3 l1_4) else (tollbarref07_Response.j1 kj2 t46 t47 t45 t48 false a1_0 a1_1 a1_2 l1_3 l1_4))=some (r1,r2,r3):=H
    have A14:=Aside0.mk A53
    clear A53
    have HC15:=Aside0.mk H
    clear H
    try go_wp2
    replace BK44:=Aside0.mk (blk_drew BK44.out)
    replace HB:=Aside0.mk (below_drew1 HB.out)
    refine start_ (n:=8) (S:=fun w' => w'.cell? ⟨gb44,0,none⟩=some (.int .i64 a1_0)∧w'.cell? ⟨gb44,1,none⟩=some (.string a1_1)∧w'.cell? ⟨gb44,2,none⟩=some (.int .i64 a1_2)∧w'.cell? ⟨gb44,3,none⟩=some (.slice A1_3 l1_3.length c1_3)∧w'.cell? ⟨gb44,4,none⟩=some (.slice A1_4 l1_4.length c1_4)) (ds:=[]) #[false,false,false,false,false,false,false,false] (by kernel_rfl) rfl rfl ⟨(blk_cell BK44.out 0).trans rfl,(blk_cell BK44.out 1).trans rfl,(blk_cell BK44.out 2).trans rfl,(blk_cell BK44.out 3).trans rfl,(blk_cell BK44.out 4).trans rfl⟩ (fun hHeld=>?_);refine with_tabW tollbarref07_Response.tab3 tollbarref07_Response.bits3 (fun HT_ HW_=>?_)
    generalize wc.drew=w16 at BK44 HB hHeld ⊢
    refine pure_ (i:=0) (N:=some 28) (v:=?_) (a' := ?_) #[true,false,false,false,false,false,false,false] rfl rfl (any_of HT_.out (by kernel_rfl)) (fun _ _ _ h=>h) (Or.inl ⟨by rfl,?_⟩) ?_ ?_
    rotate_left
    ·intro w';go_simp;with_reducible rfl
    rotate_left
    ·simp only [Act.put,zqA,zqB,zqC,i64_w,i32_w];rfl
    refine pure_ (i:=3) (N:=some 31) (v:=?_) (a' := ?_) #[true,false,false,true,false,false,false,false] rfl rfl (any_of HT_.out (by kernel_rfl)) (fun _ _ _ h=>h) (Or.inl ⟨by rfl,?_⟩) ?_ ?_
    rotate_left
    ·intro w';go_simp;with_reducible rfl
    rotate_left
    ·simp only [Act.put,zqA,zqB,zqC,i64_w,i32_w];rfl
    refine take_ (i:=1) (N:=some 29) (v:=?_) (a' := ?_) #[true,true,false,true,false,false,false,false] rfl rfl (take_ofW HT_.out HW_.out (by kernel_rfl)) (fun _ _ _ h=>h) (Or.inl ⟨by rfl,?_⟩) hHeld ?_ ?_
    rotate_left
    ·rintro w' ⟨s0,s1,s2,s3,s4⟩;go_simp;with_reducible rfl
    rotate_left
    ·simp only [Act.put,zqA,zqB,zqC,i64_w,i32_w];rfl
    refine take_ (i:=4) (N:=some 32) (v:=?_) (a' := ?_) #[true,true,false,true,true,false,false,false] rfl rfl (take_ofW HT_.out HW_.out (by kernel_rfl)) (fun _ _ _ h=>h) (Or.inl ⟨by rfl,?_⟩) hHeld ?_ ?_
    rotate_left
    ·rintro w' ⟨s0,s1,s2,s3,s4⟩;go_simp;with_reducible rfl
    rotate_left
    ·simp only [Act.put,zqA,zqB,zqC,i64_w,i32_w];rfl
    refine one_ (i:=2) (N:=some 30) #[true,true,true,true,true,false,false,false] rfl rfl (one_of HT_.out (by kernel_rfl)) (by decide) (fun K hK=>?_)
    refine goes_ Tryz.func88 (by kernel_rfl) rfl #[.slice A1_3 l1_3.length c1_3,.string (⟨#[99,111,110,116,101,110,116,45,108,101,110,103,116,104]⟩:ByteArray)] (by rfl) rfl rfl (by (try simp only [List.map_toArray,List.map_cons,List.map_nil]);first|done|rfl|(simp only [List.length_drop,List.length_take];rfl)) ?_
    with_reducible refine (tollbarref07_There.calls kj2 _ _ l1_3 (⟨#[99,111,110,116,101,110,116,45,108,101,110,103,116,104]⟩:ByteArray) t46 _ ?side1 ?side2 A12.out).mono ?_
    (case side1=>repeat (first|exact (Kd.C_below HR1_3.out HB.out)|(with_reducible refine Kd.C_alloc ?_ _)|(with_reducible refine Kd.C_drewN ?_ _)|(with_reducible refine Kd.C_drew ?_)))
    (case side2=>exact HC1_3.out)
    rintro e w17 ⟨rfl,hb⟩
    refine ⟨_,rfl,?_⟩
    replace BK44:=Aside0.mk (blk_below (g:=gb44) (o:=.cells #[.int .i64 a1_0,.string a1_1,.int .i64 a1_2,.slice A1_3 l1_3.length c1_3,.slice A1_4 l1_4.length c1_4] 25 (0,0)) (by (with_reducible repeat (first|refine blk_drewN ?_ _|refine blk_drew ?_|refine blk_alloc ?_ _));exact BK44.out) hb)
    replace HB:=Aside0.mk (below_step (by repeat (first|(with_reducible first|exact HB.out|apply below_alloc|apply pw_below_drewN|apply below_drew1|refine below_set ?_ GE44.out)|exact HB.out)) hb)
    (try clear hb)
    (try clear hb2)
    (try clear hk)
    (try clear hi)
    refine hK.out _ _ ⟨(blk_cell BK44.out 0).trans rfl,(blk_cell BK44.out 1).trans rfl,(blk_cell BK44.out 2).trans rfl,(blk_cell BK44.out 3).trans rfl,(blk_cell BK44.out 4).trans rfl⟩ (fun hHeld=>?_)
    clear hK K
    refine norm_ (a' := ?_) ?_ ?_
    rotate_left
    ·show Act.put _ (some 30) _=_
     simp only [Act.put,zqA,zqB,zqC,i64_w,i32_w]
     rfl
    refine one_ (i:=5) (N:=some 33) #[true,true,true,true,true,true,false,false] rfl rfl (one_of HT_.out (by kernel_rfl)) (by decide) (fun K hK=>?_)
    refine goes_ Tryz.func88 (by kernel_rfl) rfl #[.slice A1_3 l1_3.length c1_3,.string (⟨#[116,114,97,110,115,102,101,114,45,101,110,99,111,100,105,110,103]⟩:ByteArray)] (by rfl) rfl rfl (by (try simp only [List.map_toArray,List.map_cons,List.map_nil]);first|done|rfl|(simp only [List.length_drop,List.length_take];rfl)) ?_
    with_reducible refine (tollbarref07_There.calls kj2 _ _ l1_3 (⟨#[116,114,97,110,115,102,101,114,45,101,110,99,111,100,105,110,103]⟩:ByteArray) t47 _ ?side1 ?side2 A13.out).mono ?_
    (case side1=>repeat (first|exact (Kd.C_below HR1_3.out HB.out)|(with_reducible refine Kd.C_alloc ?_ _)|(with_reducible refine Kd.C_drewN ?_ _)|(with_reducible refine Kd.C_drew ?_)))
    (case side2=>exact HC1_3.out)
    rintro e w18 ⟨rfl,hb⟩
    refine ⟨_,rfl,?_⟩
    replace BK44:=Aside0.mk (blk_below (g:=gb44) (o:=.cells #[.int .i64 a1_0,.string a1_1,.int .i64 a1_2,.slice A1_3 l1_3.length c1_3,.slice A1_4 l1_4.length c1_4] 25 (0,0)) (by (with_reducible repeat (first|refine blk_drewN ?_ _|refine blk_drew ?_|refine blk_alloc ?_ _));exact BK44.out) hb)
    replace HB:=Aside0.mk (below_step (by repeat (first|(with_reducible first|exact HB.out|apply below_alloc|apply pw_below_drewN|apply below_drew1|refine below_set ?_ GE44.out)|exact HB.out)) hb)
    (try clear hb)
    (try clear hb2)
    (try clear hk)
    (try clear hi)
    refine hK.out _ _ ⟨(blk_cell BK44.out 0).trans rfl,(blk_cell BK44.out 1).trans rfl,(blk_cell BK44.out 2).trans rfl,(blk_cell BK44.out 3).trans rfl,(blk_cell BK44.out 4).trans rfl⟩ (fun hHeld=>?_)
    clear hK K
    refine norm_ (a' := ?_) ?_ ?_
    rotate_left
    ·show Act.put _ (some 33) _=_
     simp only [Act.put,zqA,zqB,zqC,i64_w,i32_w]
     rfl
    refine pure_ (i:=6) (N:=some 7) (v:=?_) (a' := ?_) #[true,true,true,true,true,true,true,false] rfl rfl (any_of HT_.out (by kernel_rfl)) (fun _ _ _ h=>h) (Or.inl ⟨by rfl,?_⟩) ?_ ?_
    rotate_left
    ·intro w';go_simp;with_reducible rfl
    rotate_left
    ·simp only [Act.put,zqA,zqB,zqC,i64_w,i32_w];rfl
    refine pure_ (i:=7) (N:=some 8) (v:=?_) (a' := ?_) #[true,true,true,true,true,true,true,true] rfl rfl (any_of HT_.out (by kernel_rfl)) (fun _ _ _ h=>h) (Or.inl ⟨by rfl,?_⟩) ?_ ?_
    rotate_left
    ·intro w';go_simp;with_reducible rfl
    rotate_left
    ·simp only [Act.put,zqA,zqB,zqC,i64_w,i32_w];rfl
    refine done_ (done_of HT_.out (by kernel_rfl)) ?_
    have hcz19_0:w18.cell? ⟨gb44,0,none⟩=some (.int .i64 a1_0):=(blk_cell BK44.out 0).trans rfl
    have hcz19_1:w18.cell? ⟨gb44,1,none⟩=some (.string a1_1):=(blk_cell BK44.out 1).trans rfl
    have hcz19_2:w18.cell? ⟨gb44,2,none⟩=some (.int .i64 a1_2):=(blk_cell BK44.out 2).trans rfl
    have hcz19_3:w18.cell? ⟨gb44,3,none⟩=some (.slice A1_3 l1_3.length c1_3):=(blk_cell BK44.out 3).trans rfl
    have hcz19_4:w18.cell? ⟨gb44,4,none⟩=some (.slice A1_4 l1_4.length c1_4):=(blk_cell BK44.out 4).trans rfl
    have hfz19_0:=blk_frozen BK44.out 0
    have hfz19_1:=blk_frozen BK44.out 1
    have hfz19_2:=blk_frozen BK44.out 2
    have hfz19_3:=blk_frozen BK44.out 3
    have hfz19_4:=blk_frozen BK44.out 4
    go_upto_region 5 with (first|((with_reducible refine gate_callee (f:=89) rfl ?_);refine goesL_ (some 37) rfl rfl Tryz.func89 (by kernel_rfl) rfl #[.slice A1_3 l1_3.length c1_3] rfl (by (try simp only [List.map_toArray,List.map_cons,List.map_nil]);first|done|rfl|(simp only [List.length_drop,List.length_take];rfl)) ?_;(with_reducible refine (tollbarref07_Length.calls kj2 _ _ l1_3 t45 t48 _ ?side1 ?side2 A14.out).mono ?_);(case side1=>repeat (first|exact (Kd.C_below HR1_3.out HB.out)|(with_reducible refine Kd.C_alloc ?_ _)|(with_reducible refine Kd.C_drewN ?_ _)|(with_reducible refine Kd.C_drew ?_)));(case side2=>exact HC1_3.out);rintro e w20 ⟨rfl,hb⟩;refine ⟨_,rfl,?_⟩;have n0_:=Aside0.mk (blk_below (g:=gb44) (o:=.cells #[.int .i64 a1_0,.string a1_1,.int .i64 a1_2,.slice A1_3 l1_3.length c1_3,.slice A1_4 l1_4.length c1_4] 25 (0,0)) (by (with_reducible repeat (first|refine blk_drewN ?_ _|refine blk_drew ?_|refine blk_alloc ?_ _));exact BK44.out) hb);have n1_:=Aside0.mk (below_step (by repeat (first|(with_reducible first|exact HB.out|apply below_alloc|apply pw_below_drewN|apply below_drew1|refine below_set ?_ GE44.out)|exact HB.out)) hb);clear BK44;clear HB;have BK44:=n0_;have HB:=n1_;clear n0_ n1_;(try clear hb);(try clear hb2);(try clear hk);(try clear hi)))
    (try simp only [Act.put,zqA,zqB,zqC])
    go_cut [40] (fun v40 wc => ∃ (kq:Nat) (x40_14:Bool),v40 = .bool x40_14∧Aside0 (tollbarref07_Response.j1 kq t46 t47 t45 t48 x40_14 a1_0 a1_1 a1_2 l1_3 l1_4=some (r1,r2,r3))∧Aside0 (kq ≤ kj2)∧Aside0 (wc.heap[gb44]? = some (.cells #[.int .i64 a1_0,.string a1_1,.int .i64 a1_2,(.slice A1_3 l1_3.length c1_3),(.slice A1_4 l1_4.length c1_4)] 25 (0,0)))∧Aside0 (Below w.heap.size w wc))
    case first =>
     have H:=HC15.out
     clear HC15
     by_cases c21:t46=true
     ·subst c21
      have H1:(tollbarref07_Response.j1 kj2 true t47 t45 t48 t47 a1_0 a1_1 a1_2 l1_3 l1_4)=some (r1,r2,r3):=by rw [if_pos rfl] at H;exact H
      clear H
      have H:=H1
      clear H1
      have H' := Aside0.mk H
      clear H
      go_wp2
      go_meet
      case rel=>exact ⟨_,(t47),(by first|rfl|(simp;done)|(simp [*];done)),H',⟨by have:=HJ2.out;first|omega|exact Nat.le_refl _⟩,⟨by (with_reducible repeat (first|refine blk_drewN ?_ _|refine blk_drew ?_|refine blk_alloc ?_ _));exact BK44.out⟩,⟨by repeat (first|(with_reducible first|exact HB.out|apply below_alloc|apply pw_below_drewN|apply below_drew1|refine below_set ?_ GE44.out)|exact HB.out)⟩⟩
     ·replace c21:=Bool.eq_false_iff.mpr c21
      subst c21
      have H1:(tollbarref07_Response.j1 kj2 false t47 t45 t48 false a1_0 a1_1 a1_2 l1_3 l1_4)=some (r1,r2,r3):=by rw [if_neg (show ¬ (false=true) by decide)] at H;exact H
      clear H
      have H:=H1
      clear H1
      have H' := Aside0.mk H
      clear H
      go_wp2
      go_meet
      case rel=>exact ⟨_,(false),(by first|rfl|(simp;done)|(simp [*];done)),H',⟨by have:=HJ2.out;first|omega|exact Nat.le_refl _⟩,⟨by (with_reducible repeat (first|refine blk_drewN ?_ _|refine blk_drew ?_|refine blk_alloc ?_ _));exact BK44.out⟩,⟨by repeat (first|(with_reducible first|exact HB.out|apply below_alloc|apply pw_below_drewN|apply below_drew1|refine below_set ?_ GE44.out)|exact HB.out)⟩⟩
    case rest =>
     clear HC15
     try clear c1
     try clear c2
     try clear p2
     try clear c4
     try clear c5
     try clear c5b0
     try clear c5b1
     try clear c6
     try clear c6b0
     try clear c8
     try clear c8b0
     try clear c8b1
     try clear c11
     try clear c21
     try clear hcz10_0
     try clear hcz10_1
     try clear hcz10_2
     try clear hcz10_3
     try clear hcz10_4
     try clear hcz19_0
     try clear hcz19_1
     try clear hcz19_2
     try clear hcz19_3
     try clear hcz19_4
     try clear hcz7_0
     try clear hcz7_1
     try clear hcz7_2
     try clear hcz7_3
     try clear hcz7_4
     try clear hcz9_0
     try clear hcz9_1
     try clear hcz9_2
     try clear hcz9_3
     try clear hcz9_4
     try clear hfz10_0
     try clear hfz10_1
     try clear hfz10_2
     try clear hfz10_3
     try clear hfz10_4
     try clear hfz19_0
     try clear hfz19_1
     try clear hfz19_2
     try clear hfz19_3
     try clear hfz19_4
     try clear hfz7_0
     try clear hfz7_1
     try clear hfz7_2
     try clear hfz7_3
     try clear hfz7_4
     try clear hfz9_0
     try clear hfz9_1
     try clear hfz9_2
     try clear hfz9_3
     try clear hfz9_4
     try clear p2
     obtain ⟨kq,x40_14,rfl,HA,HJ14,BK44,HB⟩:=hcut
     cases kq with
     | zero=>exact absurd HA.out (by simp [tollbarref07_Response.j1])
     | succ kj14 =>
      have H:=HA.out
      clear HA
      simp only [tollbarref07_Response.j1] at H
      have HC22:=Aside0.mk H
      clear H
      go_upto_if 40 with (fail)
      go_cut [40] (fun v40 wc => ∃ (kq:Nat) (x40_21:Bool),v40 = .bool x40_21∧Aside0 (tollbarref07_Response.j2 kq t46 t47 t45 x40_21=some (r1,r2,r3))∧Aside0 (kq ≤ kj14)∧Aside0 (wc.heap[gb44]? = some (.cells #[.int .i64 a1_0,.string a1_1,.int .i64 a1_2,(.slice A1_3 l1_3.length c1_3),(.slice A1_4 l1_4.length c1_4)] 25 (0,0)))∧Aside0 (Below w.heap.size w wc))
      case first =>
       have H:=HC22.out
       clear HC22
       by_cases c23:x40_14=true
       ·subst c23
        have H1:(tollbarref07_Response.j2 kj14 t46 t47 t45 true)=some (r1,r2,r3):=by rw [if_pos rfl] at H;exact H
        clear H
        have H:=H1
        clear H1
        have H' := Aside0.mk H
        clear H
        go_wp2
        go_meet
        case rel=>exact ⟨_,(true),(by first|rfl|(simp;done)|(simp [*];done)),H',⟨by have:=HJ2.out;have:=HJ14.out;first|omega|exact Nat.le_refl _⟩,⟨by (with_reducible repeat (first|refine blk_drewN ?_ _|refine blk_drew ?_|refine blk_alloc ?_ _));exact BK44.out⟩,⟨by repeat (first|(with_reducible first|exact HB.out|apply below_alloc|apply pw_below_drewN|apply below_drew1|refine below_set ?_ GE44.out)|exact HB.out)⟩⟩
       ·replace c23:=Bool.eq_false_iff.mpr c23
        subst c23
        have H1:(if t47=true then (if a1_2=0 then (tollbarref07_Response.j2 kj14 t46 t47 t45 true) else ((tollbarref07_Coded.f kj14 l1_3).bind fun t50=>(if t50=true then (if t46=true then (if t48=true then (tollbarref07_Response.j2 kj14 t46 t47 t45 (decide (t45 > 4096))) else (tollbarref07_Response.j2 kj14 t46 t47 t45 true)) else (tollbarref07_Response.j2 kj14 t46 t47 t45 false)) else (tollbarref07_Response.j2 kj14 t46 t47 t45 (!t50))))) else (if t46=true then (if t48=true then (tollbarref07_Response.j2 kj14 t46 t47 t45 (decide (t45 > 4096))) else (tollbarref07_Response.j2 kj14 t46 t47 t45 true)) else (tollbarref07_Response.j2 kj14 t46 t47 t45 false)))=some (r1,r2,r3):=by rw [if_neg (show ¬ (false=true) by decide)] at H;exact H
        clear H
        have H:=H1
        clear H1
        by_cases c24:t47=true
        ·subst c24
         have H1:(if a1_2=0 then (tollbarref07_Response.j2 kj14 t46 true t45 true) else ((tollbarref07_Coded.f kj14 l1_3).bind fun t50=>(if t50=true then (if t46=true then (if t48=true then (tollbarref07_Response.j2 kj14 t46 true t45 (decide (t45 > 4096))) else (tollbarref07_Response.j2 kj14 t46 true t45 true)) else (tollbarref07_Response.j2 kj14 t46 true t45 false)) else (tollbarref07_Response.j2 kj14 t46 true t45 (!t50)))))=some (r1,r2,r3):=by rw [if_pos rfl] at H;exact H
         clear H
         have H:=H1
         clear H1
         by_cases c25:a1_2=0
         ·rw [if_pos c25] at H
          have c25b0:(a1_2 == 0)=true:=beq_iff_eq.mpr c25
          have c25b1:(a1_2 != 0)=false:=bne_eq_false_iff_eq.mpr c25
          clear c25
          (first|rw [c25b0]|(simp only [i64_w,i32_w];rw [c25b0])|rw [c25b1]|skip)
          have H' := Aside0.mk H
          clear H
          have hcz26_0:wc.cell? ⟨gb44,0,none⟩=some (.int .i64 a1_0):=(blk_cell BK44.out 0).trans rfl
          have hcz26_1:wc.cell? ⟨gb44,1,none⟩=some (.string a1_1):=(blk_cell BK44.out 1).trans rfl
          have hcz26_2:wc.cell? ⟨gb44,2,none⟩=some (.int .i64 a1_2):=(blk_cell BK44.out 2).trans rfl
          have hcz26_3:wc.cell? ⟨gb44,3,none⟩=some (.slice A1_3 l1_3.length c1_3):=(blk_cell BK44.out 3).trans rfl
          have hcz26_4:wc.cell? ⟨gb44,4,none⟩=some (.slice A1_4 l1_4.length c1_4):=(blk_cell BK44.out 4).trans rfl
          have hfz26_0:=blk_frozen BK44.out 0
          have hfz26_1:=blk_frozen BK44.out 1
          have hfz26_2:=blk_frozen BK44.out 2
          have hfz26_3:=blk_frozen BK44.out 3
          have hfz26_4:=blk_frozen BK44.out 4
          go_wp2
          go_meet
          case rel=>exact ⟨_,(true),(by first|rfl|(simp;done)|(simp [*];done)),H',⟨by have:=HJ2.out;have:=HJ14.out;first|omega|exact Nat.le_refl _⟩,⟨by (with_reducible repeat (first|refine blk_drewN ?_ _|refine blk_drew ?_|refine blk_alloc ?_ _));exact BK44.out⟩,⟨by repeat (first|(with_reducible first|exact HB.out|apply below_alloc|apply pw_below_drewN|apply below_drew1|refine below_set ?_ GE44.out)|exact HB.out)⟩⟩
         ·rw [if_neg c25] at H
          have c25b0:(a1_2 == 0)=false:=beq_eq_false_iff_ne.mpr c25
          have c25b1:(a1_2 != 0)=true:=bne_iff_ne.mpr c25
          (first|rw [c25b0]|(simp only [i64_w,i32_w];rw [c25b0])|rw [c25b1]|skip)
          replace H:=Option.bind_eq_some_iff.mp H
          obtain ⟨t50,A54,H⟩:=H
          replace H:(if t50=true then (if t46=true then (if t48=true then (tollbarref07_Response.j2 kj14 t46 true t45 (decide (t45 > 4096))) else (tollbarref07_Response.j2 kj14 t46 true t45 true)) else (tollbarref07_Response.j2 kj14 t46 true t45 false)) else (tollbarref07_Response.j2 kj14 t46 true t45 (!t50)))=some (r1,r2,r3):=H
          have A27:=Aside0.mk A54
          clear A54
          by_cases c28:t50=true
          ·subst c28
           have H1:(if t46=true then (if t48=true then (tollbarref07_Response.j2 kj14 t46 true t45 (decide (t45 > 4096))) else (tollbarref07_Response.j2 kj14 t46 true t45 true)) else (tollbarref07_Response.j2 kj14 t46 true t45 false))=some (r1,r2,r3):=by rw [if_pos rfl] at H;exact H
           clear H
           have H:=H1
           clear H1
           by_cases c29:t46=true
           ·subst c29
            have H1:(if t48=true then (tollbarref07_Response.j2 kj14 true true t45 (decide (t45 > 4096))) else (tollbarref07_Response.j2 kj14 true true t45 true))=some (r1,r2,r3):=by rw [if_pos rfl] at H;exact H
            clear H
            have H:=H1
            clear H1
            by_cases c30:t48=true
            ·subst c30
             have H1:(tollbarref07_Response.j2 kj14 true true t45 (decide (t45 > 4096)))=some (r1,r2,r3):=by rw [if_pos rfl] at H;exact H
             clear H
             have H:=H1
             clear H1
             have H' := Aside0.mk H
             clear H
             have hcz31_0:wc.cell? ⟨gb44,0,none⟩=some (.int .i64 a1_0):=(blk_cell BK44.out 0).trans rfl
             have hcz31_1:wc.cell? ⟨gb44,1,none⟩=some (.string a1_1):=(blk_cell BK44.out 1).trans rfl
             have hcz31_2:wc.cell? ⟨gb44,2,none⟩=some (.int .i64 a1_2):=(blk_cell BK44.out 2).trans rfl
             have hcz31_3:wc.cell? ⟨gb44,3,none⟩=some (.slice A1_3 l1_3.length c1_3):=(blk_cell BK44.out 3).trans rfl
             have hcz31_4:wc.cell? ⟨gb44,4,none⟩=some (.slice A1_4 l1_4.length c1_4):=(blk_cell BK44.out 4).trans rfl
             have hfz31_0:=blk_frozen BK44.out 0
             have hfz31_1:=blk_frozen BK44.out 1
             have hfz31_2:=blk_frozen BK44.out 2
             have hfz31_3:=blk_frozen BK44.out 3
             have hfz31_4:=blk_frozen BK44.out 4
             go_wp2_with (first|(go_at_call 90;(with_reducible refine (tollbarref07_Coded.calls kj14 _ _ l1_3 true _ ?side1 ?side2 A27.out).mono ?_);(case side1=>repeat (first|exact (Kd.C_below HR1_3.out HB.out)|(with_reducible refine Kd.C_alloc ?_ _)|(with_reducible refine Kd.C_drewN ?_ _)|(with_reducible refine Kd.C_drew ?_)));(case side2=>exact HC1_3.out);rintro e w32 ⟨rfl,hb⟩;(try clear A27);have n0_:=Aside0.mk (blk_below (g:=gb44) (o:=.cells #[.int .i64 a1_0,.string a1_1,.int .i64 a1_2,.slice A1_3 l1_3.length c1_3,.slice A1_4 l1_4.length c1_4] 25 (0,0)) (by (with_reducible repeat (first|refine blk_drewN ?_ _|refine blk_drew ?_|refine blk_alloc ?_ _));exact BK44.out) hb);have n1_:=Aside0.mk (below_step (by repeat (first|(with_reducible first|exact HB.out|apply below_alloc|apply pw_below_drewN|apply below_drew1|refine below_set ?_ GE44.out)|exact HB.out)) hb);clear BK44;clear HB;have BK44:=n0_;have HB:=n1_;clear n0_ n1_;(try clear hb);(try clear hb2);(try clear hk);(try clear hi)))
             go_meet
             case rel=>exact ⟨_,(decide (t45 > 4096)),(by first|rfl|(simp;done)|(simp [*];done)),H',⟨by have:=HJ2.out;have:=HJ14.out;first|omega|exact Nat.le_refl _⟩,⟨by (with_reducible repeat (first|refine blk_drewN ?_ _|refine blk_drew ?_|refine blk_alloc ?_ _));exact BK44.out⟩,⟨by repeat (first|(with_reducible first|exact HB.out|apply below_alloc|apply pw_below_drewN|apply below_drew1|refine below_set ?_ GE44.out)|exact HB.out)⟩⟩
            ·replace c30:=Bool.eq_false_iff.mpr c30
             subst c30
             have H1:(tollbarref07_Response.j2 kj14 true true t45 true)=some (r1,r2,r3):=by rw [if_neg (show ¬ (false=true) by decide)] at H;exact H
             clear H
             have H:=H1
             clear H1
             have H' := Aside0.mk H
             clear H
             have hcz33_0:wc.cell? ⟨gb44,0,none⟩=some (.int .i64 a1_0):=(blk_cell BK44.out 0).trans rfl
             have hcz33_1:wc.cell? ⟨gb44,1,none⟩=some (.string a1_1):=(blk_cell BK44.out 1).trans rfl
             have hcz33_2:wc.cell? ⟨gb44,2,none⟩=some (.int .i64 a1_2):=(blk_cell BK44.out 2).trans rfl
             have hcz33_3:wc.cell? ⟨gb44,3,none⟩=some (.slice A1_3 l1_3.length c1_3):=(blk_cell BK44.out 3).trans rfl
             have hcz33_4:wc.cell? ⟨gb44,4,none⟩=some (.slice A1_4 l1_4.length c1_4):=(blk_cell BK44.out 4).trans rfl
             have hfz33_0:=blk_frozen BK44.out 0
             have hfz33_1:=blk_frozen BK44.out 1
             have hfz33_2:=blk_frozen BK44.out 2
             have hfz33_3:=blk_frozen BK44.out 3
             have hfz33_4:=blk_frozen BK44.out 4
             go_wp2_with (first|(go_at_call 90;(with_reducible refine (tollbarref07_Coded.calls kj14 _ _ l1_3 true _ ?side1 ?side2 A27.out).mono ?_);(case side1=>repeat (first|exact (Kd.C_below HR1_3.out HB.out)|(with_reducible refine Kd.C_alloc ?_ _)|(with_reducible refine Kd.C_drewN ?_ _)|(with_reducible refine Kd.C_drew ?_)));(case side2=>exact HC1_3.out);rintro e w34 ⟨rfl,hb⟩;(try clear A27);have n0_:=Aside0.mk (blk_below (g:=gb44) (o:=.cells #[.int .i64 a1_0,.string a1_1,.int .i64 a1_2,.slice A1_3 l1_3.length c1_3,.slice A1_4 l1_4.length c1_4] 25 (0,0)) (by (with_reducible repeat (first|refine blk_drewN ?_ _|refine blk_drew ?_|refine blk_alloc ?_ _));exact BK44.out) hb);have n1_:=Aside0.mk (below_step (by repeat (first|(with_reducible first|exact HB.out|apply below_alloc|apply pw_below_drewN|apply below_drew1|refine below_set ?_ GE44.out)|exact HB.out)) hb);clear BK44;clear HB;have BK44:=n0_;have HB:=n1_;clear n0_ n1_;(try clear hb);(try clear hb2);(try clear hk);(try clear hi)))
             go_meet
             case rel=>exact ⟨_,(true),(by first|rfl|(simp;done)|(simp [*];done)),H',⟨by have:=HJ2.out;have:=HJ14.out;first|omega|exact Nat.le_refl _⟩,⟨by (with_reducible repeat (first|refine blk_drewN ?_ _|refine blk_drew ?_|refine blk_alloc ?_ _));exact BK44.out⟩,⟨by repeat (first|(with_reducible first|exact HB.out|apply below_alloc|apply pw_below_drewN|apply below_drew1|refine below_set ?_ GE44.out)|exact HB.out)⟩⟩
           ·replace c29:=Bool.eq_false_iff.mpr c29
            subst c29
            have H1:(tollbarref07_Response.j2 kj14 false true t45 false)=some (r1,r2,r3):=by rw [if_neg (show ¬ (false=true) by decide)] at H;exact H
            clear H
            have H:=H1
            clear H1
            have H' := Aside0.mk H
            clear H
            have hcz35_0:wc.cell? ⟨gb44,0,none⟩=some (.int .i64 a1_0):=(blk_cell BK44.out 0).trans rfl
            have hcz35_1:wc.cell? ⟨gb44,1,none⟩=some (.string a1_1):=(blk_cell BK44.out 1).trans rfl
            have hcz35_2:wc.cell? ⟨gb44,2,none⟩=some (.int .i64 a1_2):=(blk_cell BK44.out 2).trans rfl
            have hcz35_3:wc.cell? ⟨gb44,3,none⟩=some (.slice A1_3 l1_3.length c1_3):=(blk_cell BK44.out 3).trans rfl
            have hcz35_4:wc.cell? ⟨gb44,4,none⟩=some (.slice A1_4 l1_4.length c1_4):=(blk_cell BK44.out 4).trans rfl
            have hfz35_0:=blk_frozen BK44.out 0
            have hfz35_1:=blk_frozen BK44.out 1
            have hfz35_2:=blk_frozen BK44.out 2
            have hfz35_3:=blk_frozen BK44.out 3
            have hfz35_4:=blk_frozen BK44.out 4
            go_wp2_with (first|(go_at_call 90;(with_reducible refine (tollbarref07_Coded.calls kj14 _ _ l1_3 true _ ?side1 ?side2 A27.out).mono ?_);(case side1=>repeat (first|exact (Kd.C_below HR1_3.out HB.out)|(with_reducible refine Kd.C_alloc ?_ _)|(with_reducible refine Kd.C_drewN ?_ _)|(with_reducible refine Kd.C_drew ?_)));(case side2=>exact HC1_3.out);rintro e w36 ⟨rfl,hb⟩;(try clear A27);have n0_:=Aside0.mk (blk_below (g:=gb44) (o:=.cells #[.int .i64 a1_0,.string a1_1,.int .i64 a1_2,.slice A1_3 l1_3.length c1_3,.slice A1_4 l1_4.length c1_4] 25 (0,0)) (by (with_reducible repeat (first|refine blk_drewN ?_ _|refine blk_drew ?_|refine blk_alloc ?_ _));exact BK44.out) hb);have n1_:=Aside0.mk (below_step (by repeat (first|(with_reducible first|exact HB.out|apply below_alloc|apply pw_below_drewN|apply below_drew1|refine below_set ?_ GE44.out)|exact HB.out)) hb);clear BK44;clear HB;have BK44:=n0_;have HB:=n1_;clear n0_ n1_;(try clear hb);(try clear hb2);(try clear hk);(try clear hi)))
            go_meet
            case rel=>exact ⟨_,(false),(by first|rfl|(simp;done)|(simp [*];done)),H',⟨by have:=HJ2.out;have:=HJ14.out;first|omega|exact Nat.le_refl _⟩,⟨by (with_reducible repeat (first|refine blk_drewN ?_ _|refine blk_drew ?_|refine blk_alloc ?_ _));exact BK44.out⟩,⟨by repeat (first|(with_reducible first|exact HB.out|apply below_alloc|apply pw_below_drewN|apply below_drew1|refine below_set ?_ GE44.out)|exact HB.out)⟩⟩
          ·replace c28:=Bool.eq_false_iff.mpr c28
           subst c28
           have H1:(tollbarref07_Response.j2 kj14 t46 true t45 (!false))=some (r1,r2,r3):=by rw [if_neg (show ¬ (false=true) by decide)] at H;exact H
           clear H
           have H:=H1
           clear H1
           have H' := Aside0.mk H
           clear H
           have hcz37_0:wc.cell? ⟨gb44,0,none⟩=some (.int .i64 a1_0):=(blk_cell BK44.out 0).trans rfl
           have hcz37_1:wc.cell? ⟨gb44,1,none⟩=some (.string a1_1):=(blk_cell BK44.out 1).trans rfl
           have hcz37_2:wc.cell? ⟨gb44,2,none⟩=some (.int .i64 a1_2):=(blk_cell BK44.out 2).trans rfl
           have hcz37_3:wc.cell? ⟨gb44,3,none⟩=some (.slice A1_3 l1_3.length c1_3):=(blk_cell BK44.out 3).trans rfl
           have hcz37_4:wc.cell? ⟨gb44,4,none⟩=some (.slice A1_4 l1_4.length c1_4):=(blk_cell BK44.out 4).trans rfl
           have hfz37_0:=blk_frozen BK44.out 0
           have hfz37_1:=blk_frozen BK44.out 1
           have hfz37_2:=blk_frozen BK44.out 2
           have hfz37_3:=blk_frozen BK44.out 3
           have hfz37_4:=blk_frozen BK44.out 4
           go_wp2_with (first|(go_at_call 90;(with_reducible refine (tollbarref07_Coded.calls kj14 _ _ l1_3 false _ ?side1 ?side2 A27.out).mono ?_);(case side1=>repeat (first|exact (Kd.C_below HR1_3.out HB.out)|(with_reducible refine Kd.C_alloc ?_ _)|(with_reducible refine Kd.C_drewN ?_ _)|(with_reducible refine Kd.C_drew ?_)));(case side2=>exact HC1_3.out);rintro e w38 ⟨rfl,hb⟩;(try clear A27);have n0_:=Aside0.mk (blk_below (g:=gb44) (o:=.cells #[.int .i64 a1_0,.string a1_1,.int .i64 a1_2,.slice A1_3 l1_3.length c1_3,.slice A1_4 l1_4.length c1_4] 25 (0,0)) (by (with_reducible repeat (first|refine blk_drewN ?_ _|refine blk_drew ?_|refine blk_alloc ?_ _));exact BK44.out) hb);have n1_:=Aside0.mk (below_step (by repeat (first|(with_reducible first|exact HB.out|apply below_alloc|apply pw_below_drewN|apply below_drew1|refine below_set ?_ GE44.out)|exact HB.out)) hb);clear BK44;clear HB;have BK44:=n0_;have HB:=n1_;clear n0_ n1_;(try clear hb);(try clear hb2);(try clear hk);(try clear hi)))
           go_meet
           case rel=>exact ⟨_,(!false),(by first|rfl|(simp;done)|(simp [*];done)),H',⟨by have:=HJ2.out;have:=HJ14.out;first|omega|exact Nat.le_refl _⟩,⟨by (with_reducible repeat (first|refine blk_drewN ?_ _|refine blk_drew ?_|refine blk_alloc ?_ _));exact BK44.out⟩,⟨by repeat (first|(with_reducible first|exact HB.out|apply below_alloc|apply pw_below_drewN|apply below_drew1|refine below_set ?_ GE44.out)|exact HB.out)⟩⟩
        ·replace c24:=Bool.eq_false_iff.mpr c24
         subst c24
         have H1:(if t46=true then (if t48=true then (tollbarref07_Response.j2 kj14 t46 false t45 (decide (t45 > 4096))) else (tollbarref07_Response.j2 kj14 t46 false t45 true)) else (tollbarref07_Response.j2 kj14 t46 false t45 false))=some (r1,r2,r3):=by rw [if_neg (show ¬ (false=true) by decide)] at H;exact H
         clear H
         have H:=H1
         clear H1
         by_cases c39:t46=true
         ·subst c39
          have H1:(if t48=true then (tollbarref07_Response.j2 kj14 true false t45 (decide (t45 > 4096))) else (tollbarref07_Response.j2 kj14 true false t45 true))=some (r1,r2,r3):=by rw [if_pos rfl] at H;exact H
          clear H
          have H:=H1
          clear H1
          by_cases c40:t48=true
          ·subst c40
           have H1:(tollbarref07_Response.j2 kj14 true false t45 (decide (t45 > 4096)))=some (r1,r2,r3):=by rw [if_pos rfl] at H;exact H
           clear H
           have H:=H1
           clear H1
           have H' := Aside0.mk H
           clear H
           go_wp2
           go_meet
           case rel=>exact ⟨_,(decide (t45 > 4096)),(by first|rfl|(simp;done)|(simp [*];done)),H',⟨by have:=HJ2.out;have:=HJ14.out;first|omega|exact Nat.le_refl _⟩,⟨by (with_reducible repeat (first|refine blk_drewN ?_ _|refine blk_drew ?_|refine blk_alloc ?_ _));exact BK44.out⟩,⟨by repeat (first|(with_reducible first|exact HB.out|apply below_alloc|apply pw_below_drewN|apply below_drew1|refine below_set ?_ GE44.out)|exact HB.out)⟩⟩
          ·replace c40:=Bool.eq_false_iff.mpr c40
           subst c40
           have H1:(tollbarref07_Response.j2 kj14 true false t45 true)=some (r1,r2,r3):=by rw [if_neg (show ¬ (false=true) by decide)] at H;exact H
           clear H
           have H:=H1
           clear H1
           have H' := Aside0.mk H
           clear H
           go_wp2
           go_meet
           case rel=>exact ⟨_,(true),(by first|rfl|(simp;done)|(simp [*];done)),H',⟨by have:=HJ2.out;have:=HJ14.out;first|omega|exact Nat.le_refl _⟩,⟨by (with_reducible repeat (first|refine blk_drewN ?_ _|refine blk_drew ?_|refine blk_alloc ?_ _));exact BK44.out⟩,⟨by repeat (first|(with_reducible first|exact HB.out|apply below_alloc|apply pw_below_drewN|apply below_drew1|refine below_set ?_ GE44.out)|exact HB.out)⟩⟩
         ·replace c39:=Bool.eq_false_iff.mpr c39
          subst c39
          have H1:(tollbarref07_Response.j2 kj14 false false t45 false)=some (r1,r2,r3):=by rw [if_neg (show ¬ (false=true) by decide)] at H;exact H
          clear H
          have H:=H1
          clear H1
          have H' := Aside0.mk H
          clear H
          go_wp2
          go_meet
          case rel=>exact ⟨_,(false),(by first|rfl|(simp;done)|(simp [*];done)),H',⟨by have:=HJ2.out;have:=HJ14.out;first|omega|exact Nat.le_refl _⟩,⟨by (with_reducible repeat (first|refine blk_drewN ?_ _|refine blk_drew ?_|refine blk_alloc ?_ _));exact BK44.out⟩,⟨by repeat (first|(with_reducible first|exact HB.out|apply below_alloc|apply pw_below_drewN|apply below_drew1|refine below_set ?_ GE44.out)|exact HB.out)⟩⟩
      case rest =>
       clear HC22
       try clear c1
       try clear c2
       try clear p2
       try clear c3
       try clear c4
       try clear c5
       try clear c5b0
       try clear c5b1
       try clear c6
       try clear c6b0
       try clear c8
       try clear c8b0
       try clear c8b1
       try clear c11
       try clear c21
       try clear c23
       try clear c24
       try clear c25
       try clear c25b0
       try clear c25b1
       try clear c28
       try clear c29
       try clear c30
       try clear c39
       try clear c40
       try clear hcz10_0
       try clear hcz10_1
       try clear hcz10_2
       try clear hcz10_3
       try clear hcz10_4
       try clear hcz19_0
       try clear hcz19_1
       try clear hcz19_2
       try clear hcz19_3
       try clear hcz19_4
       try clear hcz26_0
       try clear hcz26_1
       try clear hcz26_2
       try clear hcz26_3
       try clear hcz26_4
       try clear hcz31_0
       try clear hcz31_1
       try clear hcz31_2
       try clear hcz31_3
       try clear hcz31_4
       try clear hcz33_0
       try clear hcz33_1
       try clear hcz33_2
       try clear hcz33_3
       try clear hcz33_4
       try clear hcz35_0
       try clear hcz35_1
       try clear hcz35_2
       try clear hcz35_3
       try clear hcz35_4
       try clear hcz37_0
       try clear hcz37_1
       try clear hcz37_2
       try clear hcz37_3
       try clear hcz37_4
       try clear hcz7_0
       try clear hcz7_1
       try clear hcz7_2
       try clear hcz7_3
       try clear hcz7_4
       try clear hcz9_0
       try clear hcz9_1
       try clear hcz9_2
       try clear hcz9_3
       try clear hcz9_4
       try clear hfz10_0
       try clear hfz10_1
       try clear hfz10_2
       try clear hfz10_3
       try clear hfz10_4
       try clear hfz19_0
       try clear hfz19_1
       try clear hfz19_2
       try clear hfz19_3
       try clear hfz19_4
       try clear hfz26_0
       try clear hfz26_1
       try clear hfz26_2
       try clear hfz26_3
       try clear hfz26_4
       try clear hfz31_0
       try clear hfz31_1
       try clear hfz31_2
       try clear hfz31_3
       try clear hfz31_4
       try clear hfz33_0
       try clear hfz33_1
       try clear hfz33_2
       try clear hfz33_3
       try clear hfz33_4
       try clear hfz35_0
       try clear hfz35_1
       try clear hfz35_2
       try clear hfz35_3
       try clear hfz35_4
       try clear hfz37_0
       try clear hfz37_1
       try clear hfz37_2
       try clear hfz37_3
       try clear hfz37_4
       try clear hfz7_0
       try clear hfz7_1
       try clear hfz7_2
       try clear hfz7_3
       try clear hfz7_4
       try clear hfz9_0
       try clear hfz9_1
       try clear hfz9_2
       try clear hfz9_3
       try clear hfz9_4
       try clear p2
       obtain ⟨kq,x40_21,rfl,HA,HJ21,BK44,HB⟩:=hcut
       cases kq with
       | zero=>exact absurd HA.out (by simp [tollbarref07_Response.j2])
       | succ kj21 =>
        have H:=HA.out
        clear HA
        simp only [tollbarref07_Response.j2] at H
        by_cases c41:x40_21=true
        ·subst c41
         have H1:(some (0,0,false))=some (r1,r2,r3):=by rw [if_pos rfl] at H;exact H
         clear H
         have H:=H1
         clear H1
         simp only [Option.some.injEq,Prod.mk.injEq] at H
         obtain ⟨rfl,rfl,rfl⟩:=H
         go_wp2
         go_ret3
         exact ⟨by first|rfl|(simp [errW_none,errW_some] <;> rfl)|(simp [*,errW_none,errW_some] <;> rfl),by repeat (first|(with_reducible first|exact HB.out|apply below_alloc|apply pw_below_drewN|apply below_drew1|refine below_set ?_ GE44.out)|exact HB.out)⟩
        ·replace c41:=Bool.eq_false_iff.mpr c41
         subst c41
         have H1:(if t47=true then (some (2,0,true)) else (if t46=true then (some (1,t45,true)) else (some (3,0,true))))=some (r1,r2,r3):=by rw [if_neg (show ¬ (false=true) by decide)] at H;exact H
         clear H
         have H:=H1
         clear H1
         by_cases c42:t47=true
         ·subst c42
          have H1:(some (2,0,true))=some (r1,r2,r3):=by rw [if_pos rfl] at H;exact H
          clear H
          have H:=H1
          clear H1
          simp only [Option.some.injEq,Prod.mk.injEq] at H
          obtain ⟨rfl,rfl,rfl⟩:=H
          go_wp2
          go_ret3
          exact ⟨by first|rfl|(simp [errW_none,errW_some] <;> rfl)|(simp [*,errW_none,errW_some] <;> rfl),by repeat (first|(with_reducible first|exact HB.out|apply below_alloc|apply pw_below_drewN|apply below_drew1|refine below_set ?_ GE44.out)|exact HB.out)⟩
         ·replace c42:=Bool.eq_false_iff.mpr c42
          subst c42
          have H1:(if t46=true then (some (1,t45,true)) else (some (3,0,true)))=some (r1,r2,r3):=by rw [if_neg (show ¬ (false=true) by decide)] at H;exact H
          clear H
          have H:=H1
          clear H1
          by_cases c43:t46=true
          ·subst c43
           have H1:(some (1,t45,true))=some (r1,r2,r3):=by rw [if_pos rfl] at H;exact H
           clear H
           have H:=H1
           clear H1
           simp only [Option.some.injEq,Prod.mk.injEq] at H
           obtain ⟨rfl,rfl,rfl⟩:=H
           go_wp2
           go_ret3
           exact ⟨by first|rfl|(simp [errW_none,errW_some] <;> rfl)|(simp [*,errW_none,errW_some] <;> rfl),by repeat (first|(with_reducible first|exact HB.out|apply below_alloc|apply pw_below_drewN|apply below_drew1|refine below_set ?_ GE44.out)|exact HB.out)⟩
          ·replace c43:=Bool.eq_false_iff.mpr c43
           subst c43
           have H1:(some (3,0,true))=some (r1,r2,r3):=by rw [if_neg (show ¬ (false=true) by decide)] at H;exact H
           clear H
           have H:=H1
           clear H1
           simp only [Option.some.injEq,Prod.mk.injEq] at H
           obtain ⟨rfl,rfl,rfl⟩:=H
           go_wp2
           go_ret3
           exact ⟨by first|rfl|(simp [errW_none,errW_some] <;> rfl)|(simp [*,errW_none,errW_some] <;> rfl),by repeat (first|(with_reducible first|exact HB.out|apply below_alloc|apply pw_below_drewN|apply below_drew1|refine below_set ?_ GE44.out)|exact HB.out)⟩
def tollbarref04_In.l0:Nat → List ByteArray → ByteArray → Int → Option (Bool)
 | 0,_,_,_=>none
 | k + 1,x0,x1,x5=>if x5 < (x0.length:Int) then (if 0 ≤ x5 then ((tollbarref04_same.f k (rdOf ByteArray.empty x0 x5) x1).bind fun t404=>(if t404=true then (some true) else (tollbarref04_In.l0 k x0 x1 (wrap64 (x5 + 1))))) else (none)) else (some false)
def tollbarref04_In.f (k:Nat) (l0:List ByteArray) (a1:ByteArray):Option (Bool):=tollbarref04_In.l0 k l0 a1 0
set_option maxHeartbeats 8000000 in
set_option maxRecDepth 100000 in
theorem tollbarref04_In.calls (k:Nat) (A0:Option Addr) (c0:Nat) (l0:List ByteArray) (a1:ByteArray) (r:Bool) (w:World) (hr0:Kd.C Kd.string w A0 l0.length l0) (hc0:l0.length ≤ c0) (h:tollbarref04_In.f k l0 a1=some r) :
  Calls Tryz.prog 133 #[.slice A0 l0.length c0,.string a1] w fun e w' => e = .returned (.bool r)∧Below w.heap.size w w' := by
 have HR0:=Aside0.mk hr0
 have HC0:=Aside0.mk hc0
 clear hr0 hc0
 have HB:=Aside0.mk (Below.refl w.heap.size w)
 have H:(tollbarref04_In.l0 k l0 a1 0)=some r:=h
 clear h
 have H' := Aside0.mk H
 clear H
 go_enter Tryz.func133,Tryz.ntmps133
 go_wp2
 go_loopg [5] k (fun kq v5 w' => ∃ (x5_1:Int),v5 = .int .i64 x5_1∧Aside0 (tollbarref04_In.l0 kq l0 a1 x5_1=some r)∧Aside0 (kq ≤ k)∧Aside0 (Below w.heap.size w w'))
 case atStart=>exact ⟨(0),(by first|rfl|(simp;done)|(simp [*];done)),H',⟨Nat.le_refl _⟩,⟨by repeat (first|(with_reducible first|exact HB.out|apply below_alloc|apply pw_below_drewN|apply below_drew1)|exact HB.out)⟩⟩
 case round =>
  clear H'
  try clear c1
  try clear p2
  obtain ⟨x5_1,rfl,HA,HK1,HB⟩:=hrel
  cases gk with
  | zero=>exact absurd HA.out (by simp [tollbarref04_In.l0])
  | succ k1 =>
   have H:=HA.out
   clear HA
   simp only [tollbarref04_In.l0] at H
   by_cases c3:x5_1 < (l0.length:Int)
   ·rw [if_pos c3] at H
    have c3b0:decide (x5_1 < (l0.length:Int))=true:=decide_eq_true c3
    clear c3
    by_cases c4:0 ≤ x5_1
    ·rw [if_pos c4] at H
     have c4b0:decide (0 ≤ x5_1)=true:=decide_eq_true c4
     clear c4
     replace H:=Option.bind_eq_some_iff.mp H
     obtain ⟨t404,A50,H⟩:=H
     replace H:(if t404=true then (some true) else (tollbarref04_In.l0 k1 l0 a1 (wrap64 (x5_1 + 1))))=some r:=H
     have A5:=Aside0.mk A50
     clear A50
     by_cases c6:t404=true
     ·subst c6
      have H1:(some true)=some r:=by rw [if_pos rfl] at H;exact H
      clear H
      have H:=H1
      clear H1
      obtain rfl:=Option.some.inj H
      have p403:0 ≤ (x5_1:Int):=of_decide_eq_true (by first|(with_reducible assumption)|assumption)
      have q403:x5_1 < (l0.length:Int):=of_decide_eq_true (by first|(with_reducible assumption)|assumption)
      obtain ⟨ad403,e403,hx403_0⟩:=Kd.at_string HR0.out x5_1 p403 q403
      cases e403
      replace hx403_0:=(HB.out.cell (World.block_lt_of_cell? w _ hx403_0)).trans hx403_0
      replace p403:=eq_true p403
      replace q403:=eq_true q403
      go_wp2_with (first|((with_reducible refine gate_callee (f:=104) rfl ?_);refine goesL_ (some 17) rfl rfl Tryz.func104 (by kernel_rfl) rfl #[.string (rdOf ByteArray.empty l0 x5_1),.string a1] rfl (by (try simp only [List.map_toArray,List.map_cons,List.map_nil]);first|done|rfl|(simp only [List.length_drop,List.length_take];rfl)) ?_;(with_reducible refine (tollbarref04_same.calls k1 (rdOf ByteArray.empty l0 x5_1) a1 true _ A5.out).mono ?_);rintro e w7 ⟨rfl,hb⟩;(try clear A5);refine ⟨_,rfl,?_⟩;have n0_:=Aside0.mk (below_step (by repeat (first|(with_reducible first|exact HB.out|apply below_alloc|apply pw_below_drewN|apply below_drew1)|exact HB.out)) hb);clear HB;have HB:=n0_;clear n0_;(try clear hb);(try clear hb2);(try clear hk);(try clear hi)))
      go_ret
      exact ⟨by first|rfl|(simp [errW_none,errW_some] <;> rfl)|(simp [*,errW_none,errW_some] <;> rfl),by repeat (first|(with_reducible first|exact HB.out|apply below_alloc|apply pw_below_drewN|apply below_drew1)|exact HB.out)⟩
     ·replace c6:=Bool.eq_false_iff.mpr c6
      subst c6
      have H1:(tollbarref04_In.l0 k1 l0 a1 (wrap64 (x5_1 + 1)))=some r:=by rw [if_neg (show ¬ (false=true) by decide)] at H;exact H
      clear H
      have H:=H1
      clear H1
      have H' := Aside0.mk H
      clear H
      have p403:0 ≤ (x5_1:Int):=of_decide_eq_true (by first|(with_reducible assumption)|assumption)
      have q403:x5_1 < (l0.length:Int):=of_decide_eq_true (by first|(with_reducible assumption)|assumption)
      obtain ⟨ad403,e403,hx403_0⟩:=Kd.at_string HR0.out x5_1 p403 q403
      cases e403
      replace hx403_0:=(HB.out.cell (World.block_lt_of_cell? w _ hx403_0)).trans hx403_0
      replace p403:=eq_true p403
      replace q403:=eq_true q403
      go_wp2_with (first|((with_reducible refine gate_callee (f:=104) rfl ?_);refine goesL_ (some 17) rfl rfl Tryz.func104 (by kernel_rfl) rfl #[.string (rdOf ByteArray.empty l0 x5_1),.string a1] rfl (by (try simp only [List.map_toArray,List.map_cons,List.map_nil]);first|done|rfl|(simp only [List.length_drop,List.length_take];rfl)) ?_;(with_reducible refine (tollbarref04_same.calls k1 (rdOf ByteArray.empty l0 x5_1) a1 false _ A5.out).mono ?_);rintro e w8 ⟨rfl,hb⟩;(try clear A5);refine ⟨_,rfl,?_⟩;have n0_:=Aside0.mk (below_step (by repeat (first|(with_reducible first|exact HB.out|apply below_alloc|apply pw_below_drewN|apply below_drew1)|exact HB.out)) hb);clear HB;have HB:=n0_;clear n0_;(try clear hb);(try clear hb2);(try clear hk);(try clear hi)))
      go_roundg k1
      case measure=>have:=HK1.out;omega
      case rel=>exact ⟨(wrap64 (x5_1 + 1)),(by first|rfl|(simp;done)|(simp [*];done)),H',⟨by have:=HK1.out;omega⟩,⟨by repeat (first|(with_reducible first|exact HB.out|apply below_alloc|apply pw_below_drewN|apply below_drew1)|exact HB.out)⟩⟩
    ·rw [if_neg c4] at H
     exact absurd H (by simp)
   ·rw [if_neg c3] at H
    have c3b0:decide (x5_1 < (l0.length:Int))=false:=decide_eq_false c3
    clear c3
    obtain rfl:=Option.some.inj H
    go_wp2
    go_ret
    exact ⟨by first|rfl|(simp [errW_none,errW_some] <;> rfl)|(simp [*,errW_none,errW_some] <;> rfl),by repeat (first|(with_reducible first|exact HB.out|apply below_alloc|apply pw_below_drewN|apply below_drew1)|exact HB.out)⟩
def tollbarref10_Kept.f (k:Nat) (a0:ByteArray):Option (Bool):=(tollbarref04_In.f k (([(⟨#[104,111,115,116]⟩:ByteArray),(⟨#[99,111,110,116,101,110,116,45,108,101,110,103,116,104]⟩:ByteArray),(⟨#[116,114,97,110,115,102,101,114,45,101,110,99,111,100,105,110,103]⟩:ByteArray),(⟨#[99,111,110,110,101,99,116,105,111,110]⟩:ByteArray),(⟨#[107,101,101,112,45,97,108,105,118,101]⟩:ByteArray),(⟨#[112,114,111,120,121,45,99,111,110,110,101,99,116,105,111,110]⟩:ByteArray),(⟨#[116,101]⟩:ByteArray),(⟨#[116,114,97,105,108,101,114]⟩:ByteArray),(⟨#[117,112,103,114,97,100,101]⟩:ByteArray),(⟨#[101,120,112,101,99,116]⟩:ByteArray),(⟨#[118,105,97]⟩:ByteArray)]:List ByteArray)) a0).bind fun t408=>(some t408)
set_option maxHeartbeats 8000000 in
set_option maxRecDepth 100000 in
theorem tollbarref10_Kept.calls (k:Nat) (a0:ByteArray) (r:Bool) (w:World) (h:tollbarref10_Kept.f k a0=some r) :
  Calls Tryz.prog 132 #[.string a0] w fun e w' => e = .returned (.bool r)∧Below w.heap.size w w' := by
 have HB:=Aside0.mk (Below.refl w.heap.size w)
 have H:((tollbarref04_In.f k (([(⟨#[104,111,115,116]⟩:ByteArray),(⟨#[99,111,110,116,101,110,116,45,108,101,110,103,116,104]⟩:ByteArray),(⟨#[116,114,97,110,115,102,101,114,45,101,110,99,111,100,105,110,103]⟩:ByteArray),(⟨#[99,111,110,110,101,99,116,105,111,110]⟩:ByteArray),(⟨#[107,101,101,112,45,97,108,105,118,101]⟩:ByteArray),(⟨#[112,114,111,120,121,45,99,111,110,110,101,99,116,105,111,110]⟩:ByteArray),(⟨#[116,101]⟩:ByteArray),(⟨#[116,114,97,105,108,101,114]⟩:ByteArray),(⟨#[117,112,103,114,97,100,101]⟩:ByteArray),(⟨#[101,120,112,101,99,116]⟩:ByteArray),(⟨#[118,105,97]⟩:ByteArray)]:List ByteArray)) a0).bind fun t408=>(some t408))=some r:=h
 clear h
 obtain ⟨y405,hy405⟩ : ∃ y_:List ByteArray,y_=(([(⟨#[104,111,115,116]⟩:ByteArray),(⟨#[99,111,110,116,101,110,116,45,108,101,110,103,116,104]⟩:ByteArray),(⟨#[116,114,97,110,115,102,101,114,45,101,110,99,111,100,105,110,103]⟩:ByteArray),(⟨#[99,111,110,110,101,99,116,105,111,110]⟩:ByteArray),(⟨#[107,101,101,112,45,97,108,105,118,101]⟩:ByteArray),(⟨#[112,114,111,120,121,45,99,111,110,110,101,99,116,105,111,110]⟩:ByteArray),(⟨#[116,101]⟩:ByteArray),(⟨#[116,114,97,105,108,101,114]⟩:ByteArray),(⟨#[117,112,103,114,97,100,101]⟩:ByteArray),(⟨#[101,120,112,101,99,116]⟩:ByteArray),(⟨#[118,105,97]⟩:ByteArray)]:List ByteArray)):=⟨_,rfl⟩
 replace H:((tollbarref04_In.f k y405 a0).bind fun t408=>(some t408))=some r:=by first|(rw [hy405];with_reducible exact H)|(have H2_:=(Option.bind_some _ _).symm.trans H;rw [hy405];with_reducible exact H2_)|(have H2_:=(Option.bind_some _ _).symm.trans H;with_reducible exact H2_)|with_reducible exact H|(rw [hy405];exact H)|exact H
 have Ny405:=Aside0.mk hy405
 clear hy405
 replace H:=Option.bind_eq_some_iff.mp H
 obtain ⟨t408,A20,H⟩:=H
 replace H:(some t408)=some r:=H
 have A2:=Aside0.mk A20
 clear A20
 obtain rfl:=Option.some.inj H
 go_enter Tryz.func132,Tryz.ntmps132
 go_wp2_with (first|((with_reducible refine gate_dst (N:=4) rfl ?_);refine Kd.R_lit Kd.string _ 9 ?hg (N:=4) ?hd (xs:=([(⟨#[104,111,115,116]⟩:ByteArray),(⟨#[99,111,110,116,101,110,116,45,108,101,110,103,116,104]⟩:ByteArray),(⟨#[116,114,97,110,115,102,101,114,45,101,110,99,111,100,105,110,103]⟩:ByteArray),(⟨#[99,111,110,110,101,99,116,105,111,110]⟩:ByteArray),(⟨#[107,101,101,112,45,97,108,105,118,101]⟩:ByteArray),(⟨#[112,114,111,120,121,45,99,111,110,110,101,99,116,105,111,110]⟩:ByteArray),(⟨#[116,101]⟩:ByteArray),(⟨#[116,114,97,105,108,101,114]⟩:ByteArray),(⟨#[117,112,103,114,97,100,101]⟩:ByteArray),(⟨#[101,120,112,101,99,116]⟩:ByteArray),(⟨#[118,105,97]⟩:ByteArray)]:List ByteArray)) (inner:=[.string (⟨#[104,111,115,116]⟩:ByteArray),.string (⟨#[99,111,110,116,101,110,116,45,108,101,110,103,116,104]⟩:ByteArray),.string (⟨#[116,114,97,110,115,102,101,114,45,101,110,99,111,100,105,110,103]⟩:ByteArray),.string (⟨#[99,111,110,110,101,99,116,105,111,110]⟩:ByteArray),.string (⟨#[107,101,101,112,45,97,108,105,118,101]⟩:ByteArray),.string (⟨#[112,114,111,120,121,45,99,111,110,110,101,99,116,105,111,110]⟩:ByteArray),.string (⟨#[116,101]⟩:ByteArray),.string (⟨#[116,114,97,105,108,101,114]⟩:ByteArray),.string (⟨#[117,112,103,114,97,100,101]⟩:ByteArray),.string (⟨#[101,120,112,101,99,116]⟩:ByteArray),.string (⟨#[118,105,97]⟩:ByteArray)]) (ok:=fun _=>True) (okp:=fun _=>True) ?hr ?hp (fun _ hk=>hk) trivial (Below.refl _ _) (Nat.le_refl _) (by simp) ?_;(case hd=>rfl);(case hg=>rfl);(case hr=>first|(go_simp;done)|(go_simp;rfl));(case hp=>exact (Reps.one (show Kd.M Kd.string _ _ _ (⟨#[104,111,115,116]⟩:ByteArray) [.string (⟨#[104,111,115,116]⟩:ByteArray)] from rfl) (Reps.one (show Kd.M Kd.string _ _ _ (⟨#[99,111,110,116,101,110,116,45,108,101,110,103,116,104]⟩:ByteArray) [.string (⟨#[99,111,110,116,101,110,116,45,108,101,110,103,116,104]⟩:ByteArray)] from rfl) (Reps.one (show Kd.M Kd.string _ _ _ (⟨#[116,114,97,110,115,102,101,114,45,101,110,99,111,100,105,110,103]⟩:ByteArray) [.string (⟨#[116,114,97,110,115,102,101,114,45,101,110,99,111,100,105,110,103]⟩:ByteArray)] from rfl) (Reps.one (show Kd.M Kd.string _ _ _ (⟨#[99,111,110,110,101,99,116,105,111,110]⟩:ByteArray) [.string (⟨#[99,111,110,110,101,99,116,105,111,110]⟩:ByteArray)] from rfl) (Reps.one (show Kd.M Kd.string _ _ _ (⟨#[107,101,101,112,45,97,108,105,118,101]⟩:ByteArray) [.string (⟨#[107,101,101,112,45,97,108,105,118,101]⟩:ByteArray)] from rfl) (Reps.one (show Kd.M Kd.string _ _ _ (⟨#[112,114,111,120,121,45,99,111,110,110,101,99,116,105,111,110]⟩:ByteArray) [.string (⟨#[112,114,111,120,121,45,99,111,110,110,101,99,116,105,111,110]⟩:ByteArray)] from rfl) (Reps.one (show Kd.M Kd.string _ _ _ (⟨#[116,101]⟩:ByteArray) [.string (⟨#[116,101]⟩:ByteArray)] from rfl) (Reps.one (show Kd.M Kd.string _ _ _ (⟨#[116,114,97,105,108,101,114]⟩:ByteArray) [.string (⟨#[116,114,97,105,108,101,114]⟩:ByteArray)] from rfl) (Reps.one (show Kd.M Kd.string _ _ _ (⟨#[117,112,103,114,97,100,101]⟩:ByteArray) [.string (⟨#[117,112,103,114,97,100,101]⟩:ByteArray)] from rfl) (Reps.one (show Kd.M Kd.string _ _ _ (⟨#[101,120,112,101,99,116]⟩:ByteArray) [.string (⟨#[101,120,112,101,99,116]⟩:ByteArray)] from rfl) (Reps.one (show Kd.M Kd.string _ _ _ (⟨#[118,105,97]⟩:ByteArray) [.string (⟨#[118,105,97]⟩:ByteArray)] from rfl) (Reps.none _ _)))))))))))));intro v406 w3 ho4 hb hg_ hnew_;clear hg_ hnew_;(first|rw [← Ny405.out] at ho4|(simp only [Int.reduceToNat] at ho4;rw [← Ny405.out] at ho4));have n0_:=Aside0.mk (Kd.R_lower ho4 (below_size (by repeat (first|(with_reducible first|exact HB.out|apply below_alloc|apply pw_below_drewN|apply below_drew1)|exact HB.out))));have n1_:=Aside0.mk (below_step (by repeat (first|(with_reducible first|exact HB.out|apply below_alloc|apply pw_below_drewN|apply below_drew1)|exact HB.out)) hb);clear HB;have HO407:=n0_;have HB:=n1_;clear n0_ n1_;clear hb ho4;obtain ⟨Ao5,co5,eo5⟩:=Kd.R_slice HO407.out;subst eo5)|((with_reducible refine gate_callee (f:=133) rfl ?_);refine goesL_ (some 7) rfl rfl Tryz.func133 (by kernel_rfl) rfl #[.slice Ao5 y405.length co5,.string a0] rfl (by (try simp only [List.map_toArray,List.map_cons,List.map_nil]);first|done|rfl|(simp only [List.length_drop,List.length_take];rfl)) ?_;(with_reducible refine (tollbarref04_In.calls k _ _ y405 a0 t408 _ ?side1 ?side2 A2.out).mono ?_);(case side1=>repeat (first|exact (Kd.R_reads' HO407.out).2.2|(with_reducible refine Kd.C_alloc ?_ _)|(with_reducible refine Kd.C_drewN ?_ _)|(with_reducible refine Kd.C_drew ?_)));(case side2=>exact (Kd.R_reads' HO407.out).2.1);rintro e w6 ⟨rfl,hb⟩;(try clear A2);refine ⟨_,rfl,?_⟩;have n0_:=Aside0.mk (Kd.R_below (by (with_reducible repeat (first|apply Kd.R_alloc|apply Kd.R_drewN|apply Kd.R_drew));exact HO407.out) hb);have n1_:=Aside0.mk (below_step (by repeat (first|(with_reducible first|exact HB.out|apply below_alloc|apply pw_below_drewN|apply below_drew1)|exact HB.out)) hb);clear HO407;clear HB;have HO407:=n0_;have HB:=n1_;clear n0_ n1_;(try clear hb);(try clear hb2);(try clear hk);(try clear hi)))
 go_ret
 exact ⟨by first|rfl|(simp [errW_none,errW_some] <;> rfl)|(simp [*,errW_none,errW_some] <;> rfl),by repeat (first|(with_reducible first|exact HB.out|apply below_alloc|apply pw_below_drewN|apply below_drew1)|exact HB.out)⟩
def tollbarref12_Hop.j0:Nat → List (S55) → ByteArray → Bool → Option (Bool)
 | 0,_,_,_=>none
 | k + 1,x0,x1,x19=>if x19=true then (some true) else ((tollbarref04_List.f k x0 (⟨#[99,111,110,110,101,99,116,105,111,110]⟩:ByteArray)).bind fun t411=>((tollbarref04_In.f k t411 x1).bind fun t414=>(some t414)))
def tollbarref12_Hop.f (k:Nat) (l0:List (S55)) (a1:ByteArray):Option (Bool):=(tollbarref02_Fold.f k a1).bind fun t409=>((tollbarref10_Kept.f k a1).bind fun t410=>(if t410=true then (tollbarref12_Hop.j0 k l0 a1 true) else (if (t409.size:Int) ≥ 10 then (if 0 ≤ 10 then (if 10 ≤ (t409.size:Int) then (tollbarref12_Hop.j0 k l0 a1 ((t409.extract 0 10).toList == ([120,45,116,111,108,108,98,97,114,45]:List UInt8))) else (none)) else (none)) else (tollbarref12_Hop.j0 k l0 a1 false))))
set_option maxHeartbeats 8000000 in
set_option maxRecDepth 100000 in
theorem tollbarref12_Hop.calls (k:Nat) (A0:Option Addr) (c0:Nat) (l0:List (S55)) (a1:ByteArray) (r:Bool) (w:World) (hr0:Kd.C k55 w A0 l0.length l0) (hc0:l0.length ≤ c0) (h:tollbarref12_Hop.f k l0 a1=some r) :
  Calls Tryz.prog 87 #[.slice A0 l0.length c0,.string a1] w fun e w' => e = .returned (.bool r)∧Below w.heap.size w w' := by
 have HR0:=Aside0.mk hr0
 have HC0:=Aside0.mk hc0
 clear hr0 hc0
 have HB:=Aside0.mk (Below.refl w.heap.size w)
 have H:((tollbarref02_Fold.f k a1).bind fun t409=>((tollbarref10_Kept.f k a1).bind fun t410=>(if t410=true then (tollbarref12_Hop.j0 k l0 a1 true) else (if (t409.size:Int) ≥ 10 then (if 0 ≤ 10 then (if 10 ≤ (t409.size:Int) then (tollbarref12_Hop.j0 k l0 a1 ((t409.extract 0 10).toList == ([120,45,116,111,108,108,98,97,114,45]:List UInt8))) else (none)) else (none)) else (tollbarref12_Hop.j0 k l0 a1 false)))))=some r:=h
 clear h
 replace H:=Option.bind_eq_some_iff.mp H
 obtain ⟨t409,A30,H⟩:=H
 replace H:((tollbarref10_Kept.f k a1).bind fun t410=>(if t410=true then (tollbarref12_Hop.j0 k l0 a1 true) else (if (t409.size:Int) ≥ 10 then (if 0 ≤ 10 then (if 10 ≤ (t409.size:Int) then (tollbarref12_Hop.j0 k l0 a1 ((t409.extract 0 10).toList == ([120,45,116,111,108,108,98,97,114,45]:List UInt8))) else (none)) else (none)) else (tollbarref12_Hop.j0 k l0 a1 false))))=some r:=H
 have A3:=Aside0.mk A30
 clear A30
 have HC4:=Aside0.mk H
 clear H
 go_enter Tryz.func87,Tryz.ntmps87
 go_upto_region 2 with (first|((with_reducible refine gate_callee (f:=106) rfl ?_);refine goesL_ (some 7) rfl rfl Tryz.func106 (by kernel_rfl) rfl #[.string a1] rfl (by (try simp only [List.map_toArray,List.map_cons,List.map_nil]);first|done|rfl|(simp only [List.length_drop,List.length_take];rfl)) ?_;(with_reducible refine (tollbarref02_Fold.calls k a1 t409 _ A3.out).mono ?_);rintro e w5 ⟨rfl,hb⟩;refine ⟨_,rfl,?_⟩;have n0_:=Aside0.mk (below_step (by repeat (first|(with_reducible first|exact HB.out|apply below_alloc|apply pw_below_drewN|apply below_drew1)|exact HB.out)) hb);clear HB;have HB:=n0_;clear n0_;(try clear hb);(try clear hb2);(try clear hk);(try clear hi)))
 (try simp only [Act.put,zqA,zqB,zqC])
 go_cut [19] (fun v19 wc => ∃ (kq:Nat) (x19_3:Bool),v19 = .bool x19_3∧Aside0 (tollbarref12_Hop.j0 kq l0 a1 x19_3=some r)∧Aside0 (kq ≤ k)∧Aside0 (Below w.heap.size w wc))
 case first =>
  have H:=HC4.out
  clear HC4
  replace H:=Option.bind_eq_some_iff.mp H
  obtain ⟨t410,A60,H⟩:=H
  replace H:(if t410=true then (tollbarref12_Hop.j0 k l0 a1 true) else (if (t409.size:Int) ≥ 10 then (if 0 ≤ 10 then (if 10 ≤ (t409.size:Int) then (tollbarref12_Hop.j0 k l0 a1 ((t409.extract 0 10).toList == ([120,45,116,111,108,108,98,97,114,45]:List UInt8))) else (none)) else (none)) else (tollbarref12_Hop.j0 k l0 a1 false)))=some r:=H
  have A6:=Aside0.mk A60
  clear A60
  by_cases c7:t410=true
  ·subst c7
   have H1:(tollbarref12_Hop.j0 k l0 a1 true)=some r:=by rw [if_pos rfl] at H;exact H
   clear H
   have H:=H1
   clear H1
   have H' := Aside0.mk H
   clear H
   go_wp2_with (first|((with_reducible refine gate_callee (f:=132) rfl ?_);refine goesL_ (some 9) rfl rfl Tryz.func132 (by kernel_rfl) rfl #[.string a1] rfl (by (try simp only [List.map_toArray,List.map_cons,List.map_nil]);first|done|rfl|(simp only [List.length_drop,List.length_take];rfl)) ?_;(with_reducible refine (tollbarref10_Kept.calls k a1 true _ A6.out).mono ?_);rintro e w8 ⟨rfl,hb⟩;(try clear A6);refine ⟨_,rfl,?_⟩;have n0_:=Aside0.mk (below_step (by repeat (first|(with_reducible first|exact HB.out|apply below_alloc|apply pw_below_drewN|apply below_drew1)|exact HB.out)) hb);clear HB;have HB:=n0_;clear n0_;(try clear hb);(try clear hb2);(try clear hk);(try clear hi)))
   go_meet
   case rel=>exact ⟨_,(true),(by first|rfl|(simp;done)|(simp [*];done)),H',⟨by first|omega|exact Nat.le_refl _⟩,⟨by repeat (first|(with_reducible first|exact HB.out|apply below_alloc|apply pw_below_drewN|apply below_drew1)|exact HB.out)⟩⟩
  ·replace c7:=Bool.eq_false_iff.mpr c7
   subst c7
   have H1:(if (t409.size:Int) ≥ 10 then (if 0 ≤ 10 then (if 10 ≤ (t409.size:Int) then (tollbarref12_Hop.j0 k l0 a1 ((t409.extract 0 10).toList == ([120,45,116,111,108,108,98,97,114,45]:List UInt8))) else (none)) else (none)) else (tollbarref12_Hop.j0 k l0 a1 false))=some r:=by rw [if_neg (show ¬ (false=true) by decide)] at H;exact H
   clear H
   have H:=H1
   clear H1
   by_cases c9:(t409.size:Int) ≥ 10
   ·rw [if_pos c9] at H
    have c9b0:decide (10 ≤ (t409.size:Int))=true:=decide_eq_true c9
    have c9b1:decide (10 ≤ t409.size)=true:=decide_eq_true (by omega)
    clear c9
    (first|rw [c9b0]|(simp only [i64_w,i32_w];rw [c9b0])|rw [c9b1]|skip)
    by_cases c10:0 ≤ 10
    ·rw [if_pos c10] at H
     have c10b0:=eq_true c10
     have c10b1:decide (0 ≤ 10)=true:=decide_eq_true c10
     clear c10
     by_cases c11:10 ≤ (t409.size:Int)
     ·rw [if_pos c11] at H
      have c11b0:=eq_true c11
      have c11b1:decide (10 ≤ (t409.size:Int))=true:=decide_eq_true c11
      clear c11
      have H' := Aside0.mk H
      clear H
      go_wp2_with (first|((with_reducible refine gate_callee (f:=132) rfl ?_);refine goesL_ (some 9) rfl rfl Tryz.func132 (by kernel_rfl) rfl #[.string a1] rfl (by (try simp only [List.map_toArray,List.map_cons,List.map_nil]);first|done|rfl|(simp only [List.length_drop,List.length_take];rfl)) ?_;(with_reducible refine (tollbarref10_Kept.calls k a1 false _ A6.out).mono ?_);rintro e w12 ⟨rfl,hb⟩;(try clear A6);refine ⟨_,rfl,?_⟩;have n0_:=Aside0.mk (below_step (by repeat (first|(with_reducible first|exact HB.out|apply below_alloc|apply pw_below_drewN|apply below_drew1)|exact HB.out)) hb);clear HB;have HB:=n0_;clear n0_;(try clear hb);(try clear hb2);(try clear hk);(try clear hi)))
      go_meet
      case rel=>exact ⟨_,(((t409.extract 0 10).toList == ([120,45,116,111,108,108,98,97,114,45]:List UInt8))),(by first|rfl|(simp;done)|(simp [*];done)),H',⟨by first|omega|exact Nat.le_refl _⟩,⟨by repeat (first|(with_reducible first|exact HB.out|apply below_alloc|apply pw_below_drewN|apply below_drew1)|exact HB.out)⟩⟩
     ·rw [if_neg c11] at H
      exact absurd H (by simp)
    ·exact absurd c10 (by decide)
   ·rw [if_neg c9] at H
    have c9b0:decide (10 ≤ (t409.size:Int))=false:=decide_eq_false c9
    have c9b1:decide (10 ≤ t409.size)=false:=decide_eq_false (by omega)
    clear c9
    (first|rw [c9b0]|(simp only [i64_w,i32_w];rw [c9b0])|rw [c9b1]|skip)
    have H' := Aside0.mk H
    clear H
    go_wp2_with (first|((with_reducible refine gate_callee (f:=132) rfl ?_);refine goesL_ (some 9) rfl rfl Tryz.func132 (by kernel_rfl) rfl #[.string a1] rfl (by (try simp only [List.map_toArray,List.map_cons,List.map_nil]);first|done|rfl|(simp only [List.length_drop,List.length_take];rfl)) ?_;(with_reducible refine (tollbarref10_Kept.calls k a1 false _ A6.out).mono ?_);rintro e w13 ⟨rfl,hb⟩;(try clear A6);refine ⟨_,rfl,?_⟩;have n0_:=Aside0.mk (below_step (by repeat (first|(with_reducible first|exact HB.out|apply below_alloc|apply pw_below_drewN|apply below_drew1)|exact HB.out)) hb);clear HB;have HB:=n0_;clear n0_;(try clear hb);(try clear hb2);(try clear hk);(try clear hi)))
    go_meet
    case rel=>exact ⟨_,(false),(by first|rfl|(simp;done)|(simp [*];done)),H',⟨by first|omega|exact Nat.le_refl _⟩,⟨by repeat (first|(with_reducible first|exact HB.out|apply below_alloc|apply pw_below_drewN|apply below_drew1)|exact HB.out)⟩⟩
 case rest =>
  clear HC4
  try clear c1
  try clear p2
  try clear c7
  try clear c8
  try clear c9
  try clear c9b0
  try clear c9b1
  try clear c10
  try clear c10b0
  try clear c10b1
  try clear c11
  try clear c11b0
  try clear c11b1
  try clear c13
  obtain ⟨kq,x19_3,rfl,HA,HJ3,HB⟩:=hcut
  cases kq with
  | zero=>exact absurd HA.out (by simp [tollbarref12_Hop.j0])
  | succ kj3 =>
   have H:=HA.out
   clear HA
   simp only [tollbarref12_Hop.j0] at H
   by_cases c14:x19_3=true
   ·subst c14
    have H1:(some true)=some r:=by rw [if_pos rfl] at H;exact H
    clear H
    have H:=H1
    clear H1
    obtain rfl:=Option.some.inj H
    go_wp2
    go_ret
    exact ⟨by first|rfl|(simp [errW_none,errW_some] <;> rfl)|(simp [*,errW_none,errW_some] <;> rfl),by repeat (first|(with_reducible first|exact HB.out|apply below_alloc|apply pw_below_drewN|apply below_drew1)|exact HB.out)⟩
   ·replace c14:=Bool.eq_false_iff.mpr c14
    subst c14
    have H1:((tollbarref04_List.f kj3 l0 (⟨#[99,111,110,110,101,99,116,105,111,110]⟩:ByteArray)).bind fun t411=>((tollbarref04_In.f kj3 t411 a1).bind fun t414=>(some t414)))=some r:=by rw [if_neg (show ¬ (false=true) by decide)] at H;exact H
    clear H
    have H:=H1
    clear H1
    replace H:=Option.bind_eq_some_iff.mp H
    obtain ⟨t411,A150,H⟩:=H
    replace H:((tollbarref04_In.f kj3 t411 a1).bind fun t414=>(some t414))=some r:=H
    have A15:=Aside0.mk A150
    clear A150
    replace H:=Option.bind_eq_some_iff.mp H
    obtain ⟨t414,A160,H⟩:=H
    replace H:(some t414)=some r:=H
    have A16:=Aside0.mk A160
    clear A160
    obtain rfl:=Option.some.inj H
    go_wp2_with (first|((with_reducible refine gate_callee (f:=103) rfl ?_);refine goesL_ (some 21) rfl rfl Tryz.func103 (by kernel_rfl) rfl #[.slice A0 l0.length c0,.string (⟨#[99,111,110,110,101,99,116,105,111,110]⟩:ByteArray)] rfl (by (try simp only [List.map_toArray,List.map_cons,List.map_nil]);first|done|rfl|(simp only [List.length_drop,List.length_take];rfl)) ?_;(with_reducible refine (tollbarref04_List.calls kj3 _ _ l0 (⟨#[99,111,110,110,101,99,116,105,111,110]⟩:ByteArray) t411 _ ?side1 ?side2 A15.out).mono ?_);(case side1=>repeat (first|exact (Kd.C_below HR0.out HB.out)|(with_reducible refine Kd.C_alloc ?_ _)|(with_reducible refine Kd.C_drewN ?_ _)|(with_reducible refine Kd.C_drew ?_)));(case side2=>exact HC0.out);rintro e w17 ⟨v412,rfl,ho0,hb⟩;(try clear A15);refine ⟨_,rfl,?_⟩;have n0_:=Aside0.mk (Kd.R_lower ho0 (below_size (by repeat (first|(with_reducible first|exact HB.out|apply below_alloc|apply pw_below_drewN|apply below_drew1)|exact HB.out))));have n1_:=Aside0.mk (below_step (by repeat (first|(with_reducible first|exact HB.out|apply below_alloc|apply pw_below_drewN|apply below_drew1)|exact HB.out)) hb);clear HB;have HO413:=n0_;have HB:=n1_;clear n0_ n1_;(try clear hb);(try clear hb2);(try clear hk);(try clear hi);(try clear ho0);obtain ⟨Ao18,co18,eo18⟩:=Kd.R_slice HO413.out;subst eo18)|((with_reducible refine gate_callee (f:=133) rfl ?_);refine goesL_ (some 23) rfl rfl Tryz.func133 (by kernel_rfl) rfl #[.slice Ao18 t411.length co18,.string a1] rfl (by (try simp only [List.map_toArray,List.map_cons,List.map_nil]);first|done|rfl|(simp only [List.length_drop,List.length_take];rfl)) ?_;(with_reducible refine (tollbarref04_In.calls kj3 _ _ t411 a1 t414 _ ?side1 ?side2 A16.out).mono ?_);(case side1=>repeat (first|exact (Kd.R_reads' HO413.out).2.2|(with_reducible refine Kd.C_alloc ?_ _)|(with_reducible refine Kd.C_drewN ?_ _)|(with_reducible refine Kd.C_drew ?_)));(case side2=>exact (Kd.R_reads' HO413.out).2.1);rintro e w19 ⟨rfl,hb⟩;(try clear A16);refine ⟨_,rfl,?_⟩;have n0_:=Aside0.mk (Kd.R_below (by (with_reducible repeat (first|apply Kd.R_alloc|apply Kd.R_drewN|apply Kd.R_drew));exact HO413.out) hb);have n1_:=Aside0.mk (below_step (by repeat (first|(with_reducible first|exact HB.out|apply below_alloc|apply pw_below_drewN|apply below_drew1)|exact HB.out)) hb);clear HO413;clear HB;have HO413:=n0_;have HB:=n1_;clear n0_ n1_;(try clear hb);(try clear hb2);(try clear hk);(try clear hi)))
    go_ret
    exact ⟨by first|rfl|(simp [errW_none,errW_some] <;> rfl)|(simp [*,errW_none,errW_some] <;> rfl),by repeat (first|(with_reducible first|exact HB.out|apply below_alloc|apply pw_below_drewN|apply below_drew1)|exact HB.out)⟩
def tollbarref12_onward.l0:Nat → List (S55) → List (S55) → Int → Option ((List (S55)))
 | 0,_,_,_=>none
 | k + 1,x0,x3,x4=>if x4 < (x0.length:Int) then (if 0 ≤ x4 then ((tollbarref12_Hop.f k x0 ((rd_T55 x0 x4).f0)).bind fun t419=>(if t419=true then (tollbarref12_onward.l0 k x0 x3 (wrap64 (x4 + 1))) else (if x3.length < 4398046511104 then (tollbarref12_onward.l0 k x0 (x3 ++ [(⟨(rd_T55 x0 x4).f0,(rd_T55 x0 x4).f1⟩:S55)]) (wrap64 (x4 + 1))) else (none)))) else (none)) else (some x3)
def tollbarref12_onward.f (k:Nat) (l0:List (S55)):Option ((List (S55))):=tollbarref12_onward.l0 k l0 (([]:List (S55))) 0
set_option maxHeartbeats 8000000 in
set_option maxRecDepth 100000 in
theorem tollbarref12_onward.calls (k:Nat) (A0:Option Addr) (c0:Nat) (l0:List (S55)) (r:List (S55)) (w:World) (hr0:Kd.C k55 w A0 l0.length l0) (hc0:l0.length ≤ c0) (h:tollbarref12_onward.f k l0=some r) :
  Calls Tryz.prog 48 #[.slice A0 l0.length c0] w fun e w' => ∃ v0_:Value,e = .returned (v0_)∧Kd.R k55 55 w' w.heap.size (fun _=>True) v0_ r∧Below w.heap.size w w' := by
 have hu55:=Tryz.underlying55
 have HR0:=Aside0.mk hr0
 have HC0:=Aside0.mk hc0
 clear hr0 hc0
 have HB:=Aside0.mk (Below.refl w.heap.size w)
 have H:(tollbarref12_onward.l0 k l0 (([]:List (S55))) 0)=some r:=h
 clear h
 obtain ⟨y415,hy415⟩ : ∃ y_:List (S55),y_=(([]:List (S55))):=⟨_,rfl⟩
 replace H:(tollbarref12_onward.l0 k l0 y415 0)=some r:=by first|(rw [hy415];with_reducible exact H)|(have H2_:=(Option.bind_some _ _).symm.trans H;rw [hy415];with_reducible exact H2_)|(have H2_:=(Option.bind_some _ _).symm.trans H;with_reducible exact H2_)|with_reducible exact H|(rw [hy415];exact H)|exact H
 have Ny415:=Aside0.mk hy415
 clear hy415
 have H' := Aside0.mk H
 clear H
 go_enter Tryz.func48,Tryz.ntmps48
 go_wp2_with (first|((with_reducible refine gate_dst (N:=5) rfl ?_);refine Kd.R_lit k55 _ 55 ?hg (N:=5) ?hd (xs:=([]:List (S55))) (inner:=[]) (ok:=fun _=>True) (okp:=fun _=>True) ?hr ?hp (fun _ hk=>hk) trivial (Below.refl _ _) (Nat.le_refl _) (by simp) ?_;(case hd=>rfl);(case hg=>rfl);(case hr=>first|(go_simp;done)|(go_simp;rfl));(case hp=>exact (Reps.none _ _));intro v416 w2 ho3 hb hg_ hnew_;clear hg_ hnew_;(first|rw [← Ny415.out] at ho3|(simp only [Int.reduceToNat] at ho3;rw [← Ny415.out] at ho3));have n0_:=Aside0.mk (Kd.R_lower ho3 (below_size (by repeat (first|(with_reducible first|exact HB.out|apply below_alloc|apply pw_below_drewN|apply below_drew1)|exact HB.out))));have n1_:=Aside0.mk (below_step (by repeat (first|(with_reducible first|exact HB.out|apply below_alloc|apply pw_below_drewN|apply below_drew1)|exact HB.out)) hb);clear HB;have HO417:=n0_;have HB:=n1_;clear n0_ n1_;clear hb ho3))
 go_loopg [3,4] k (fun kq v3 v4 w' => ∃ (x3_1:List (S55)) (x4_1:Int),v4 = .int .i64 x4_1∧Aside0 (tollbarref12_onward.l0 kq l0 x3_1 x4_1=some r)∧Aside0 (kq ≤ k)∧Aside0 (Kd.R k55 55 w' w.heap.size (fun _=>True) v3 x3_1)∧Aside0 (Below w.heap.size w w'))
 case atStart=>exact ⟨(y415),(0),(by first|rfl|(simp;done)|(simp [*];done)),H',⟨Nat.le_refl _⟩,⟨by (with_reducible repeat (first|apply Kd.R_alloc|apply Kd.R_drewN|apply Kd.R_drew));exact HO417.out⟩,⟨by repeat (first|(with_reducible first|exact HB.out|apply below_alloc|apply pw_below_drewN|apply below_drew1)|exact HB.out)⟩⟩
 case round =>
  clear H'
  try clear p2
  obtain ⟨x3_1,x4_1,rfl,HA,HK1,HO_3,HB⟩:=hrel
  cases gk with
  | zero=>exact absurd HA.out (by simp [tollbarref12_onward.l0])
  | succ k1 =>
   have H:=HA.out
   clear HA
   simp only [tollbarref12_onward.l0] at H
   by_cases c4:x4_1 < (l0.length:Int)
   ·rw [if_pos c4] at H
    have c4b0:decide (x4_1 < (l0.length:Int))=true:=decide_eq_true c4
    clear c4
    by_cases c5:0 ≤ x4_1
    ·rw [if_pos c5] at H
     have c5b0:decide (0 ≤ x4_1)=true:=decide_eq_true c5
     clear c5
     replace H:=Option.bind_eq_some_iff.mp H
     obtain ⟨t419,A60,H⟩:=H
     replace H:(if t419=true then (tollbarref12_onward.l0 k1 l0 x3_1 (wrap64 (x4_1 + 1))) else (if x3_1.length < 4398046511104 then (tollbarref12_onward.l0 k1 l0 (x3_1 ++ [(⟨(rd_T55 l0 x4_1).f0,(rd_T55 l0 x4_1).f1⟩:S55)]) (wrap64 (x4_1 + 1))) else (none)))=some r:=H
     have A6:=Aside0.mk A60
     clear A60
     by_cases c7:t419=true
     ·subst c7
      have H1:(tollbarref12_onward.l0 k1 l0 x3_1 (wrap64 (x4_1 + 1)))=some r:=by rw [if_pos rfl] at H;exact H
      clear H
      have H:=H1
      clear H1
      have H' := Aside0.mk H
      clear H
      have p418:0 ≤ (x4_1:Int):=of_decide_eq_true (by first|(with_reducible assumption)|assumption)
      have q418:x4_1 < (l0.length:Int):=of_decide_eq_true (by first|(with_reducible assumption)|assumption)
      obtain ⟨ad418,e418,hx418_0,hx418_1⟩:=at_T55 HR0.out x4_1 p418 q418
      cases e418
      replace hx418_0:=(HB.out.cell (World.block_lt_of_cell? w _ hx418_0)).trans hx418_0
      replace hx418_1:=(HB.out.cell (World.block_lt_of_cell? w _ hx418_1)).trans hx418_1
      replace p418:=eq_true p418
      replace q418:=eq_true q418
      go_wp2_with (first|((with_reducible refine gate_callee (f:=87) rfl ?_);refine goesL_ (some 18) rfl rfl Tryz.func87 (by kernel_rfl) rfl #[.slice (some ad418) l0.length c0,.string ((rd_T55 l0 x4_1).f0)] rfl (by (try simp only [List.map_toArray,List.map_cons,List.map_nil]);first|done|rfl|(simp only [List.length_drop,List.length_take];rfl)) ?_;(with_reducible refine (tollbarref12_Hop.calls k1 _ _ l0 ((rd_T55 l0 x4_1).f0) true _ ?side1 ?side2 A6.out).mono ?_);(case side1=>repeat (first|exact (Kd.C_below HR0.out HB.out)|(with_reducible refine Kd.C_alloc ?_ _)|(with_reducible refine Kd.C_drewN ?_ _)|(with_reducible refine Kd.C_drew ?_)));(case side2=>exact HC0.out);rintro e w8 ⟨rfl,hb⟩;(try clear A6);refine ⟨_,rfl,?_⟩;have n0_:=Aside0.mk (Kd.R_below (by (with_reducible repeat (first|apply Kd.R_alloc|apply Kd.R_drewN|apply Kd.R_drew));exact HO_3.out) hb);have n1_:=Aside0.mk (below_step (by repeat (first|(with_reducible first|exact HB.out|apply below_alloc|apply pw_below_drewN|apply below_drew1)|exact HB.out)) hb);clear HO_3;clear HB;have HO_3:=n0_;have HB:=n1_;clear n0_ n1_;(try clear hb);(try clear hb2);(try clear hk);(try clear hi)))
      go_roundg k1
      case measure=>have:=HK1.out;omega
      case rel=>exact ⟨(x3_1),(wrap64 (x4_1 + 1)),(by first|rfl|(simp;done)|(simp [*];done)),H',⟨by have:=HK1.out;omega⟩,⟨by (with_reducible repeat (first|apply Kd.R_alloc|apply Kd.R_drewN|apply Kd.R_drew));exact HO_3.out⟩,⟨by repeat (first|(with_reducible first|exact HB.out|apply below_alloc|apply pw_below_drewN|apply below_drew1)|exact HB.out)⟩⟩
     ·replace c7:=Bool.eq_false_iff.mpr c7
      subst c7
      have H1:(if x3_1.length < 4398046511104 then (tollbarref12_onward.l0 k1 l0 (x3_1 ++ [(⟨(rd_T55 l0 x4_1).f0,(rd_T55 l0 x4_1).f1⟩:S55)]) (wrap64 (x4_1 + 1))) else (none))=some r:=by rw [if_neg (show ¬ (false=true) by decide)] at H;exact H
      clear H
      have H:=H1
      clear H1
      by_cases c9:x3_1.length < 4398046511104
      ·rw [if_pos c9] at H
       have LMc9:=Aside0.mk c9
       clear c9
       obtain ⟨y421,hy421⟩ : ∃ y_:List (S55),y_=(x3_1 ++ [(⟨(rd_T55 l0 x4_1).f0,(rd_T55 l0 x4_1).f1⟩:S55)]):=⟨_,rfl⟩
       replace H:(tollbarref12_onward.l0 k1 l0 y421 (wrap64 (x4_1 + 1)))=some r:=by first|(rw [hy421];with_reducible exact H)|(have H2_:=(Option.bind_some _ _).symm.trans H;rw [hy421];with_reducible exact H2_)|(have H2_:=(Option.bind_some _ _).symm.trans H;with_reducible exact H2_)|with_reducible exact H|(rw [hy421];exact H)|exact H
       have Ny421:=Aside0.mk hy421
       clear hy421
       have H' := Aside0.mk H
       clear H
       have p418:0 ≤ (x4_1:Int):=of_decide_eq_true (by first|(with_reducible assumption)|assumption)
       have q418:x4_1 < (l0.length:Int):=of_decide_eq_true (by first|(with_reducible assumption)|assumption)
       obtain ⟨ad418,e418,hx418_0,hx418_1⟩:=at_T55 HR0.out x4_1 p418 q418
       cases e418
       replace hx418_0:=(HB.out.cell (World.block_lt_of_cell? w _ hx418_0)).trans hx418_0
       replace hx418_1:=(HB.out.cell (World.block_lt_of_cell? w _ hx418_1)).trans hx418_1
       replace p418:=eq_true p418
       replace q418:=eq_true q418
       go_wp2_with (first|((with_reducible refine gate_callee (f:=87) rfl ?_);refine goesL_ (some 18) rfl rfl Tryz.func87 (by kernel_rfl) rfl #[.slice (some ad418) l0.length c0,.string ((rd_T55 l0 x4_1).f0)] rfl (by (try simp only [List.map_toArray,List.map_cons,List.map_nil]);first|done|rfl|(simp only [List.length_drop,List.length_take];rfl)) ?_;(with_reducible refine (tollbarref12_Hop.calls k1 _ _ l0 ((rd_T55 l0 x4_1).f0) false _ ?side1 ?side2 A6.out).mono ?_);(case side1=>repeat (first|exact (Kd.C_below HR0.out HB.out)|(with_reducible refine Kd.C_alloc ?_ _)|(with_reducible refine Kd.C_drewN ?_ _)|(with_reducible refine Kd.C_drew ?_)));(case side2=>exact HC0.out);rintro e w10 ⟨rfl,hb⟩;(try clear A6);refine ⟨_,rfl,?_⟩;have n0_:=Aside0.mk (Kd.R_below (by (with_reducible repeat (first|apply Kd.R_alloc|apply Kd.R_drewN|apply Kd.R_drew));exact HO_3.out) hb);have n1_:=Aside0.mk (below_step (by repeat (first|(with_reducible first|exact HB.out|apply below_alloc|apply pw_below_drewN|apply below_drew1)|exact HB.out)) hb);clear HO_3;clear HB;have HO_3:=n0_;have HB:=n1_;clear n0_ n1_;(try clear hb);(try clear hb2);(try clear hk);(try clear hi);have p420:0 ≤ (x4_1:Int):=of_decide_eq_true (by first|(with_reducible assumption)|assumption);have q420:x4_1 < (l0.length:Int):=of_decide_eq_true (by first|(with_reducible assumption)|assumption);obtain ⟨ad420,e420,hx420_0,hx420_1⟩:=at_T55 HR0.out x4_1 p420 q420;obtain rfl:ad418=ad420:=(by injection e420);replace hx420_0:=(HB.out.cell (World.block_lt_of_cell? w _ hx420_0)).trans hx420_0;replace hx420_1:=(HB.out.cell (World.block_lt_of_cell? w _ hx420_1)).trans hx420_1;replace p420:=eq_true p420;replace q420:=eq_true q420)|((with_reducible refine gate_builtin (b:=.append) (xs:=#[.tmp 20,.tmp 25]) rfl ?_);at_builtin;refine Kd.R_append k55 (w0:=w) w.heap.size rfl (.tmp 20) (.tmp 25) 22 55 (.agg #[(.string ⟨#[]⟩),(.string ⟨#[]⟩)]) 32 rfl Tryz.underlying22 info55 rfl (by decide) (by omega) u3 x3_1 (⟨(rd_T55 l0 x4_1).f0,(rd_T55 l0 x4_1).f1⟩:S55) [.string ((rd_T55 l0 x4_1).f0),.string ((rd_T55 l0 x4_1).f1)] (fun _=>True) (fun _=>False) rfl rfl ?aP (fun _ hk=>hk.elim) ?aF ?aO ?aB ?aS ?aL ?_;(case aP=>exact k55_mkM _ _ _ (⟨(rd_T55 l0 x4_1).f0,(rd_T55 l0 x4_1).f1⟩:S55));(case aB=>exact (by repeat (first|(with_reducible first|exact HB.out|apply below_alloc|apply pw_below_drewN|apply below_drew1)|exact HB.out)));(case aF=>exact (fun _ _=>trivial));(case aO=>exact (by (with_reducible repeat (first|apply Kd.R_alloc|apply Kd.R_drewN|apply Kd.R_drew));exact HO_3.out));(case aS=>exact (below_size (by repeat (first|(with_reducible first|exact HB.out|apply below_alloc|apply pw_below_drewN|apply below_drew1)|exact HB.out))));(case aL=>have:=LMc9.out;omega);intro v422 w11 ho hb hg hat;rw [← Ny421.out] at ho;have n0_:=Aside0.mk (hb);have n1_:=Aside0.mk (ho);clear HB;clear HO_3;have HB:=n0_;have HO423:=n1_;clear n0_ n1_;clear ho hb hg hat))
       go_roundg k1
       case measure=>have:=HK1.out;omega
       case rel=>exact ⟨(y421),(wrap64 (x4_1 + 1)),(by first|rfl|(simp;done)|(simp [*];done)),H',⟨by have:=HK1.out;omega⟩,⟨by (with_reducible repeat (first|apply Kd.R_alloc|apply Kd.R_drewN|apply Kd.R_drew));exact HO423.out⟩,⟨by repeat (first|(with_reducible first|exact HB.out|apply below_alloc|apply pw_below_drewN|apply below_drew1)|exact HB.out)⟩⟩
      ·rw [if_neg c9] at H
       exact absurd H (by simp)
    ·rw [if_neg c5] at H
     exact absurd H (by simp)
   ·rw [if_neg c4] at H
    have c4b0:decide (x4_1 < (l0.length:Int))=false:=decide_eq_false c4
    clear c4
    obtain rfl:=Option.some.inj H
    go_wp2
    go_ret
    exact ⟨_,by first|rfl|(simp [errW_none,errW_some] <;> rfl)|(simp [*,errW_none,errW_some] <;> rfl),by (with_reducible repeat (first|apply Kd.R_alloc|apply Kd.R_drewN|apply Kd.R_drew));exact HO_3.out,by repeat (first|(with_reducible first|exact HB.out|apply below_alloc|apply pw_below_drewN|apply below_drew1)|exact HB.out)⟩
end Go.Proofs.YtfjeinnemimjoaaGreatDoor.P
