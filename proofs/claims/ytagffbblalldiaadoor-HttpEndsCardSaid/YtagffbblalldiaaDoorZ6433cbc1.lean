/- Each function below answers as its Lean twin says; plain lemmas; a row where its theorem stands. No further condition. (Laid by this repo's pack.py out of its texts and of the print's words.) -/
import Derived.Test.YtagffbblalldiaaDoorZc54eb124
namespace Go.Proofs.YtagffbblalldiaaDoor.P
open Go.RowKit Go.Proofs.YtagffbblalldiaaDoorW.PrintWords Go.Proofs.YtagffbblalldiaaDoorW.PrintLast Go.Proofs.YtagffbblalldiaaDoorW.PrintMore
attribute [local go_sem] max2_int min2_int max_two min_two max_three min_three max_four min_four
set_option linter.unusedVariables false
set_option linter.unusedSimpArgs false
def tollbarref01_SameBytes.l0:Nat → List Int → List Int → Int → Option (Bool)
 | 0,_,_,_=>none
 | k + 1,x0,x1,x5=>if x5 < (x0.length:Int) then (if 0 ≤ x5 then (if x5 < (x1.length:Int) then (if (rd x0 x5)=(rd x1 x5) then (tollbarref01_SameBytes.l0 k x0 x1 (wrap64 (x5 + 1))) else (some false)) else (none)) else (none)) else (some true)
def tollbarref01_SameBytes.f (k:Nat) (l0:List Int) (l1:List Int):Option (Bool):=if (l0.length:Int)=(l1.length:Int) then (tollbarref01_SameBytes.l0 k l0 l1 0) else (some false)
set_option maxHeartbeats 8000000 in
set_option maxRecDepth 100000 in
theorem tollbarref01_SameBytes.calls (k:Nat) (A0:Option Addr) (c0:Nat) (l0:List Int) (A1:Option Addr) (c1:Nat) (l1:List Int) (r:Bool) (w:World) (hr0:Kd.C (Kd.int .u8) w A0 l0.length l0) (hc0:l0.length ≤ c0) (hr1:Kd.C (Kd.int .u8) w A1 l1.length l1) (hc1:l1.length ≤ c1) (h:tollbarref01_SameBytes.f k l0 l1=some r) :
 Calls Tryd.prog 7 #[.slice A0 l0.length c0,.slice A1 l1.length c1] w fun e w' => e = .returned (.bool r)∧Drawn0 w w' := by
 have HR0:=Aside0.mk hr0
 have HC0:=Aside0.mk hc0
 clear hr0 hc0
 have HR1:=Aside0.mk hr1
 have HC1:=Aside0.mk hc1
 clear hr1 hc1
 unfold tollbarref01_SameBytes.f at h
 have H:=h
 clear h
 by_cases c3:(l0.length:Int)=(l1.length:Int);rotate_left
 ·rw [if_neg c3] at H
  have c3b0:=beq_eq_false_iff_ne.mpr c3
  have c3b1:=bne_iff_ne.mpr c3
  have c3b2:(l0.length == l1.length)=false:=by first|simpa using c3|(simp at c3 ⊢;omega)
  obtain rfl:=Option.some.inj H
  go_enter Tryd.func7,Tryd.ntmps7
  go_wp2
  repeat (go_quiet (fail);try go_wp2)
  go_ret
  exact ⟨zb6,zb13⟩
 rw [if_pos c3] at H
 have c3b0:=beq_iff_eq.mpr c3
 have c3b1:=bne_eq_false_iff_eq.mpr c3
 have c3b2:(l0.length == l1.length)=true:=by first|simpa using c3|(simp at c3 ⊢;omega)
 clear c3
 have H' := Aside0.mk H
 clear H
 go_enter Tryd.func7,Tryd.ntmps7
 go_wp2
 repeat (go_quiet (fail);try go_wp2)
 go_loopg [5] k (fun kq v5 w' => ∃ (x5_1:Int),v5 = .int .i64 x5_1∧Aside0 (tollbarref01_SameBytes.l0 kq l0 l1 x5_1=some r)∧Aside0 (kq ≤ k)∧Drawn0 w w')
 case atStart=>exact ⟨(0),zb6,H',⟨Nat.le_refl _⟩,zb13⟩
 case round =>
  clear H'
  try clear c1
  try clear p2
  try clear c3
  try clear c3b0
  try clear c3b1
  try clear c3b2
  obtain ⟨x5_1,rfl,HA,HK1,⟨m1,rfl⟩⟩:=hrel
  cases gk with
  | zero=>exact absurd HA.out (by simp [tollbarref01_SameBytes.l0])
  | succ k1 =>
   have H:=HA.out
   clear HA
   simp only [tollbarref01_SameBytes.l0] at H
   by_cases c4:x5_1 < (l0.length:Int)
   ·rw [if_pos c4] at H
    have c4b0:=decide_eq_true c4
    clear c4
    by_cases c5:0 ≤ x5_1
    ·rw [if_pos c5] at H
     have c5b0:=decide_eq_true c5
     clear c5
     by_cases c6:x5_1 < (l1.length:Int);rotate_left
     ·rw [if_neg c6] at H
      exact absurd H zb30
     rw [if_pos c6] at H
     have c6b0:=decide_eq_true c6
     clear c6
     by_cases c7:(rd l0 x5_1)=(rd l1 x5_1);rotate_left
     ·rw [if_neg c7] at H
      have c7b0:=beq_eq_false_iff_ne.mpr c7
      have c7b1:=bne_iff_ne.mpr c7
      obtain rfl:=Option.some.inj H
      have p234:0 ≤ (x5_1:Int):=of_decide_eq_true zb7
      have q234:x5_1 < (l0.length:Int):=of_decide_eq_true zb7
      obtain ⟨ad234,e234,hx234_0⟩:=Kd.at_int HR0.out x5_1 p234 q234
      cases e234
      replace p234:=eq_true p234
      replace q234:=eq_true q234
      have p235:0 ≤ (x5_1:Int):=of_decide_eq_true zb7
      have q235:x5_1 < (l1.length:Int):=of_decide_eq_true zb7
      obtain ⟨ad235,e235,hx235_0⟩:=Kd.at_int HR1.out x5_1 p235 q235
      cases e235
      replace p235:=eq_true p235
      replace q235:=eq_true q235
      go_wp2
      repeat (go_quiet (fail);try go_wp2)
      go_ret
      exact ⟨zb6,zb13⟩
     rw [if_pos c7] at H
     have c7b0:=beq_iff_eq.mpr c7
     have c7b1:=bne_eq_false_iff_eq.mpr c7
     clear c7
     have H' := Aside0.mk H
     clear H
     have p234:0 ≤ (x5_1:Int):=of_decide_eq_true zb7
     have q234:x5_1 < (l0.length:Int):=of_decide_eq_true zb7
     obtain ⟨ad234,e234,hx234_0⟩:=Kd.at_int HR0.out x5_1 p234 q234
     cases e234
     replace p234:=eq_true p234
     replace q234:=eq_true q234
     have p235:0 ≤ (x5_1:Int):=of_decide_eq_true zb7
     have q235:x5_1 < (l1.length:Int):=of_decide_eq_true zb7
     obtain ⟨ad235,e235,hx235_0⟩:=Kd.at_int HR1.out x5_1 p235 q235
     cases e235
     replace p235:=eq_true p235
     replace q235:=eq_true q235
     go_wp2
     repeat (go_quiet (fail);try go_wp2)
     go_roundg k1
     case measure=>have:=HK1.out;omega
     case rel=>exact ⟨(wrap64 (x5_1 + 1)),zb6,H',⟨zb50⟩,zb13⟩
    ·rw [if_neg c5] at H
     exact absurd H zb30
   ·rw [if_neg c4] at H
    have c4b0:=decide_eq_false c4
    clear c4
    obtain rfl:=Option.some.inj H
    go_wp2
    repeat (go_quiet (fail);try go_wp2)
    go_ret
    exact ⟨zb6,zb13⟩
mutual
def tollbarref01_Decimal.l0:Nat → Int → ByteArray → Option (ByteArray)
 | 0,_,_=>none
 | k + 1,x0,x3=>if x3.toList=([]:List UInt8) then ((some (([(wrap64 (48 + (Int.tmod x0 10))) % 256]:List Int):List Int)).bind fun y261=>(if (strOfNums y261).size + x3.size ≤ 9223372036854775807 then (tollbarref01_Decimal.l0 k (wrap64 (Int.tdiv x0 10)) ((strOfNums y261) ++ x3)) else (none))) else (if x0 > 0 then ((some (([(wrap64 (48 + (Int.tmod x0 10))) % 256]:List Int):List Int)).bind fun y264=>(if (strOfNums y264).size + x3.size ≤ 9223372036854775807 then (tollbarref01_Decimal.l0 k (wrap64 (Int.tdiv x0 10)) ((strOfNums y264) ++ x3)) else (none))) else (some x3))
def tollbarref01_Decimal.f:Nat → Int → Option (ByteArray)
 | 0,_=>none
 | k + 1,a0=>if a0 < 0 then ((tollbarref01_Decimal.f k (wrap64 (-a0))).bind fun t260=>(if 1 + t260.size ≤ 9223372036854775807 then (some ((⟨#[45]⟩:ByteArray) ++ t260)) else (none))) else (tollbarref01_Decimal.l0 k a0 (⟨#[]⟩:ByteArray))
end
theorem tollbarref01_Decimal.mono_l : ∀ k,(∀ y0,LeO (tollbarref01_Decimal.f k y0) (tollbarref01_Decimal.f (k + 1) y0))∧(∀ y0 y1,LeO (tollbarref01_Decimal.l0 k y0 y1) (tollbarref01_Decimal.l0 (k + 1) y0 y1))
 | 0=>⟨fun _ r h=>by simp [tollbarref01_Decimal.f] at h,fun _ _ r h=>by simp [tollbarref01_Decimal.l0] at h⟩
 | k + 1=>by
  obtain ⟨ih0,ih1⟩:=tollbarref01_Decimal.mono_l k
  refine ⟨?_,?_⟩
  ·intro y0
   unfold tollbarref01_Decimal.f
   repeat' first
   | (with_reducible exact ih0 _)
   | (with_reducible exact ih1 _ _)
   | (with_reducible exact LeO.refl _)
   | (with_reducible exact LeO.none _)
   | (with_reducible refine LeO.ite ?_ ?_)
   | (with_reducible refine LeO.bind ?_ (fun _=>?_))
   | exact ih0 _
   | exact ih1 _ _
   | exact LeO.none _
   | refine LeO.ite ?_ ?_
   | refine LeO.bind ?_ (fun _=>?_)
  intro y0 y1
  unfold tollbarref01_Decimal.l0
  repeat' first
  | (with_reducible exact ih0 _)
  | (with_reducible exact ih1 _ _)
  | (with_reducible exact LeO.refl _)
  | (with_reducible exact LeO.none _)
  | (with_reducible refine LeO.ite ?_ ?_)
  | (with_reducible refine LeO.bind ?_ (fun _=>?_))
  | exact ih0 _
  | exact ih1 _ _
  | exact LeO.none _
  | refine LeO.ite ?_ ?_
  | refine LeO.bind ?_ (fun _=>?_)
theorem tollbarref01_Decimal.mono : ∀ a0 k,LeO (tollbarref01_Decimal.f k a0) (tollbarref01_Decimal.f (k + 1) a0):=by
 intro a0 k
 obtain ⟨ih0,ih1⟩:=tollbarref01_Decimal.mono_l k
 exact ih0 a0
set_option maxHeartbeats 8000000 in
set_option maxRecDepth 100000 in
theorem tollbarref01_Decimal.calls (k:Nat) : ∀ (a0:Int) (r:ByteArray) (w:World) (h:tollbarref01_Decimal.f k a0=some r),
 Calls Tryd.prog 5 #[.int .i64 a0] w fun e w' => e = .returned (.string r)∧Below w.heap.size w w' := by
 induction k using Nat.strongRecOn with
 | _ k ih =>
 intro a0 r w h
 cases k with
 | zero=>exact absurd h (by simp [tollbarref01_Decimal.f])
 | succ k =>
 simp only [tollbarref01_Decimal.f] at h
 have HB:=Aside0.mk (Below.refl w.heap.size w)
 have H:(if a0 < 0 then ((tollbarref01_Decimal.f k (wrap64 (-a0))).bind fun t260=>(if 1 + t260.size ≤ 9223372036854775807 then (some ((⟨#[45]⟩:ByteArray) ++ t260)) else (none))) else (tollbarref01_Decimal.l0 k a0 (⟨#[]⟩:ByteArray)))=some r:=h
 clear h
 by_cases c2:a0 < 0
 ·rw [if_pos c2] at H
  have c2b0:=decide_eq_true c2
  clear c2
  replace H:=Option.bind_eq_some_iff.mp H
  obtain ⟨t260,A30,H⟩:=H
  try dsimp only at H
  have A3:=Aside0.mk A30
  clear A30
  by_cases c4:1 + t260.size ≤ 9223372036854775807;rotate_left
  ·rw [if_neg c4] at H
   exact absurd H zb30
  rw [if_pos c4] at H
  have c4b0:=eq_true c4
  have c4b1:=decide_eq_true c4
  try have c4b2:(9223372036854775807 < 1 + t260.size)=False:=eq_false (Nat.not_lt.2 c4)
  obtain rfl:=Option.some.inj H
  go_enter Tryd.func5,Tryd.ntmps5
  go_wp2_with (first|((with_reducible refine gate_callee (f:=5) rfl ?_);refine goesL_ (some 8) rfl rfl Tryd.func5 zb8 rfl #[.int .i64 (wrap64 (-a0))] rfl zb1 ?_;(with_reducible refine (ih k (by omega) (wrap64 (-a0)) t260 _ A3.out).mono ?_);rintro e w5 ⟨rfl,hb⟩;(try clear A3);refine ⟨_,rfl,?_⟩;replace HB:=Aside0.mk (below_step zb0 hb);(try clear hb)))
  go_ret
  exact ⟨zb3,zb0⟩
 rw [if_neg c2] at H
 have c2b0:=decide_eq_false c2
 clear c2
 have H' := Aside0.mk H
 clear H
 go_enter Tryd.func5,Tryd.ntmps5
 go_wp2
 go_loopg [0,3] k (fun kq v0 v3 w' => ∃ (x0_1:Int) (x3_1:ByteArray),v0 = .int .i64 x0_1∧v3 = .string x3_1∧Aside0 (tollbarref01_Decimal.l0 kq x0_1 x3_1=some r)∧Aside0 (kq ≤ k)∧Aside0 (Below w.heap.size w w'))
 case atStart=>exact ⟨(a0),((⟨#[]⟩:ByteArray)),zb6,zb6,H',⟨Nat.le_refl _⟩,⟨zb0⟩⟩
 case round =>
  clear H'
  try clear c2
  try clear c2b0
  try clear p2
  try clear c4
  try clear c4b0
  try clear c4b1
  try clear c4b2
  try clear c5
  obtain ⟨x0_1,x3_1,rfl,rfl,HA,HK1,HB⟩:=hrel
  cases gk with
  | zero=>exact absurd HA.out (by simp [tollbarref01_Decimal.l0])
  | succ k1 =>
   have H:=HA.out
   clear HA
   simp only [tollbarref01_Decimal.l0] at H
   by_cases c6:x3_1.toList=([]:List UInt8)
   ·rw [if_pos c6] at H
    have c6b0:=beq_iff_eq.mpr c6
    have c6b1:=bne_eq_false_iff_eq.mpr c6
    clear c6
    obtain ⟨y261,hy261⟩ : ∃ y_:List Int,y_=(([(wrap64 (48 + (Int.tmod x0_1 10))) % 256]:List Int)):=⟨_,rfl⟩
    replace H:(if (strOfNums y261).size + x3_1.size ≤ 9223372036854775807 then (tollbarref01_Decimal.l0 k1 (wrap64 (Int.tdiv x0_1 10)) ((strOfNums y261) ++ x3_1)) else (none))=some r:=by first|(rw [hy261];with_reducible exact H)|(have H2_:=(Option.bind_some _ _).symm.trans H;rw [hy261];with_reducible exact H2_)|(have H2_:=(Option.bind_some _ _).symm.trans H;with_reducible exact H2_)|with_reducible exact H|(rw [hy261];exact H)|exact H
    have Ny261:=Aside0.mk hy261
    clear hy261
    by_cases c7:(strOfNums y261).size + x3_1.size ≤ 9223372036854775807;rotate_left
    ·rw [if_neg c7] at H
     exact absurd H zb30
    rw [if_pos c7] at H
    have c7b0:=eq_true c7
    have c7b1:=decide_eq_true c7
    try have c7b2:(9223372036854775807 < (strOfNums y261).size + x3_1.size)=False:=eq_false (Nat.not_lt.2 c7)
    have H' := Aside0.mk H
    clear H
    go_wp2_with (first|((with_reducible refine gate_dst (N:=20) rfl ?_);refine Kd.R_lit (Kd.int .u8) _ 5 ?hg (N:=20) ?hd (xs:=([(wrap64 (48 + (Int.tmod x0_1 10))) % 256]:List Int)) (inner:=[.int .u8 ((wrap64 (48 + (Int.tmod x0_1 10))) % 256)]) (ok:=fun _=>True) (okp:=fun _=>True) ?hr ?hp (fun _ hk=>hk) trivial (Below.refl _ _) (Nat.le_refl _) zb30 ?_;(case hd=>rfl);(case hg=>rfl);(case hr=>first|(go_simp;done)|(go_simp;rfl));(case hp=>exact (Reps.one (show Kd.M (Kd.int .u8) _ _ _ ((wrap64 (48 + (Int.tmod x0_1 10))) % 256) [.int .u8 ((wrap64 (48 + (Int.tmod x0_1 10))) % 256)] from rfl) (Reps.none _ _)));intro v262 w8 ho9 hb hg_ hnew_;clear hg_ hnew_;(first|rw [← Ny261.out] at ho9|(simp only [Int.reduceToNat] at ho9;rw [← Ny261.out] at ho9));have HO263:=Aside0.mk (Kd.R_lower ho9 (below_size zb0));replace HB:=Aside0.mk (below_step zb0 hb);clear hb ho9;have hcv10:=own_string (P:=Tryd.prog) Tryd.underlying22 Tryd.underlying5 Tryd.underlying9 (Kd.own_of_R HO263.out)))
    go_roundg k1
    case measure=>have:=HK1.out;omega
    case rel=>exact ⟨(wrap64 (Int.tdiv x0_1 10)),((strOfNums y261) ++ x3_1),zb6,zb6,H',⟨zb50⟩,⟨zb0⟩⟩
   rw [if_neg c6] at H
   have c6b0:=beq_eq_false_iff_ne.mpr c6
   have c6b1:=bne_iff_ne.mpr c6
   by_cases c11:x0_1 > 0;rotate_left
   ·rw [if_neg c11] at H
    have c11b0:decide (0 < x0_1)=false:=decide_eq_false c11
    clear c11
    obtain rfl:=Option.some.inj H
    go_wp2
    go_ret
    exact ⟨zb3,zb0⟩
   rw [if_pos c11] at H
   have c11b0:decide (0 < x0_1)=true:=decide_eq_true c11
   clear c11
   obtain ⟨y264,hy264⟩ : ∃ y_:List Int,y_=(([(wrap64 (48 + (Int.tmod x0_1 10))) % 256]:List Int)):=⟨_,rfl⟩
   replace H:(if (strOfNums y264).size + x3_1.size ≤ 9223372036854775807 then (tollbarref01_Decimal.l0 k1 (wrap64 (Int.tdiv x0_1 10)) ((strOfNums y264) ++ x3_1)) else (none))=some r:=by first|(rw [hy264];with_reducible exact H)|(have H2_:=(Option.bind_some _ _).symm.trans H;rw [hy264];with_reducible exact H2_)|(have H2_:=(Option.bind_some _ _).symm.trans H;with_reducible exact H2_)|with_reducible exact H|(rw [hy264];exact H)|exact H
   have Ny264:=Aside0.mk hy264
   clear hy264
   by_cases c12:(strOfNums y264).size + x3_1.size ≤ 9223372036854775807
   ·rw [if_pos c12] at H
    have c12b0:=eq_true c12
    have c12b1:=decide_eq_true c12
    try have c12b2:(9223372036854775807 < (strOfNums y264).size + x3_1.size)=False:=eq_false (Nat.not_lt.2 c12)
    have H' := Aside0.mk H
    clear H
    go_wp2_with (first|((with_reducible refine gate_dst (N:=20) rfl ?_);refine Kd.R_lit (Kd.int .u8) _ 5 ?hg (N:=20) ?hd (xs:=([(wrap64 (48 + (Int.tmod x0_1 10))) % 256]:List Int)) (inner:=[.int .u8 ((wrap64 (48 + (Int.tmod x0_1 10))) % 256)]) (ok:=fun _=>True) (okp:=fun _=>True) ?hr ?hp (fun _ hk=>hk) trivial (Below.refl _ _) (Nat.le_refl _) zb30 ?_;(case hd=>rfl);(case hg=>rfl);(case hr=>first|(go_simp;done)|(go_simp;rfl));(case hp=>exact (Reps.one (show Kd.M (Kd.int .u8) _ _ _ ((wrap64 (48 + (Int.tmod x0_1 10))) % 256) [.int .u8 ((wrap64 (48 + (Int.tmod x0_1 10))) % 256)] from rfl) (Reps.none _ _)));intro v265 w13 ho14 hb hg_ hnew_;clear hg_ hnew_;(first|rw [← Ny264.out] at ho14|(simp only [Int.reduceToNat] at ho14;rw [← Ny264.out] at ho14));have HO266:=Aside0.mk (Kd.R_lower ho14 (below_size zb0));replace HB:=Aside0.mk (below_step zb0 hb);clear hb ho14;have hcv15:=own_string (P:=Tryd.prog) Tryd.underlying22 Tryd.underlying5 Tryd.underlying9 (Kd.own_of_R HO266.out)))
    go_roundg k1
    case measure=>have:=HK1.out;omega
    case rel=>exact ⟨(wrap64 (Int.tdiv x0_1 10)),((strOfNums y264) ++ x3_1),zb6,zb6,H',⟨zb50⟩,⟨zb0⟩⟩
   ·rw [if_neg c12] at H
    exact absurd H zb30
end Go.Proofs.YtagffbblalldiaaDoor.P
