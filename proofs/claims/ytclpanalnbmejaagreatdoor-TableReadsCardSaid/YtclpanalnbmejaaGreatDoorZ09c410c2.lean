/- Each function below answers as its Lean twin says; plain lemmas; a row where its theorem stands. No further condition. (Laid by this repo's pack.py out of its texts and of the print's words.) -/
import Derived.Test.YtclpanalnbmejaaGreatDoorZ8974a307
import Derived.Shelf.Abstract
import Derived.Lib.LastIndexByte
import Derived.Shelf.Strings.SlTrimAscii
import Derived.Laws.RangeString
import Derived.Laws.RangeAny
import Derived.Lib.SlTrimSet
import Derived.WalkSpells
import Derived.Deep.RegionHeld3
namespace Go.Proofs.YtclpanalnbmejaaGreatDoor.P
open Go.RowKit Go.Proofs.YtclpanalnbmejaaGreatDoorW.PrintWords Go.Proofs.YtclpanalnbmejaaGreatDoorW.PrintLast Go.Proofs.YtclpanalnbmejaaGreatDoorW.PrintMore
attribute [local go_sem] max2_int min2_int max_two min_two max_three min_three max_four min_four
set_option linter.unusedVariables false
set_option linter.unusedSimpArgs false
mutual
def table_Name.j0:Nat → ByteArray → Bool → Option (Bool)
 | 0,_,_=>none
 | k + 1,x0,x21=>if x21=true then (some false) else (table_Name.l0 k x0 (x0.size:Int) 0)
def table_Name.l0:Nat → ByteArray → Int → Int → Option (Bool)
 | 0,_,_,_=>none
 | k + 1,x0,x23,x24=>if x24 < x23 then (if 0 ≤ x24 then (if x24 < (x0.size:Int) then (if (bt x0 x24) < 97 then (if (bt x0 x24) < 48 then (if (bt x0 x24)=45 then (table_Name.l0 k x0 x23 (wrap64 (x24 + 1))) else (some false)) else (if (bt x0 x24) > 57 then (if (bt x0 x24)=45 then (table_Name.l0 k x0 x23 (wrap64 (x24 + 1))) else (some false)) else (table_Name.l0 k x0 x23 (wrap64 (x24 + 1))))) else (if (bt x0 x24) > 122 then (if (bt x0 x24) < 48 then (if (bt x0 x24)=45 then (table_Name.l0 k x0 x23 (wrap64 (x24 + 1))) else (some false)) else (if (bt x0 x24) > 57 then (if (bt x0 x24)=45 then (table_Name.l0 k x0 x23 (wrap64 (x24 + 1))) else (some false)) else (table_Name.l0 k x0 x23 (wrap64 (x24 + 1))))) else (table_Name.l0 k x0 x23 (wrap64 (x24 + 1))))) else (none)) else (none)) else (some true)
end
def table_Name.f (k:Nat) (a0:ByteArray):Option (Bool):=if a0.toList=([]:List UInt8) then (table_Name.j0 k a0 true) else (if (a0.size:Int) > 30 then (table_Name.j0 k a0 true) else (if 0 < (a0.size:Int) then (if (bt a0 0) < 97 then (table_Name.j0 k a0 true) else (table_Name.j0 k a0 (decide ((bt a0 0) > 122)))) else (none)))
theorem table_Name.mono_l : ∀ k,(∀ y0 y1,LeO (table_Name.j0 k y0 y1) (table_Name.j0 (k + 1) y0 y1))∧(∀ y0 y1 y2,LeO (table_Name.l0 k y0 y1 y2) (table_Name.l0 (k + 1) y0 y1 y2))
 | 0=>⟨fun _ _ r h=>by simp [table_Name.j0] at h,fun _ _ _ r h=>by simp [table_Name.l0] at h⟩
 | k + 1=>by
  obtain ⟨ih0,ih1⟩:=table_Name.mono_l k
  refine ⟨?_,?_⟩
  ·intro y0 y1
   unfold table_Name.j0
   repeat' first
   | (with_reducible exact ih0 _ _)
   | (with_reducible exact ih1 _ _ _)
   | (with_reducible exact LeO.refl _)
   | (with_reducible exact LeO.none _)
   | (with_reducible refine LeO.ite ?_ ?_)
   | (with_reducible refine LeO.bind ?_ (fun _=>?_))
   | exact ih0 _ _
   | exact ih1 _ _ _
   | exact LeO.none _
   | refine LeO.ite ?_ ?_
   | refine LeO.bind ?_ (fun _=>?_)
  intro y0 y1 y2
  unfold table_Name.l0
  repeat' first
  | (with_reducible exact ih0 _ _)
  | (with_reducible exact ih1 _ _ _)
  | (with_reducible exact LeO.refl _)
  | (with_reducible exact LeO.none _)
  | (with_reducible refine LeO.ite ?_ ?_)
  | (with_reducible refine LeO.bind ?_ (fun _=>?_))
  | exact ih0 _ _
  | exact ih1 _ _ _
  | exact LeO.none _
  | refine LeO.ite ?_ ?_
  | refine LeO.bind ?_ (fun _=>?_)
theorem table_Name.mono : ∀ a0 k,LeO (table_Name.f k a0) (table_Name.f (k + 1) a0):=by
 intro a0 k
 obtain ⟨ih0,ih1⟩:=table_Name.mono_l k
 unfold table_Name.f
 repeat' first
  | (with_reducible exact ih0 _ _)
  | (with_reducible exact ih1 _ _ _)
  | (with_reducible exact LeO.refl _)
  | (with_reducible exact LeO.none _)
  | (with_reducible refine LeO.ite ?_ ?_)
  | (with_reducible refine LeO.bind ?_ (fun _=>?_))
  | exact ih0 _ _
  | exact ih1 _ _ _
  | exact LeO.none _
  | refine LeO.ite ?_ ?_
  | refine LeO.bind ?_ (fun _=>?_)
set_option maxHeartbeats 8000000 in
set_option maxRecDepth 100000 in
theorem table_Name.calls (k:Nat) (a0:ByteArray) (r:Bool) (w:World) (h:table_Name.f k a0=some r) :
 Calls Tryz.prog 14 #[.string a0] w fun e w' => e = .returned (.bool r)∧Drawn0 w w' := by
 unfold table_Name.f at h
 have H:=h
 clear h
 have HC2:=Aside0.mk H
 clear H
 go_enter Tryz.func14,Tryz.ntmps14
 go_upto_region 1 with (fail)
 go_cut [21] (fun v21 wc => ∃ (kq:Nat) (x21_1:Bool),v21 = .bool x21_1∧Aside0 (table_Name.j0 kq a0 x21_1=some r)∧Aside0 (kq ≤ k)∧Drawn0 w wc)
 case first =>
  have H:=HC2.out
  clear HC2
  by_cases c3:a0.toList=([]:List UInt8)
  ·rw [if_pos c3] at H
   have c3b0:=beq_iff_eq.mpr c3
   have c3b1:=bne_eq_false_iff_eq.mpr c3
   clear c3
   (first|rw [c3b0]|(simp only [i64_w,i32_w];rw [c3b0])|rw [c3b1]|skip)
   have H' := Aside0.mk H
   clear H
   go_wp2
   go_meet
   case rel=>exact ⟨_,(true),zb5,H',⟨zb60⟩,zb13⟩
  rw [if_neg c3] at H
  have c3b0:=beq_eq_false_iff_ne.mpr c3
  have c3b1:=bne_iff_ne.mpr c3
  (first|rw [c3b0]|(simp only [i64_w,i32_w];rw [c3b0])|rw [c3b1]|skip)
  by_cases c4:(a0.size:Int) > 30
  ·rw [if_pos c4] at H
   have c4b0:decide (30 < (a0.size:Int))=true:=decide_eq_true c4
   have c4b1:decide (30 < a0.size)=true:=decide_eq_true zb16
   clear c4
   have H' := Aside0.mk H
   clear H
   go_wp2
   go_meet
   case rel=>exact ⟨_,(true),zb5,H',⟨zb60⟩,zb13⟩
  rw [if_neg c4] at H
  have c4b0:decide (30 < (a0.size:Int))=false:=decide_eq_false c4
  have c4b1:decide (30 < a0.size)=false:=decide_eq_false zb16
  clear c4
  by_cases c5:0 < (a0.size:Int);rotate_left
  ·rw [if_neg c5] at H
   exact absurd H zb24
  rw [if_pos c5] at H
  have c5b0:=decide_eq_true c5
  have c5b1:decide (0 < a0.size)=true:=decide_eq_true zb16
  clear c5
  by_cases c7:(bt a0 0) < 97
  ·rw [if_pos c7] at H
   have c7b0:=decide_eq_true c7
   clear c7
   have H' := Aside0.mk H
   clear H
   have p6:0 ≤ (0:Int):=zb16
   have q6:0 < a0.size:=zb67
   have hx6 : ∀ h:0 < a0.size,((a0[0]'h).toNat:Int)=bt a0 0:=bt_at a0 0
   clear p6
   have qi6:(0 < (a0.size:Int))=True:=eq_true (of_decide_eq_true zb1)
   replace q6:=eq_true q6
   go_wp2
   go_meet
   case rel=>exact ⟨_,(true),zb5,H',⟨zb60⟩,zb13⟩
  rw [if_neg c7] at H
  have c7b0:=decide_eq_false c7
  clear c7
  have H' := Aside0.mk H
  clear H
  have p6:0 ≤ (0:Int):=zb16
  have q6:0 < a0.size:=zb67
  have hx6 : ∀ h:0 < a0.size,((a0[0]'h).toNat:Int)=bt a0 0:=bt_at a0 0
  clear p6
  have qi6:(0 < (a0.size:Int))=True:=eq_true (of_decide_eq_true zb1)
  replace q6:=eq_true q6
  have p8:0 ≤ (0:Int):=zb16
  have q8:0 < a0.size:=zb67
  have hx8 : ∀ h:0 < a0.size,((a0[0]'h).toNat:Int)=bt a0 0:=bt_at a0 0
  clear p8
  have qi8:(0 < (a0.size:Int))=True:=eq_true (of_decide_eq_true zb1)
  replace q8:=eq_true q8
  go_wp2
  go_meet
  case rel=>exact ⟨_,(decide ((bt a0 0) > 122)),zb5,H',⟨zb60⟩,zb13⟩
 case rest =>
  clear HC2
  try clear c1
  try clear p2
  try clear c3
  try clear c3b0
  try clear c3b1
  try clear c4
  try clear c4b0
  try clear c4b1
  try clear c5
  try clear c5b0
  try clear c5b1
  try clear p6
  try clear q6
  try clear hx6
  try clear qi6
  try clear c7
  try clear c7b0
  try clear p8
  try clear q8
  try clear hx8
  try clear qi8
  try clear p6
  try clear p8
  try clear q6
  try clear q8
  obtain ⟨kq,x21_1,rfl,HA,HJ1,⟨mc1,rfl⟩⟩:=hcut
  cases kq with
  | zero=>exact absurd HA.out (by simp [table_Name.j0])
  | succ kj1 =>
   have H:=HA.out
   clear HA
   simp only [table_Name.j0] at H
   by_cases c9:x21_1=true
   ·subst c9
    rw [if_pos rfl] at H
    obtain rfl:=Option.some.inj H
    go_wp2
    go_ret
    exact ⟨zb5,zb13⟩
   replace c9:=Bool.eq_false_iff.mpr c9
   subst c9
   rw [if_neg (show ¬ (false=true) by decide)] at H
   have H' := Aside0.mk H
   clear H
   go_wp2
   go_loopg [24] kj1 (fun kq v24 w' => ∃ (x24_2:Int),v24 = .int .i64 x24_2∧Aside0 (table_Name.l0 kq a0 (a0.size:Int) x24_2=some r)∧Aside0 (kq ≤ kj1)∧Drawn0 w w')
   case atStart=>exact ⟨(0),zb5,H',⟨Nat.le_refl _⟩,zb13⟩
   case round =>
    clear H'
    try clear c1
    try clear p2
    try clear c3
    try clear c3b0
    try clear c3b1
    try clear c4
    try clear c4b0
    try clear c4b1
    try clear c5
    try clear c5b0
    try clear c5b1
    try clear p6
    try clear q6
    try clear hx6
    try clear qi6
    try clear c7
    try clear c7b0
    try clear p8
    try clear q8
    try clear hx8
    try clear qi8
    try clear c9
    try clear p2
    try clear p6
    try clear p8
    try clear q6
    try clear q8
    obtain ⟨x24_2,rfl,HA,HK2,⟨m2,rfl⟩⟩:=hrel
    cases gk with
    | zero=>exact absurd HA.out (by simp [table_Name.l0])
    | succ k2 =>
     have H:=HA.out
     clear HA
     simp only [table_Name.l0] at H
     by_cases c10:x24_2 < (a0.size:Int);rotate_left
     ·rw [if_neg c10] at H
      have c10b0:=decide_eq_false c10
      clear c10
      obtain rfl:=Option.some.inj H
      go_wp2
      go_ret
      exact ⟨zb5,zb13⟩
     rw [if_pos c10] at H
     have c10b0:=decide_eq_true c10
     clear c10
     by_cases c11:0 ≤ x24_2
     ·rw [if_pos c11] at H
      have c11b0:=decide_eq_true c11
      clear c11
      by_cases c12:x24_2 < (a0.size:Int)
      ·rw [if_pos c12] at H
       have c12b0:=decide_eq_true c12
       clear c12
       by_cases c14:(bt a0 x24_2) < 97
       ·rw [if_pos c14] at H
        have c14b0:=decide_eq_true c14
        clear c14
        by_cases c15:(bt a0 x24_2) < 48
        ·rw [if_pos c15] at H
         have c15b0:=decide_eq_true c15
         clear c15
         by_cases c16:(bt a0 x24_2)=45;rotate_left
         ·rw [if_neg c16] at H
          have c16b0:=beq_eq_false_iff_ne.mpr c16
          have c16b1:=bne_iff_ne.mpr c16
          obtain rfl:=Option.some.inj H
          have p13:0 ≤ (x24_2:Int):=of_decide_eq_true zb1
          have q13:x24_2 < (a0.size:Int):=of_decide_eq_true zb1
          have hx13:=bt_at a0 x24_2
          replace p13:=eq_true p13
          replace q13:=eq_true q13
          go_wp2
          go_ret
          exact ⟨zb5,zb13⟩
         rw [if_pos c16] at H
         have c16b0:=beq_iff_eq.mpr c16
         have c16b1:=bne_eq_false_iff_eq.mpr c16
         clear c16
         have H' := Aside0.mk H
         clear H
         have p13:0 ≤ (x24_2:Int):=of_decide_eq_true zb1
         have q13:x24_2 < (a0.size:Int):=of_decide_eq_true zb1
         have hx13:=bt_at a0 x24_2
         replace p13:=eq_true p13
         replace q13:=eq_true q13
         go_wp2
         go_roundg k2
         case measure=>have:=HJ1.out;have:=HK2.out;omega
         case rel=>exact ⟨(wrap64 (x24_2 + 1)),zb5,H',⟨zb68⟩,zb13⟩
        rw [if_neg c15] at H
        have c15b0:=decide_eq_false c15
        clear c15
        by_cases c17:(bt a0 x24_2) > 57;rotate_left
        ·rw [if_neg c17] at H
         have c17b0:decide (57 < (bt a0 x24_2))=false:=decide_eq_false c17
         clear c17
         have H' := Aside0.mk H
         clear H
         have p13:0 ≤ (x24_2:Int):=of_decide_eq_true zb1
         have q13:x24_2 < (a0.size:Int):=of_decide_eq_true zb1
         have hx13:=bt_at a0 x24_2
         replace p13:=eq_true p13
         replace q13:=eq_true q13
         go_wp2
         go_roundg k2
         case measure=>have:=HJ1.out;have:=HK2.out;omega
         case rel=>exact ⟨(wrap64 (x24_2 + 1)),zb5,H',⟨zb68⟩,zb13⟩
        rw [if_pos c17] at H
        have c17b0:decide (57 < (bt a0 x24_2))=true:=decide_eq_true c17
        clear c17
        by_cases c18:(bt a0 x24_2)=45
        ·rw [if_pos c18] at H
         have c18b0:=beq_iff_eq.mpr c18
         have c18b1:=bne_eq_false_iff_eq.mpr c18
         clear c18
         have H' := Aside0.mk H
         clear H
         have p13:0 ≤ (x24_2:Int):=of_decide_eq_true zb1
         have q13:x24_2 < (a0.size:Int):=of_decide_eq_true zb1
         have hx13:=bt_at a0 x24_2
         replace p13:=eq_true p13
         replace q13:=eq_true q13
         go_wp2
         go_roundg k2
         case measure=>have:=HJ1.out;have:=HK2.out;omega
         case rel=>exact ⟨(wrap64 (x24_2 + 1)),zb5,H',⟨zb68⟩,zb13⟩
        ·rw [if_neg c18] at H
         have c18b0:=beq_eq_false_iff_ne.mpr c18
         have c18b1:=bne_iff_ne.mpr c18
         obtain rfl:=Option.some.inj H
         have p13:0 ≤ (x24_2:Int):=of_decide_eq_true zb1
         have q13:x24_2 < (a0.size:Int):=of_decide_eq_true zb1
         have hx13:=bt_at a0 x24_2
         replace p13:=eq_true p13
         replace q13:=eq_true q13
         go_wp2
         go_ret
         exact ⟨zb5,zb13⟩
       rw [if_neg c14] at H
       have c14b0:=decide_eq_false c14
       clear c14
       by_cases c19:(bt a0 x24_2) > 122;rotate_left
       ·rw [if_neg c19] at H
        have c19b0:decide (122 < (bt a0 x24_2))=false:=decide_eq_false c19
        clear c19
        have H' := Aside0.mk H
        clear H
        have p13:0 ≤ (x24_2:Int):=of_decide_eq_true zb1
        have q13:x24_2 < (a0.size:Int):=of_decide_eq_true zb1
        have hx13:=bt_at a0 x24_2
        replace p13:=eq_true p13
        replace q13:=eq_true q13
        go_wp2
        go_roundg k2
        case measure=>have:=HJ1.out;have:=HK2.out;omega
        case rel=>exact ⟨(wrap64 (x24_2 + 1)),zb5,H',⟨zb68⟩,zb13⟩
       rw [if_pos c19] at H
       have c19b0:decide (122 < (bt a0 x24_2))=true:=decide_eq_true c19
       clear c19
       by_cases c20:(bt a0 x24_2) < 48
       ·rw [if_pos c20] at H
        have c20b0:=decide_eq_true c20
        clear c20
        by_cases c21:(bt a0 x24_2)=45;rotate_left
        ·rw [if_neg c21] at H
         have c21b0:=beq_eq_false_iff_ne.mpr c21
         have c21b1:=bne_iff_ne.mpr c21
         obtain rfl:=Option.some.inj H
         have p13:0 ≤ (x24_2:Int):=of_decide_eq_true zb1
         have q13:x24_2 < (a0.size:Int):=of_decide_eq_true zb1
         have hx13:=bt_at a0 x24_2
         replace p13:=eq_true p13
         replace q13:=eq_true q13
         go_wp2
         go_ret
         exact ⟨zb5,zb13⟩
        rw [if_pos c21] at H
        have c21b0:=beq_iff_eq.mpr c21
        have c21b1:=bne_eq_false_iff_eq.mpr c21
        clear c21
        have H' := Aside0.mk H
        clear H
        have p13:0 ≤ (x24_2:Int):=of_decide_eq_true zb1
        have q13:x24_2 < (a0.size:Int):=of_decide_eq_true zb1
        have hx13:=bt_at a0 x24_2
        replace p13:=eq_true p13
        replace q13:=eq_true q13
        go_wp2
        go_roundg k2
        case measure=>have:=HJ1.out;have:=HK2.out;omega
        case rel=>exact ⟨(wrap64 (x24_2 + 1)),zb5,H',⟨zb68⟩,zb13⟩
       rw [if_neg c20] at H
       have c20b0:=decide_eq_false c20
       clear c20
       by_cases c22:(bt a0 x24_2) > 57
       ·rw [if_pos c22] at H
        have c22b0:decide (57 < (bt a0 x24_2))=true:=decide_eq_true c22
        clear c22
        by_cases c23:(bt a0 x24_2)=45;rotate_left
        ·rw [if_neg c23] at H
         have c23b0:=beq_eq_false_iff_ne.mpr c23
         have c23b1:=bne_iff_ne.mpr c23
         obtain rfl:=Option.some.inj H
         have p13:0 ≤ (x24_2:Int):=of_decide_eq_true zb1
         have q13:x24_2 < (a0.size:Int):=of_decide_eq_true zb1
         have hx13:=bt_at a0 x24_2
         replace p13:=eq_true p13
         replace q13:=eq_true q13
         go_wp2
         go_ret
         exact ⟨zb5,zb13⟩
        rw [if_pos c23] at H
        have c23b0:=beq_iff_eq.mpr c23
        have c23b1:=bne_eq_false_iff_eq.mpr c23
        clear c23
        have H' := Aside0.mk H
        clear H
        have p13:0 ≤ (x24_2:Int):=of_decide_eq_true zb1
        have q13:x24_2 < (a0.size:Int):=of_decide_eq_true zb1
        have hx13:=bt_at a0 x24_2
        replace p13:=eq_true p13
        replace q13:=eq_true q13
        go_wp2
        go_roundg k2
        case measure=>have:=HJ1.out;have:=HK2.out;omega
        case rel=>exact ⟨(wrap64 (x24_2 + 1)),zb5,H',⟨zb68⟩,zb13⟩
       ·rw [if_neg c22] at H
        have c22b0:decide (57 < (bt a0 x24_2))=false:=decide_eq_false c22
        clear c22
        have H' := Aside0.mk H
        clear H
        have p13:0 ≤ (x24_2:Int):=of_decide_eq_true zb1
        have q13:x24_2 < (a0.size:Int):=of_decide_eq_true zb1
        have hx13:=bt_at a0 x24_2
        replace p13:=eq_true p13
        replace q13:=eq_true q13
        go_wp2
        go_roundg k2
        case measure=>have:=HJ1.out;have:=HK2.out;omega
        case rel=>exact ⟨(wrap64 (x24_2 + 1)),zb5,H',⟨zb68⟩,zb13⟩
      ·rw [if_neg c12] at H
       exact absurd H zb24
     ·rw [if_neg c11] at H
      exact absurd H zb24
/-- At a text of one byte alone. -/
def stringslite_Index.f (a0 a1:ByteArray):Option Int:=match a1.data.toList with
 | [c]=>some (Lib.indexByte a0.data.toList c)
 | _=>none
theorem stringslite_Index.calls (a0 a1:ByteArray) (r:Int) (w:World) (h:stringslite_Index.f a0 a1=some r) :
 Calls Tryz.prog 100 #[.string a0,.string a1] w fun e w' => e = .returned (.int .i64 r)∧Drawn0 w w' := by
 obtain ⟨⟨l⟩⟩:=a1
 unfold stringslite_Index.f at h
 split at h
 ·rename_i c hc
  obtain rfl:l=[c]:=hc
  obtain rfl:=Option.some.inj h
  refine (Tryz.stringslite_Index_one a0 c w).mono ?_
  rintro e w' ⟨rfl,rfl⟩
  exact ⟨rfl,Drawn0.refl _⟩
 cases h
def stringslite_Cut.f (a0:ByteArray) (a1:ByteArray):Option (ByteArray × ByteArray × Bool):=(stringslite_Index.f a0 a1).bind fun t153=>(if t153 ≥ 0 then (if 0 ≤ t153 then (if t153 ≤ (a0.size:Int) then (if 0 ≤ (wrap64 (t153 + (a1.size:Int))) then (if (wrap64 (t153 + (a1.size:Int))) ≤ (a0.size:Int) then (some (a0.extract 0 (t153:Int).toNat,a0.extract ((wrap64 (t153 + (a1.size:Int))):Int).toNat a0.size,true)) else (none)) else (none)) else (none)) else (none)) else (some (a0,(⟨#[]⟩:ByteArray),false)))
set_option maxHeartbeats 8000000 in
set_option maxRecDepth 100000 in
theorem stringslite_Cut.calls (a0:ByteArray) (a1:ByteArray) (r1:ByteArray) (r2:ByteArray) (r3:Bool) (w:World) (h:stringslite_Cut.f a0 a1=some (r1,r2,r3)) :
 Calls Tryz.prog 72 #[.string a0,.string a1] w fun e w' => e = .returned (.tuple #[.string r1,.string r2,.bool r3])∧Drawn0 w w' := by
 unfold stringslite_Cut.f at h
 have H:=h
 clear h
 replace H:=Option.bind_eq_some_iff.mp H
 obtain ⟨t153,A30,H⟩:=H
 try dsimp only at H
 have A3:=Aside0.mk A30
 clear A30
 by_cases c4:t153 ≥ 0;rotate_left
 ·rw [if_neg c4] at H
  have c4b0:decide (0 ≤ t153)=false:=decide_eq_false c4
  clear c4
  simp only [Option.some.injEq,Prod.mk.injEq] at H
  obtain ⟨rfl,rfl,rfl⟩:=H
  go_enter Tryz.func72,Tryz.ntmps72
  go_wp2_with (first|(go_at_call 100;(with_reducible refine (stringslite_Index.calls a0 a1 t153 _ A3.out).mono ?_);rintro e w' ⟨rfl,⟨nd,rfl⟩⟩;(try clear A3);(try first|exact ⟨rfl,_,World.drewN_drewN _ _ _⟩|exact ⟨rfl,_,Eq.trans (World.drewN_drewN _ _ _) (congrArg (World.drewN _) (Nat.add_assoc _ _ _))⟩)))
  repeat (go_quiet (first|(go_at_call 100;(with_reducible refine (stringslite_Index.calls a0 a1 t153 _ A3.out).mono ?_);rintro e w' ⟨rfl,⟨nd,rfl⟩⟩;(try clear A3);(try first|exact ⟨rfl,_,World.drewN_drewN _ _ _⟩|exact ⟨rfl,_,Eq.trans (World.drewN_drewN _ _ _) (congrArg (World.drewN _) (Nat.add_assoc _ _ _))⟩)));try go_wp2_with (first|(go_at_call 100;(with_reducible refine (stringslite_Index.calls a0 a1 t153 _ A3.out).mono ?_);rintro e w' ⟨rfl,⟨nd,rfl⟩⟩;(try clear A3);(try first|exact ⟨rfl,_,World.drewN_drewN _ _ _⟩|exact ⟨rfl,_,Eq.trans (World.drewN_drewN _ _ _) (congrArg (World.drewN _) (Nat.add_assoc _ _ _))⟩))))
  go_ret3
  exact ⟨zb5,zb13⟩
 rw [if_pos c4] at H
 have c4b0:decide (0 ≤ t153)=true:=decide_eq_true c4
 clear c4
 by_cases c5:0 ≤ t153
 ·rw [if_pos c5] at H
  have c5b0:=eq_true c5
  have c5b1:=decide_eq_true c5
  clear c5
  by_cases c6:t153 ≤ (a0.size:Int)
  ·rw [if_pos c6] at H
   have c6b0:=eq_true c6
   have c6b1:=decide_eq_true c6
   clear c6
   obtain ⟨ji7,hji7⟩ : ∃ j_:Int,(wrap64 (t153 + (a1.size:Int)))=j_:=⟨_,rfl⟩
   replace H:(if 0 ≤ (ji7) then (if (ji7) ≤ (a0.size:Int) then (some (a0.extract 0 (t153:Int).toNat,a0.extract ((ji7):Int).toNat a0.size,true)) else (none)) else (none))=some (r1,r2,r3):=by first|(rw [hji7] at H;exact H)|(simp only [hji7] at H ⊢;exact H)
   (try rw [hji7] at A3)
   have hji7w:(IntKind.i64.wrap (t153 + (a1.size:Int)))=ji7:=(i64_w _).trans hji7
   by_cases c8:0 ≤ (ji7)
   ·rw [if_pos c8] at H
    have c8b0:=eq_true c8
    have c8b1:=decide_eq_true c8
    clear c8
    by_cases c9:(ji7) ≤ (a0.size:Int)
    ·rw [if_pos c9] at H
     have c9b0:=eq_true c9
     have c9b1:=decide_eq_true c9
     clear c9
     simp only [Option.some.injEq,Prod.mk.injEq] at H
     obtain ⟨rfl,rfl,rfl⟩:=H
     go_enter Tryz.func72,Tryz.ntmps72
     go_wp2_with (first|(go_at_call 100;(with_reducible refine (stringslite_Index.calls a0 a1 t153 _ A3.out).mono ?_);rintro e w' ⟨rfl,⟨nd,rfl⟩⟩;(try clear A3);(try first|exact ⟨rfl,_,World.drewN_drewN _ _ _⟩|exact ⟨rfl,_,Eq.trans (World.drewN_drewN _ _ _) (congrArg (World.drewN _) (Nat.add_assoc _ _ _))⟩)))
     repeat (go_quiet (first|(go_at_call 100;(with_reducible refine (stringslite_Index.calls a0 a1 t153 _ A3.out).mono ?_);rintro e w' ⟨rfl,⟨nd,rfl⟩⟩;(try clear A3);(try first|exact ⟨rfl,_,World.drewN_drewN _ _ _⟩|exact ⟨rfl,_,Eq.trans (World.drewN_drewN _ _ _) (congrArg (World.drewN _) (Nat.add_assoc _ _ _))⟩)));try go_wp2_with (first|(go_at_call 100;(with_reducible refine (stringslite_Index.calls a0 a1 t153 _ A3.out).mono ?_);rintro e w' ⟨rfl,⟨nd,rfl⟩⟩;(try clear A3);(try first|exact ⟨rfl,_,World.drewN_drewN _ _ _⟩|exact ⟨rfl,_,Eq.trans (World.drewN_drewN _ _ _) (congrArg (World.drewN _) (Nat.add_assoc _ _ _))⟩))))
     go_ret3
     exact ⟨by first|rfl|(simp;done)|(simp only [← hji7] <;> (first|rfl|simp))|(simp [*];done),zb13⟩
    ·rw [if_neg c9] at H
     exact absurd H zb24
   ·rw [if_neg c8] at H
    exact absurd H zb24
  ·rw [if_neg c6] at H
   exact absurd H zb24
 ·rw [if_neg c5] at H
  exact absurd H zb24
def strings_Cut.f (a0:ByteArray) (a1:ByteArray):Option (ByteArray × ByteArray × Bool):=(stringslite_Cut.f a0 a1).bind fun bt154=>(some (bt154.1,bt154.2.1,bt154.2.2))
set_option maxHeartbeats 8000000 in
set_option maxRecDepth 100000 in
theorem strings_Cut.calls (a0:ByteArray) (a1:ByteArray) (r1:ByteArray) (r2:ByteArray) (r3:Bool) (w:World) (h:strings_Cut.f a0 a1=some (r1,r2,r3)) :
 Calls Tryz.prog 34 #[.string a0,.string a1] w fun e w' => e = .returned (.tuple #[.string r1,.string r2,.bool r3])∧Drawn0 w w' := by
 unfold strings_Cut.f at h
 have H:=h
 clear h
 replace H:=Option.bind_eq_some_iff.mp H
 obtain ⟨⟨t154,t155,t156⟩,A30,H⟩:=H
 try dsimp only at H
 have A3:=Aside0.mk A30
 clear A30
 simp only [Option.some.injEq,Prod.mk.injEq] at H
 obtain ⟨rfl,rfl,rfl⟩:=H
 go_enter Tryz.func34,Tryz.ntmps34
 go_wp2_with (first|((with_reducible refine gate_callee (f:=72) rfl ?_);refine goesL_ (some 9) rfl rfl Tryz.func72 zb14 rfl #[.string a0,.string a1] rfl zb2 ?_;(with_reducible refine (stringslite_Cut.calls a0 a1 t154 t155 t156 _ A3.out).mono ?_);rintro e w' ⟨rfl,⟨nd,rfl⟩⟩;(try clear A3);refine ⟨_,rfl,?_⟩))
 go_ret3
 exact ⟨zb5,zb13⟩
/-- The place of the first that a test takes,from a place on: -1: none. -/
def idxO {α:Type} (q:α → Option Bool):List α → Int → Option Int
 | [],_=>some (-1)
 | x :: r,i=>(q x).bind fun b=>if b=true then some i else idxO q r (i + 1)
/-- Does a test take one of them? -/
def anyO {α:Type} (q:α → Option Bool):List α → Option Bool
 | []=>some false
 | x :: r=>(q x).bind fun b=>if b=true then some true else anyO q r
theorem idxO_any {α:Type} (q:α → Option Bool) : ∀ (xs:List α) (i:Int) (b:Bool),0 ≤ i → anyO q xs=some b → ∃ j,idxO q xs i=some j∧decide (0 ≤ j)=b
 | [],i,b,_,h=>⟨-1,rfl,by simp only [anyO,Option.some.injEq] at h;rw [← h];rfl⟩
 | x :: r,i,b,hi,h=>by
  simp only [anyO] at h
  obtain ⟨c,hc,h⟩:=Option.bind_eq_some_iff.1 h
  simp only [idxO,hc,Option.bind_some]
  cases c
  ·simp only [Bool.false_eq_true,if_false] at h ⊢
   exact idxO_any q r (i + 1) b (by omega) h
  simp only [if_true,Option.some.injEq] at h ⊢
  exact ⟨i,rfl,by rw [← h];exact decide_eq_true hi⟩
theorem sl_base {w w1:World} {b g:Nat} (hg:b ≤ g) (h:Below g w w1):Below b w w1:=⟨h.os,h.tape,h.output,h.size,fun i hi=>h.block i (Nat.lt_of_lt_of_le hi hg)⟩
/-- What is asked of a test that is handed over: its answer,in every later world. -/
def TestOf (g:Nat) (lb:Array Value) (enc:ByteArray → Value) (q:ByteArray → Option Bool) (w:World):Prop :=
 ∀ (W:World) (x:ByteArray) (b:Bool),Below w.heap.size w W → q x=some b → Calls Tryz.prog g (#[enc x] ++ lb) W fun e w' => e = .returned (.bool b)∧Below W.heap.size W w'
set_option maxHeartbeats 4000000 in
set_option maxRecDepth 100000 in
theorem slices_IndexFunc_string_string.callsOf (q:ByteArray → Option Bool) (g:Nat) (lb:Array Value) (eg : ∀ args w,(callFunc g args).run Tryz.prog w = .ok (.enter g args) w) (A0:Option Addr) (c0:Nat) (l0:List ByteArray) (r:Int) (w:World) (hr0:Kd.C Kd.string w A0 l0.length l0) (hc0:l0.length ≤ c0)
 (hq:TestOf g lb Value.string q w) (h:idxO q l0 0=some r) :
 Calls Tryz.prog 119 #[.slice A0 l0.length c0,.func (.func g) #[] lb] w fun e w' => e = .returned (.int .i64 r)∧Below w.heap.size w w' := by
 have HR:=Aside0.mk hr0
 have HQ:=Aside0.mk hq
 have H0:=Aside0.mk (show idxO q (l0.drop (0:Int).toNat) 0=some r from h)
 have HM:=Aside0.mk (show l0.length ≤ 9223372036854775807 from hr0.2.1)
 clear hr0 hq h
 go_enter Tryz.func119,Tryz.ntmps119
 go_wp2
 go_loopg [5,8] l0.length (fun kq _ v8 wr => ∃ (x8:Int),v8 = .int .i64 x8∧Aside0 (0 ≤ x8∧x8 ≤ l0.length∧(l0.length:Int) - x8 ≤ kq)∧Aside0 (Below w.heap.size w wr)∧Aside0 (idxO q (l0.drop x8.toNat) x8=some r))
 case atStart=>exact ⟨0,rfl,⟨zb16⟩,⟨Below.refl _ w⟩,H0⟩
 case round =>
  obtain ⟨x8,rfl,HX,BW,HH⟩:=hrel
  clear H0
  by_cases c4:x8 < (l0.length:Int);rotate_left
  ·have c4b0:=decide_eq_false c4
   have hx:=HH.out
   rw [List.drop_of_length_le zb86,idxO] at hx
   injection hx with hx
   clear c4
   go_wp2
   go_ret
   subst hx
   exact ⟨zb46,BW.out⟩
  have c4b0:=decide_eq_true c4
  have hx:=HH.out
  have hlt:x8.toNat < l0.length:=by have:=HX.out;omega
  rw [List.drop_eq_getElem_cons hlt,idxO] at hx
  obtain ⟨b,hb,hx⟩:=Option.bind_eq_some_iff.1 hx
  have hrd:rdOf ByteArray.empty l0 x8=l0[x8.toNat]:=by simp [rdOf,List.getD_eq_getElem?_getD,List.getElem?_eq_getElem hlt]
  have hcall:=HQ.out wr l0[x8.toNat] b BW.out hb
  rw [← hrd] at hcall
  obtain ⟨ad,he,hcell⟩:=Kd.at_string HR.out x8 HX.out.1 c4
  replace hcell:=(BW.out.cell (World.block_lt_of_cell? w _ hcell)).trans hcell
  obtain ⟨y,hy⟩ : ∃ y,rdOf ByteArray.empty l0 x8=y:=⟨_,rfl⟩
  rw [hy] at hcall hcell
  have HCALL:=Aside0.mk hcall
  have HN:=Aside0.mk hx
  have p8:(0 ≤ x8)=True:=eq_true HX.out.1
  have q8:(x8 < (l0.length:Int))=True:=eq_true c4
  clear hx hb hrd HH hy hcall c4
  subst he
  cases b with
  | true =>
   go_wp2_with (go_at_fn g;refine HCALL.out.mono ?_;rintro e w' ⟨rfl,hb'⟩)
   go_ret
   have hx:=HN.out
   simp only [if_true,Option.some.injEq] at hx
   subst hx
   exact ⟨zb46,BW.out.trans (sl_base (Below.size BW.out) hb')⟩
  | false =>
   go_wp2_with (go_at_fn g;refine HCALL.out.mono ?_;rintro e w' ⟨rfl,hb'⟩)
   go_roundg (gk - 1)
   case measure=>have:=HX.out;have:=of_eq_true q8;omega
   case rel =>
    have hx:=HN.out
    simp only [Bool.false_eq_true,if_false] at hx
    have hx8:=HX.out
    have hq8:=of_eq_true q8
    have hw:wrap64 (x8 + 1)=x8 + 1:=by have:=HM.out;unfold wrap64;omega
    refine ⟨wrap64 (x8 + 1),rfl,⟨by rw [hw];omega⟩,⟨BW.out.trans (sl_base (Below.size BW.out) hb')⟩,⟨?_⟩⟩
    rw [hw,show (x8 + 1).toNat=x8.toNat + 1 by omega]
    exact hx
set_option maxHeartbeats 4000000 in
set_option maxRecDepth 100000 in
theorem slices_ContainsFunc_string_string.callsOf (q:ByteArray → Option Bool) (g:Nat) (lb:Array Value) (eg : ∀ args w,(callFunc g args).run Tryz.prog w = .ok (.enter g args) w) (A0:Option Addr) (c0:Nat) (l0:List ByteArray) (r:Bool) (w:World) (hr0:Kd.C Kd.string w A0 l0.length l0) (hc0:l0.length ≤ c0)
 (hq:TestOf g lb Value.string q w) (h:anyO q l0=some r) :
 Calls Tryz.prog 97 #[.slice A0 l0.length c0,.func (.func g) #[] lb] w fun e w' => e = .returned (.bool r)∧Below w.heap.size w w' := by
 obtain ⟨j,hj,hb⟩:=idxO_any q l0 0 r zb16 h
 have HC:=Aside0.mk (slices_IndexFunc_string_string.callsOf q g lb eg A0 c0 l0 j w hr0 hc0 hq hj)
 have HBB:=Aside0.mk hb
 clear hb hj h hq hr0 hc0 eg
 go_enter Tryz.func97,Tryz.ntmps97
 go_wp2_with (go_at_call 119;refine HC.out.mono ?_;rintro e w' ⟨rfl,hb'⟩)
 go_ret
 have e:=HBB.out
 subst e
 exact ⟨zb46,hb'⟩
/-- What is asked of a test of such structs that is handed over. -/
def TestOf_bound (g:Nat) (lb:Array Value) (q:S111 → Option Bool) (w:World):Prop :=
 ∀ (W:World) (x:S111) (b:Bool),Below w.heap.size w W → q x=some b → Calls Tryz.prog g (#[.agg #[.int .i64 x.f0,.int .i64 x.f1,.int .i64 x.f2]] ++ lb) W fun e w' => e = .returned (.bool b)∧Below W.heap.size W w'
set_option maxHeartbeats 4000000 in
set_option maxRecDepth 100000 in
theorem slices_IndexFunc_bound.callsOf (q:S111 → Option Bool) (g:Nat) (lb:Array Value) (eg : ∀ args w,(callFunc g args).run Tryz.prog w = .ok (.enter g args) w) (A_:Option Addr) (c_:Nat) (l0:List (S111)) (r:Int) (w:World) (hr0:Kd.C k111 w A_ l0.length l0) (hc0:l0.length ≤ c_)
 (hq:TestOf_bound g lb q w) (h:idxO q l0 0=some r) :
 Calls Tryz.prog 118 #[.slice A_ l0.length c_,.func (.func g) #[] lb] w fun e w' => e = .returned (.int .i64 r)∧Below w.heap.size w w' := by
 have hu:=Tryz.underlying111
 have HR:=Aside0.mk hr0
 have HQ:=Aside0.mk hq
 have H0:=Aside0.mk (show idxO q (l0.drop (0:Int).toNat) 0=some r from h)
 have HM:=Aside0.mk (show l0.length ≤ 9223372036854775807 from hr0.2.1)
 clear hr0 hq h
 go_enter Tryz.func118,Tryz.ntmps118
 go_wp2
 go_loopg [5,8] l0.length (fun kq _ v8 wr => ∃ (x8:Int),v8 = .int .i64 x8∧Aside0 (0 ≤ x8∧x8 ≤ l0.length∧(l0.length:Int) - x8 ≤ kq)∧Aside0 (Below w.heap.size w wr)∧Aside0 (idxO q (l0.drop x8.toNat) x8=some r))
 case atStart=>exact ⟨0,rfl,⟨zb16⟩,⟨Below.refl _ w⟩,H0⟩
 case round =>
  obtain ⟨x8,rfl,HX,BW,HH⟩:=hrel
  clear H0
  by_cases c4:x8 < (l0.length:Int);rotate_left
  ·have c4b0:=decide_eq_false c4
   have hx:=HH.out
   rw [List.drop_of_length_le zb86,idxO] at hx
   injection hx with hx
   clear c4
   go_wp2
   go_ret
   subst hx
   exact ⟨zb46,BW.out⟩
  have c4b0:=decide_eq_true c4
  have hx:=HH.out
  have hlt:x8.toNat < l0.length:=by have:=HX.out;omega
  rw [List.drop_eq_getElem_cons hlt,idxO] at hx
  obtain ⟨b,hb,hx⟩:=Option.bind_eq_some_iff.1 hx
  have hrd:rd_T111 l0 x8=l0[x8.toNat]:=by unfold rd_T111;rw [List.getD_eq_getElem?_getD,List.getElem?_eq_getElem hlt];rfl
  obtain ⟨ad,he,h0,h1,h2⟩:=at_T111 HR.out x8 HX.out.1 c4
  replace h0:=(BW.out.cell (World.block_lt_of_cell? w _ h0)).trans h0
  replace h1:=(BW.out.cell (World.block_lt_of_cell? w _ h1)).trans h1
  replace h2:=(BW.out.cell (World.block_lt_of_cell? w _ h2)).trans h2
  have hcall:=HQ.out wr l0[x8.toNat] b BW.out hb
  rw [← hrd] at hcall
  obtain ⟨y,hy⟩ : ∃ y,rd_T111 l0 x8=y:=⟨_,rfl⟩
  rw [hy] at hcall h0 h1 h2
  have HCALL:=Aside0.mk hcall
  have HN:=Aside0.mk hx
  have p8:(0 ≤ x8)=True:=eq_true HX.out.1
  have q8:(x8 < (l0.length:Int))=True:=eq_true c4
  clear hx hb hrd HH hy hcall c4
  subst he
  cases b with
  | true =>
   go_wp2_with (go_at_fn g;refine HCALL.out.mono ?_;rintro e w' ⟨rfl,hb'⟩)
   go_ret
   have hx:=HN.out
   simp only [if_true,Option.some.injEq] at hx
   subst hx
   exact ⟨zb46,BW.out.trans (sl_base (Below.size BW.out) hb')⟩
  | false =>
   go_wp2_with (go_at_fn g;refine HCALL.out.mono ?_;rintro e w' ⟨rfl,hb'⟩)
   go_roundg (gk - 1)
   case measure=>have:=HX.out;have:=of_eq_true q8;omega
   case rel =>
    have hx:=HN.out
    simp only [Bool.false_eq_true,if_false] at hx
    have hx8:=HX.out
    have hq8:=of_eq_true q8
    have hw:wrap64 (x8 + 1)=x8 + 1:=by have:=HM.out;unfold wrap64;omega
    refine ⟨wrap64 (x8 + 1),rfl,⟨by rw [hw];omega⟩,⟨BW.out.trans (sl_base (Below.size BW.out) hb')⟩,⟨?_⟩⟩
    rw [hw,show (x8 + 1).toNat=x8.toNat + 1 by omega]
    exact hx
set_option maxHeartbeats 4000000 in
set_option maxRecDepth 100000 in
theorem slices_ContainsFunc_bound.callsOf (q:S111 → Option Bool) (g:Nat) (lb:Array Value) (eg : ∀ args w,(callFunc g args).run Tryz.prog w = .ok (.enter g args) w) (A_:Option Addr) (c_:Nat) (l0:List (S111)) (r:Bool) (w:World) (hr0:Kd.C k111 w A_ l0.length l0) (hc0:l0.length ≤ c_)
 (hq:TestOf_bound g lb q w) (h:anyO q l0=some r) :
 Calls Tryz.prog 95 #[.slice A_ l0.length c_,.func (.func g) #[] lb] w fun e w' => e = .returned (.bool r)∧Below w.heap.size w w' := by
 obtain ⟨j,hj,hb⟩:=idxO_any q l0 0 r zb16 h
 have HC:=Aside0.mk (slices_IndexFunc_bound.callsOf q g lb eg A_ c_ l0 j w hr0 hc0 hq hj)
 have HBB:=Aside0.mk hb
 clear hb hj h hq hr0 hc0 eg
 go_enter Tryz.func95,Tryz.ntmps95
 go_wp2_with (go_at_call 118;refine HC.out.mono ?_;rintro e w' ⟨rfl,hb'⟩)
 go_ret
 have e:=HBB.out
 subst e
 exact ⟨zb46,hb'⟩
def table_bounds.f (a0_0:ByteArray) (l0_1:List ByteArray) (a0_2:Int) (a0_3:Int) (a0_4:Int) (a0_5:Int) (a0_6:Int) (a0_7:Int):Option ((List (S111))):=some (([(⟨a0_2,256,1048576⟩:S111),(⟨a0_3,1,64⟩:S111),(⟨a0_4,1,64⟩:S111),(⟨a0_5,1,1048576⟩:S111),(⟨a0_6,1,1048576⟩:S111),(⟨a0_7,1,1048576⟩:S111)]:List (S111)))
set_option maxHeartbeats 8000000 in
set_option maxRecDepth 100000 in
theorem table_bounds.calls (a0_0:ByteArray) (A0_1:Option Addr) (c0_1:Nat) (l0_1:List ByteArray) (a0_2:Int) (a0_3:Int) (a0_4:Int) (a0_5:Int) (a0_6:Int) (a0_7:Int) (r:List (S111)) (w:World) (hr0_1:Kd.C Kd.string w A0_1 l0_1.length l0_1) (hc0_1:l0_1.length ≤ c0_1) (h:table_bounds.f a0_0 l0_1 a0_2 a0_3 a0_4 a0_5 a0_6 a0_7=some r) :
 Calls Tryz.prog 66 #[.agg #[.string a0_0,.slice A0_1 l0_1.length c0_1,.int .i64 a0_2,.int .i64 a0_3,.int .i64 a0_4,.int .i64 a0_5,.int .i64 a0_6,.int .i64 a0_7]] w fun e w' => ∃ v0_:Value,e = .returned (v0_)∧Kd.R k111 111 w' w.heap.size (fun _=>True) v0_ r∧Below w.heap.size w w' := by
 have hu64:=Tryz.underlying64
 have hu111:=Tryz.underlying111
 have HR0_1:=Aside0.mk hr0_1
 have HC0_1:=Aside0.mk hc0_1
 clear hr0_1 hc0_1
 have HB:=Aside0.mk (Below.refl w.heap.size w)
 unfold table_bounds.f at h
 have H:=h
 clear h
 obtain ⟨y137,hy137⟩ : ∃ y_:List (S111),y_=(([(⟨a0_2,256,1048576⟩:S111),(⟨a0_3,1,64⟩:S111),(⟨a0_4,1,64⟩:S111),(⟨a0_5,1,1048576⟩:S111),(⟨a0_6,1,1048576⟩:S111),(⟨a0_7,1,1048576⟩:S111)]:List (S111))):=⟨_,rfl⟩
 replace H:(some y137)=some r:=by first|(rw [hy137];with_reducible exact H)|(have H2_:=(Option.bind_some _ _).symm.trans H;rw [hy137];with_reducible exact H2_)|(have H2_:=(Option.bind_some _ _).symm.trans H;with_reducible exact H2_)|with_reducible exact H|(rw [hy137];exact H)|exact H
 have Ny137:=Aside0.mk hy137
 clear hy137
 obtain rfl:=Option.some.inj H
 go_enter Tryz.func66,Tryz.ntmps66
 go_wp2_with (first|((with_reducible refine gate_dst (N:=1) rfl ?_);refine box_event rfl (N:=1) rfl (cs:=#[.string a0_0,.slice A0_1 l0_1.length c0_1,.int .i64 a0_2,.int .i64 a0_3,.int .i64 a0_4,.int .i64 a0_5,.int .i64 a0_6,.int .i64 a0_7]) (t:=64) zS ?_;intro gb136 hg w2 hbox hb;have GW136:=zG hg zb0;have GE136:=GW136;have BK136:=Aside0.mk hbox;replace HB:=Aside0.mk (below_step zb0 hb);clear hb hbox hg;have hcz3_0:w2.cell? ⟨gb136,0,none⟩=some (.string a0_0):=(blk_cell BK136.out 0).trans rfl;have hcz3_1:w2.cell? ⟨gb136,1,none⟩=some (.slice A0_1 l0_1.length c0_1):=(blk_cell BK136.out 1).trans rfl;have hcz3_2:w2.cell? ⟨gb136,2,none⟩=some (.int .i64 a0_2):=(blk_cell BK136.out 2).trans rfl;have hcz3_3:w2.cell? ⟨gb136,3,none⟩=some (.int .i64 a0_3):=(blk_cell BK136.out 3).trans rfl;have hcz3_4:w2.cell? ⟨gb136,4,none⟩=some (.int .i64 a0_4):=(blk_cell BK136.out 4).trans rfl;have hcz3_5:w2.cell? ⟨gb136,5,none⟩=some (.int .i64 a0_5):=(blk_cell BK136.out 5).trans rfl;have hcz3_6:w2.cell? ⟨gb136,6,none⟩=some (.int .i64 a0_6):=(blk_cell BK136.out 6).trans rfl;have hcz3_7:w2.cell? ⟨gb136,7,none⟩=some (.int .i64 a0_7):=(blk_cell BK136.out 7).trans rfl;have hfz3_0:=blk_frozen BK136.out 0;have hfz3_1:=blk_frozen BK136.out 1;have hfz3_2:=blk_frozen BK136.out 2;have hfz3_3:=blk_frozen BK136.out 3;have hfz3_4:=blk_frozen BK136.out 4;have hfz3_5:=blk_frozen BK136.out 5;have hfz3_6:=blk_frozen BK136.out 6;have hfz3_7:=blk_frozen BK136.out 7)|((with_reducible refine gate_dst (N:=21) rfl ?_);refine Kd.R_lit k111 _ 111 ?hg (N:=21) ?hd (xs:=([(⟨a0_2,256,1048576⟩:S111),(⟨a0_3,1,64⟩:S111),(⟨a0_4,1,64⟩:S111),(⟨a0_5,1,1048576⟩:S111),(⟨a0_6,1,1048576⟩:S111),(⟨a0_7,1,1048576⟩:S111)]:List (S111))) (inner:=[.int .i64 a0_2,.int .i64 256,.int .i64 1048576,.int .i64 a0_3,.int .i64 1,.int .i64 64,.int .i64 a0_4,.int .i64 1,.int .i64 64,.int .i64 a0_5,.int .i64 1,.int .i64 1048576,.int .i64 a0_6,.int .i64 1,.int .i64 1048576,.int .i64 a0_7,.int .i64 1,.int .i64 1048576]) (ok:=fun _=>True) (okp:=fun _=>True) ?hr ?hp (fun _ hk=>hk) trivial (Below.refl _ _) (Nat.le_refl _) zb24 ?_;(case hd=>rfl);(case hg=>rfl);(case hr=>first|(go_simp;done)|(go_simp;rfl));(case hp=>exact (Reps.c3 (show Kd.M k111 _ _ _ (⟨a0_2,256,1048576⟩:S111) [.int .i64 a0_2,.int .i64 256,.int .i64 1048576] from (k111_mkM _ _ _ (⟨a0_2,256,1048576⟩:S111) )) (Reps.c3 (show Kd.M k111 _ _ _ (⟨a0_3,1,64⟩:S111) [.int .i64 a0_3,.int .i64 1,.int .i64 64] from (k111_mkM _ _ _ (⟨a0_3,1,64⟩:S111) )) (Reps.c3 (show Kd.M k111 _ _ _ (⟨a0_4,1,64⟩:S111) [.int .i64 a0_4,.int .i64 1,.int .i64 64] from (k111_mkM _ _ _ (⟨a0_4,1,64⟩:S111) )) (Reps.c3 (show Kd.M k111 _ _ _ (⟨a0_5,1,1048576⟩:S111) [.int .i64 a0_5,.int .i64 1,.int .i64 1048576] from (k111_mkM _ _ _ (⟨a0_5,1,1048576⟩:S111) )) (Reps.c3 (show Kd.M k111 _ _ _ (⟨a0_6,1,1048576⟩:S111) [.int .i64 a0_6,.int .i64 1,.int .i64 1048576] from (k111_mkM _ _ _ (⟨a0_6,1,1048576⟩:S111) )) (Reps.c3 (show Kd.M k111 _ _ _ (⟨a0_7,1,1048576⟩:S111) [.int .i64 a0_7,.int .i64 1,.int .i64 1048576] from (k111_mkM _ _ _ (⟨a0_7,1,1048576⟩:S111) )) (Reps.none _ _))))))));intro v138 w4 ho5 hb hg_ hnew_;clear hg_ hnew_;(first|rw [← Ny137.out] at ho5|(simp only [Int.reduceToNat] at ho5;rw [← Ny137.out] at ho5));have HO139:=Aside0.mk (Kd.R_lower ho5 (below_size zb57));replace BK136:=Aside0.mk (blk_below (g:=gb136) (o:=.cells #[.string a0_0,.slice A0_1 l0_1.length c0_1,.int .i64 a0_2,.int .i64 a0_3,.int .i64 a0_4,.int .i64 a0_5,.int .i64 a0_6,.int .i64 a0_7] 64 (0,0)) (by (with_reducible repeat (first|refine blk_drewN ?_ _|refine blk_drew ?_|refine blk_alloc ?_ _));exact BK136.out) hb);replace HB:=Aside0.mk (below_step zb57 hb);clear hb ho5))
 go_ret
 exact ⟨_,zb6,by (with_reducible repeat (first|apply Kd.R_alloc|apply Kd.R_drewN|apply Kd.R_drew));exact HO139.out,zb57⟩
def table_right_1.f (a0_0:Int) (a0_1:Int) (a0_2:Int):Option (Bool):=if a0_0 < a0_1 then (some true) else (some (decide (a0_0 > a0_2)))
set_option maxHeartbeats 8000000 in
set_option maxRecDepth 100000 in
theorem table_right_1.calls (a0_0:Int) (a0_1:Int) (a0_2:Int) (r:Bool) (w:World) (h:table_right_1.f a0_0 a0_1 a0_2=some r) :
 Calls Tryz.prog 96 #[.agg #[.int .i64 a0_0,.int .i64 a0_1,.int .i64 a0_2]] w fun e w' => e = .returned (.bool r)∧Below w.heap.size w w' := by
 have hu111:=Tryz.underlying111
 have HB:=Aside0.mk (Below.refl w.heap.size w)
 unfold table_right_1.f at h
 have H:=h
 clear h
 by_cases c2:a0_0 < a0_1
 ·rw [if_pos c2] at H
  have c2b0:=decide_eq_true c2
  clear c2
  obtain rfl:=Option.some.inj H
  go_enter Tryz.func96,Tryz.ntmps96
  go_wp2_with (first|((with_reducible refine gate_dst (N:=1) rfl ?_);refine box_event rfl (N:=1) rfl (cs:=#[.int .i64 a0_0,.int .i64 a0_1,.int .i64 a0_2]) (t:=111) zS ?_;intro gb121 hg w3 hbox hb;have GW121:=zG hg zb0;have GE121:=GW121;have BK121:=Aside0.mk hbox;replace HB:=Aside0.mk (below_step zb0 hb);clear hb hbox hg;have hcz4_0:w3.cell? ⟨gb121,0,none⟩=some (.int .i64 a0_0):=(blk_cell BK121.out 0).trans rfl;have hcz4_1:w3.cell? ⟨gb121,1,none⟩=some (.int .i64 a0_1):=(blk_cell BK121.out 1).trans rfl;have hcz4_2:w3.cell? ⟨gb121,2,none⟩=some (.int .i64 a0_2):=(blk_cell BK121.out 2).trans rfl;have hfz4_0:=blk_frozen BK121.out 0;have hfz4_1:=blk_frozen BK121.out 1;have hfz4_2:=blk_frozen BK121.out 2))
  go_ret
  exact ⟨zb6,zb77⟩
 rw [if_neg c2] at H
 have c2b0:=decide_eq_false c2
 clear c2
 obtain rfl:=Option.some.inj H
 go_enter Tryz.func96,Tryz.ntmps96
 go_wp2_with (first|((with_reducible refine gate_dst (N:=1) rfl ?_);refine box_event rfl (N:=1) rfl (cs:=#[.int .i64 a0_0,.int .i64 a0_1,.int .i64 a0_2]) (t:=111) zS ?_;intro gb121 hg w5 hbox hb;have GW121:=zG hg zb0;have GE121:=GW121;have BK121:=Aside0.mk hbox;replace HB:=Aside0.mk (below_step zb0 hb);clear hb hbox hg;have hcz6_0:w5.cell? ⟨gb121,0,none⟩=some (.int .i64 a0_0):=(blk_cell BK121.out 0).trans rfl;have hcz6_1:w5.cell? ⟨gb121,1,none⟩=some (.int .i64 a0_1):=(blk_cell BK121.out 1).trans rfl;have hcz6_2:w5.cell? ⟨gb121,2,none⟩=some (.int .i64 a0_2):=(blk_cell BK121.out 2).trans rfl;have hfz6_0:=blk_frozen BK121.out 0;have hfz6_1:=blk_frozen BK121.out 1;have hfz6_2:=blk_frozen BK121.out 2))
 go_ret
 exact ⟨zb6,zb77⟩
def foldC (c:Int):Int:=if 65 ≤ c∧c ≤ 90 then c + 32 else c
def sign_Fold.f (a0:ByteArray):Option ByteArray:=if a0.size ≤ 140737488355328 then some (strOfNums ((bytesOf a0).map foldC)) else none
theorem fold_step (l:List Int) (x:Int) (h0:0 ≤ x) (h:x < (l.length:Int)) :
 ((l.take x.toNat).map foldC ++ l.drop x.toNat).set x.toNat (foldC (rd l x))=(l.take (x + 1).toNat).map foldC ++ l.drop (x + 1).toNat:=by
 obtain ⟨n,rfl⟩:=Int.eq_ofNat_of_zero_le h0
 have hl:n < l.length:=by omega
 have e:((n:Int) + 1).toNat=n + 1:=by omega
 have hm:((l.take n).map foldC).length=n:=by rw [List.length_map,List.length_take];omega
 have hr:rd l n=l[n]:=by simp [rd,List.getD_eq_getElem?_getD,List.getElem?_eq_getElem hl]
 rw [e,Int.toNat_natCast,List.set_append_right _ _ (by omega),hm,Nat.sub_self,List.drop_eq_getElem_cons hl,List.set_cons_zero,List.take_succ_eq_append_getElem hl,List.map_append,hr]
 simp only [List.map_cons,List.map_nil,List.append_assoc,List.cons_append,List.nil_append]
theorem fold_same (l:List Int) (x:Int) (h0:0 ≤ x) (h:x < (l.length:Int)) (hs:foldC (rd l x)=rd l x) :
 (l.take x.toNat).map foldC ++ l.drop x.toNat=(l.take (x + 1).toNat).map foldC ++ l.drop (x + 1).toNat:=by
 obtain ⟨n,rfl⟩:=Int.eq_ofNat_of_zero_le h0
 have hl:n < l.length:=by omega
 have e:((n:Int) + 1).toNat=n + 1:=by omega
 have hr:rd l n=l[n]:=by simp [rd,List.getD_eq_getElem?_getD,List.getElem?_eq_getElem hl]
 rw [hr] at hs
 rw [e,Int.toNat_natCast,List.drop_eq_getElem_cons hl,List.take_succ_eq_append_getElem hl,List.map_append]
 simp only [List.map_cons,List.map_nil,List.append_assoc,List.cons_append,List.nil_append,hs]
theorem fold_at (l:List Int) (x:Int) (h0:0 ≤ x) (h:x < (l.length:Int)):rd ((l.take x.toNat).map foldC ++ l.drop x.toNat) x=rd l x:=by
 have hl:x.toNat < l.length:=by omega
 have hm:((l.take x.toNat).map foldC).length=x.toNat:=by simp;omega
 unfold rd
 rw [List.getD_eq_getElem?_getD,List.getD_eq_getElem?_getD,List.getElem?_append_right (by omega),hm]
 simp
theorem fold_len (l:List Int) (x:Int):((l.take x.toNat).map foldC ++ l.drop x.toNat).length=l.length:=by
 simp;omega
set_option maxHeartbeats 2000000 in
theorem sign_Fold.calls (a0:ByteArray) (r:ByteArray) (w:World) (h:sign_Fold.f a0=some r) :
 Calls Tryz.prog 53 #[.string a0] w fun e w' => e = .returned (.string r)∧Below w.heap.size w w' := by
 unfold sign_Fold.f at h
 by_cases h0:a0.size ≤ 140737488355328;rotate_left
 ·rw [if_neg h0] at h
  cases h
 rw [if_pos h0] at h
 obtain rfl:=Option.some.inj h
 clear h
 have kb:=fun W=>print_bytes (P:=Tryz.prog) 9 50 5 Tryz.underlying9 Tryz.underlying50 Tryz.underlying5 a0 W
 go_enter Tryz.func53,Tryz.ntmps53
 go_wp2
 go_loopw [4,5,10] (fun _ _ v wr => ∃ x:Int,v = .int .i64 x∧Aside0 (0 ≤ x∧x ≤ a0.size)∧Aside0 (MRow wr w.heap.size 5 (((bytesOf a0).take x.toNat).map foldC ++ (bytesOf a0).drop x.toNat))∧Aside0 (Below w.heap.size w wr)) (fun _ _ v _=>a0.size - (intOf v).toNat)
 case atStart=>exact ⟨0,rfl,⟨zb16,zb16⟩,⟨by simpa using MRow.bytes w 5 a0⟩,⟨bytes_below (Below.refl _ _) (Nat.le_refl _) _ _⟩⟩
 case round =>
  obtain ⟨x,rfl,HX,HM,HB⟩:=hrel
  have hlen:(((bytesOf a0).take x.toNat).map foldC ++ (bytesOf a0).drop x.toNat).length=a0.size:=(fold_len _ _).trans (bytesOf_length a0)
  by_cases hlt:x < (a0.size:Int);rotate_left
  ·have he:x=(a0.size:Int):=by have:=HX.out;omega
   have hR:=HM.out.reads (by rw [hlen];omega)
   rw [hlen] at hR
   have hcv:=string_of_reads (P:=Tryz.prog) (src:=50) (dst:=9) (c:=grownCap w a0.size 0 5) Tryz.underlying50 Tryz.underlying5 Tryz.underlying9 hR
   rw [show ((bytesOf a0).take x.toNat).map foldC ++ (bytesOf a0).drop x.toNat=(bytesOf a0).map foldC by rw [List.take_of_length_le (by rw [bytesOf_length];omega),List.drop_of_length_le (by rw [bytesOf_length];omega),List.append_nil]] at hcv
   have q2:decide (x < (a0.size:Int))=false:=decide_eq_false hlt
   have HLN:=Aside0.mk hlen
   clear hlt he hlen hR
   go_wp2
   go_ret
   exact ⟨rfl,HB.out⟩
  have hlb:x < ((bytesOf a0).length:Int):=by rw [bytesOf_length];exact hlt
  have hc:=HM.out.cell x HX.out.1 (by rw [hlen];exact hlt)
  have hf:=HM.out.free x HX.out.1 (by rw [hlen];exact hlt)
  rw [fold_at _ x HX.out.1 hlb,rd_bytesOf] at hc
  have hst:=fold_step (bytesOf a0) x HX.out.1 hlb
  have hsm:=fold_same (bytesOf a0) x HX.out.1 hlb
  rw [rd_bytesOf] at hst hsm
  have hr:=bt_range a0 x
  have HR:=Aside0.mk hr
  obtain ⟨c,hcv⟩ : ∃ c,c=bt a0 x:=⟨_,rfl⟩
  rw [← hcv] at hc hst hsm hr
  have p1:(0 ≤ x)=True:=eq_true HX.out.1
  have q1:(x < (a0.size:Int))=True:=eq_true hlt
  have q2:decide (x < (a0.size:Int))=true:=decide_eq_true hlt
  have HLT:=Aside0.mk hlt
  have HST:=Aside0.mk hst
  have HSM:=Aside0.mk hsm
  have HRR:=Aside0.mk hr
  have HLN:=Aside0.mk hlen
  have HCV:=Aside0.mk hcv
  clear hlt hlb hst hsm hr hlen hcv
  have hw:Aside0 (wrap64 (x + 1)=x + 1):=⟨by have:=HX.out;unfold wrap64;omega⟩
  by_cases c1:65 ≤ c
  ·have c1b:decide (c ≥ 65)=true:=decide_eq_true c1
   have c1c:=decide_eq_true c1
   by_cases c2:c ≤ 90
   ·have c2b:=decide_eq_true c2
    have HC1:=Aside0.mk (And.intro c1 c2)
    go_wp2
    refine ⟨⟨x + 1,by rw [hw.out],⟨zb86,by have:=HLT.out;omega⟩,⟨?_⟩,⟨HB.out.setCell (Nat.le_refl _) _⟩⟩,?_⟩
    ·rw [← HST.out]
     have hv:foldC c=c + 97 - 65:=by unfold foldC;rw [if_pos HC1.out];omega
     rw [hv]
     exact HM.out.set x _
    have:=HX.out;have:=HLT.out;rw [hw.out];simp [intOf];omega
   ·have c2b:=decide_eq_false c2
    go_wp2
    refine ⟨⟨x + 1,by rw [hw.out],⟨zb86,by have:=HLT.out;omega⟩,⟨?_⟩,HB⟩,?_⟩
    ·rw [← HSM.out (if_neg zb16)];exact HM.out
    ·have:=HX.out;have:=HLT.out;rw [hw.out];simp [intOf];omega
  ·have c1b:decide (c ≥ 65)=false:=decide_eq_false c1
   have c1c:=decide_eq_false c1
   go_wp2
   refine ⟨⟨x + 1,by rw [hw.out],⟨zb86,by have:=HLT.out;omega⟩,⟨?_⟩,HB⟩,?_⟩
   ·rw [← HSM.out (if_neg zb16)];exact HM.out
   ·have:=HX.out;have:=HLT.out;rw [hw.out];simp [intOf];omega
def strings_LastIndexByte.f (a0:ByteArray) (a1:Int):Option Int:=if a0.size < 4611686018427387904 then some (Lib.lastIndexByte a0 a1) else none
theorem strings_LastIndexByte.calls (a0:ByteArray) (a1:Int) (r:Int) (w:World) (h:strings_LastIndexByte.f a0 a1=some r) :
 Calls Tryz.prog 120 #[.string a0,.int .u8 a1] w fun e w' => e = .returned (.int .i64 r)∧Drawn0 w w' := by
 unfold strings_LastIndexByte.f at h
 split at h
 ·rename_i hs
  obtain rfl:=Option.some.inj h
  refine (Tryz.strings_LastIndexByte a0 a1 hs w).mono ?_
  rintro e w' ⟨rfl,rfl⟩
  exact ⟨rfl,Drawn0.refl _⟩
 cases h
/-- At a cutset of ASCII bytes. -/
def strings_Trim.f (a0 a1:ByteArray):Option ByteArray :=
 if a0.size ≤ 9223372036854775807∧a1.size < 4294967281∧a1.data.toList.all (fun b=>decide (b.toNat < 128))=true then some ⟨(Lib.trimS a0.data.toList a1.data.toList).toArray⟩ else none
theorem strings_Trim.calls (a0 a1:ByteArray) (r:ByteArray) (w:World) (h:strings_Trim.f a0 a1=some r) :
 Calls Tryz.prog 121 #[.string a0,.string a1] w fun e w' => e = .returned (.string r)∧Below w.heap.size w w' := by
 unfold strings_Trim.f at h
 split at h
 ·rename_i hc
  obtain rfl:=Option.some.inj h
  exact Go.Proofs.Any.strings_Trim_laid Tryz.lays160 zb14 a0 a1 w hc.1 hc.2.1 (Go.Proofs.ascii_of_all hc.2.2)
 cases h
/-- A host's byte. -/
def hostC (c:Int):Bool:=decide ((48 ≤ c∧c ≤ 57) ∨ (97 ≤ c∧c ≤ 122) ∨ c=45 ∨ c=46)
/-- Does a text end in a port? -/
def hostPort (t:ByteArray):Bool:=decide (0 ≤ Lib.lastIndexByte t 58) && (Lib.trimS (t.extract (Lib.lastIndexByte t 58 + 1).toNat t.size).data.toList [48,49,50,51,52,53,54,55,56,57]).isEmpty
/-- The text without its port. -/
def hostCut (t:ByteArray):ByteArray:=if hostPort t=true then t.extract 0 (Lib.lastIndexByte t 58).toNat else t
def hostEnd (u:ByteArray):ByteArray × Bool:=if u.size=0 ∨ 64 < u.size then ((⟨#[]⟩:ByteArray),false) else if (bytesOf u).all hostC=true then (u,true) else ((⟨#[]⟩:ByteArray),false)
def line_Host.f (a0:ByteArray):Option (ByteArray × Bool) :=
 if a0.size ≤ 140737488355328 then some (hostEnd (hostCut (strOfNums ((bytesOf a0).map foldC)))) else none
theorem host_rune (s:ByteArray) (pos:Nat) (h:pos < s.size) (r:Nat) (hr:(Utf8.decode s pos).1=r) :
 (hostC (r:Int)=true → (Utf8.decode s pos).2=1∧bt s (pos:Int)=(r:Int))∧(hostC (r:Int)=false → hostC (bt s (pos:Int))=false)∧r ≤ 2147483647:=by
 subst hr
 have hb:bt s (pos:Int)=((s[pos]'h).toNat:Int):=by unfold bt;rw [dif_pos (by rw [Int.toNat_natCast];exact h)];rfl
 refine ⟨?_,?_,decode_le s pos⟩
 ·intro ht
  by_cases ha:(s[pos]'h).toNat < 128
  ·rw [decode_ascii s pos h ha,hb];exact ⟨rfl,rfl⟩
  have:=decode_high s pos h (by omega)
  unfold hostC at ht
  have:=of_decide_eq_true ht
  omega
 intro hf
 by_cases ha:(s[pos]'h).toNat < 128
 ·rw [decode_ascii s pos h ha] at hf;rw [hb];exact hf
 rw [hb]
 unfold hostC
 exact decide_eq_false (by omega)
theorem host_class (c:Int):(48 ≤ c∧c ≤ 57) ∨ (97 ≤ c∧c ≤ 122) ∨ c=45 ∨ c=46 ∨ (c < 48∧c ≠ 45∧c ≠ 46) ∨ (57 < c∧c < 97) ∨ 122 < c:=by omega
theorem lastIdx_lt (s:ByteArray) (c:Int):Lib.lastIndexByte s c < (s.size:Int) ∧ -1 ≤ Lib.lastIndexByte s c:=by
 rcases Lib.lastIndexByte_spec s c with ⟨h,_⟩|⟨i,hi,h,_⟩ <;> rw [h] <;> omega
theorem host_isEmpty (s:ByteArray):s.toList.isEmpty=decide (s.size=0):=by
 have h1:s.toList=s.data.toList:=by simp [ByteArray.toList_eq]
 rw [h1,Bool.eq_iff_iff,List.isEmpty_iff,decide_eq_true_eq,← data_length]
 exact List.length_eq_zero_iff.symm
theorem host_drop (p:Int → Bool) (s:ByteArray) (x:Nat) (h:x < s.size):((bytesOf s).drop x).all p=(p (bt s x) && ((bytesOf s).drop (x + 1)).all p):=by
 have:=bytes_drop_all p s x (by omega) (by omega)
 rwa [Int.toNat_natCast] at this
set_option maxHeartbeats 8000000 in
set_option maxRecDepth 100000 in
theorem line_Host.calls (a0:ByteArray) (r1:ByteArray) (r2:Bool) (w:World) (h:line_Host.f a0=some (r1,r2)) :
 Calls Tryz.prog 99 #[.string a0] w fun e w' => e = .returned (.tuple #[.string r1,.bool r2])∧Below w.heap.size w w' := by
 unfold line_Host.f at h
 by_cases h0:a0.size ≤ 140737488355328;rotate_left
 ·rw [if_neg h0] at h
  cases h
 rw [if_pos h0] at h
 have H:=Aside0.mk (Option.some.inj h)
 clear h
 have HF:=Aside0.mk (show sign_Fold.f a0=some (strOfNums ((bytesOf a0).map foldC)) from if_pos h0)
 have hz:(strOfNums ((bytesOf a0).map foldC)).size=a0.size:=by rw [strOfNums_size,List.length_map,bytesOf_length]
 obtain ⟨t,ht⟩ : ∃ t,t=strOfNums ((bytesOf a0).map foldC):=⟨_,rfl⟩
 rw [← ht] at H HF hz
 have hts:t.size ≤ 140737488355328:=by omega
 clear ht hz h0
 have HL:=Aside0.mk (show strings_LastIndexByte.f t 58=some (Lib.lastIndexByte t 58) from if_pos zb16)
 obtain ⟨h1,h2⟩:=lastIdx_lt t 58
 obtain ⟨u,hu⟩ : ∃ u,u=hostCut t:=⟨_,rfl⟩
 rw [← hu] at H
 unfold hostCut hostPort at hu
 obtain ⟨i,hi⟩ : ∃ i,i=Lib.lastIndexByte t 58:=⟨_,rfl⟩
 rw [← hi] at HL h1 h2 hu
 clear hi
 have HU:=Aside0.mk hu
 clear hu
 have hw:wrap64 (i + 1)=i + 1:=by unfold wrap64;omega
 have HW:=Aside0.mk hw
 clear hw
 go_enter Tryz.func99,Tryz.ntmps99
 go_wp2_with fail
 go_at_call 53
 refine (sign_Fold.calls a0 t _ HF.out).mono ?_
 rintro e w1 ⟨rfl,hb⟩
 have HB:=Aside0.mk hb
 clear hb
 go_wp2_with fail
 go_at_call 120
 refine (strings_LastIndexByte.calls t 58 _ _ HL.out).mono ?_
 rintro e w2 ⟨rfl,nd,rfl⟩
 by_cases c0:0 ≤ i
 case' pos =>
  have c1:decide (i ≥ 0)=true:=decide_eq_true c0
  have c2:=decide_eq_true c0
  have p1:0 ≤ i + 1:=by omega
  have p2:i + 1 ≤ (t.size:Int):=by omega
  have hw:=HW.out
  obtain ⟨q,hq⟩ : ∃ q,q=t.extract (i + 1).toNat t.size:=⟨_,rfl⟩
  have hqs:q.size ≤ t.size:=by rw [hq,ByteArray.size_extract];omega
  have HTR:=Aside0.mk (show strings_Trim.f q (⟨#[48,49,50,51,52,53,54,55,56,57]⟩:ByteArray)=some ⟨(Lib.trimS q.data.toList [48,49,50,51,52,53,54,55,56,57]).toArray⟩ from if_pos ⟨zb16,zb22,zb22⟩)
  have HQ:=Aside0.mk hq
  clear hqs
  have hu:=HU.out
  rw [decide_eq_true c0,← hq,Bool.true_and] at hu
  clear HU
  obtain ⟨x,hx⟩ : ∃ x,x=Lib.trimS q.data.toList [48,49,50,51,52,53,54,55,56,57]:=⟨_,rfl⟩
  rw [← hx] at HTR hu
  clear hx
  have HU:=Aside0.mk hu
  clear hu
  have hqq:=hq.symm
  clear hq
  go_wp2_with fail
  go_at_call 121
  refine (strings_Trim.calls q _ _ _ HTR.out).mono ?_
  rintro e w2 ⟨rfl,hb⟩
  have HB2:=Aside0.mk (below_step (by repeat (first|exact HB.out|apply below_alloc|apply pw_below_drewN)) hb)
  clear HB hb hqq
  have HB:=HB2
  clear HB2
  cases hxe:x.isEmpty
  case' false =>
   have hu:=HU.out
   rw [hxe,if_neg zb24] at hu
   subst hu
   clear HU
  case' true =>
   have hu:=(HU.out).trans (if_pos hxe)
   have huu:=hu.symm
   clear hu HU
 case' neg =>
  have c1:decide (i ≥ 0)=false:=decide_eq_false c0
  have c2:=decide_eq_false c0
  have hu:=HU.out
  rw [decide_eq_false c0,Bool.false_and,if_neg zb24] at hu
  subst hu
  clear HU
  obtain ⟨w2,hw2⟩ : ∃ w2,w1.drewN nd=w2:=⟨_,rfl⟩
  have HB2:Aside0 (Below w.heap.size w w2):=⟨by rw [← hw2];exact pw_below_drewN HB.out nd⟩
  rw [hw2]
  clear HB hw2
  have HB:=HB2
  clear HB2
 all_goals
  by_cases e0:u.size=0 ∨ 64 < u.size
  ·have HE:=H.out
   unfold hostEnd at HE
   rw [if_pos e0] at HE
   obtain ⟨rfl,rfl⟩:=Prod.mk.inj HE
   clear HE H
   by_cases e1:u.size=0
   ·have z1:u.toList=[]:=List.isEmpty_iff.1 (by rw [host_isEmpty,decide_eq_true e1])
    clear e0 e1
    go_wp2_with fail
    go_ret2
    exact ⟨rfl,HB.out⟩
   have z1:u.toList.isEmpty=false:=by rw [host_isEmpty,decide_eq_false e1]
   have z2:(u.toList=[])=False:=eq_false (fun e=>by rw [e] at z1;cases z1)
   have z3:(64 < (u.size:Int))=True:=eq_true zb16
   clear e0 e1
   go_wp2_with fail
   go_ret2
   exact ⟨rfl,HB.out⟩
  have z1:u.toList.isEmpty=false:=by rw [host_isEmpty];exact decide_eq_false zb16
  have z2:(u.toList=[])=False:=eq_false (fun e=>by rw [e] at z1;cases z1)
  have z3:(64 < (u.size:Int))=False:=eq_false zb16
  have z4:decide (64 < (u.size:Int))=false:=decide_eq_false zb16
  have z5:u.size ≤ 64:=by omega
  have HE:=H.out
  unfold hostEnd at HE
  rw [if_neg e0] at HE
  have HE2:=Aside0.mk HE
  clear HE H e0
  go_wp2_with fail
  go_loopw [6] (fun _ wr => ∃ pos:Nat,wr=w2.iter u pos∧Aside0 ((bytesOf u).all hostC=((bytesOf u).drop pos).all hostC∧pos ≤ u.size)) (fun _ wr=>u.size - wr.iterPos w2.heap.size)
  case atStart=>exact ⟨0,rfl,⟨by rw [List.drop_zero],zb16⟩⟩
  case round =>
   obtain ⟨pos,rfl,HP⟩:=hrel
   by_cases hp:pos < u.size;rotate_left
   ·have hnx : ∀ ty,(Instr.next (.pointer (some ⟨w2.heap.size,0,none⟩)) true ty).run Tryz.prog (w2.iter u pos) = .ok (.tuple #[.bool false]) (w2.iter u pos):=fun ty=>run_next_end w2 u pos ty hp
    have HE:=HE2.out
    rw [HP.out.1,List.drop_of_length_le (by rw [bytesOf_length];omega)] at HE
    rw [if_pos (show ([]:List Int).all hostC=true from rfl)] at HE
    obtain ⟨rfl,rfl⟩:=Prod.mk.inj HE
    clear HE HE2 hp
    go_wp2_with fail
    go_ret2
    exact ⟨rfl,HB.out.alloc (HB.out.size) _⟩
   obtain ⟨r,hr⟩ : ∃ r,(Utf8.decode u pos).1=r:=⟨_,rfl⟩
   obtain ⟨wd,hwd⟩ : ∃ wd,(Utf8.decode u pos).2=wd:=⟨_,rfl⟩
   have hnx : ∀ ty,(Instr.next (.pointer (some ⟨w2.heap.size,0,none⟩)) true ty).run Tryz.prog (w2.iter u pos) = .ok (.tuple #[.bool true,.int .i64 pos,.int .i32 r]) (w2.iter u (pos + wd)):=fun ty=>by rw [run_next_any w2 u pos ty hp,hr,hwd]
   obtain ⟨f1,f2,f3⟩:=host_rune u pos hp r hr
   rw [hwd] at f1
   have hall:=host_drop hostC u pos hp
   have F:=Aside0.mk (And.intro f1 (And.intro f2 (And.intro hall (And.intro hp HP.out))))
   clear f1 f2 hall hr hwd hp HP
   rcases host_class (r:Int) with c|c|c|c|c|c|c
   ·have d0:decide ((r:Int) < 48)=false:=decide_eq_false zb16
    have d1:decide ((r:Int) > 57)=false:=decide_eq_false zb16
    have d2:decide ((r:Int) < 97)=true:=decide_eq_true zb16
    have d3:decide ((r:Int) > 122)=false:=decide_eq_false zb16
    have d4:((r:Int) == 45)=false:=by rw [beq_eq_false_iff_ne];omega
    have n4:((r:Int) != 45)=true:=by unfold bne;rw [d4];rfl
    have d5:((r:Int) == 46)=false:=by rw [beq_eq_false_iff_ne];omega
    have n5:((r:Int) != 46)=true:=by unfold bne;rw [d5];rfl
    have hc:hostC (r:Int)=true:=decide_eq_true zb16
    have G:=F.out
    obtain ⟨g1,g2⟩:=G.1 hc
    rw [G.2.2.1,g2,hc,Bool.true_and] at G
    subst g1
    have G2:=Aside0.mk G
    clear F G g2 hc c f3
    go_wp2_with fail
    go_roundw
    case rel=>exact ⟨pos + 1,rfl,⟨by rw [G2.out.2.2.2.2.1,G2.out.2.2.1],by have:=G2.out.2.2.2.1;omega⟩⟩
    case measure=>have:=G2.out.2.2.2.1;simp;omega
   ·have d0:decide ((r:Int) < 48)=false:=decide_eq_false zb16
    have d1:decide ((r:Int) > 57)=true:=decide_eq_true zb16
    have d2:decide ((r:Int) < 97)=false:=decide_eq_false zb16
    have d3:decide ((r:Int) > 122)=false:=decide_eq_false zb16
    have d4:((r:Int) == 45)=false:=by rw [beq_eq_false_iff_ne];omega
    have n4:((r:Int) != 45)=true:=by unfold bne;rw [d4];rfl
    have d5:((r:Int) == 46)=false:=by rw [beq_eq_false_iff_ne];omega
    have n5:((r:Int) != 46)=true:=by unfold bne;rw [d5];rfl
    have hc:hostC (r:Int)=true:=decide_eq_true zb16
    have G:=F.out
    obtain ⟨g1,g2⟩:=G.1 hc
    rw [G.2.2.1,g2,hc,Bool.true_and] at G
    subst g1
    have G2:=Aside0.mk G
    clear F G g2 hc c f3
    go_wp2_with fail
    go_roundw
    case rel=>exact ⟨pos + 1,rfl,⟨by rw [G2.out.2.2.2.2.1,G2.out.2.2.1],by have:=G2.out.2.2.2.1;omega⟩⟩
    case measure=>have:=G2.out.2.2.2.1;simp;omega
   ·have d0:decide ((r:Int) < 48)=true:=decide_eq_true zb16
    have d1:decide ((r:Int) > 57)=false:=decide_eq_false zb16
    have d2:decide ((r:Int) < 97)=true:=decide_eq_true zb16
    have d3:decide ((r:Int) > 122)=false:=decide_eq_false zb16
    have d4:((r:Int) == 45)=true:=by rw [beq_iff_eq];omega
    have n4:((r:Int) != 45)=false:=by unfold bne;rw [d4];rfl
    have d5:((r:Int) == 46)=false:=by rw [beq_eq_false_iff_ne];omega
    have n5:((r:Int) != 46)=true:=by unfold bne;rw [d5];rfl
    have hc:hostC (r:Int)=true:=decide_eq_true zb16
    have G:=F.out
    obtain ⟨g1,g2⟩:=G.1 hc
    rw [G.2.2.1,g2,hc,Bool.true_and] at G
    subst g1
    have G2:=Aside0.mk G
    clear F G g2 hc c f3
    go_wp2_with fail
    go_roundw
    case rel=>exact ⟨pos + 1,rfl,⟨by rw [G2.out.2.2.2.2.1,G2.out.2.2.1],by have:=G2.out.2.2.2.1;omega⟩⟩
    case measure=>have:=G2.out.2.2.2.1;simp;omega
   ·have d0:decide ((r:Int) < 48)=true:=decide_eq_true zb16
    have d1:decide ((r:Int) > 57)=false:=decide_eq_false zb16
    have d2:decide ((r:Int) < 97)=true:=decide_eq_true zb16
    have d3:decide ((r:Int) > 122)=false:=decide_eq_false zb16
    have d4:((r:Int) == 45)=false:=by rw [beq_eq_false_iff_ne];omega
    have n4:((r:Int) != 45)=true:=by unfold bne;rw [d4];rfl
    have d5:((r:Int) == 46)=true:=by rw [beq_iff_eq];omega
    have n5:((r:Int) != 46)=false:=by unfold bne;rw [d5];rfl
    have hc:hostC (r:Int)=true:=decide_eq_true zb16
    have G:=F.out
    obtain ⟨g1,g2⟩:=G.1 hc
    rw [G.2.2.1,g2,hc,Bool.true_and] at G
    subst g1
    have G2:=Aside0.mk G
    clear F G g2 hc c f3
    go_wp2_with fail
    go_roundw
    case rel=>exact ⟨pos + 1,rfl,⟨by rw [G2.out.2.2.2.2.1,G2.out.2.2.1],by have:=G2.out.2.2.2.1;omega⟩⟩
    case measure=>have:=G2.out.2.2.2.1;simp;omega
   ·have d0:decide ((r:Int) < 48)=true:=decide_eq_true zb16
    have d1:decide ((r:Int) > 57)=false:=decide_eq_false zb16
    have d2:decide ((r:Int) < 97)=true:=decide_eq_true zb16
    have d3:decide ((r:Int) > 122)=false:=decide_eq_false zb16
    have d4:((r:Int) == 45)=false:=by rw [beq_eq_false_iff_ne];omega
    have n4:((r:Int) != 45)=true:=by unfold bne;rw [d4];rfl
    have d5:((r:Int) == 46)=false:=by rw [beq_eq_false_iff_ne];omega
    have n5:((r:Int) != 46)=true:=by unfold bne;rw [d5];rfl
    have hc:hostC (r:Int)=false:=decide_eq_false zb16
    have G:=F.out
    have g1:=G.2.1 hc
    have HE:=HE2.out
    rw [G.2.2.2.2.1,G.2.2.1,g1,Bool.false_and,if_neg zb24] at HE
    obtain ⟨rfl,rfl⟩:=Prod.mk.inj HE
    clear HE HE2 F G g1 hc c f3
    go_wp2_with fail
    go_ret2
    exact ⟨rfl,HB.out.alloc (HB.out.size) _⟩
   ·have d0:decide ((r:Int) < 48)=false:=decide_eq_false zb16
    have d1:decide ((r:Int) > 57)=true:=decide_eq_true zb16
    have d2:decide ((r:Int) < 97)=true:=decide_eq_true zb16
    have d3:decide ((r:Int) > 122)=false:=decide_eq_false zb16
    have d4:((r:Int) == 45)=false:=by rw [beq_eq_false_iff_ne];omega
    have n4:((r:Int) != 45)=true:=by unfold bne;rw [d4];rfl
    have d5:((r:Int) == 46)=false:=by rw [beq_eq_false_iff_ne];omega
    have n5:((r:Int) != 46)=true:=by unfold bne;rw [d5];rfl
    have hc:hostC (r:Int)=false:=decide_eq_false zb16
    have G:=F.out
    have g1:=G.2.1 hc
    have HE:=HE2.out
    rw [G.2.2.2.2.1,G.2.2.1,g1,Bool.false_and,if_neg zb24] at HE
    obtain ⟨rfl,rfl⟩:=Prod.mk.inj HE
    clear HE HE2 F G g1 hc c f3
    go_wp2_with fail
    go_ret2
    exact ⟨rfl,HB.out.alloc (HB.out.size) _⟩
   have d0:decide ((r:Int) < 48)=false:=decide_eq_false zb16
   have d1:decide ((r:Int) > 57)=true:=decide_eq_true zb16
   have d2:decide ((r:Int) < 97)=false:=decide_eq_false zb16
   have d3:decide ((r:Int) > 122)=true:=decide_eq_true zb16
   have d4:((r:Int) == 45)=false:=by rw [beq_eq_false_iff_ne];omega
   have n4:((r:Int) != 45)=true:=by unfold bne;rw [d4];rfl
   have d5:((r:Int) == 46)=false:=by rw [beq_eq_false_iff_ne];omega
   have n5:((r:Int) != 46)=true:=by unfold bne;rw [d5];rfl
   have hc:hostC (r:Int)=false:=decide_eq_false zb16
   have G:=F.out
   have g1:=G.2.1 hc
   have HE:=HE2.out
   rw [G.2.2.2.2.1,G.2.2.1,g1,Bool.false_and,if_neg zb24] at HE
   obtain ⟨rfl,rfl⟩:=Prod.mk.inj HE
   clear HE HE2 F G g1 hc c f3
   go_wp2_with fail
   go_ret2
   exact ⟨rfl,HB.out.alloc (HB.out.size) _⟩
def table_right_2.f (a0:ByteArray):Option (Bool):=(line_Host.f a0).bind fun bt124=>(if bt124.2=true then (some (bt124.1.toList != a0.toList)) else (some true))
set_option maxHeartbeats 8000000 in
set_option maxRecDepth 100000 in
theorem table_right_2.calls (a0:ByteArray) (r:Bool) (w:World) (h:table_right_2.f a0=some r) :
 Calls Tryz.prog 98 #[.string a0] w fun e w' => e = .returned (.bool r)∧Below w.heap.size w w' := by
 have HB:=Aside0.mk (Below.refl w.heap.size w)
 unfold table_right_2.f at h
 have H:=h
 clear h
 replace H:=Option.bind_eq_some_iff.mp H
 obtain ⟨⟨t124,t125⟩,A20,H⟩:=H
 try dsimp only at H
 have A2:=Aside0.mk A20
 clear A20
 by_cases c3:t125=true
 ·subst c3
  rw [if_pos rfl] at H
  obtain rfl:=Option.some.inj H
  go_enter Tryz.func98,Tryz.ntmps98
  go_wp2_with (first|((with_reducible refine gate_callee (f:=99) rfl ?_);refine goesL_ (some 7) rfl rfl Tryz.func99 zb14 rfl #[.string a0] rfl zb2 ?_;(with_reducible refine (line_Host.calls a0 t124 true _ A2.out).mono ?_);rintro e w4 ⟨rfl,hb⟩;(try clear A2);refine ⟨_,rfl,?_⟩;replace HB:=Aside0.mk (below_step zb0 hb);(try clear hb)))
  go_ret
  exact ⟨zb6,zb0⟩
 replace c3:=Bool.eq_false_iff.mpr c3
 subst c3
 rw [if_neg (show ¬ (false=true) by decide)] at H
 obtain rfl:=Option.some.inj H
 go_enter Tryz.func98,Tryz.ntmps98
 go_wp2_with (first|((with_reducible refine gate_callee (f:=99) rfl ?_);refine goesL_ (some 7) rfl rfl Tryz.func99 zb14 rfl #[.string a0] rfl zb2 ?_;(with_reducible refine (line_Host.calls a0 t124 false _ A2.out).mono ?_);rintro e w5 ⟨rfl,hb⟩;(try clear A2);refine ⟨_,rfl,?_⟩;replace HB:=Aside0.mk (below_step zb0 hb);(try clear hb)))
 go_ret
 exact ⟨zb6,zb0⟩
def table_right.f (k:Nat) (a0_0:ByteArray) (l0_1:List ByteArray) (a0_2:Int) (a0_3:Int) (a0_4:Int) (a0_5:Int) (a0_6:Int) (a0_7:Int):Option Bool :=
 (table_bounds.f a0_0 l0_1 a0_2 a0_3 a0_4 a0_5 a0_6 a0_7).bind fun bs=>(anyO (fun (x:S111)=>table_right_1.f x.f0 x.f1 x.f2) bs).bind fun b1=>(anyO (fun h=>table_right_2.f h) l0_1).bind fun b2=>(table_Name.f k a0_0).bind fun b3 =>
  if b3=true then if b1=true then some false else if b2=true then some false else if 1 ≤ l0_1.length then some (decide ((l0_1.length:Int) ≤ 8)) else some false else some false
theorem table_right.mono : ∀ a0 a1 a2 a3 a4 a5 a6 a7 k,LeO (table_right.f k a0 a1 a2 a3 a4 a5 a6 a7) (table_right.f (k + 1) a0 a1 a2 a3 a4 a5 a6 a7):=by
 intro a0 a1 a2 a3 a4 a5 a6 a7 k
 unfold table_right.f
 exact LeO.bind (LeO.refl _) (fun _=>LeO.bind (LeO.refl _) (fun _=>LeO.bind (LeO.refl _) (fun _=>LeO.bind (table_Name.mono _ _) (fun _=>LeO.refl _))))
set_option maxHeartbeats 8000000 in
set_option maxRecDepth 100000 in
theorem table_right.calls (k:Nat) (a0_0:ByteArray) (A0_1:Option Addr) (c0_1:Nat) (l0_1:List ByteArray) (a0_2:Int) (a0_3:Int) (a0_4:Int) (a0_5:Int) (a0_6:Int) (a0_7:Int) (r:Bool) (w:World) (hr0_1:Kd.C Kd.string w A0_1 l0_1.length l0_1) (hc0_1:l0_1.length ≤ c0_1) (h:table_right.f k a0_0 l0_1 a0_2 a0_3 a0_4 a0_5 a0_6 a0_7=some r) :
 Calls Tryz.prog 67 #[.agg #[.string a0_0,.slice A0_1 l0_1.length c0_1,.int .i64 a0_2,.int .i64 a0_3,.int .i64 a0_4,.int .i64 a0_5,.int .i64 a0_6,.int .i64 a0_7]] w fun e w' => e = .returned (.bool r)∧Below w.heap.size w w' := by
 have hu:=Tryz.underlying64
 have HR:=Aside0.mk hr0_1
 have HC:=Aside0.mk hc0_1
 have EG:=Aside0.mk (enters_of Tryz.func96 zb14 rfl : ∀ args w,(callFunc 96 args).run Tryz.prog w = .ok (.enter 96 args) w)
 have EH:=Aside0.mk (enters_of Tryz.func98 zb14 rfl : ∀ args w,(callFunc 98 args).run Tryz.prog w = .ok (.enter 98 args) w)
 unfold table_right.f at h
 clear hr0_1 hc0_1
 obtain ⟨bs,hbs,h'⟩:=Option.bind_eq_some_iff.1 h
 clear h
 obtain ⟨b1,hb1,h⟩:=Option.bind_eq_some_iff.1 h'
 clear h'
 obtain ⟨b2,hb2,h'⟩:=Option.bind_eq_some_iff.1 h
 clear h
 obtain ⟨b3,hb3,h⟩:=Option.bind_eq_some_iff.1 h'
 clear h'
 have HBS:=Aside0.mk hbs
 have HB1:=Aside0.mk hb1
 have HB2:=Aside0.mk hb2
 have HB3:=Aside0.mk hb3
 clear hbs hb1 hb2 hb3
 cases b3
 ·rw [if_neg zb24] at h
  injection h with h
  subst h
  go_enter Tryz.func67,Tryz.ntmps67
  go_wp2_with (first
   | ((with_reducible refine gate_dst (N:=1) rfl ?_);refine box_event ?hg (N:=1) ?hd (cs:=#[.string a0_0,.slice A0_1 l0_1.length c0_1,.int .i64 a0_2,.int .i64 a0_3,.int .i64 a0_4,.int .i64 a0_5,.int .i64 a0_6,.int .i64 a0_7]) (t:=64) ?hr ?_;(case hd=>rfl);(case hg=>rfl);(case hr=>first|(go_simp;done)|(go_simp;rfl));intro X hX w1 hBX hbX;have X1:=Aside0.mk hBX;have L1:=Aside0.mk hbX;clear hBX hbX hX;have q0:w1.cell? ⟨X,0,none⟩=some (.string a0_0):=(blk_cell X1.out 0).trans rfl;have q1:w1.cell? ⟨X,1,none⟩=some (.slice A0_1 l0_1.length c0_1):=(blk_cell X1.out 1).trans rfl;have q2:w1.cell? ⟨X,2,none⟩=some (.int .i64 a0_2):=(blk_cell X1.out 2).trans rfl;have q3:w1.cell? ⟨X,3,none⟩=some (.int .i64 a0_3):=(blk_cell X1.out 3).trans rfl;have q4:w1.cell? ⟨X,4,none⟩=some (.int .i64 a0_4):=(blk_cell X1.out 4).trans rfl;have q5:w1.cell? ⟨X,5,none⟩=some (.int .i64 a0_5):=(blk_cell X1.out 5).trans rfl;have q6:w1.cell? ⟨X,6,none⟩=some (.int .i64 a0_6):=(blk_cell X1.out 6).trans rfl;have q7:w1.cell? ⟨X,7,none⟩=some (.int .i64 a0_7):=(blk_cell X1.out 7).trans rfl)
   | (go_at_call 66;(with_reducible refine (table_bounds.calls a0_0 A0_1 c0_1 l0_1 a0_2 a0_3 a0_4 a0_5 a0_6 a0_7 bs _ (Kd.C_below HR.out L1.out) HC.out HBS.out).mono ?_);rintro e w2 ⟨v0,rfl,h0,hb⟩;obtain ⟨AB,cB,rfl⟩:=Kd.R_slice h0;have X2:=Aside0.mk (blk_below X1.out hb);have L2:=Aside0.mk (below_step L1.out hb);have NB:=Aside0.mk (Kd.R_reads' h0).2.2;have NC:=Aside0.mk (Kd.R_reads' h0).2.1;clear hb h0)
   | (go_at_call 95;(refine (slices_ContainsFunc_bound.callsOf (fun x=>table_right_1.f x.f0 x.f1 x.f2) 96 #[] EG.out AB cB bs _ _ NB.out NC.out (fun W x b _ hq=> zb44) HB1.out).mono ?_);rintro e w3 ⟨rfl,hb⟩;have X3:=Aside0.mk (blk_below X2.out hb);have L3:=Aside0.mk (below_step L2.out hb);have q31:w3.cell? ⟨X,1,none⟩=some (.slice A0_1 l0_1.length c0_1):=(blk_cell X3.out 1).trans rfl;clear hb)
   | (go_at_call 97;(refine (slices_ContainsFunc_string_string.callsOf (fun h=>table_right_2.f h) 98 #[] EH.out A0_1 c0_1 l0_1 _ _ (Kd.C_below HR.out L3.out) HC.out (fun W x b _ hq=> zb62) HB2.out).mono ?_);rintro e w4 ⟨rfl,hb⟩;have X4:=Aside0.mk (blk_below X3.out hb);have L4:=Aside0.mk (below_step L3.out hb);have q40:w4.cell? ⟨X,0,none⟩=some (.string a0_0):=(blk_cell X4.out 0).trans rfl;clear hb)
   | (go_at_call 14;(with_reducible refine (table_Name.calls k a0_0 _ _ HB3.out).mono ?_);rintro e w5 ⟨rfl,hd⟩;have hb:=hd.below;have X5:=Aside0.mk (blk_below X4.out hb);have L5:=Aside0.mk (below_step L4.out hb);have q51:w5.cell? ⟨X,1,none⟩=some (.slice A0_1 l0_1.length c0_1):=(blk_cell X5.out 1).trans rfl;clear hb hd))
  go_ret
  exact ⟨zb46,L5.out⟩
 rw [if_pos rfl] at h
 cases b1
 rotate_left
 ·rw [if_pos rfl] at h
  injection h with h
  subst h
  go_enter Tryz.func67,Tryz.ntmps67
  go_wp2_with (first
   | ((with_reducible refine gate_dst (N:=1) rfl ?_);refine box_event ?hg (N:=1) ?hd (cs:=#[.string a0_0,.slice A0_1 l0_1.length c0_1,.int .i64 a0_2,.int .i64 a0_3,.int .i64 a0_4,.int .i64 a0_5,.int .i64 a0_6,.int .i64 a0_7]) (t:=64) ?hr ?_;(case hd=>rfl);(case hg=>rfl);(case hr=>first|(go_simp;done)|(go_simp;rfl));intro X hX w1 hBX hbX;have X1:=Aside0.mk hBX;have L1:=Aside0.mk hbX;clear hBX hbX hX;have q0:w1.cell? ⟨X,0,none⟩=some (.string a0_0):=(blk_cell X1.out 0).trans rfl;have q1:w1.cell? ⟨X,1,none⟩=some (.slice A0_1 l0_1.length c0_1):=(blk_cell X1.out 1).trans rfl;have q2:w1.cell? ⟨X,2,none⟩=some (.int .i64 a0_2):=(blk_cell X1.out 2).trans rfl;have q3:w1.cell? ⟨X,3,none⟩=some (.int .i64 a0_3):=(blk_cell X1.out 3).trans rfl;have q4:w1.cell? ⟨X,4,none⟩=some (.int .i64 a0_4):=(blk_cell X1.out 4).trans rfl;have q5:w1.cell? ⟨X,5,none⟩=some (.int .i64 a0_5):=(blk_cell X1.out 5).trans rfl;have q6:w1.cell? ⟨X,6,none⟩=some (.int .i64 a0_6):=(blk_cell X1.out 6).trans rfl;have q7:w1.cell? ⟨X,7,none⟩=some (.int .i64 a0_7):=(blk_cell X1.out 7).trans rfl)
   | (go_at_call 66;(with_reducible refine (table_bounds.calls a0_0 A0_1 c0_1 l0_1 a0_2 a0_3 a0_4 a0_5 a0_6 a0_7 bs _ (Kd.C_below HR.out L1.out) HC.out HBS.out).mono ?_);rintro e w2 ⟨v0,rfl,h0,hb⟩;obtain ⟨AB,cB,rfl⟩:=Kd.R_slice h0;have X2:=Aside0.mk (blk_below X1.out hb);have L2:=Aside0.mk (below_step L1.out hb);have NB:=Aside0.mk (Kd.R_reads' h0).2.2;have NC:=Aside0.mk (Kd.R_reads' h0).2.1;clear hb h0)
   | (go_at_call 95;(refine (slices_ContainsFunc_bound.callsOf (fun x=>table_right_1.f x.f0 x.f1 x.f2) 96 #[] EG.out AB cB bs _ _ NB.out NC.out (fun W x b _ hq=> zb44) HB1.out).mono ?_);rintro e w3 ⟨rfl,hb⟩;have X3:=Aside0.mk (blk_below X2.out hb);have L3:=Aside0.mk (below_step L2.out hb);have q31:w3.cell? ⟨X,1,none⟩=some (.slice A0_1 l0_1.length c0_1):=(blk_cell X3.out 1).trans rfl;clear hb)
   | (go_at_call 97;(refine (slices_ContainsFunc_string_string.callsOf (fun h=>table_right_2.f h) 98 #[] EH.out A0_1 c0_1 l0_1 _ _ (Kd.C_below HR.out L3.out) HC.out (fun W x b _ hq=> zb62) HB2.out).mono ?_);rintro e w4 ⟨rfl,hb⟩;have X4:=Aside0.mk (blk_below X3.out hb);have L4:=Aside0.mk (below_step L3.out hb);have q40:w4.cell? ⟨X,0,none⟩=some (.string a0_0):=(blk_cell X4.out 0).trans rfl;clear hb)
   | (go_at_call 14;(with_reducible refine (table_Name.calls k a0_0 _ _ HB3.out).mono ?_);rintro e w5 ⟨rfl,hd⟩;have hb:=hd.below;have X5:=Aside0.mk (blk_below X4.out hb);have L5:=Aside0.mk (below_step L4.out hb);have q51:w5.cell? ⟨X,1,none⟩=some (.slice A0_1 l0_1.length c0_1):=(blk_cell X5.out 1).trans rfl;clear hb hd))
  go_ret
  exact ⟨zb46,L5.out⟩
 rw [if_neg zb24] at h
 cases b2
 rotate_left
 ·rw [if_pos rfl] at h
  injection h with h
  subst h
  go_enter Tryz.func67,Tryz.ntmps67
  go_wp2_with (first
   | ((with_reducible refine gate_dst (N:=1) rfl ?_);refine box_event ?hg (N:=1) ?hd (cs:=#[.string a0_0,.slice A0_1 l0_1.length c0_1,.int .i64 a0_2,.int .i64 a0_3,.int .i64 a0_4,.int .i64 a0_5,.int .i64 a0_6,.int .i64 a0_7]) (t:=64) ?hr ?_;(case hd=>rfl);(case hg=>rfl);(case hr=>first|(go_simp;done)|(go_simp;rfl));intro X hX w1 hBX hbX;have X1:=Aside0.mk hBX;have L1:=Aside0.mk hbX;clear hBX hbX hX;have q0:w1.cell? ⟨X,0,none⟩=some (.string a0_0):=(blk_cell X1.out 0).trans rfl;have q1:w1.cell? ⟨X,1,none⟩=some (.slice A0_1 l0_1.length c0_1):=(blk_cell X1.out 1).trans rfl;have q2:w1.cell? ⟨X,2,none⟩=some (.int .i64 a0_2):=(blk_cell X1.out 2).trans rfl;have q3:w1.cell? ⟨X,3,none⟩=some (.int .i64 a0_3):=(blk_cell X1.out 3).trans rfl;have q4:w1.cell? ⟨X,4,none⟩=some (.int .i64 a0_4):=(blk_cell X1.out 4).trans rfl;have q5:w1.cell? ⟨X,5,none⟩=some (.int .i64 a0_5):=(blk_cell X1.out 5).trans rfl;have q6:w1.cell? ⟨X,6,none⟩=some (.int .i64 a0_6):=(blk_cell X1.out 6).trans rfl;have q7:w1.cell? ⟨X,7,none⟩=some (.int .i64 a0_7):=(blk_cell X1.out 7).trans rfl)
   | (go_at_call 66;(with_reducible refine (table_bounds.calls a0_0 A0_1 c0_1 l0_1 a0_2 a0_3 a0_4 a0_5 a0_6 a0_7 bs _ (Kd.C_below HR.out L1.out) HC.out HBS.out).mono ?_);rintro e w2 ⟨v0,rfl,h0,hb⟩;obtain ⟨AB,cB,rfl⟩:=Kd.R_slice h0;have X2:=Aside0.mk (blk_below X1.out hb);have L2:=Aside0.mk (below_step L1.out hb);have NB:=Aside0.mk (Kd.R_reads' h0).2.2;have NC:=Aside0.mk (Kd.R_reads' h0).2.1;clear hb h0)
   | (go_at_call 95;(refine (slices_ContainsFunc_bound.callsOf (fun x=>table_right_1.f x.f0 x.f1 x.f2) 96 #[] EG.out AB cB bs _ _ NB.out NC.out (fun W x b _ hq=> zb44) HB1.out).mono ?_);rintro e w3 ⟨rfl,hb⟩;have X3:=Aside0.mk (blk_below X2.out hb);have L3:=Aside0.mk (below_step L2.out hb);have q31:w3.cell? ⟨X,1,none⟩=some (.slice A0_1 l0_1.length c0_1):=(blk_cell X3.out 1).trans rfl;clear hb)
   | (go_at_call 97;(refine (slices_ContainsFunc_string_string.callsOf (fun h=>table_right_2.f h) 98 #[] EH.out A0_1 c0_1 l0_1 _ _ (Kd.C_below HR.out L3.out) HC.out (fun W x b _ hq=> zb62) HB2.out).mono ?_);rintro e w4 ⟨rfl,hb⟩;have X4:=Aside0.mk (blk_below X3.out hb);have L4:=Aside0.mk (below_step L3.out hb);have q40:w4.cell? ⟨X,0,none⟩=some (.string a0_0):=(blk_cell X4.out 0).trans rfl;clear hb)
   | (go_at_call 14;(with_reducible refine (table_Name.calls k a0_0 _ _ HB3.out).mono ?_);rintro e w5 ⟨rfl,hd⟩;have hb:=hd.below;have X5:=Aside0.mk (blk_below X4.out hb);have L5:=Aside0.mk (below_step L4.out hb);have q51:w5.cell? ⟨X,1,none⟩=some (.slice A0_1 l0_1.length c0_1):=(blk_cell X5.out 1).trans rfl;clear hb hd))
  go_ret
  exact ⟨zb46,L5.out⟩
 rw [if_neg zb24] at h
 by_cases c1:1 ≤ l0_1.length
 ·rw [if_pos c1] at h
  injection h with h
  subst h
  have e1:decide ((1:Int) ≤ (l0_1.length:Int))=true:=decide_eq_true zb16
  have e2:decide (1 ≤ l0_1.length)=true:=decide_eq_true zb16
  have e3:((1:Int) ≤ (l0_1.length:Int))=True:=eq_true zb16
  have e4:(1 ≤ l0_1.length)=True:=eq_true zb16
  have e5:(0 < l0_1.length)=True:=eq_true zb16
  have e6:decide (0 < l0_1.length)=true:=decide_eq_true zb16
  clear c1
  go_enter Tryz.func67,Tryz.ntmps67
  go_wp2_with (first
   | ((with_reducible refine gate_dst (N:=1) rfl ?_);refine box_event ?hg (N:=1) ?hd (cs:=#[.string a0_0,.slice A0_1 l0_1.length c0_1,.int .i64 a0_2,.int .i64 a0_3,.int .i64 a0_4,.int .i64 a0_5,.int .i64 a0_6,.int .i64 a0_7]) (t:=64) ?hr ?_;(case hd=>rfl);(case hg=>rfl);(case hr=>first|(go_simp;done)|(go_simp;rfl));intro X hX w1 hBX hbX;have X1:=Aside0.mk hBX;have L1:=Aside0.mk hbX;clear hBX hbX hX;have q0:w1.cell? ⟨X,0,none⟩=some (.string a0_0):=(blk_cell X1.out 0).trans rfl;have q1:w1.cell? ⟨X,1,none⟩=some (.slice A0_1 l0_1.length c0_1):=(blk_cell X1.out 1).trans rfl;have q2:w1.cell? ⟨X,2,none⟩=some (.int .i64 a0_2):=(blk_cell X1.out 2).trans rfl;have q3:w1.cell? ⟨X,3,none⟩=some (.int .i64 a0_3):=(blk_cell X1.out 3).trans rfl;have q4:w1.cell? ⟨X,4,none⟩=some (.int .i64 a0_4):=(blk_cell X1.out 4).trans rfl;have q5:w1.cell? ⟨X,5,none⟩=some (.int .i64 a0_5):=(blk_cell X1.out 5).trans rfl;have q6:w1.cell? ⟨X,6,none⟩=some (.int .i64 a0_6):=(blk_cell X1.out 6).trans rfl;have q7:w1.cell? ⟨X,7,none⟩=some (.int .i64 a0_7):=(blk_cell X1.out 7).trans rfl)
   | (go_at_call 66;(with_reducible refine (table_bounds.calls a0_0 A0_1 c0_1 l0_1 a0_2 a0_3 a0_4 a0_5 a0_6 a0_7 bs _ (Kd.C_below HR.out L1.out) HC.out HBS.out).mono ?_);rintro e w2 ⟨v0,rfl,h0,hb⟩;obtain ⟨AB,cB,rfl⟩:=Kd.R_slice h0;have X2:=Aside0.mk (blk_below X1.out hb);have L2:=Aside0.mk (below_step L1.out hb);have NB:=Aside0.mk (Kd.R_reads' h0).2.2;have NC:=Aside0.mk (Kd.R_reads' h0).2.1;clear hb h0)
   | (go_at_call 95;(refine (slices_ContainsFunc_bound.callsOf (fun x=>table_right_1.f x.f0 x.f1 x.f2) 96 #[] EG.out AB cB bs _ _ NB.out NC.out (fun W x b _ hq=> zb44) HB1.out).mono ?_);rintro e w3 ⟨rfl,hb⟩;have X3:=Aside0.mk (blk_below X2.out hb);have L3:=Aside0.mk (below_step L2.out hb);have q31:w3.cell? ⟨X,1,none⟩=some (.slice A0_1 l0_1.length c0_1):=(blk_cell X3.out 1).trans rfl;clear hb)
   | (go_at_call 97;(refine (slices_ContainsFunc_string_string.callsOf (fun h=>table_right_2.f h) 98 #[] EH.out A0_1 c0_1 l0_1 _ _ (Kd.C_below HR.out L3.out) HC.out (fun W x b _ hq=> zb62) HB2.out).mono ?_);rintro e w4 ⟨rfl,hb⟩;have X4:=Aside0.mk (blk_below X3.out hb);have L4:=Aside0.mk (below_step L3.out hb);have q40:w4.cell? ⟨X,0,none⟩=some (.string a0_0):=(blk_cell X4.out 0).trans rfl;clear hb)
   | (go_at_call 14;(with_reducible refine (table_Name.calls k a0_0 _ _ HB3.out).mono ?_);rintro e w5 ⟨rfl,hd⟩;have hb:=hd.below;have X5:=Aside0.mk (blk_below X4.out hb);have L5:=Aside0.mk (below_step L4.out hb);have q51:w5.cell? ⟨X,1,none⟩=some (.slice A0_1 l0_1.length c0_1):=(blk_cell X5.out 1).trans rfl;clear hb hd))
  go_ret
  exact ⟨zb46,L5.out⟩
 rw [if_neg c1] at h
 injection h with h
 subst h
 have e1:decide ((1:Int) ≤ (l0_1.length:Int))=false:=decide_eq_false zb16
 have e2:decide (1 ≤ l0_1.length)=false:=decide_eq_false zb16
 have e3:((1:Int) ≤ (l0_1.length:Int))=False:=eq_false zb16
 have e4:(1 ≤ l0_1.length)=False:=eq_false zb16
 have e5:(0 < l0_1.length)=False:=eq_false zb16
 have e6:decide (0 < l0_1.length)=false:=decide_eq_false zb16
 clear c1
 go_enter Tryz.func67,Tryz.ntmps67
 go_wp2_with (first
  | ((with_reducible refine gate_dst (N:=1) rfl ?_);refine box_event ?hg (N:=1) ?hd (cs:=#[.string a0_0,.slice A0_1 l0_1.length c0_1,.int .i64 a0_2,.int .i64 a0_3,.int .i64 a0_4,.int .i64 a0_5,.int .i64 a0_6,.int .i64 a0_7]) (t:=64) ?hr ?_;(case hd=>rfl);(case hg=>rfl);(case hr=>first|(go_simp;done)|(go_simp;rfl));intro X hX w1 hBX hbX;have X1:=Aside0.mk hBX;have L1:=Aside0.mk hbX;clear hBX hbX hX;have q0:w1.cell? ⟨X,0,none⟩=some (.string a0_0):=(blk_cell X1.out 0).trans rfl;have q1:w1.cell? ⟨X,1,none⟩=some (.slice A0_1 l0_1.length c0_1):=(blk_cell X1.out 1).trans rfl;have q2:w1.cell? ⟨X,2,none⟩=some (.int .i64 a0_2):=(blk_cell X1.out 2).trans rfl;have q3:w1.cell? ⟨X,3,none⟩=some (.int .i64 a0_3):=(blk_cell X1.out 3).trans rfl;have q4:w1.cell? ⟨X,4,none⟩=some (.int .i64 a0_4):=(blk_cell X1.out 4).trans rfl;have q5:w1.cell? ⟨X,5,none⟩=some (.int .i64 a0_5):=(blk_cell X1.out 5).trans rfl;have q6:w1.cell? ⟨X,6,none⟩=some (.int .i64 a0_6):=(blk_cell X1.out 6).trans rfl;have q7:w1.cell? ⟨X,7,none⟩=some (.int .i64 a0_7):=(blk_cell X1.out 7).trans rfl)
  | (go_at_call 66;(with_reducible refine (table_bounds.calls a0_0 A0_1 c0_1 l0_1 a0_2 a0_3 a0_4 a0_5 a0_6 a0_7 bs _ (Kd.C_below HR.out L1.out) HC.out HBS.out).mono ?_);rintro e w2 ⟨v0,rfl,h0,hb⟩;obtain ⟨AB,cB,rfl⟩:=Kd.R_slice h0;have X2:=Aside0.mk (blk_below X1.out hb);have L2:=Aside0.mk (below_step L1.out hb);have NB:=Aside0.mk (Kd.R_reads' h0).2.2;have NC:=Aside0.mk (Kd.R_reads' h0).2.1;clear hb h0)
  | (go_at_call 95;(refine (slices_ContainsFunc_bound.callsOf (fun x=>table_right_1.f x.f0 x.f1 x.f2) 96 #[] EG.out AB cB bs _ _ NB.out NC.out (fun W x b _ hq=> zb44) HB1.out).mono ?_);rintro e w3 ⟨rfl,hb⟩;have X3:=Aside0.mk (blk_below X2.out hb);have L3:=Aside0.mk (below_step L2.out hb);have q31:w3.cell? ⟨X,1,none⟩=some (.slice A0_1 l0_1.length c0_1):=(blk_cell X3.out 1).trans rfl;clear hb)
  | (go_at_call 97;(refine (slices_ContainsFunc_string_string.callsOf (fun h=>table_right_2.f h) 98 #[] EH.out A0_1 c0_1 l0_1 _ _ (Kd.C_below HR.out L3.out) HC.out (fun W x b _ hq=> zb62) HB2.out).mono ?_);rintro e w4 ⟨rfl,hb⟩;have X4:=Aside0.mk (blk_below X3.out hb);have L4:=Aside0.mk (below_step L3.out hb);have q40:w4.cell? ⟨X,0,none⟩=some (.string a0_0):=(blk_cell X4.out 0).trans rfl;clear hb)
  | (go_at_call 14;(with_reducible refine (table_Name.calls k a0_0 _ _ HB3.out).mono ?_);rintro e w5 ⟨rfl,hd⟩;have hb:=hd.below;have X5:=Aside0.mk (blk_below X4.out hb);have L5:=Aside0.mk (below_step L4.out hb);have q51:w5.cell? ⟨X,1,none⟩=some (.slice A0_1 l0_1.length c0_1):=(blk_cell X5.out 1).trans rfl;clear hb hd))
 go_ret
 exact ⟨zb46,L5.out⟩
/-- Is none of these among those that were met,or put in twice? -/
def unlikeB:List ByteArray → List ByteArray → Bool
 | _,[]=>true
 | S,x :: r=>if hasB S x=true then false else unlikeB (S ++ [x]) r
def table_unlike_string.f (l0:List ByteArray):Option Bool:=if l0.length ≤ 140737488355328 ∧ ∀ s ∈ l0,s.size ≤ 140737488355328 then some (unlikeB [] l0) else none
theorem uk_zero (w:World):(zeroValue 4).run Tryz.prog w = .ok (.bool false) w:=by kernel_rfl
set_option maxHeartbeats 8000000 in
set_option maxRecDepth 100000 in
theorem table_unlike_string.calls (A0:Option Addr) (c0:Nat) (l0:List ByteArray) (r:Bool) (w:World) (hr0:Kd.C Kd.string w A0 l0.length l0) (hc0:l0.length ≤ c0) (h:table_unlike_string.f l0=some r) :
 Calls Tryz.prog 68 #[.slice A0 l0.length c0] w fun e w' => e = .returned (.bool r)∧Below w.heap.size w w' := by
 have hu4:=Tryz.underlying107
 have hmm := @run_makeMap Tryz.prog
 have HR:=Aside0.mk hr0
 clear hr0
 unfold table_unlike_string.f at h
 by_cases hz:l0.length ≤ 140737488355328 ∧ ∀ s ∈ l0,s.size ≤ 140737488355328;rotate_left
 ·rw [if_neg hz] at h
  cases h
 rw [if_pos hz] at h
 injection h with h
 have HZ:=Aside0.mk hz
 have H0:=Aside0.mk (show unlikeB (l0.take (0:Int).toNat) (l0.drop (0:Int).toNat)=r from h)
 clear hz h
 have M8:=Aside0.mk (below_alloc (Below.refl w.heap.size w) (.map #[] 0))
 have SA:=Aside0.mk (SetB.make (P:=Tryz.prog) (K:=9) (E:=4) w)
 go_enter Tryz.func68,Tryz.ntmps68
 go_wp2
 go_loopg [9,5] l0.length (fun kq v _ wr => ∃ (x:Int),v = .int .i64 x∧Aside0 (0 ≤ x∧x ≤ l0.length∧(l0.length:Int) - x ≤ kq)∧Aside0 (Below w.heap.size w wr)∧Aside0 (SetB Tryz.prog 9 4 wr w.heap.size x.toNat (l0.take x.toNat))∧Aside0 (unlikeB (l0.take x.toNat) (l0.drop x.toNat)=r))
 case atStart=>exact ⟨0,rfl,⟨zb16⟩,M8,SA,H0⟩
 case round =>
  obtain ⟨x,rfl,HX,M3,SA3,HH⟩:=hrel
  clear SA M8 H0
  by_cases c4:x < (l0.length:Int);rotate_left
  ·have c4b0:=decide_eq_false c4
   have hh:=HH.out
   rw [List.drop_of_length_le zb86,unlikeB] at hh
   subst hh
   clear c4 HH
   go_wp2
   go_ret
   exact ⟨zb46,M3.out⟩
  have c4b0:=decide_eq_true c4
  have hlt:x.toNat < l0.length:=by have:=HX.out;omega
  have hrd:rdOf ByteArray.empty l0 x=l0[x.toNat]:=by simp [rdOf,List.getD_eq_getElem?_getD,List.getElem?_eq_getElem hlt]
  obtain ⟨ae,he,h0⟩:=Kd.at_string HR.out x HX.out.1 c4
  replace h0:=(M3.out.cell (World.block_lt_of_cell? w _ h0)).trans h0
  obtain ⟨y,hy⟩ : ∃ y,rdOf ByteArray.empty l0 x=y:=⟨_,rfl⟩
  have hmem:y ∈ l0:=by rw [← hy,hrd];exact List.getElem_mem hlt
  have htk:l0.take (x.toNat + 1)=l0.take x.toNat ++ [y]:=by rw [List.take_succ_eq_append_getElem hlt,← hrd,hy]
  have hh:=HH.out
  rw [List.drop_eq_getElem_cons hlt,← hrd,hy,unlikeB] at hh
  rw [hy] at h0
  have p8:(0 ≤ x)=True:=eq_true HX.out.1
  have q8:(x < (l0.length:Int))=True:=eq_true c4
  have HT1:=Aside0.mk htk
  have HM:=Aside0.mk (HZ.out.2 y hmem)
  have HL:=Aside0.mk (SA3.out.look Tryz.underlying107 Tryz.underlying9 Tryz.underlying4 (uk_zero wr) y (by have:=HM.out;unfold maxLen;omega))
  clear hlt hrd hy htk hmem c4
  subst he
  cases cS:hasB (l0.take x.toNat) y
  ·rw [cS,if_neg zb24] at hh
   have hlk:=HL.out
   rw [cS] at hlk
   have HN:=Aside0.mk hh
   clear hh cS HH HL
   go_wp2_with (first
    | (at_mapUpdate;refine wpList_mapUpdate_own _ rfl _ _ _ 107 rfl 9 4 (Go.Maps.string_keyed Tryz.underlying9) Tryz.underlying107 _ w.heap.size x.toNat _ rfl SA3.out (by have:=HX.out;have:=HZ.out.1;unfold maxLen;omega) _ _ _ rfl rfl (Go.WideMaps.keyOf_string_mk Tryz.underlying9 (by have:=HM.out;unfold maxLen;omega)) _ [] (plainElem_bool Tryz.underlying4 true) ?_;intro w5 hown5 hgrow5;have SA5:=Aside0.mk (SetB.put hown5);have M5:=Aside0.mk (M3.out.grown hgrow5 M3.out.size (fun j hj=>by injection hj with hj;omega))))
   go_roundg (gk - 1)
   case measure=>have:=HX.out;have:=of_eq_true q8;omega
   case rel =>
    have hx8:=HX.out
    have hq8:=of_eq_true q8
    have hw:wrap64 (x + 1)=x + 1:=by have:=HZ.out.1;unfold wrap64;omega
    have hw2:(wrap64 (x + 1)).toNat=x.toNat + 1:=by rw [hw];omega
    exact ⟨wrap64 (x + 1),zb46,⟨by rw [hw];omega⟩,M5,⟨by rw [hw2,HT1.out];exact SA5.out⟩,⟨by rw [hw2,HT1.out];exact HN.out⟩⟩
  ·rw [cS,if_pos rfl] at hh
   subst hh
   have hlk:=HL.out
   rw [cS] at hlk
   clear cS HH HL
   go_wp2
   go_ret
   exact ⟨zb46,M3.out⟩
mutual
def table_Right.j0:Nat → List (S64) → Bool → Option (Bool)
 | 0,_,_=>none
 | k + 1,x0,x14=>if x14=true then (some false) else (table_Right.l0 k ([]:List ByteArray) ([]:List ByteArray) x0 (x0.length:Int) 0)
def table_Right.l0:Nat → List ByteArray → List ByteArray → List (S64) → Int → Int → Option (Bool)
 | 0,_,_,_,_,_=>none
 | k + 1,x3,x4,x15,x16,x17=>if x17 < x16 then (if 0 ≤ x17 then (if x17 < (x15.length:Int) then ((table_right.f k ((rd_T64 x15 x17).f0) ((rd_T64 x15 x17).f1) ((rd_T64 x15 x17).f2) ((rd_T64 x15 x17).f3) ((rd_T64 x15 x17).f4) ((rd_T64 x15 x17).f5) ((rd_T64 x15 x17).f6) ((rd_T64 x15 x17).f7)).bind fun t142=>(if t142=true then (if x3.length < 8796093022208 then (if x4.length + ((rd_T64 x15 x17).f1).length < 8796093022208 then (table_Right.l0 k (x3 ++ [(rd_T64 x15 x17).f0]) (x4 ++ ((rd_T64 x15 x17).f1)) x15 x16 (wrap64 (x17 + 1))) else (none)) else (none)) else (some false))) else (none)) else (none)) else ((table_unlike_string.f x3).bind fun t149=>(if t149=true then ((table_unlike_string.f x4).bind fun t150=>(some t150)) else (some false)))
end
def table_Right.f (k:Nat) (l0:List (S64)):Option (Bool):=if (l0.length:Int) < 1 then (table_Right.j0 k l0 true) else (table_Right.j0 k l0 (decide ((l0.length:Int) > 16)))
theorem table_Right.mono_l : ∀ k,(∀ y0 y1,LeO (table_Right.j0 k y0 y1) (table_Right.j0 (k + 1) y0 y1))∧(∀ y0 y1 y2 y3 y4,LeO (table_Right.l0 k y0 y1 y2 y3 y4) (table_Right.l0 (k + 1) y0 y1 y2 y3 y4))
 | 0=>⟨fun _ _ r h=>by simp [table_Right.j0] at h,fun _ _ _ _ _ r h=>by simp [table_Right.l0] at h⟩
 | k + 1=>by
  obtain ⟨ih0,ih1⟩:=table_Right.mono_l k
  refine ⟨?_,?_⟩
  ·intro y0 y1
   unfold table_Right.j0
   repeat' first
   | (with_reducible exact ih0 _ _)
   | (with_reducible exact ih1 _ _ _ _ _)
   | (with_reducible exact table_right.mono _ _ _ _ _ _ _ _ _)
   | (with_reducible exact LeO.refl _)
   | (with_reducible exact LeO.none _)
   | (with_reducible refine LeO.ite ?_ ?_)
   | (with_reducible refine LeO.bind ?_ (fun _=>?_))
   | exact ih0 _ _
   | exact ih1 _ _ _ _ _
   | exact table_right.mono _ _ _ _ _ _ _ _ _
   | exact LeO.none _
   | refine LeO.ite ?_ ?_
   | refine LeO.bind ?_ (fun _=>?_)
  intro y0 y1 y2 y3 y4
  unfold table_Right.l0
  repeat' first
  | (with_reducible exact ih0 _ _)
  | (with_reducible exact ih1 _ _ _ _ _)
  | (with_reducible exact table_right.mono _ _ _ _ _ _ _ _ _)
  | (with_reducible exact LeO.refl _)
  | (with_reducible exact LeO.none _)
  | (with_reducible refine LeO.ite ?_ ?_)
  | (with_reducible refine LeO.bind ?_ (fun _=>?_))
  | exact ih0 _ _
  | exact ih1 _ _ _ _ _
  | exact table_right.mono _ _ _ _ _ _ _ _ _
  | exact LeO.none _
  | refine LeO.ite ?_ ?_
  | refine LeO.bind ?_ (fun _=>?_)
theorem table_Right.mono : ∀ a0 k,LeO (table_Right.f k a0) (table_Right.f (k + 1) a0):=by
 intro a0 k
 obtain ⟨ih0,ih1⟩:=table_Right.mono_l k
 unfold table_Right.f
 repeat' first
  | (with_reducible exact ih0 _ _)
  | (with_reducible exact ih1 _ _ _ _ _)
  | (with_reducible exact table_right.mono _ _ _ _ _ _ _ _ _)
  | (with_reducible exact LeO.refl _)
  | (with_reducible exact LeO.none _)
  | (with_reducible refine LeO.ite ?_ ?_)
  | (with_reducible refine LeO.bind ?_ (fun _=>?_))
  | exact ih0 _ _
  | exact ih1 _ _ _ _ _
  | exact table_right.mono _ _ _ _ _ _ _ _ _
  | exact LeO.none _
  | refine LeO.ite ?_ ?_
  | refine LeO.bind ?_ (fun _=>?_)
set_option maxHeartbeats 8000000 in
set_option maxRecDepth 100000 in
theorem table_Right.calls (k:Nat) (A0:Option Addr) (c0:Nat) (l0:List (S64)) (r:Bool) (w:World) (hr0:Kd.C k64 w A0 l0.length l0) (hc0:l0.length ≤ c0) (h:table_Right.f k l0=some r) :
 Calls Tryz.prog 31 #[.slice A0 l0.length c0] w fun e w' => e = .returned (.bool r)∧Below w.heap.size w w' := by
 have hu64:=Tryz.underlying64
 have HR0:=Aside0.mk hr0
 have HC0:=Aside0.mk hc0
 clear hr0 hc0
 have HB:=Aside0.mk (Below.refl w.heap.size w)
 unfold table_Right.f at h
 have H:=h
 clear h
 have HC2:=Aside0.mk H
 clear H
 go_enter Tryz.func31,Tryz.ntmps31
 go_upto_region 1 with (fail)
 go_cut [14] (fun v14 wc => ∃ (kq:Nat) (x14_1:Bool),v14 = .bool x14_1∧Aside0 (table_Right.j0 kq l0 x14_1=some r)∧Aside0 (kq ≤ k)∧Aside0 (Below w.heap.size w wc))
 case first =>
  have H:=HC2.out
  clear HC2
  by_cases c3:(l0.length:Int) < 1
  ·rw [if_pos c3] at H
   have c3b0:=decide_eq_true c3
   have c3b1:decide (l0.length < 1)=true:=decide_eq_true zb16
   clear c3
   (first|rw [c3b0]|(simp only [i64_w,i32_w];rw [c3b0])|rw [c3b1]|skip)
   have H' := Aside0.mk H
   clear H
   go_wp2
   go_meet
   case rel=>exact ⟨_,(true),zb5,H',⟨zb60⟩,⟨zb0⟩⟩
  rw [if_neg c3] at H
  have c3b0:=decide_eq_false c3
  have c3b1:decide (l0.length < 1)=false:=decide_eq_false zb16
  clear c3
  (first|rw [c3b0]|(simp only [i64_w,i32_w];rw [c3b0])|rw [c3b1]|skip)
  have H' := Aside0.mk H
  clear H
  go_wp2
  go_meet
  case rel=>exact ⟨_,(decide ((l0.length:Int) > 16)),zb5,H',⟨zb60⟩,⟨zb0⟩⟩
 case rest =>
  clear HC2
  try clear p2
  try clear c3
  try clear c3b0
  try clear c3b1
  obtain ⟨kq,x14_1,rfl,HA,HJ1,HB⟩:=hcut
  cases kq with
  | zero=>exact absurd HA.out (by simp [table_Right.j0])
  | succ kj1 =>
   have H:=HA.out
   clear HA
   simp only [table_Right.j0] at H
   by_cases c4:x14_1=true
   ·subst c4
    rw [if_pos rfl] at H
    obtain rfl:=Option.some.inj H
    go_wp2
    go_ret
    exact ⟨zb6,zb0⟩
   replace c4:=Bool.eq_false_iff.mpr c4
   subst c4
   rw [if_neg (show ¬ (false=true) by decide)] at H
   have H' := Aside0.mk H
   clear H
   go_wp2
   go_loopg [3,4,17] kj1 (fun kq v3 v4 v17 w' => ∃ (x3_2:List ByteArray) (x4_2:List ByteArray) (x17_2:Int),v17 = .int .i64 x17_2∧Aside0 (table_Right.l0 kq x3_2 x4_2 l0 (l0.length:Int) x17_2=some r)∧Aside0 (kq ≤ kj1)∧Aside0 (Kd.R Kd.string 9 w' w.heap.size (fun k_=>some k_ ≠ (v4:Value).ownBlock) v3 x3_2)∧Aside0 (Kd.R Kd.string 9 w' w.heap.size (fun k_=>some k_ ≠ (v3:Value).ownBlock) v4 x4_2)∧Aside0 (Below w.heap.size w w'))
   case atStart=>exact ⟨(([]:List ByteArray)),(([]:List ByteArray)),(0),zb5,H',⟨Nat.le_refl _⟩,⟨zb63⟩,⟨zb63⟩,⟨zb0⟩⟩
   case round =>
    clear H'
    try clear p2
    try clear c3
    try clear c3b0
    try clear c3b1
    try clear c4
    try clear p2
    obtain ⟨x3_2,x4_2,x17_2,rfl,HA,HK2,HO_3,HO_4,HB⟩:=hrel
    cases gk with
    | zero=>exact absurd HA.out (by simp [table_Right.l0])
    | succ k2 =>
     have H:=HA.out
     clear HA
     simp only [table_Right.l0] at H
     by_cases c5:x17_2 < (l0.length:Int);rotate_left
     ·rw [if_neg c5] at H
      have c5b0:=decide_eq_false c5
      clear c5
      replace H:=Option.bind_eq_some_iff.mp H
      obtain ⟨t41,A42,H⟩:=H
      try dsimp only at H
      have A22:=Aside0.mk A42
      clear A42
      by_cases c23:t41=true;rotate_left
      ·replace c23:=Bool.eq_false_iff.mpr c23
       subst c23
       rw [if_neg (show ¬ (false=true) by decide)] at H
       obtain rfl:=Option.some.inj H
       obtain ⟨Ao29,co29,eo29⟩:=Kd.R_slice HO_3.out
       subst eo29
       go_wp2_with (first|((with_reducible refine gate_callee (f:=68) rfl ?_);refine goesL_ (some 35) rfl rfl Tryz.func68 zb14 rfl #[.slice Ao29 x3_2.length co29] rfl zb2 ?_;(with_reducible refine (table_unlike_string.calls _ _ x3_2 false _ ?side1 ?side2 A22.out).mono ?_);(case side1=>exact zb71);(case side2=>exact (Kd.R_reads' HO_3.out).2.1);rintro e w30 ⟨rfl,hb⟩;(try clear A22);refine ⟨_,rfl,?_⟩;replace HO_3:=Aside0.mk (Kd.R_below zb15 hb);replace HO_4:=Aside0.mk (Kd.R_below zb4 hb);replace HB:=Aside0.mk (below_step zb0 hb);(try clear hb)))
       go_ret
       exact ⟨zb6,zb0⟩
      subst c23
      rw [if_pos rfl] at H
      replace H:=Option.bind_eq_some_iff.mp H
      obtain ⟨t38,A43,H⟩:=H
      try dsimp only at H
      have A24:=Aside0.mk A43
      clear A43
      obtain rfl:=Option.some.inj H
      obtain ⟨Ao25,co25,eo25⟩:=Kd.R_slice HO_3.out
      subst eo25
      go_wp2_with (first|((with_reducible refine gate_callee (f:=68) rfl ?_);refine goesL_ (some 35) rfl rfl Tryz.func68 zb14 rfl #[.slice Ao25 x3_2.length co25] rfl zb2 ?_;(with_reducible refine (table_unlike_string.calls _ _ x3_2 true _ ?side1 ?side2 A22.out).mono ?_);(case side1=>exact zb71);(case side2=>exact (Kd.R_reads' HO_3.out).2.1);rintro e w26 ⟨rfl,hb⟩;(try clear A22);refine ⟨_,rfl,?_⟩;replace HO_3:=Aside0.mk (Kd.R_below zb15 hb);replace HO_4:=Aside0.mk (Kd.R_below zb4 hb);replace HB:=Aside0.mk (below_step zb0 hb);(try clear hb);obtain ⟨Ao27,co27,eo27⟩:=Kd.R_slice HO_4.out;subst eo27)|(go_at_call 68;(with_reducible refine (table_unlike_string.calls _ _ x4_2 t38 _ ?side1 ?side2 A24.out).mono ?_);(case side1=>repeat (first|exact (Kd.R_reads' HO_4.out).2.2|(with_reducible refine Kd.C_alloc ?_ _)|(with_reducible refine Kd.C_drewN ?_ _)|(with_reducible refine Kd.C_drew ?_)));(case side2=>exact (Kd.R_reads' HO_4.out).2.1);rintro e w28 ⟨rfl,hb⟩;(try clear A24);replace HO_3:=Aside0.mk (Kd.R_below zb15 hb);replace HO_4:=Aside0.mk (Kd.R_below zb4 hb);replace HB:=Aside0.mk (below_step zb0 hb);(try clear hb)))
      go_ret
      exact ⟨zb6,zb0⟩
     rw [if_pos c5] at H
     have c5b0:=decide_eq_true c5
     clear c5
     by_cases c6:0 ≤ x17_2
     ·rw [if_pos c6] at H
      have c6b0:=decide_eq_true c6
      clear c6
      by_cases c7:x17_2 < (l0.length:Int)
      ·rw [if_pos c7] at H
       have c7b0:=decide_eq_true c7
       clear c7
       replace H:=Option.bind_eq_some_iff.mp H
       obtain ⟨t40,A80,H⟩:=H
       try dsimp only at H
       have A8:=Aside0.mk A80
       clear A80
       by_cases c9:t40=true
       ·subst c9
        rw [if_pos rfl] at H
        by_cases c10:x3_2.length < 8796093022208
        ·rw [if_pos c10] at H
         have LMc10:=Aside0.mk c10
         clear c10
         obtain ⟨y36,hy36⟩ : ∃ y_:List ByteArray,y_=(x3_2 ++ [(rd_T64 l0 x17_2).f0]):=⟨_,rfl⟩
         replace H:(if x4_2.length + ((rd_T64 l0 x17_2).f1).length < 8796093022208 then (table_Right.l0 k2 y36 (x4_2 ++ ((rd_T64 l0 x17_2).f1)) l0 (l0.length:Int) (wrap64 (x17_2 + 1))) else (none))=some r:=by first|(rw [hy36];with_reducible exact H)|(have H2_:=(Option.bind_some _ _).symm.trans H;rw [hy36];with_reducible exact H2_)|(have H2_:=(Option.bind_some _ _).symm.trans H;with_reducible exact H2_)|with_reducible exact H|(rw [hy36];exact H)|exact H
         have Ny36:=Aside0.mk hy36
         clear hy36
         by_cases c11:x4_2.length + ((rd_T64 l0 x17_2).f1).length < 8796093022208;rotate_left
         ·rw [if_neg c11] at H
          exact absurd H zb24
         rw [if_pos c11] at H
         have LMc11:=Aside0.mk c11
         clear c11
         obtain ⟨y37,hy37⟩ : ∃ y_:List ByteArray,y_=(x4_2 ++ ((rd_T64 l0 x17_2).f1)):=⟨_,rfl⟩
         replace H:(table_Right.l0 k2 y36 y37 l0 (l0.length:Int) (wrap64 (x17_2 + 1)))=some r:=by first|(rw [hy37];with_reducible exact H)|(have H2_:=(Option.bind_some _ _).symm.trans H;rw [hy37];with_reducible exact H2_)|(have H2_:=(Option.bind_some _ _).symm.trans H;with_reducible exact H2_)|with_reducible exact H|(rw [hy37];exact H)|exact H
         have Ny37:=Aside0.mk hy37
         clear hy37
         have H' := Aside0.mk H
         clear H
         have p35:0 ≤ (x17_2:Int):=of_decide_eq_true zb1
         have q35:x17_2 < (l0.length:Int):=of_decide_eq_true zb1
         obtain ⟨ad35,A35_1,c35_1,e35,hx35_0,hx35_1,hx35_2,hx35_3,hx35_4,hx35_5,hx35_6,hx35_7,hl35_1,hi35_1⟩:=at_T64 HR0.out x17_2 p35 q35
         cases e35
         replace hx35_0:=(HB.out.cell (World.block_lt_of_cell? w _ hx35_0)).trans hx35_0
         replace hx35_1:=(HB.out.cell (World.block_lt_of_cell? w _ hx35_1)).trans hx35_1
         replace hx35_2:=(HB.out.cell (World.block_lt_of_cell? w _ hx35_2)).trans hx35_2
         replace hx35_3:=(HB.out.cell (World.block_lt_of_cell? w _ hx35_3)).trans hx35_3
         replace hx35_4:=(HB.out.cell (World.block_lt_of_cell? w _ hx35_4)).trans hx35_4
         replace hx35_5:=(HB.out.cell (World.block_lt_of_cell? w _ hx35_5)).trans hx35_5
         replace hx35_6:=(HB.out.cell (World.block_lt_of_cell? w _ hx35_6)).trans hx35_6
         replace hx35_7:=(HB.out.cell (World.block_lt_of_cell? w _ hx35_7)).trans hx35_7
         have HR35_1:=Aside0.mk hi35_1
         have HC35_1:=Aside0.mk hl35_1
         clear hi35_1 hl35_1
         replace p35:=eq_true p35
         replace q35:=eq_true q35
         go_wp2_with (first|((with_reducible refine gate_dst (N:=6) rfl ?_);(try (refine gate_guard zb45 ?_;dsimp only));refine box_event rfl (N:=6) rfl (cs:=#[.string (⟨#[]⟩:ByteArray),.slice none 0 0,.int .i64 0,.int .i64 0,.int .i64 0,.int .i64 0,.int .i64 0,.int .i64 0]) (t:=64) zS ?_;intro gb33 hg w12 hbox hb;replace HO_3:=Aside0.mk (Kd.R_below zb15 hb);replace HO_4:=Aside0.mk (Kd.R_below zb4 hb);have BK33:=Aside0.mk (hbox);have GW33:=zG hg zb0;have GE33:=GW33;replace HB:=Aside0.mk (below_step zb0 hb);clear hb hbox hg;have hcz13_0:w12.cell? ⟨gb33,0,none⟩=some (.string (⟨#[]⟩:ByteArray)):=(blk_cell BK33.out 0).trans rfl;have hcz13_1:w12.cell? ⟨gb33,1,none⟩=some (.slice none 0 0):=(blk_cell BK33.out 1).trans rfl;have hcz13_2:w12.cell? ⟨gb33,2,none⟩=some (.int .i64 0):=(blk_cell BK33.out 2).trans rfl;have hcz13_3:w12.cell? ⟨gb33,3,none⟩=some (.int .i64 0):=(blk_cell BK33.out 3).trans rfl;have hcz13_4:w12.cell? ⟨gb33,4,none⟩=some (.int .i64 0):=(blk_cell BK33.out 4).trans rfl;have hcz13_5:w12.cell? ⟨gb33,5,none⟩=some (.int .i64 0):=(blk_cell BK33.out 5).trans rfl;have hcz13_6:w12.cell? ⟨gb33,6,none⟩=some (.int .i64 0):=(blk_cell BK33.out 6).trans rfl;have hcz13_7:w12.cell? ⟨gb33,7,none⟩=some (.int .i64 0):=(blk_cell BK33.out 7).trans rfl;have hfz13_0:=blk_frozen BK33.out 0;have hfz13_1:=blk_frozen BK33.out 1;have hfz13_2:=blk_frozen BK33.out 2;have hfz13_3:=blk_frozen BK33.out 3;have hfz13_4:=blk_frozen BK33.out 4;have hfz13_5:=blk_frozen BK33.out 5;have hfz13_6:=blk_frozen BK33.out 6;have hfz13_7:=blk_frozen BK33.out 7)|((with_reducible refine gate_callee (f:=67) rfl ?_);refine goesL_ (some 22) rfl rfl Tryz.func67 zb14 rfl #[.agg #[.string ((rd_T64 l0 x17_2).f0),.slice A35_1 ((rd_T64 l0 x17_2).f1).length c35_1,.int .i64 ((rd_T64 l0 x17_2).f2),.int .i64 ((rd_T64 l0 x17_2).f3),.int .i64 ((rd_T64 l0 x17_2).f4),.int .i64 ((rd_T64 l0 x17_2).f5),.int .i64 ((rd_T64 l0 x17_2).f6),.int .i64 ((rd_T64 l0 x17_2).f7)]] rfl zb2 ?_;(with_reducible refine (table_right.calls k2 ((rd_T64 l0 x17_2).f0) _ _ ((rd_T64 l0 x17_2).f1) ((rd_T64 l0 x17_2).f2) ((rd_T64 l0 x17_2).f3) ((rd_T64 l0 x17_2).f4) ((rd_T64 l0 x17_2).f5) ((rd_T64 l0 x17_2).f6) ((rd_T64 l0 x17_2).f7) true _ ?side1 ?side2 A8.out).mono ?_);(case side1=>exact zb65);(case side2=>exact HC35_1.out);rintro e w14 ⟨rfl,hb⟩;(try clear A8);refine ⟨_,rfl,?_⟩;replace HO_3:=Aside0.mk (Kd.R_below zb19 hb);replace HO_4:=Aside0.mk (Kd.R_below zb20 hb);replace BK33:=Aside0.mk (blk_below (g:=gb33) (o:=.cells #[.string ((rd_T64 l0 x17_2).f0),.slice A35_1 ((rd_T64 l0 x17_2).f1).length c35_1,.int .i64 ((rd_T64 l0 x17_2).f2),.int .i64 ((rd_T64 l0 x17_2).f3),.int .i64 ((rd_T64 l0 x17_2).f4),.int .i64 ((rd_T64 l0 x17_2).f5),.int .i64 ((rd_T64 l0 x17_2).f6),.int .i64 ((rd_T64 l0 x17_2).f7)] 64 (0,0)) zb8 hb);replace HB:=Aside0.mk (below_step zb21 hb);(try clear hb);have hcz15_0:w14.cell? ⟨gb33,0,none⟩=some (.string ((rd_T64 l0 x17_2).f0)):=(blk_cell BK33.out 0).trans rfl;have hcz15_1:w14.cell? ⟨gb33,1,none⟩=some (.slice A35_1 ((rd_T64 l0 x17_2).f1).length c35_1):=(blk_cell BK33.out 1).trans rfl;have hcz15_2:w14.cell? ⟨gb33,2,none⟩=some (.int .i64 ((rd_T64 l0 x17_2).f2)):=(blk_cell BK33.out 2).trans rfl;have hcz15_3:w14.cell? ⟨gb33,3,none⟩=some (.int .i64 ((rd_T64 l0 x17_2).f3)):=(blk_cell BK33.out 3).trans rfl;have hcz15_4:w14.cell? ⟨gb33,4,none⟩=some (.int .i64 ((rd_T64 l0 x17_2).f4)):=(blk_cell BK33.out 4).trans rfl;have hcz15_5:w14.cell? ⟨gb33,5,none⟩=some (.int .i64 ((rd_T64 l0 x17_2).f5)):=(blk_cell BK33.out 5).trans rfl;have hcz15_6:w14.cell? ⟨gb33,6,none⟩=some (.int .i64 ((rd_T64 l0 x17_2).f6)):=(blk_cell BK33.out 6).trans rfl;have hcz15_7:w14.cell? ⟨gb33,7,none⟩=some (.int .i64 ((rd_T64 l0 x17_2).f7)):=(blk_cell BK33.out 7).trans rfl;have hfz15_0:=blk_frozen BK33.out 0;have hfz15_1:=blk_frozen BK33.out 1;have hfz15_2:=blk_frozen BK33.out 2;have hfz15_3:=blk_frozen BK33.out 3;have hfz15_4:=blk_frozen BK33.out 4;have hfz15_5:=blk_frozen BK33.out 5;have hfz15_6:=blk_frozen BK33.out 6;have hfz15_7:=blk_frozen BK33.out 7)|((with_reducible refine gate_builtin (b:=.append) (xs:=#[.tmp 24,.tmp 27]) rfl ?_);(try (refine gate_guard zb45 ?_;dsimp only));at_builtin;refine Kd.R_append Kd.string (w0:=w) w.heap.size rfl (.tmp 24) (.tmp 27) 34 9 (.string ⟨#[]⟩) 16 rfl Tryz.underlying34 info9 rfl zb22 zb16 u3 x3_2 ((rd_T64 l0 x17_2).f0) [.string ((rd_T64 l0 x17_2).f0)] (fun k_=>some k_ ≠ (u4:Value).ownBlock) (fun _=>False) rfl rfl ?aP (fun _ hk=>hk.elim) ?aF ?aO ?aB ?aS ?aL ?_;(case aP=>exact rfl);(case aB=>exact zb76);(case aF=>exact (fun k_ hk=>Kd.fresh' (Kd.R_lt zb4) k_ hk));(case aO=>exact zb31);(case aS=>exact zb66);(case aL=>have:=LMc10.out;omega);intro v44 w16 ho hb hg hat;rw [← Ny36.out] at ho;replace HO_4:=Aside0.mk (Kd.R_after (ok:=(fun _=>True)) (by (with_reducible repeat (first|apply Kd.R_alloc|apply Kd.R_drewN|apply Kd.R_drew));exact Kd.R_mono HO_4.out (fun _ hk=>⟨trivial,hk⟩)) hg hat);replace BK33:=Aside0.mk (blk_grown (g:=gb33) (o:=.cells #[.string ((rd_T64 l0 x17_2).f0),.slice A35_1 ((rd_T64 l0 x17_2).f1).length c35_1,.int .i64 ((rd_T64 l0 x17_2).f2),.int .i64 ((rd_T64 l0 x17_2).f3),.int .i64 ((rd_T64 l0 x17_2).f4),.int .i64 ((rd_T64 l0 x17_2).f5),.int .i64 ((rd_T64 l0 x17_2).f6),.int .i64 ((rd_T64 l0 x17_2).f7)] 64 (0,0)) zb83 hg (Kd.R_ne HO_3.out BK33.out zb22));replace HB:=Aside0.mk (hb);have HO39:=Aside0.mk (ho);clear ho hb hg hat;have hcz17_0:w16.cell? ⟨gb33,0,none⟩=some (.string ((rd_T64 l0 x17_2).f0)):=(blk_cell BK33.out 0).trans rfl;have hcz17_1:w16.cell? ⟨gb33,1,none⟩=some (.slice A35_1 ((rd_T64 l0 x17_2).f1).length c35_1):=(blk_cell BK33.out 1).trans rfl;have hcz17_2:w16.cell? ⟨gb33,2,none⟩=some (.int .i64 ((rd_T64 l0 x17_2).f2)):=(blk_cell BK33.out 2).trans rfl;have hcz17_3:w16.cell? ⟨gb33,3,none⟩=some (.int .i64 ((rd_T64 l0 x17_2).f3)):=(blk_cell BK33.out 3).trans rfl;have hcz17_4:w16.cell? ⟨gb33,4,none⟩=some (.int .i64 ((rd_T64 l0 x17_2).f4)):=(blk_cell BK33.out 4).trans rfl;have hcz17_5:w16.cell? ⟨gb33,5,none⟩=some (.int .i64 ((rd_T64 l0 x17_2).f5)):=(blk_cell BK33.out 5).trans rfl;have hcz17_6:w16.cell? ⟨gb33,6,none⟩=some (.int .i64 ((rd_T64 l0 x17_2).f6)):=(blk_cell BK33.out 6).trans rfl;have hcz17_7:w16.cell? ⟨gb33,7,none⟩=some (.int .i64 ((rd_T64 l0 x17_2).f7)):=(blk_cell BK33.out 7).trans rfl;have hfz17_0:=blk_frozen BK33.out 0;have hfz17_1:=blk_frozen BK33.out 1;have hfz17_2:=blk_frozen BK33.out 2;have hfz17_3:=blk_frozen BK33.out 3;have hfz17_4:=blk_frozen BK33.out 4;have hfz17_5:=blk_frozen BK33.out 5;have hfz17_6:=blk_frozen BK33.out 6;have hfz17_7:=blk_frozen BK33.out 7)|((with_reducible refine gate_builtin (b:=.append) (xs:=#[.tmp 29,.tmp 31]) rfl ?_);(try (refine gate_guard zb45 ?_;dsimp only));at_builtin;refine Kd.R_append_rows Kd.string (w0:=w) w.heap.size rfl (.tmp 29) (.tmp 31) 34 9 (.string ⟨#[]⟩) 16 rfl Tryz.underlying34 info9 rfl zb22 zb16 u4 x4_2 ((rd_T64 l0 x17_2).f1) _ _ _ (fun k_=>some k_ ≠ (v44:Value).ownBlock) (fun _=>False) rfl rfl ?aO ?aR (fun _ _ h=>h) (fun _ h=>h.elim) ?aF ?aB ?aS ?aL ?_;(case aR=>repeat (first|exact (Kd.C_below HR35_1.out HB.out)|(with_reducible refine Kd.C_alloc ?_ _)|(with_reducible refine Kd.C_drewN ?_ _)|(with_reducible refine Kd.C_drew ?_)));(case aB=>exact zb76);(case aF=>exact (fun k_ hk=>Kd.fresh' (Kd.R_lt (by (with_reducible repeat (first|apply Kd.R_alloc|apply Kd.R_drewN|apply Kd.R_drew));exact HO39.out)) k_ hk));(case aO=>exact (by (with_reducible repeat (first|apply Kd.R_alloc|apply Kd.R_drewN|apply Kd.R_drew));exact Kd.R_mono HO_4.out (fun _ hk=>hk.2)));(case aS=>exact zb66);(case aL=>have:=LMc11.out;omega);intro v46 w18 ho hb hg hat;rw [← Ny37.out] at ho;replace BK33:=Aside0.mk (blk_grown (g:=gb33) (o:=.cells #[.string ((rd_T64 l0 x17_2).f0),.slice A35_1 ((rd_T64 l0 x17_2).f1).length c35_1,.int .i64 ((rd_T64 l0 x17_2).f2),.int .i64 ((rd_T64 l0 x17_2).f3),.int .i64 ((rd_T64 l0 x17_2).f4),.int .i64 ((rd_T64 l0 x17_2).f5),.int .i64 ((rd_T64 l0 x17_2).f6),.int .i64 ((rd_T64 l0 x17_2).f7)] 64 (0,0)) zb83 hg (Kd.R_ne HO_4.out BK33.out zb22));replace HO39:=Aside0.mk (Kd.R_after (ok:=(fun _=>True)) (by (with_reducible repeat (first|apply Kd.R_alloc|apply Kd.R_drewN|apply Kd.R_drew));exact Kd.R_mono HO39.out (fun _ hk=>⟨trivial,hk⟩)) hg hat);replace HB:=Aside0.mk (hb);have HO45:=Aside0.mk (ho);clear ho hb hg hat))
         go_roundg k2
         case measure=>have:=HJ1.out;have:=HK2.out;omega
         case rel=>exact ⟨(y36),(y37),(wrap64 (x17_2 + 1)),zb5,H',⟨zb68⟩,⟨by (with_reducible repeat (first|apply Kd.R_alloc|apply Kd.R_drewN|apply Kd.R_drew));exact Kd.R_mono HO39.out (fun _ hk=>hk.2)⟩,⟨by (with_reducible repeat (first|apply Kd.R_alloc|apply Kd.R_drewN|apply Kd.R_drew));exact HO45.out⟩,⟨zb21⟩⟩
        ·rw [if_neg c10] at H
         exact absurd H zb24
       ·replace c9:=Bool.eq_false_iff.mpr c9
        subst c9
        rw [if_neg (show ¬ (false=true) by decide)] at H
        obtain rfl:=Option.some.inj H
        have p35:0 ≤ (x17_2:Int):=of_decide_eq_true zb1
        have q35:x17_2 < (l0.length:Int):=of_decide_eq_true zb1
        obtain ⟨ad35,A35_1,c35_1,e35,hx35_0,hx35_1,hx35_2,hx35_3,hx35_4,hx35_5,hx35_6,hx35_7,hl35_1,hi35_1⟩:=at_T64 HR0.out x17_2 p35 q35
        cases e35
        replace hx35_0:=(HB.out.cell (World.block_lt_of_cell? w _ hx35_0)).trans hx35_0
        replace hx35_1:=(HB.out.cell (World.block_lt_of_cell? w _ hx35_1)).trans hx35_1
        replace hx35_2:=(HB.out.cell (World.block_lt_of_cell? w _ hx35_2)).trans hx35_2
        replace hx35_3:=(HB.out.cell (World.block_lt_of_cell? w _ hx35_3)).trans hx35_3
        replace hx35_4:=(HB.out.cell (World.block_lt_of_cell? w _ hx35_4)).trans hx35_4
        replace hx35_5:=(HB.out.cell (World.block_lt_of_cell? w _ hx35_5)).trans hx35_5
        replace hx35_6:=(HB.out.cell (World.block_lt_of_cell? w _ hx35_6)).trans hx35_6
        replace hx35_7:=(HB.out.cell (World.block_lt_of_cell? w _ hx35_7)).trans hx35_7
        have HR35_1:=Aside0.mk hi35_1
        have HC35_1:=Aside0.mk hl35_1
        clear hi35_1 hl35_1
        replace p35:=eq_true p35
        replace q35:=eq_true q35
        go_wp2_with (first|((with_reducible refine gate_dst (N:=6) rfl ?_);(try (refine gate_guard zb45 ?_;dsimp only));refine box_event rfl (N:=6) rfl (cs:=#[.string (⟨#[]⟩:ByteArray),.slice none 0 0,.int .i64 0,.int .i64 0,.int .i64 0,.int .i64 0,.int .i64 0,.int .i64 0]) (t:=64) zS ?_;intro gb33 hg w19 hbox hb;replace HO_3:=Aside0.mk (Kd.R_below zb15 hb);replace HO_4:=Aside0.mk (Kd.R_below zb4 hb);have BK33:=Aside0.mk (hbox);have GW33:=zG hg zb0;have GE33:=GW33;replace HB:=Aside0.mk (below_step zb0 hb);clear hb hbox hg;have hcz20_0:w19.cell? ⟨gb33,0,none⟩=some (.string (⟨#[]⟩:ByteArray)):=(blk_cell BK33.out 0).trans rfl;have hcz20_1:w19.cell? ⟨gb33,1,none⟩=some (.slice none 0 0):=(blk_cell BK33.out 1).trans rfl;have hcz20_2:w19.cell? ⟨gb33,2,none⟩=some (.int .i64 0):=(blk_cell BK33.out 2).trans rfl;have hcz20_3:w19.cell? ⟨gb33,3,none⟩=some (.int .i64 0):=(blk_cell BK33.out 3).trans rfl;have hcz20_4:w19.cell? ⟨gb33,4,none⟩=some (.int .i64 0):=(blk_cell BK33.out 4).trans rfl;have hcz20_5:w19.cell? ⟨gb33,5,none⟩=some (.int .i64 0):=(blk_cell BK33.out 5).trans rfl;have hcz20_6:w19.cell? ⟨gb33,6,none⟩=some (.int .i64 0):=(blk_cell BK33.out 6).trans rfl;have hcz20_7:w19.cell? ⟨gb33,7,none⟩=some (.int .i64 0):=(blk_cell BK33.out 7).trans rfl;have hfz20_0:=blk_frozen BK33.out 0;have hfz20_1:=blk_frozen BK33.out 1;have hfz20_2:=blk_frozen BK33.out 2;have hfz20_3:=blk_frozen BK33.out 3;have hfz20_4:=blk_frozen BK33.out 4;have hfz20_5:=blk_frozen BK33.out 5;have hfz20_6:=blk_frozen BK33.out 6;have hfz20_7:=blk_frozen BK33.out 7)|((with_reducible refine gate_callee (f:=67) rfl ?_);refine goesL_ (some 22) rfl rfl Tryz.func67 zb14 rfl #[.agg #[.string ((rd_T64 l0 x17_2).f0),.slice A35_1 ((rd_T64 l0 x17_2).f1).length c35_1,.int .i64 ((rd_T64 l0 x17_2).f2),.int .i64 ((rd_T64 l0 x17_2).f3),.int .i64 ((rd_T64 l0 x17_2).f4),.int .i64 ((rd_T64 l0 x17_2).f5),.int .i64 ((rd_T64 l0 x17_2).f6),.int .i64 ((rd_T64 l0 x17_2).f7)]] rfl zb2 ?_;(with_reducible refine (table_right.calls k2 ((rd_T64 l0 x17_2).f0) _ _ ((rd_T64 l0 x17_2).f1) ((rd_T64 l0 x17_2).f2) ((rd_T64 l0 x17_2).f3) ((rd_T64 l0 x17_2).f4) ((rd_T64 l0 x17_2).f5) ((rd_T64 l0 x17_2).f6) ((rd_T64 l0 x17_2).f7) false _ ?side1 ?side2 A8.out).mono ?_);(case side1=>exact zb65);(case side2=>exact HC35_1.out);rintro e w21 ⟨rfl,hb⟩;(try clear A8);refine ⟨_,rfl,?_⟩;replace HO_3:=Aside0.mk (Kd.R_below zb19 hb);replace HO_4:=Aside0.mk (Kd.R_below zb20 hb);replace BK33:=Aside0.mk (blk_below (g:=gb33) (o:=.cells #[.string ((rd_T64 l0 x17_2).f0),.slice A35_1 ((rd_T64 l0 x17_2).f1).length c35_1,.int .i64 ((rd_T64 l0 x17_2).f2),.int .i64 ((rd_T64 l0 x17_2).f3),.int .i64 ((rd_T64 l0 x17_2).f4),.int .i64 ((rd_T64 l0 x17_2).f5),.int .i64 ((rd_T64 l0 x17_2).f6),.int .i64 ((rd_T64 l0 x17_2).f7)] 64 (0,0)) zb8 hb);replace HB:=Aside0.mk (below_step zb21 hb);(try clear hb)))
        go_ret
        exact ⟨zb6,zb21⟩
      ·rw [if_neg c7] at H
       exact absurd H zb24
     ·rw [if_neg c6] at H
      exact absurd H zb24
def strings_IndexByte.f (a0:ByteArray) (a1:Int):Option Int:=some (Lib.indexByte a0.data.toList a1.toNat.toUInt8)
theorem strings_IndexByte.calls (a0:ByteArray) (a1:Int) (r:Int) (w:World) (h:strings_IndexByte.f a0 a1=some r) :
 Calls Tryz.prog 126 #[.string a0,.int .u8 a1] w fun e w' => e = .returned (.int .i64 r)∧Drawn0 w w' := by
 obtain rfl:=Option.some.inj h
 refine (Tryz.strings_IndexByte a0 a1 w).mono ?_
 rintro e w' ⟨rfl,rfl⟩
 exact ⟨rfl,Drawn0.refl _⟩
mutual
def sign_number.l0:Nat → ByteArray → Int → Int → Int → Int → Int → Option (Int × Bool)
 | 0,_,_,_,_,_,_=>none
 | k + 1,x0,x1,x2,x8,x12,x13=>if x13 < x12 then (if 0 ≤ x13 then (if x13 ≤ (wrap64 (x13 + 1)) then (if (wrap64 (x13 + 1)) ≤ (x0.size:Int) then ((sign_Fold.f (x0.extract (x13:Int).toNat ((wrap64 (x13 + 1)):Int).toNat)).bind fun t197=>(if 0 < (t197.size:Int) then ((strings_IndexByte.f (⟨#[48,49,50,51,52,53,54,55,56,57,97,98,99,100,101,102]⟩:ByteArray) (bt t197 0)).bind fun t198=>(if t198 < 0 then (sign_number.j1 k x0 x1 x2 x8 x13 t198 x12 x13 true) else (sign_number.j1 k x0 x1 x2 x8 x13 t198 x12 x13 (decide (t198 ≥ x1))))) else (none))) else (none)) else (none)) else (none)) else (if x0.toList=([]:List UInt8) then (some (0,false)) else (if (x0.size:Int) > x2 then (some (0,false)) else (some (x8,true))))
def sign_number.j1:Nat → ByteArray → Int → Int → Int → Int → Int → Int → Int → Bool → Option (Int × Bool)
 | 0,_,_,_,_,_,_,_,_,_=>none
 | k + 1,x0,x1,x2,x8,x9,x10,x12,x13,x30=>if x30=true then (some (0,false)) else (if x9 < x2 then (sign_number.l0 k x0 x1 x2 (wrap64 ((wrap64 (x8 * x1)) + x10)) x12 (wrap64 (x13 + 1))) else (sign_number.l0 k x0 x1 x2 x8 x12 (wrap64 (x13 + 1))))
end
def sign_number.f (k:Nat) (a0:ByteArray) (a1:Int) (a2:Int):Option (Int × Bool):=sign_number.l0 k a0 a1 a2 0 (a0.size:Int) 0
theorem sign_number.mono_l : ∀ k,(∀ y0 y1 y2 y3 y4 y5,LeO (sign_number.l0 k y0 y1 y2 y3 y4 y5) (sign_number.l0 (k + 1) y0 y1 y2 y3 y4 y5))∧(∀ y0 y1 y2 y3 y4 y5 y6 y7 y8,LeO (sign_number.j1 k y0 y1 y2 y3 y4 y5 y6 y7 y8) (sign_number.j1 (k + 1) y0 y1 y2 y3 y4 y5 y6 y7 y8))
 | 0=>⟨fun _ _ _ _ _ _ r h=>by simp [sign_number.l0] at h,fun _ _ _ _ _ _ _ _ _ r h=>by simp [sign_number.j1] at h⟩
 | k + 1=>by
  obtain ⟨ih0,ih1⟩:=sign_number.mono_l k
  refine ⟨?_,?_⟩
  ·intro y0 y1 y2 y3 y4 y5
   unfold sign_number.l0
   repeat' first
   | (with_reducible exact ih0 _ _ _ _ _ _)
   | (with_reducible exact ih1 _ _ _ _ _ _ _ _ _)
   | (with_reducible exact LeO.refl _)
   | (with_reducible exact LeO.none _)
   | (with_reducible refine LeO.ite ?_ ?_)
   | (with_reducible refine LeO.bind ?_ (fun _=>?_))
   | exact ih0 _ _ _ _ _ _
   | exact ih1 _ _ _ _ _ _ _ _ _
   | exact LeO.none _
   | refine LeO.ite ?_ ?_
   | refine LeO.bind ?_ (fun _=>?_)
  intro y0 y1 y2 y3 y4 y5 y6 y7 y8
  unfold sign_number.j1
  repeat' first
  | (with_reducible exact ih0 _ _ _ _ _ _)
  | (with_reducible exact ih1 _ _ _ _ _ _ _ _ _)
  | (with_reducible exact LeO.refl _)
  | (with_reducible exact LeO.none _)
  | (with_reducible refine LeO.ite ?_ ?_)
  | (with_reducible refine LeO.bind ?_ (fun _=>?_))
  | exact ih0 _ _ _ _ _ _
  | exact ih1 _ _ _ _ _ _ _ _ _
  | exact LeO.none _
  | refine LeO.ite ?_ ?_
  | refine LeO.bind ?_ (fun _=>?_)
theorem sign_number.mono : ∀ a0 a1 a2 k,LeO (sign_number.f k a0 a1 a2) (sign_number.f (k + 1) a0 a1 a2):=by
 intro a0 a1 a2 k
 obtain ⟨ih0,ih1⟩:=sign_number.mono_l k
 unfold sign_number.f
 repeat' first
  | (with_reducible exact ih0 _ _ _ _ _ _)
  | (with_reducible exact ih1 _ _ _ _ _ _ _ _ _)
  | (with_reducible exact LeO.refl _)
  | (with_reducible exact LeO.none _)
  | (with_reducible refine LeO.ite ?_ ?_)
  | (with_reducible refine LeO.bind ?_ (fun _=>?_))
  | exact ih0 _ _ _ _ _ _
  | exact ih1 _ _ _ _ _ _ _ _ _
  | exact LeO.none _
  | refine LeO.ite ?_ ?_
  | refine LeO.bind ?_ (fun _=>?_)
set_option maxHeartbeats 8000000 in
set_option maxRecDepth 100000 in
theorem sign_number.calls (k:Nat) (a0:ByteArray) (a1:Int) (a2:Int) (r1:Int) (r2:Bool) (w:World) (h:sign_number.f k a0 a1 a2=some (r1,r2)) :
 Calls Tryz.prog 101 #[.string a0,.int .i64 a1,.int .i64 a2] w fun e w' => e = .returned (.tuple #[.int .i64 r1,.bool r2])∧Below w.heap.size w w' := by
 have HB:=Aside0.mk (Below.refl w.heap.size w)
 unfold sign_number.f at h
 have H:=h
 clear h
 have H' := Aside0.mk H
 clear H
 go_enter Tryz.func101,Tryz.ntmps101
 go_wp2
 go_loopg [8,13] k (fun kq v8 v13 w' => ∃ (x8_1:Int) (x13_1:Int),v8 = .int .i64 x8_1∧v13 = .int .i64 x13_1∧Aside0 (sign_number.l0 kq a0 a1 a2 x8_1 (a0.size:Int) x13_1=some (r1,r2))∧Aside0 (kq ≤ k)∧Aside0 (Below w.heap.size w w'))
 case atStart=>exact ⟨(0),(0),zb5,zb5,H',⟨Nat.le_refl _⟩,⟨zb0⟩⟩
 case round =>
  clear H'
  try clear c1
  try clear p2
  obtain ⟨x8_1,x13_1,rfl,rfl,HA,HK1,HB⟩:=hrel
  cases gk with
  | zero=>exact absurd HA.out (by simp [sign_number.l0])
  | succ k1 =>
   have H:=HA.out
   clear HA
   simp only [sign_number.l0] at H
   by_cases c4:x13_1 < (a0.size:Int);rotate_left
   ·rw [if_neg c4] at H
    have c4b0:=decide_eq_false c4
    clear c4
    by_cases c17:a0.toList=([]:List UInt8)
    ·rw [if_pos c17] at H
     have c17b0:=beq_iff_eq.mpr c17
     have c17b1:=bne_eq_false_iff_eq.mpr c17
     clear c17
     simp only [Option.some.injEq,Prod.mk.injEq] at H
     obtain ⟨rfl,rfl⟩:=H
     go_wp2
     go_ret2
     exact ⟨zb6,zb0⟩
    rw [if_neg c17] at H
    have c17b0:=beq_eq_false_iff_ne.mpr c17
    have c17b1:=bne_iff_ne.mpr c17
    by_cases c18:(a0.size:Int) > a2
    ·rw [if_pos c18] at H
     have c18b0:decide (a2 < (a0.size:Int))=true:=decide_eq_true c18
     clear c18
     simp only [Option.some.injEq,Prod.mk.injEq] at H
     obtain ⟨rfl,rfl⟩:=H
     go_wp2
     go_ret2
     exact ⟨zb6,zb0⟩
    rw [if_neg c18] at H
    have c18b0:decide (a2 < (a0.size:Int))=false:=decide_eq_false c18
    clear c18
    simp only [Option.some.injEq,Prod.mk.injEq] at H
    obtain ⟨rfl,rfl⟩:=H
    go_wp2
    go_ret2
    exact ⟨zb6,zb0⟩
   rw [if_pos c4] at H
   have c4b0:=decide_eq_true c4
   clear c4
   by_cases c5:0 ≤ x13_1
   ·rw [if_pos c5] at H
    have c5b0:=eq_true c5
    have c5b1:=decide_eq_true c5
    clear c5
    by_cases c6:x13_1 ≤ (wrap64 (x13_1 + 1))
    ·rw [if_pos c6] at H
     have c6b0:=eq_true c6
     have c6b1:=decide_eq_true c6
     by_cases c7:(wrap64 (x13_1 + 1)) ≤ (a0.size:Int)
     ·rw [if_pos c7] at H
      have c7b0:=eq_true c7
      have c7b1:=decide_eq_true c7
      replace H:=Option.bind_eq_some_iff.mp H
      obtain ⟨t197,A80,H⟩:=H
      try dsimp only at H
      have A8:=Aside0.mk A80
      clear A80
      by_cases c9:0 < (t197.size:Int)
      ·rw [if_pos c9] at H
       have c9b0:=decide_eq_true c9
       have c9b1:decide (0 < t197.size)=true:=decide_eq_true zb16
       clear c9
       replace H:=Option.bind_eq_some_iff.mp H
       obtain ⟨t198,A110,H⟩:=H
       try dsimp only at H
       have A11:=Aside0.mk A110
       clear A110
       have HC12:=Aside0.mk H
       clear H
       go_upto_region 6 with (first|((with_reducible refine gate_callee (f:=53) rfl ?_);refine goesL_ (some 21) rfl rfl Tryz.func53 zb14 rfl #[.string (a0.extract (x13_1:Int).toNat ((wrap64 (x13_1 + 1)):Int).toNat)] rfl zb2 ?_;(with_reducible refine (sign_Fold.calls (a0.extract (x13_1:Int).toNat ((wrap64 (x13_1 + 1)):Int).toNat) t197 _ A8.out).mono ?_);rintro e w13 ⟨rfl,hb⟩;refine ⟨_,rfl,?_⟩;replace HB:=Aside0.mk (below_step zb0 hb);(try clear hb);have p10:0 ≤ (0:Int):=zb16;have q10:0 < t197.size:=(by have:(0:Int) < (t197.size:Int):=of_decide_eq_true (by first|(with_reducible assumption)|assumption);omega);have hx10 : ∀ h:0 < t197.size,((t197[0]'h).toNat:Int)=bt t197 0:=bt_at t197 0;clear p10;have qi10:(0 < (t197.size:Int))=True:=eq_true (of_decide_eq_true zb1);replace q10:=eq_true q10)|((with_reducible refine gate_callee (f:=126) rfl ?_);refine goesL_ (some 23) rfl rfl Tryz.func126 zb14 rfl #[.string (⟨#[48,49,50,51,52,53,54,55,56,57,97,98,99,100,101,102]⟩:ByteArray),.int .u8 (bt t197 0)] rfl zb2 ?_;(with_reducible refine (strings_IndexByte.calls (⟨#[48,49,50,51,52,53,54,55,56,57,97,98,99,100,101,102]⟩:ByteArray) (bt t197 0) t198 _ A11.out).mono ?_);rintro e w' ⟨rfl,⟨nd,rfl⟩⟩;refine ⟨_,rfl,?_⟩))
       (try simp only [Act.put,zqA,zqB,zqC])
       go_cut [30] (fun v30 wc => ∃ (kq:Nat) (x30_11:Bool),v30 = .bool x30_11∧Aside0 (sign_number.j1 kq a0 a1 a2 x8_1 x13_1 t198 (a0.size:Int) x13_1 x30_11=some (r1,r2))∧Aside0 (kq ≤ k1)∧Aside0 (Below w.heap.size w wc))
       case first =>
        have H:=HC12.out
        clear HC12
        by_cases c14:t198 < 0
        ·rw [if_pos c14] at H
         have c14b0:=decide_eq_true c14
         clear c14
         (first|rw [c14b0]|(simp only [i64_w,i32_w];rw [c14b0])|skip)
         have H' := Aside0.mk H
         clear H
         go_wp2
         go_meet
         case rel=>exact ⟨_,(true),zb5,H',⟨zb56⟩,⟨zb0⟩⟩
        rw [if_neg c14] at H
        have c14b0:=decide_eq_false c14
        clear c14
        (first|rw [c14b0]|(simp only [i64_w,i32_w];rw [c14b0])|skip)
        have H' := Aside0.mk H
        clear H
        go_wp2
        go_meet
        case rel=>exact ⟨_,(decide (t198 ≥ a1)),zb5,H',⟨zb56⟩,⟨zb0⟩⟩
       case rest =>
        clear HC12
        try clear c1
        try clear p1
        try clear q1
        try clear hx1
        try clear qi1
        try clear p2
        try clear c4
        try clear c4b0
        try clear c5
        try clear c5b0
        try clear c5b1
        try clear c6
        try clear c6b0
        try clear c6b1
        try clear p6
        try clear c7
        try clear c7b0
        try clear c7b1
        try clear c9
        try clear c9b0
        try clear c9b1
        try clear c10
        try clear p10
        try clear q10
        try clear hx10
        try clear qi10
        try clear c12
        try clear c14
        try clear c14b0
        try clear p10
        try clear p2
        try clear q10
        obtain ⟨kq,x30_11,rfl,HA,HJ11,HB⟩:=hcut
        cases kq with
        | zero=>exact absurd HA.out (by simp [sign_number.j1])
        | succ kj11 =>
         have H:=HA.out
         clear HA
         simp only [sign_number.j1] at H
         by_cases c15:x30_11=true
         ·subst c15
          rw [if_pos rfl] at H
          simp only [Option.some.injEq,Prod.mk.injEq] at H
          obtain ⟨rfl,rfl⟩:=H
          go_wp2
          go_ret2
          exact ⟨zb6,zb0⟩
         ·replace c15:=Bool.eq_false_iff.mpr c15
          subst c15
          rw [if_neg (show ¬ (false=true) by decide)] at H
          by_cases c16:x13_1 < a2
          ·rw [if_pos c16] at H
           have c16b0:=decide_eq_true c16
           clear c16
           have H' := Aside0.mk H
           clear H
           go_wp2
           go_roundg kj11
           case measure=>have:=HK1.out;have:=HJ11.out;omega
           case rel=>exact ⟨(wrap64 ((wrap64 (x8_1 * a1)) + t198)),(wrap64 (x13_1 + 1)),zb5,zb5,H',⟨by have:=HK1.out;have:=HJ11.out;omega⟩,⟨zb0⟩⟩
          ·rw [if_neg c16] at H
           have c16b0:=decide_eq_false c16
           clear c16
           have H' := Aside0.mk H
           clear H
           go_wp2
           go_roundg kj11
           case measure=>have:=HK1.out;have:=HJ11.out;omega
           case rel=>exact ⟨(x8_1),(wrap64 (x13_1 + 1)),zb5,zb5,H',⟨by have:=HK1.out;have:=HJ11.out;omega⟩,⟨zb0⟩⟩
      ·rw [if_neg c9] at H
       exact absurd H zb24
     ·rw [if_neg c7] at H
      exact absurd H zb24
    ·rw [if_neg c6] at H
     exact absurd H zb24
   ·rw [if_neg c5] at H
    exact absurd H zb24
def sign_Decimal.f (k:Nat) (a0:ByteArray):Option (Int × Bool):=(sign_number.f k a0 10 18).bind fun bt199=>(some (bt199.1,bt199.2))
theorem sign_Decimal.mono : ∀ a0 k,LeO (sign_Decimal.f k a0) (sign_Decimal.f (k + 1) a0):=by
 intro a0 k
 unfold sign_Decimal.f
 repeat' first
  | (with_reducible exact sign_number.mono _ _ _ _)
  | (with_reducible exact LeO.refl _)
  | (with_reducible exact LeO.none _)
  | (with_reducible refine LeO.ite ?_ ?_)
  | (with_reducible refine LeO.bind ?_ (fun _=>?_))
  | exact sign_number.mono _ _ _ _
  | exact LeO.none _
  | refine LeO.ite ?_ ?_
  | refine LeO.bind ?_ (fun _=>?_)
set_option maxHeartbeats 8000000 in
set_option maxRecDepth 100000 in
theorem sign_Decimal.calls (k:Nat) (a0:ByteArray) (r1:Int) (r2:Bool) (w:World) (h:sign_Decimal.f k a0=some (r1,r2)) :
 Calls Tryz.prog 73 #[.string a0] w fun e w' => e = .returned (.tuple #[.int .i64 r1,.bool r2])∧Below w.heap.size w w' := by
 have HB:=Aside0.mk (Below.refl w.heap.size w)
 unfold sign_Decimal.f at h
 have H:=h
 clear h
 replace H:=Option.bind_eq_some_iff.mp H
 obtain ⟨⟨t199,t200⟩,A20,H⟩:=H
 try dsimp only at H
 have A2:=Aside0.mk A20
 clear A20
 simp only [Option.some.injEq,Prod.mk.injEq] at H
 obtain ⟨rfl,rfl⟩:=H
 go_enter Tryz.func73,Tryz.ntmps73
 go_wp2_with (first|((with_reducible refine gate_callee (f:=101) rfl ?_);refine goesL_ (some 5) rfl rfl Tryz.func101 zb14 rfl #[.string a0,.int .i64 10,.int .i64 18] rfl zb2 ?_;(with_reducible refine (sign_number.calls k a0 10 18 t199 t200 _ A2.out).mono ?_);rintro e w3 ⟨rfl,hb⟩;(try clear A2);refine ⟨_,rfl,?_⟩;replace HB:=Aside0.mk (below_step zb0 hb);(try clear hb)))
 go_ret2
 exact ⟨zb6,zb0⟩
theorem tz64_16 (w:World) (ht:Tabs w):Calls Tryz.prog 166 #[.int .u64 16] w fun e w' => e = .returned (.int .i64 4)∧Drawn0 w w' := by
 have hc:w.cell? ⟨5,15,none⟩=some (.int .u8 4):=ht.2.cell globalDeBruijn64 15 (by decide)
 have hb:Go.bits .and .u64 16 18446744073709551600=16:=by decide +kernel
 have hw1:IntKind.u64.wrap (-16)=18446744073709551600:=by decide +kernel
 have hw2:IntKind.u64.wrap (16 * 285870213051353865)=4573923408821661840:=by decide +kernel
 have hw3:IntKind.u64.wrap 4573923408821661840=4573923408821661840:=by decide +kernel
 have hw4:(4573923408821661840:Int) / 288230376151711744=15:=by decide +kernel
 clear ht
 go_enter Tryz.func166,Tryz.ntmps166
 go_wp2
 go_ret
 exact ⟨rfl,by repeat (first|exact Drawn0.refl _|apply Drawn0.step)⟩
theorem tz_16 (w:World) (ht:Tabs w):Calls Tryz.prog 158 #[.int .u64 16] w fun e w' => e = .returned (.int .i64 4)∧Drawn0 w w' := by
 go_enter Tryz.func158,Tryz.ntmps158
 go_wp2_with (go_at_call 166;(with_reducible refine (tz64_16 _ ht).mono ?_);rintro e w' ⟨rfl,⟨nd,rfl⟩⟩)
 go_ret
 exact ⟨rfl,by repeat (first|exact Drawn0.refl _|apply Drawn0.step)⟩
def strconv_isPowerOfTwo.f (a0:Int):Option (Bool):=some ((Go.bits .and .i64 a0 (wrap64 (a0 - 1))) == 0)
set_option maxHeartbeats 8000000 in
set_option maxRecDepth 100000 in
theorem strconv_isPowerOfTwo.calls (a0:Int) (r:Bool) (w:World) (h:strconv_isPowerOfTwo.f a0=some r) :
 Calls Tryz.prog 157 #[.int .i64 a0] w fun e w' => e = .returned (.bool r)∧Drawn0 w w' := by
 unfold strconv_isPowerOfTwo.f at h
 have H:=h
 clear h
 obtain rfl:=Option.some.inj H
 go_enter Tryz.func157,Tryz.ntmps157
 go_wp2
 go_ret
 exact ⟨zb5,zb13⟩
/-- A digit of the base 16. -/
def hexd (d:Nat):Int:=if d < 10 then 48 + d else 87 + d
/-- The digits of the base 16. -/
def hexD (u:Nat):List Int:=if h:u < 16 then [hexd u] else hexD (u / 16) ++ [hexd (u % 16)]
termination_by u
decreasing_by omega
theorem hexD_small (u:Nat) (h:u < 16):hexD u=[hexd u]:=by rw [hexD,dif_pos h]
theorem hexD_big (u:Nat) (h:16 ≤ u):hexD u=hexD (u / 16) ++ [hexd (u % 16)]:=by rw [hexD,dif_neg (by omega)]
/-- The last cells of the array of 65. -/
def Row65 (w:World) (g:Nat) (suf:List Int):Prop := ∃ cs,w.heap[g]? = some (.cells cs 174 (0,0))∧cs.size=65∧cs.toList.drop (65 - suf.length)=nums .u8 suf
theorem Row65.cell {w:World} {g:Nat} {suf:List Int} (h:Row65 w g suf) (j:Nat) (hj:j < 65) : ∃ v,w.cell? ⟨g,j,none⟩=some v:=by
 obtain ⟨cs,hb,hs,_⟩:=h
 rw [cell_of_row _ _ _ _ _ _ hb]
 exact ⟨_,Array.getElem?_eq_getElem (by omega)⟩
theorem Row65.free {w:World} {g:Nat} {suf:List Int} (h:Row65 w g suf) (j:Nat):w.frozen? ⟨g,j,none⟩=false:=by
 obtain ⟨cs,hb,_,_⟩:=h
 simp [World.frozen?,hb]
theorem Row65.set {w:World} {g:Nat} {suf:List Int} (h:Row65 w g suf) (hl:suf.length < 65) (v:Int):Row65 (w.setCell ⟨g,64 - suf.length,none⟩ (.int .u8 v)) g (v :: suf):=by
 obtain ⟨cs,hb,hs,hd⟩:=h
 refine ⟨cs.setIfInBounds (64 - suf.length) (.int .u8 v),by simp [World.setCell,Array.getElem?_modify,hb],by simpa using hs,?_⟩
 have hlen:cs.toList.length=65:=by rw [Array.length_toList];exact hs
 rw [Array.toList_setIfInBounds,List.length_cons,show 65 - (suf.length + 1)=64 - suf.length by omega,List.drop_set,if_neg (by omega),Nat.sub_self,List.drop_eq_getElem_cons (by omega),List.set_cons_zero,show 64 - suf.length + 1=65 - suf.length by omega,hd]
 rfl
theorem Row65.reads {w:World} {g:Nat} {suf:List Int} (h:Row65 w g suf) (hl:suf.length ≤ 65):ReadsInt w .u8 (some ⟨g,65 - suf.length,none⟩) suf.length suf:=by
 obtain ⟨cs,hb,hs,hd⟩:=h
 refine ⟨rfl,by omega,fun _=>⟨_,rfl,fun j hj=>?_⟩⟩
 have ha:(⟨g,65 - suf.length,none⟩:Addr).add j=⟨g,65 - suf.length + j,none⟩:=by
  unfold Addr.add;split <;> simp_all
 rw [ha,cell_of_row _ _ _ _ _ _ hb]
 have h1:(cs.toList.drop (65 - suf.length))[j]? = (nums .u8 suf)[j]?:=by rw [hd]
 rw [List.getElem?_drop] at h1
 rw [← Array.getElem?_toList,h1]
 simp [nums,List.getD_eq_getElem?_getD,List.getElem?_eq_getElem hj]
theorem pow_step (u l:Nat) (hl:l ≤ 15) (h:u < 16 ^ (16 - l)) (hu:16 ≤ u):l ≤ 14∧u / 16 < 16 ^ (16 - (l + 1)):=by
 have h14:l ≤ 14:=by
  rcases Nat.lt_or_ge l 15 with h1|h1
  ·omega
  obtain rfl:l=15:=by omega
  simp at h
  omega
 refine ⟨h14,?_⟩
 have e:16 ^ (16 - l)=16 ^ (16 - (l + 1)) * 16:=by rw [← Nat.pow_succ];congr 1;omega
 rw [e] at h
 exact (Nat.div_lt_iff_lt_mul (by decide)).2 h
theorem hexd_at (d:Int) (h0:0 ≤ d) (h1:d < 16):bt (⟨#[48,49,50,51,52,53,54,55,56,57,97,98,99,100,101,102,103,104,105,106,107,108,109,110,111,112,113,114,115,116,117,118,119,120,121,122]⟩:ByteArray) d=hexd d.toNat:=by
 obtain ⟨n,rfl⟩:=Int.eq_ofNat_of_zero_le h0
 have h : ∀ m:Fin 16,bt (⟨#[48,49,50,51,52,53,54,55,56,57,97,98,99,100,101,102,103,104,105,106,107,108,109,110,111,112,113,114,115,116,117,118,119,120,121,122]⟩:ByteArray) (m.val:Int)=hexd m.val:=by decide +kernel
 exact h ⟨n,by omega⟩
set_option maxHeartbeats 8000000 in
set_option maxRecDepth 100000 in
theorem formatBits_16 (n:Nat) (hn:n < 18446744073709551616) (w:World) (ht:Tabs w) :
 Calls Tryz.prog 135 #[.slice none 0 0,.int .u64 n,.int .i64 16,.bool false,.bool false] w fun e w' => e = .returned (.tuple #[.slice none 0 0,.string (strOfNums (hexD n))])∧Below w.heap.size w w' := by
 have HT:=Aside0.mk ht
 clear ht
 have HB:=Aside0.mk (Below.refl w.heap.size w)
 have HN:=Aside0.mk hn
 clear hn
 go_enter Tryz.func135,Tryz.ntmps135
 go_wp2_with (first
  | (go_at_call 157;(with_reducible refine (strconv_isPowerOfTwo.calls 16 true _ (by decide +kernel)).mono ?_);rintro e w1 ⟨rfl,⟨nd,rfl⟩⟩)
  | (go_at_call 158;(with_reducible refine (tz_16 _ ?ht).mono ?_);(case ht=>exact HT.out.below (by repeat (first|exact HB.out|apply below_alloc|apply pw_below_drewN)));rintro e w2 ⟨rfl,⟨nd2,rfl⟩⟩))
 go_loopw [1,13] (fun v1 v13 wr => ∃ (u i:Int) (suf:List Int),v1 = .int .u64 u∧v13 = .int .i64 i∧Aside0 (0 ≤ u∧i=65 - suf.length∧suf.length ≤ 15∧u.toNat < 16 ^ (16 - suf.length))∧Aside0 (hexD n=hexD u.toNat ++ suf)∧Aside0 (Row65 wr w.heap.size suf)∧Aside0 (Below w.heap.size w wr)) (fun v1 _ _=>(intOf v1).toNat)
 case atStart =>
  refine ⟨n,65,[],rfl,rfl,⟨by omega,by simp,by simp,by have:=HN.out;simpa using this⟩,⟨by simp⟩,⟨⟨Tryz.zeroCells174,?_,by kernel_rfl,by kernel_rfl⟩⟩,⟨by repeat (first|exact HB.out|apply below_alloc|apply pw_below_drewN)⟩⟩
  show (w.heap.push _)[w.heap.size]? = _
  simp
 case round =>
  obtain ⟨u,i,suf,rfl,rfl,HU,HE,HR,HB2⟩:=hrel
  clear HB
  have hu0:0 ≤ u:=HU.out.1
  have hi0:1 ≤ i:=by have:=HU.out;omega
  have hi1:i ≤ 65:=by have:=HU.out;omega
  have hu1:u ≤ 18446744073709551615:=by
   have h1:=HU.out.2.2.2
   have h2:16 ^ (16 - suf.length) ≤ 16 ^ 16:=Nat.pow_le_pow_right (by decide) (by omega)
   have h3:(16:Nat) ^ 16=18446744073709551616:=by decide
   omega
  have hj:i - 1=((64 - suf.length:Nat):Int):=by have:=HU.out;omega
  obtain ⟨cv,hc⟩:=HR.out.cell (64 - suf.length) (by omega)
  have hf:=HR.out.free (64 - suf.length)
  have hjt:i.toNat - 1=64 - suf.length:=by omega
  rw [← hjt] at hc hf
  by_cases hb:16 ≤ u
  ·have hb1:decide (16 ≤ u)=true:=decide_eq_true hb
   have hb2:decide (u ≥ 16)=true:=decide_eq_true hb
   obtain ⟨D,hD⟩ : ∃ D,Go.bits .and .u64 u 15=D:=⟨_,rfl⟩
   have hDm:D=u % 16:=by rw [← hD];exact bits_mask .u64 64 (by decide) (by intro x h0 h1;simp [IntKind.wrap,IntKind.bits,IntKind.signed];omega) 4 (by decide) u hu0 (by omega)
   have hD0:0 ≤ D:=by omega
   have hD1:D < 16:=by omega
   have hx:=bt_at (⟨#[48,49,50,51,52,53,54,55,56,57,97,98,99,100,101,102,103,104,105,106,107,108,109,110,111,112,113,114,115,116,117,118,119,120,121,122]⟩:ByteArray) D
   have HD:=Aside0.mk hDm
   have HX:=hexd_at D hD0 hD1
   have HX' := Aside0.mk HX
   have HJ:=Aside0.mk (And.intro hj hjt)
   have HB' := Aside0.mk hb
   clear HX hDm hj hjt hb
   go_wp2
   refine ⟨⟨u / 16,i - 1,hexd D.toNat :: suf,rfl,rfl,?_,⟨?_⟩,⟨?_⟩,⟨HB2.out.setCell (Nat.le_refl _) _⟩⟩,?_⟩
   ·obtain ⟨h14,hp⟩:=pow_step u.toNat suf.length HU.out.2.2.1 HU.out.2.2.2 (by have:=HB'.out;omega)
    have hq:(u / 16).toNat=u.toNat / 16:=by omega
    exact ⟨by omega,by have:=HU.out;rw [List.length_cons];omega,by rw [List.length_cons];omega,by rw [hq,List.length_cons];exact hp⟩
   ·rw [HE.out,hexD_big u.toNat (by have:=HB'.out;omega),show (u / 16).toNat=u.toNat / 16 by omega,show D.toNat=u.toNat % 16 by have:=HD.out;omega,List.append_assoc]
    rfl
   ·rw [HJ.out.2,HX'.out]
    exact HR.out.set (by have:=HU.out;omega) _
   have:=HB'.out
   simp only [intOf]
   omega
  have hb1:decide (16 ≤ u)=false:=decide_eq_false hb
  have hb2:decide (u ≥ 16)=false:=decide_eq_false hb
  have hu2:u < 16:=by omega
  have hx:=bt_at (⟨#[48,49,50,51,52,53,54,55,56,57,97,98,99,100,101,102,103,104,105,106,107,108,109,110,111,112,113,114,115,116,117,118,119,120,121,122]⟩:ByteArray) u
  have HX' := Aside0.mk (hexd_at u hu0 hu2)
  have HJ:=Aside0.mk (And.intro hj hjt)
  have HB' := Aside0.mk hb
  have hal:Tryz.prog.arrayLen 174=65:=by simp [Program.arrayLen,Tryz.underlying174]
  have hsl : ∀ W,(Instr.sliceAt 174 (.pointer (some ⟨w.heap.size,0,none⟩)) (some (.int .i64 (i - 1))) none none).run Tryz.prog W = .ok (.slice (some ⟨w.heap.size,64 - suf.length,none⟩) (suf.length + 1) (suf.length + 1)) W:=by
   intro W
   have hl65:64 - suf.length + (suf.length + 1)=65:=by have:=HU.out;omega
   rw [hj,run_sliceAt_array_l W 174 ⟨w.heap.size,0,none⟩ (by simp [Program.arrayLen,Program.elem,Tryz.underlying174]) .i64 _ (by omega) (by rw [hal];omega),hal,Int.toNat_natCast]
   have he:Tryz.prog.elem 174=5:=by simp [Program.elem,Tryz.underlying174]
   rw [he,(show (sizeOf 5).run Tryz.prog W = .ok 1 W by kernel_rfl)]
   show Result.ok (slicedAt ⟨w.heap.size,0,none⟩ (64 - suf.length) 65 65 1) W=_
   unfold slicedAt
   rw [if_neg (by omega),Nat.mul_one,add_plain,show 65 - (64 - suf.length)=suf.length + 1 by omega]
  have hR2:=(HR.out.set (by have:=HU.out;omega) (bt (⟨#[48,49,50,51,52,53,54,55,56,57,97,98,99,100,101,102,103,104,105,106,107,108,109,110,111,112,113,114,115,116,117,118,119,120,121,122]⟩:ByteArray) u)).reads (by rw [List.length_cons];have:=HU.out;omega)
  rw [List.length_cons,show 65 - (suf.length + 1)=64 - suf.length by omega,← hjt] at hR2
  have hcv:=string_of_reads (P:=Tryz.prog) (src:=50) (dst:=9) (c:=suf.length + 1) Tryz.underlying50 Tryz.underlying5 Tryz.underlying9 hR2
  rw [hjt] at hcv
  rw [← hjt] at hsl hcv
  have HE2:=Aside0.mk (show strOfNums (bt (⟨#[48,49,50,51,52,53,54,55,56,57,97,98,99,100,101,102,103,104,105,106,107,108,109,110,111,112,113,114,115,116,117,118,119,120,121,122]⟩:ByteArray) u :: suf)=strOfNums (hexD n) by rw [HE.out,hexD_small u.toNat (by omega),HX'.out];rfl)
  have q3:(u < 36)=True:=eq_true (by omega)
  have q4:(36 ≤ u)=False:=eq_false (by omega)
  clear hj hjt hb hR2 hal hu2
  go_wp2
  go_ret2
  exact ⟨by first|rfl|(rw [HE2.out];rfl),HB2.out.setCell (Nat.le_refl _) _⟩
/-- At the base 10,and of a number from 0 on at the base 16. -/
def strconv_FormatInt_111.f (a0 a1:Int):Option ByteArray :=
 if a1=10 then (if -9223372036854775808 ≤ a0∧a0 ≤ 9223372036854775807 then some ⟨(Lib.itoa a0).toArray⟩ else none)
 else if a1=16 then (if 0 ≤ a0∧a0 ≤ 9223372036854775807 then some (strOfNums (hexD a0.toNat)) else none)
 else none
theorem below_grow {w:World} (k:Nat) (os:Array Obj):Below w.heap.size w (Go.Sort.grow (w.drewN k) os) :=
 ⟨rfl,rfl,rfl,by simp [Go.Sort.grow],fun b hb=>by simp only [Go.Sort.grow];rw [Array.getElem?_append_left (by simpa using hb)];rfl⟩
set_option maxHeartbeats 4000000 in
theorem formatInt_16 (a0:Int) (h0:0 ≤ a0) (h1:a0 ≤ 9223372036854775807) (w:World) (ht:Tabs w) :
 Calls Tryz.prog 111 #[.int .i64 a0,.int .i64 16] w fun e w' => e = .returned (.string (strOfNums (hexD a0.toNat)))∧Below w.heap.size w w' := by
 have HT:=Aside0.mk ht
 clear ht
 have hw:IntKind.u64.wrap a0=a0:=by simp [IntKind.wrap,IntKind.bits,IntKind.signed];omega
 have HF:=Aside0.mk (formatBits_16 a0.toNat (by omega))
 have hn:((a0.toNat:Nat):Int)=a0:=by omega
 rw [hn] at HF
 clear hn
 have hneg:decide (a0 < 0)=false:=decide_eq_false (by omega)
 go_enter Tryz.func111,Tryz.ntmps111
 go_wp2_with (go_at_call 135;(with_reducible refine (HF.out _ HT.out).mono ?_);rintro e w1 ⟨rfl,hb⟩)
 go_ret
 exact ⟨rfl,hb⟩
theorem strconv_FormatInt_111.calls (a0 a1:Int) (r:ByteArray) (w:World) (h:strconv_FormatInt_111.f a0 a1=some r) (ht:Tabs w) :
 Calls Tryz.prog 111 #[.int .i64 a0,.int .i64 a1] w fun e w' => e = .returned (.string r)∧Below w.heap.size w w' := by
 unfold strconv_FormatInt_111.f at h
 split at h
 ·rename_i h10
  subst h10
  split at h
  ·rename_i hr
   obtain rfl:=Option.some.inj h
   refine (Tryz.internal_strconv_FormatInt_10 a0 hr.1 hr.2 w ht.1).mono ?_
   rintro e w' ⟨rfl,k,os,rfl⟩
   exact ⟨rfl,below_grow k os⟩
  cases h
 split at h
 ·rename_i h16
  subst h16
  split at h
  ·rename_i hr
   obtain rfl:=Option.some.inj h
   exact formatInt_16 a0 hr.1 hr.2 w ht
  cases h
 cases h
def strconv_FormatInt_86.f (a0:Int) (a1:Int):Option (ByteArray):=(strconv_FormatInt_111.f a0 a1).bind fun t195=>(some t195)
set_option maxHeartbeats 8000000 in
set_option maxRecDepth 100000 in
theorem strconv_FormatInt_86.calls (a0:Int) (a1:Int) (r:ByteArray) (w:World) (h:strconv_FormatInt_86.f a0 a1=some r) (ht:Tabs w) :
 Calls Tryz.prog 86 #[.int .i64 a0,.int .i64 a1] w fun e w' => e = .returned (.string r)∧Below w.heap.size w w' := by
 have HTB:=Aside0.mk ht
 clear ht
 have HB:=Aside0.mk (Below.refl w.heap.size w)
 unfold strconv_FormatInt_86.f at h
 have H:=h
 clear h
 replace H:=Option.bind_eq_some_iff.mp H
 obtain ⟨t195,A30,H⟩:=H
 try dsimp only at H
 have A3:=Aside0.mk A30
 clear A30
 obtain rfl:=Option.some.inj H
 go_enter Tryz.func86,Tryz.ntmps86
 go_wp2_with (first|((with_reducible refine gate_callee (f:=111) rfl ?_);refine goesL_ (some 7) rfl rfl Tryz.func111 zb14 rfl #[.int .i64 a0,.int .i64 a1] rfl zb2 ?_;(with_reducible refine (strconv_FormatInt_111.calls a0 a1 t195 _ A3.out ?hT).mono ?_);(case hT=>exact HTB.out.below zb0);rintro e w4 ⟨rfl,hb⟩;(try clear A3);refine ⟨_,rfl,?_⟩;replace HB:=Aside0.mk (below_step zb0 hb);(try clear hb)))
 go_ret
 exact ⟨zb6,zb0⟩
def sign_Text.f (a0:Int):Option (ByteArray):=(strconv_FormatInt_86.f a0 10).bind fun t196=>(some t196)
set_option maxHeartbeats 8000000 in
set_option maxRecDepth 100000 in
theorem sign_Text.calls (a0:Int) (r:ByteArray) (w:World) (h:sign_Text.f a0=some r) (ht:Tabs w) :
 Calls Tryz.prog 60 #[.int .i64 a0] w fun e w' => e = .returned (.string r)∧Below w.heap.size w w' := by
 have HTB:=Aside0.mk ht
 clear ht
 have HB:=Aside0.mk (Below.refl w.heap.size w)
 unfold sign_Text.f at h
 have H:=h
 clear h
 replace H:=Option.bind_eq_some_iff.mp H
 obtain ⟨t196,A20,H⟩:=H
 try dsimp only at H
 have A2:=Aside0.mk A20
 clear A20
 obtain rfl:=Option.some.inj H
 go_enter Tryz.func60,Tryz.ntmps60
 go_wp2_with (first|((with_reducible refine gate_callee (f:=86) rfl ?_);refine goesL_ (some 4) rfl rfl Tryz.func86 zb14 rfl #[.int .i64 a0,.int .i64 10] rfl zb2 ?_;(with_reducible refine (strconv_FormatInt_86.calls a0 10 t196 _ A2.out ?hT).mono ?_);(case hT=>exact HTB.out.below zb0);rintro e w3 ⟨rfl,hb⟩;(try clear A2);refine ⟨_,rfl,?_⟩;replace HB:=Aside0.mk (below_step zb0 hb);(try clear hb)))
 go_ret
 exact ⟨zb6,zb0⟩
def slices_Clone_string_string.f (l0:List ByteArray):Option (List ByteArray):=if l0.length ≤ 8796093022207 then some l0 else none
set_option maxHeartbeats 4000000 in
set_option maxRecDepth 100000 in
theorem slices_Clone_string_string.calls (A0:Option Addr) (c0:Nat) (l0:List ByteArray) (r:List ByteArray) (w:World) (hr0:Kd.C Kd.string w A0 l0.length l0) (hc0:l0.length ≤ c0) (h:slices_Clone_string_string.f l0=some r) :
 Calls Tryz.prog 74 #[.slice A0 l0.length c0] w fun e w' => ∃ v0_:Value,e = .returned (v0_)∧Kd.R Kd.string 9 w' w.heap.size (fun _=>True) v0_ r∧Below w.heap.size w w' := by
 have hl:l0.length ≤ 8796093022207∧l0=r:=by
  unfold slices_Clone_string_string.f at h
  split at h
  ·exact ⟨by assumption,by simpa using h⟩
  cases h
 obtain ⟨hl,rfl⟩:=hl
 clear h
 have HR:=Aside0.mk hr0
 cases A0 with
 | none =>
  have he:l0=[]:=by
   cases l0 with
   | nil=>rfl
   | cons x y=>obtain ⟨ad,e,_⟩:=hr0.2.2 zb24;cases e
  subst he
  clear HR hr0
  have hnil : ∀ W:World,(binOp .eql 34 (.slice none 0 c0) (.slice none 0 0)).run Tryz.prog W = .ok (.bool true) W:=fun W=>by
   simp only [binOp]
   simp [Op.equal,Op.maxDepth,Lib.run_equalIn_slice_nil W 9999 34 _ none 0 c0 0 0 Tryz.underlying34]
  go_enter Tryz.func74,Tryz.ntmps74
  go_wp2
  go_ret
  exact ⟨_,rfl,Kd.R_nil _ _ _ _ _,Below.refl _ _⟩
 | some ad =>
  have HL:=Aside0.mk hl
  have hnil : ∀ W:World,(binOp .eql 34 (.slice (some ad) l0.length c0) (.slice none 0 0)).run Tryz.prog W = .ok (.bool false) W:=fun W=>by
   simp only [binOp]
   simp [Op.equal,Op.maxDepth,Lib.run_equalIn_slice_nil W 9999 34 _ (some ad) l0.length c0 0 0 Tryz.underlying34]
  have HB:=Aside0.mk (Below.refl w.heap.size w)
  clear hr0 hl hc0
  go_enter Tryz.func74,Tryz.ntmps74
  go_wp2_with (first
   | ((with_reducible refine gate_dst (N:=5) rfl ?_);refine Kd.R_lit Kd.string _ 9 ?hg (N:=5) ?hd (xs:=([]:List ByteArray)) (inner:=[]) (ok:=fun _=>True) (okp:=fun _=>True) ?hr ?hp (fun _ hk=>hk) trivial (Below.refl _ _) (Nat.le_refl _) zb24 ?_;(case hd=>rfl);(case hg=>rfl);(case hr=>first|(go_simp;done)|(go_simp;rfl));(case hp=>exact (Reps.none _ _));intro v5 w2 ho3 hb hg_ hnew_;clear hg_ hnew_;have HO5:=Aside0.mk (Kd.R_lower ho3 (below_size zb0));have n1_:=Aside0.mk (below_step zb0 hb);clear HB;have HB:=n1_;clear n1_;clear hb ho3)
   | ((with_reducible refine gate_builtin (b:=.append) (xs:=#[.tmp 5,.tmp 6]) rfl ?_);at_builtin;refine Kd.R_append_rows Kd.string (w0:=w) w.heap.size rfl (.tmp 5) (.tmp 6) 34 9 (.string ⟨#[]⟩) 16 rfl Tryz.underlying34 info9 rfl zb22 zb16 v5 [] l0 _ _ _ (fun _=>True) (fun _=>False) rfl rfl ?aO ?aR (fun _ _ h=>h) (fun _ h=>h.elim) (fun _ _=>trivial) ?aB ?aS ?aL ?_;(case aO=>exact HO5.out);(case aR=>exact Kd.C_below HR.out HB.out);(case aB=>exact HB.out);(case aS=>exact HB.out.size);(case aL=>have:=HL.out;simp only [List.length_nil];omega);intro v3 w3 ho hb3 hg3 hat;have HO7:=Aside0.mk ho;have HB7:=Aside0.mk hb3;clear ho hb3 hg3 hat))
  go_ret
  exact ⟨_,zb46,HO7.out,HB7.out⟩
/-- At a text of one byte alone. -/
def strings_Count.f (a0 a1:ByteArray):Option Int:=match a1.data.toList with
 | [c]=>some (Lib.countByte a0.data.toList c)
 | _=>none
theorem strings_Count.calls (a0 a1:ByteArray) (r:Int) (w:World) (h:strings_Count.f a0 a1=some r) :
 Calls Tryz.prog 104 #[.string a0,.string a1] w fun e w' => e = .returned (.int .i64 r)∧Drawn0 w w' := by
 obtain ⟨⟨l⟩⟩:=a1
 unfold strings_Count.f at h
 split at h
 ·rename_i c hc
  obtain rfl:l=[c]:=hc
  obtain rfl:=Option.some.inj h
  refine (Tryz.strings_Count_one a0 c w).mono ?_
  rintro e w' ⟨rfl,rfl⟩
  exact ⟨rfl,Drawn0.refl _⟩
 cases h
/-- At a text of one byte alone. -/
def strings_Index.f (a0 a1:ByteArray):Option Int:=match a1.data.toList with
 | [c]=>some (Lib.indexByte a0.data.toList c)
 | _=>none
theorem strings_Index.calls (a0 a1:ByteArray) (r:Int) (w:World) (h:strings_Index.f a0 a1=some r) :
 Calls Tryz.prog 105 #[.string a0,.string a1] w fun e w' => e = .returned (.int .i64 r)∧Drawn0 w w' := by
 obtain ⟨⟨l⟩⟩:=a1
 unfold strings_Index.f at h
 split at h
 ·rename_i c hc
  obtain rfl:l=[c]:=hc
  obtain rfl:=Option.some.inj h
  refine (Tryz.strings_Index_one a0 c w).mono ?_
  rintro e w' ⟨rfl,rfl⟩
  exact ⟨rfl,Drawn0.refl _⟩
 cases h
/-- Not followed: no law comes here. -/
def strings_explode.f (a0:ByteArray) (a1:Int):Option (List ByteArray):=none
theorem strings_explode.calls (a0:ByteArray) (a1:Int) (r:List ByteArray) (w:World) (h:strings_explode.f a0 a1=some r) :
 Calls Tryz.prog 103 #[.string a0,.int .i64 a1] w fun e w' => ∃ v0_:Value,e = .returned (v0_)∧Kd.R Kd.string 9 w' w.heap.size (fun _=>True) v0_ r∧Below w.heap.size w w' := by cases h
mutual
def strings_genSplit.j0:Nat → ByteArray → ByteArray → Int → Int → Option (List ByteArray)
 | 0,_,_,_,_=>none
 | k + 1,x0,x1,x2,x3=>if 0 ≤ (mn x3 (wrap64 ((x0.size:Int) + 1))) then (if (mn x3 (wrap64 ((x0.size:Int) + 1)):Int).toNat ≤ 17592186044416 then (strings_genSplit.l0 k x0 x1 x2 (wrap64 ((mn x3 (wrap64 ((x0.size:Int) + 1))) - 1)) (List.replicate (mn x3 (wrap64 ((x0.size:Int) + 1)):Int).toNat (⟨#[]⟩:ByteArray)) 0) else (none)) else (none)
def strings_genSplit.l0:Nat → ByteArray → ByteArray → Int → Int → List ByteArray → Int → Option (List ByteArray)
 | 0,_,_,_,_,_,_=>none
 | k + 1,x0,x1,x2,x3,x9,x10=>if x10 < x3 then ((strings_Index.f x0 x1).bind fun t164=>(if t164 < 0 then (if 0 ≤ x10 then (if x10 < (x9.length:Int) then (if 0 ≤ (wrap64 (x10 + 1)) then (if (wrap64 (x10 + 1)) ≤ (x9.length:Int) then (some ((x9.set (x10:Int).toNat x0).take ((wrap64 (x10 + 1)):Int).toNat)) else (none)) else (none)) else (none)) else (none)) else (if 0 ≤ (wrap64 (t164 + x2)) then (if (wrap64 (t164 + x2)) ≤ (x0.size:Int) then (if 0 ≤ x10 then (if x10 < (x9.length:Int) then (if 0 ≤ (wrap64 (t164 + (x1.size:Int))) then (if (wrap64 (t164 + (x1.size:Int))) ≤ (x0.size:Int) then (strings_genSplit.l0 k (x0.extract ((wrap64 (t164 + (x1.size:Int))):Int).toNat x0.size) x1 x2 x3 (x9.set (x10:Int).toNat (x0.extract 0 ((wrap64 (t164 + x2)):Int).toNat)) (wrap64 (x10 + 1))) else (none)) else (none)) else (none)) else (none)) else (none)) else (none)))) else (if 0 ≤ x10 then (if x10 < (x9.length:Int) then (if 0 ≤ (wrap64 (x10 + 1)) then (if (wrap64 (x10 + 1)) ≤ (x9.length:Int) then (some ((x9.set (x10:Int).toNat x0).take ((wrap64 (x10 + 1)):Int).toNat)) else (none)) else (none)) else (none)) else (none))
end
def strings_genSplit.f (k:Nat) (a0:ByteArray) (a1:ByteArray) (a2:Int) (a3:Int):Option (List ByteArray):=if a3=0 then (some ([]:List ByteArray)) else (if a1.toList=([]:List UInt8) then ((strings_explode.f a0 a3).bind fun t157=>(some t157)) else (if a3 < 0 then ((strings_Count.f a0 a1).bind fun t160=>(strings_genSplit.j0 k a0 a1 a2 (wrap64 (t160 + 1)))) else (strings_genSplit.j0 k a0 a1 a2 a3)))
theorem strings_genSplit.mono_l : ∀ k,(∀ y0 y1 y2 y3,LeO (strings_genSplit.j0 k y0 y1 y2 y3) (strings_genSplit.j0 (k + 1) y0 y1 y2 y3))∧(∀ y0 y1 y2 y3 y4 y5,LeO (strings_genSplit.l0 k y0 y1 y2 y3 y4 y5) (strings_genSplit.l0 (k + 1) y0 y1 y2 y3 y4 y5))
 | 0=>⟨fun _ _ _ _ r h=>by simp [strings_genSplit.j0] at h,fun _ _ _ _ _ _ r h=>by simp [strings_genSplit.l0] at h⟩
 | k + 1=>by
  obtain ⟨ih0,ih1⟩:=strings_genSplit.mono_l k
  refine ⟨?_,?_⟩
  ·intro y0 y1 y2 y3
   unfold strings_genSplit.j0
   repeat' first
   | (with_reducible exact ih0 _ _ _ _)
   | (with_reducible exact ih1 _ _ _ _ _ _)
   | (with_reducible exact LeO.refl _)
   | (with_reducible exact LeO.none _)
   | (with_reducible refine LeO.ite ?_ ?_)
   | (with_reducible refine LeO.bind ?_ (fun _=>?_))
   | exact ih0 _ _ _ _
   | exact ih1 _ _ _ _ _ _
   | exact LeO.none _
   | refine LeO.ite ?_ ?_
   | refine LeO.bind ?_ (fun _=>?_)
  intro y0 y1 y2 y3 y4 y5
  unfold strings_genSplit.l0
  repeat' first
  | (with_reducible exact ih0 _ _ _ _)
  | (with_reducible exact ih1 _ _ _ _ _ _)
  | (with_reducible exact LeO.refl _)
  | (with_reducible exact LeO.none _)
  | (with_reducible refine LeO.ite ?_ ?_)
  | (with_reducible refine LeO.bind ?_ (fun _=>?_))
  | exact ih0 _ _ _ _
  | exact ih1 _ _ _ _ _ _
  | exact LeO.none _
  | refine LeO.ite ?_ ?_
  | refine LeO.bind ?_ (fun _=>?_)
theorem strings_genSplit.mono : ∀ a0 a1 a2 a3 k,LeO (strings_genSplit.f k a0 a1 a2 a3) (strings_genSplit.f (k + 1) a0 a1 a2 a3):=by
 intro a0 a1 a2 a3 k
 obtain ⟨ih0,ih1⟩:=strings_genSplit.mono_l k
 unfold strings_genSplit.f
 repeat' first
  | (with_reducible exact ih0 _ _ _ _)
  | (with_reducible exact ih1 _ _ _ _ _ _)
  | (with_reducible exact LeO.refl _)
  | (with_reducible exact LeO.none _)
  | (with_reducible refine LeO.ite ?_ ?_)
  | (with_reducible refine LeO.bind ?_ (fun _=>?_))
  | exact ih0 _ _ _ _
  | exact ih1 _ _ _ _ _ _
  | exact LeO.none _
  | refine LeO.ite ?_ ?_
  | refine LeO.bind ?_ (fun _=>?_)
set_option maxHeartbeats 8000000 in
set_option maxRecDepth 100000 in
theorem strings_genSplit.calls (k:Nat) (a0:ByteArray) (a1:ByteArray) (a2:Int) (a3:Int) (r:List ByteArray) (w:World) (h:strings_genSplit.f k a0 a1 a2 a3=some r) :
 Calls Tryz.prog 77 #[.string a0,.string a1,.int .i64 a2,.int .i64 a3] w fun e w' => ∃ v0_:Value,e = .returned (v0_)∧Kd.R Kd.string 9 w' w.heap.size (fun _=>True) v0_ r∧Below w.heap.size w w' := by
 have HB:=Aside0.mk (Below.refl w.heap.size w)
 unfold strings_genSplit.f at h
 have H:=h
 clear h
 by_cases c5:a3=0
 ·rw [if_pos c5] at H
  have c5b0:=beq_iff_eq.mpr c5
  have c5b1:=bne_eq_false_iff_eq.mpr c5
  clear c5
  obtain rfl:=Option.some.inj H
  go_enter Tryz.func77,Tryz.ntmps77
  go_wp2
  go_ret
  exact ⟨_,zb6,zb63,zb0⟩
 rw [if_neg c5] at H
 have c5b0:=beq_eq_false_iff_ne.mpr c5
 have c5b1:=bne_iff_ne.mpr c5
 by_cases c6:a1.toList=([]:List UInt8)
 ·rw [if_pos c6] at H
  have c6b0:=beq_iff_eq.mpr c6
  have c6b1:=bne_eq_false_iff_eq.mpr c6
  clear c6
  replace H:=Option.bind_eq_some_iff.mp H
  obtain ⟨t58,A70,H⟩:=H
  try dsimp only at H
  have A7:=Aside0.mk A70
  clear A70
  obtain rfl:=Option.some.inj H
  go_enter Tryz.func77,Tryz.ntmps77
  go_wp2_with (first|((with_reducible refine gate_callee (f:=103) rfl ?_);refine goesL_ (some 18) rfl rfl Tryz.func103 zb14 rfl #[.string a0,.int .i64 a3] rfl zb2 ?_;(with_reducible refine (strings_explode.calls a0 a3 t58 _ A7.out).mono ?_);rintro e w8 ⟨v65,rfl,ho0,hb⟩;(try clear A7);refine ⟨_,rfl,?_⟩;have HO62:=Aside0.mk (Kd.R_lower ho0 (below_size zb0));replace HB:=Aside0.mk (below_step zb0 hb);try clear hb ho0))
  go_ret
  exact ⟨_,zb6,by (with_reducible repeat (first|apply Kd.R_alloc|apply Kd.R_drewN|apply Kd.R_drew));exact HO62.out,zb0⟩
 rw [if_neg c6] at H
 have c6b0:=beq_eq_false_iff_ne.mpr c6
 have c6b1:=bne_iff_ne.mpr c6
 have HC9:=Aside0.mk H
 clear H
 go_enter Tryz.func77,Tryz.ntmps77
 go_upto_if 20 with (fail)
 go_cut [3] (fun v3 wc => ∃ (kq:Nat) (x3_8:Int),v3 = .int .i64 x3_8∧Aside0 (strings_genSplit.j0 kq a0 a1 a2 x3_8=some r)∧Aside0 (kq ≤ k)∧Aside0 (Below w.heap.size w wc))
 case first =>
  have H:=HC9.out
  clear HC9
  by_cases c10:a3 < 0;rotate_left
  ·rw [if_neg c10] at H
   have c10b0:=decide_eq_false c10
   clear c10
   (first|rw [c10b0]|(simp only [i64_w,i32_w];rw [c10b0])|skip)
   have H' := Aside0.mk H
   clear H
   go_wp2
   go_meet
   case rel=>exact ⟨_,(a3),zb5,H',⟨zb60⟩,⟨zb0⟩⟩
  rw [if_pos c10] at H
  have c10b0:=decide_eq_true c10
  clear c10
  (first|rw [c10b0]|(simp only [i64_w,i32_w];rw [c10b0])|skip)
  replace H:=Option.bind_eq_some_iff.mp H
  obtain ⟨t57,A60,H⟩:=H
  try dsimp only at H
  have A11:=Aside0.mk A60
  clear A60
  have H' := Aside0.mk H
  clear H
  go_wp2_with (first|((with_reducible refine gate_callee (f:=104) rfl ?_);refine goesL_ (some 23) rfl rfl Tryz.func104 zb14 rfl #[.string a0,.string a1] rfl zb2 ?_;(with_reducible refine (strings_Count.calls a0 a1 t57 _ A11.out).mono ?_);rintro e w' ⟨rfl,⟨nd,rfl⟩⟩;(try clear A11);refine ⟨_,rfl,?_⟩))
  go_meet
  case rel=>exact ⟨_,(wrap64 (t57 + 1)),zb5,H',⟨zb60⟩,⟨zb0⟩⟩
 case rest =>
  clear HC9
  try clear c1
  try clear p2
  try clear c5
  try clear c5b0
  try clear c5b1
  try clear c6
  try clear c6b0
  try clear c6b1
  try clear p6
  try clear c7
  try clear c10
  try clear c10b0
  obtain ⟨kq,x3_8,rfl,HA,HJ8,HB⟩:=hcut
  cases kq with
  | zero=>exact absurd HA.out (by simp [strings_genSplit.j0])
  | succ kj8 =>
   have H:=HA.out
   clear HA
   simp only [strings_genSplit.j0] at H
   obtain ⟨ji12,hji12⟩ : ∃ j_:Int,(mn x3_8 (wrap64 ((a0.size:Int) + 1)))=j_:=⟨_,rfl⟩
   replace H:(if 0 ≤ (ji12) then (if (ji12:Int).toNat ≤ 17592186044416 then (strings_genSplit.l0 kj8 a0 a1 a2 (wrap64 ((ji12) - 1)) (List.replicate (ji12:Int).toNat (⟨#[]⟩:ByteArray)) 0) else (none)) else (none))=some r:=by first|(rw [hji12] at H;exact H)|(simp only [hji12] at H ⊢;exact H)
   have hji12_:(if (wrap64 ((a0.size:Int) + 1)) < x3_8 then (wrap64 ((a0.size:Int) + 1)) else x3_8)=ji12:=hji12
   by_cases c13:0 ≤ (ji12);rotate_left
   ·rw [if_neg c13] at H
    exact absurd H zb24
   rw [if_pos c13] at H
   have c13b0:=eq_true c13
   have c13b1:=decide_eq_true c13
   clear c13
   by_cases c14:(ji12:Int).toNat ≤ 17592186044416
   ·rw [if_pos c14] at H
    have c14b0:=eq_true c14
    have c14b1:=decide_eq_true c14
    clear c14
    obtain ⟨y54,hy54⟩ : ∃ y_:List ByteArray,y_=(List.replicate (ji12:Int).toNat (⟨#[]⟩:ByteArray)):=⟨_,rfl⟩
    replace H:(strings_genSplit.l0 kj8 a0 a1 a2 (wrap64 ((ji12) - 1)) y54 0)=some r:=by first|(rw [hy54];with_reducible exact H)|(have H2_:=(Option.bind_some _ _).symm.trans H;rw [hy54];with_reducible exact H2_)|(have H2_:=(Option.bind_some _ _).symm.trans H;with_reducible exact H2_)|with_reducible exact H|(rw [hy54];exact H)|exact H
    have Ny54:=Aside0.mk hy54
    clear hy54
    have H' := Aside0.mk H
    clear H
    go_wp2_with (first|((with_reducible refine gate_dst (N:=31) rfl ?_);refine Kd.R_make Kd.string _ 9 rfl (N:=31) rfl 34 _ _ rfl ji12 rfl rfl Tryz.underlying34 (.string ⟨#[]⟩) 16 info9 rfl zb22 zb16 (⟨#[]⟩:ByteArray) (ok:=fun _=>True) (okp:=fun _=>True) rfl (fun _ hk=>hk) trivial (of_decide_eq_true zb1) (Nat.le_trans (Nat.mul_le_mul_right _ (of_decide_eq_true zb1:ji12.toNat ≤ 17592186044416)) zb16) (Below.refl _ _) (Nat.le_refl _) ?_;intro v59 w15 ho16 hb hg_ hnew_;clear hg_ hnew_;(first|rw [← Ny54.out] at ho16|(simp only [Int.reduceToNat] at ho16;rw [← Ny54.out] at ho16));have HO63:=Aside0.mk (Kd.R_lower ho16 (below_size zb0));replace HB:=Aside0.mk (below_step zb0 hb);clear hb ho16))
    go_loopg [0,10] kj8 (fun kq v0 v10 w' => ∃ (x0_2:ByteArray) (x9_2:List ByteArray) (x10_2:Int),v0 = .string x0_2∧v10 = .int .i64 x10_2∧Aside0 (strings_genSplit.l0 kq x0_2 a1 a2 (wrap64 ((ji12) - 1)) x9_2 x10_2=some r)∧Aside0 (kq ≤ kj8)∧Aside0 (Kd.R Kd.string 9 w' w.heap.size (fun _=>True) v59 x9_2)∧Aside0 (Below w.heap.size w w'))
    case atStart=>exact ⟨(a0),(y54),(0),zb5,zb5,H',⟨Nat.le_refl _⟩,⟨by (with_reducible repeat (first|apply Kd.R_alloc|apply Kd.R_drewN|apply Kd.R_drew));exact HO63.out⟩,⟨zb0⟩⟩
    case round =>
     clear H'
     try clear c1
     try clear p2
     try clear c5
     try clear c5b0
     try clear c5b1
     try clear c6
     try clear c6b0
     try clear c6b1
     try clear p6
     try clear c7
     try clear c10
     try clear c10b0
     try clear c13
     try clear c13b0
     try clear c13b1
     try clear c14
     try clear c14b0
     try clear c14b1
     try clear p2
     try clear p6
     obtain ⟨x0_2,x9_2,x10_2,rfl,rfl,HA,HK2,HO_9,HB⟩:=hrel
     cases gk with
     | zero=>exact absurd HA.out (by simp [strings_genSplit.l0])
     | succ k2 =>
      have H:=HA.out
      clear HA
      simp only [strings_genSplit.l0] at H
      by_cases c17:x10_2 < (wrap64 ((ji12) - 1));rotate_left
      ·rw [if_neg c17] at H
       have c17b0:=decide_eq_false c17
       clear c17
       by_cases c40:0 ≤ x10_2;rotate_left
       ·rw [if_neg c40] at H
        exact absurd H zb24
       rw [if_pos c40] at H
       have c40b0:=decide_eq_true c40
       clear c40
       by_cases c41:x10_2 < (x9_2.length:Int);rotate_left
       ·rw [if_neg c41] at H
        exact absurd H zb24
       rw [if_pos c41] at H
       have c41b0:=decide_eq_true c41
       clear c41
       obtain ⟨y50,hy50⟩ : ∃ y_:List ByteArray,y_=(x9_2.set (x10_2:Int).toNat x0_2):=⟨_,rfl⟩
       replace H:(if 0 ≤ (wrap64 (x10_2 + 1)) then (if (wrap64 (x10_2 + 1)) ≤ (x9_2.length:Int) then (some (y50.take ((wrap64 (x10_2 + 1)):Int).toNat)) else (none)) else (none))=some r:=by first|(rw [hy50];with_reducible exact H)|(have H2_:=(Option.bind_some _ _).symm.trans H;rw [hy50];with_reducible exact H2_)|(have H2_:=(Option.bind_some _ _).symm.trans H;with_reducible exact H2_)|with_reducible exact H|(rw [hy50];exact H)|exact H
       have Ny50:=Aside0.mk hy50
       clear hy50
       obtain ⟨ji43,hji43⟩ : ∃ j_:Int,(wrap64 (x10_2 + 1))=j_:=⟨_,rfl⟩
       replace H:(if 0 ≤ (ji43) then (if (ji43) ≤ (x9_2.length:Int) then (some (y50.take ((ji43):Int).toNat)) else (none)) else (none))=some r:=by first|(rw [hji43] at H;exact H)|(simp only [hji43] at H ⊢;exact H)
       have hji43w:(IntKind.i64.wrap (x10_2 + 1))=ji43:=(i64_w _).trans hji43
       by_cases c44:0 ≤ (ji43);rotate_left
       ·rw [if_neg c44] at H
        exact absurd H zb24
       rw [if_pos c44] at H
       have c44b0:=eq_true c44
       have c44b1:=decide_eq_true c44
       clear c44
       by_cases c45:(ji43) ≤ (x9_2.length:Int)
       ·rw [if_pos c45] at H
        have c45b0:=eq_true c45
        have c45b1:=decide_eq_true c45
        clear c45
        obtain ⟨y53,hy53⟩ : ∃ y_:List ByteArray,y_=(y50.take ((ji43):Int).toNat):=⟨_,rfl⟩
        replace H:(some y53)=some r:=by first|(rw [hy53];with_reducible exact H)|(have H2_:=(Option.bind_some _ _).symm.trans H;rw [hy53];with_reducible exact H2_)|(have H2_:=(Option.bind_some _ _).symm.trans H;with_reducible exact H2_)|with_reducible exact H|(rw [hy53];exact H)|exact H
        have Ny53:=Aside0.mk hy53
        clear hy53
        obtain rfl:=Option.some.inj H
        have p42:0 ≤ (x10_2:Int):=of_decide_eq_true zb1
        have q42:(x10_2:Int) < ((x9_2.length:Int):Int):=of_decide_eq_true zb1
        obtain ⟨go42,co42,eo42,gb42,gl42,cl42,HG42⟩:=Kd.R_form HO_9.out zb16
        (first|cases eo42|(injection eo42 with ea_ en_ ec_;(first|subst ea_|(injection ea_ with ea_;subst ea_));subst ec_;clear en_))
        have GB42:=Aside0.mk gb42
        have GG42:=Aside0.mk HG42
        clear gb42 gl42 HG42
        obtain ⟨hx42_0,hf42_0⟩:=Kd.R_celln (⟨#[]⟩:ByteArray) HO_9.out (x10_2:Int) p42 q42
        replace p42:=eq_true p42
        replace q42:=eq_true q42
        have HP46:=Kd.R_putg HO_9.out (x10_2:Int) x0_2
        have q48:((ji43):Int) ≤ ((x9_2.length:Int):Int):=of_decide_eq_true zb1
        obtain ⟨i56,hi56,_,hsz48,_⟩:=info_parts info9
        have hcut48:=cut_to (P:=Tryz.prog) 34 9 .i64 Tryz.underlying34 hi56 (some ⟨go42,0,none⟩) x9_2.length co42 (ji43) (of_decide_eq_true zb1) q48 (Kd.R_reads' HO_9.out).2.1
        clear hi56 hsz48
        replace q48:=eq_true q48
        go_wp2_with (first|((with_reducible refine gate_store (t:=9) (p:=61) rfl ?_);refine store_event (t:=9) (p:=61) (v:=?vo_w47) (w1:=(wr.setCell ⟨go42,(x10_2:Int).toNat,none⟩ (.string x0_2))) ?hg ?ho ?hn ?hr ?_;(case ho=>rfl);(case hg=>rfl);(case hn=>rfl);(case hr=>first|(go_simp;done)|(go_simp;rfl));intro w47 hw;have hg:wr.grownBy w47 (some go42):=(by rw [hw];exact HP46.2);have hp_:Kd.R Kd.string 9 w47 w.heap.size (fun _=>True) (.slice (some ⟨go42,0,none⟩) x9_2.length co42) y50:=(by rw [hw,Ny50.out];exact HP46.1);clear HP46;replace HO_9:=Aside0.mk (hp_);replace HB:=Aside0.mk ((by rw [hw];exact below_set (HB.out) GB42.out:Below w.heap.size w w47));clear hg hw hp_;have q48:((ji43):Int) ≤ ((x9_2.length:Int):Int):=of_decide_eq_true zb1;obtain ⟨i56,hi56,_,hsz48,_⟩:=info_parts info9;have hcut48:=cut_to (P:=Tryz.prog) 34 9 .i64 Tryz.underlying34 hi56 (some ⟨go42,0,none⟩) x9_2.length co42 (ji43) (of_decide_eq_true zb1) q48 (Kd.R_reads' HO_9.out).2.1;have hr48:=Kd.R_take (m:=((ji43):Int).toNat) HO_9.out zb16;have hy48:y53.length=((ji43):Int).toNat:=(by rw [Ny53.out,List.length_take];omega);rw [← Ny53.out] at hr48;rw [← hy48] at hr48 hcut48;clear hy48 hi56 hsz48 HO_9;have HO67:=Aside0.mk hr48;clear hr48;replace q48:=eq_true q48))
        go_ret
        exact ⟨_,by first|rfl|(simp [errW_none,errW_some] <;> rfl)|(simp only [← hji12,← hji43];first|rfl|(simp [errW_none,errW_some] <;> rfl))|(simp [*,errW_none,errW_some] <;> rfl),(by rw [Ny53.out,Ny50.out];exact Kd.R_take (m:=((ji43):Int).toNat) HP46.1 (by have q_:(ji43:Int) ≤ (x9_2.length:Int):=of_decide_eq_true (by first|(with_reducible assumption)|assumption);rw [List.length_set];omega)),below_set (HB.out) GB42.out⟩
       ·rw [if_neg c45] at H
        exact absurd H zb24
      rw [if_pos c17] at H
      have c17b0:=decide_eq_true c17
      clear c17
      replace H:=Option.bind_eq_some_iff.mp H
      obtain ⟨t4,A61,H⟩:=H
      try dsimp only at H
      have A18:=Aside0.mk A61
      clear A61
      by_cases c19:t4 < 0
      ·rw [if_pos c19] at H
       have c19b0:=decide_eq_true c19
       clear c19
       by_cases c20:0 ≤ x10_2;rotate_left
       ·rw [if_neg c20] at H
        exact absurd H zb24
       rw [if_pos c20] at H
       have c20b0:=decide_eq_true c20
       clear c20
       by_cases c21:x10_2 < (x9_2.length:Int)
       ·rw [if_pos c21] at H
        have c21b0:=decide_eq_true c21
        clear c21
        obtain ⟨y49,hy49⟩ : ∃ y_:List ByteArray,y_=(x9_2.set (x10_2:Int).toNat x0_2):=⟨_,rfl⟩
        replace H:(if 0 ≤ (wrap64 (x10_2 + 1)) then (if (wrap64 (x10_2 + 1)) ≤ (x9_2.length:Int) then (some (y49.take ((wrap64 (x10_2 + 1)):Int).toNat)) else (none)) else (none))=some r:=by first|(rw [hy49];with_reducible exact H)|(have H2_:=(Option.bind_some _ _).symm.trans H;rw [hy49];with_reducible exact H2_)|(have H2_:=(Option.bind_some _ _).symm.trans H;with_reducible exact H2_)|with_reducible exact H|(rw [hy49];exact H)|exact H
        have Ny49:=Aside0.mk hy49
        clear hy49
        obtain ⟨ji23,hji23⟩ : ∃ j_:Int,(wrap64 (x10_2 + 1))=j_:=⟨_,rfl⟩
        replace H:(if 0 ≤ (ji23) then (if (ji23) ≤ (x9_2.length:Int) then (some (y49.take ((ji23):Int).toNat)) else (none)) else (none))=some r:=by first|(rw [hji23] at H;exact H)|(simp only [hji23] at H ⊢;exact H)
        (try rw [hji23] at A18)
        have hji23w:(IntKind.i64.wrap (x10_2 + 1))=ji23:=(i64_w _).trans hji23
        by_cases c24:0 ≤ (ji23);rotate_left
        ·rw [if_neg c24] at H
         exact absurd H zb24
        rw [if_pos c24] at H
        have c24b0:=eq_true c24
        have c24b1:=decide_eq_true c24
        clear c24
        by_cases c25:(ji23) ≤ (x9_2.length:Int)
        ·rw [if_pos c25] at H
         have c25b0:=eq_true c25
         have c25b1:=decide_eq_true c25
         clear c25
         obtain ⟨y51,hy51⟩ : ∃ y_:List ByteArray,y_=(y49.take ((ji23):Int).toNat):=⟨_,rfl⟩
         replace H:(some y51)=some r:=by first|(rw [hy51];with_reducible exact H)|(have H2_:=(Option.bind_some _ _).symm.trans H;rw [hy51];with_reducible exact H2_)|(have H2_:=(Option.bind_some _ _).symm.trans H;with_reducible exact H2_)|with_reducible exact H|(rw [hy51];exact H)|exact H
         have Ny51:=Aside0.mk hy51
         clear hy51
         obtain rfl:=Option.some.inj H
         go_wp2_with (first|((with_reducible refine gate_callee (f:=105) rfl ?_);refine goesL_ (some 39) rfl rfl Tryz.func105 zb14 rfl #[.string x0_2,.string a1] rfl zb2 ?_;(with_reducible refine (strings_Index.calls x0_2 a1 t4 _ A18.out).mono ?_);rintro e w' ⟨rfl,⟨nd,rfl⟩⟩;(try clear A18);refine ⟨_,rfl,?_⟩;(try (rw [drewN_self wr];generalize hq_:World.drewN wr _=wr;have n0_:Aside0 (Kd.R Kd.string 9 wr w.heap.size (fun _=>True) v59 x9_2):=⟨zb82⟩;have n1_:Aside0 (Below w.heap.size w wr):=⟨zb43⟩;clear HO_9 HB hq_;have HO_9:=n0_;have HB:=n1_;clear n0_ n1_));have p22:0 ≤ (x10_2:Int):=of_decide_eq_true zb1;have q22:(x10_2:Int) < ((x9_2.length:Int):Int):=of_decide_eq_true zb1;obtain ⟨go22,co22,eo22,gb22,gl22,cl22,HG22⟩:=Kd.R_form HO_9.out zb16;(first|cases eo22|(injection eo22 with ea_ en_ ec_;(first|subst ea_|(injection ea_ with ea_;subst ea_));subst ec_;clear en_));have GB22:=Aside0.mk gb22;have GG22:=Aside0.mk HG22;clear gb22 gl22 HG22;obtain ⟨hx22_0,hf22_0⟩:=Kd.R_celln (⟨#[]⟩:ByteArray) HO_9.out (x10_2:Int) p22 q22;replace p22:=eq_true p22;replace q22:=eq_true q22;obtain ⟨hy26_,hz26_⟩:=Kd.R_celln (⟨#[]⟩:ByteArray) HO_9.out (x10_2:Int) (of_decide_eq_true zb1) (of_decide_eq_true zb1);have HP26:=Kd.R_putg HO_9.out (x10_2:Int) x0_2;have q28:((ji23):Int) ≤ ((x9_2.length:Int):Int):=of_decide_eq_true zb1;obtain ⟨i55,hi55,_,hsz28,_⟩:=info_parts info9;have hcut28:=cut_to (P:=Tryz.prog) 34 9 .i64 Tryz.underlying34 hi55 (some ⟨go22,0,none⟩) x9_2.length co22 (ji23) (of_decide_eq_true zb1) q28 (Kd.R_reads' HO_9.out).2.1;clear hi55 hsz28;replace q28:=eq_true q28)|((with_reducible refine gate_store (t:=9) (p:=61) rfl ?_);refine store_event (t:=9) (p:=61) (v:=?vo_w27) (w1:=(wr.setCell ⟨go22,(x10_2:Int).toNat,none⟩ (.string x0_2))) ?hg ?ho ?hn ?hr ?_;(case ho=>rfl);(case hg=>rfl);(case hn=>rfl);(case hr=>first|(go_simp;done)|(go_simp;rfl));intro w27 hw;have hg:wr.grownBy w27 (some go22):=(by rw [hw];exact HP26.2);have hp_:Kd.R Kd.string 9 w27 w.heap.size (fun _=>True) (.slice (some ⟨go22,0,none⟩) x9_2.length co22) y49:=(by rw [hw,Ny49.out];exact HP26.1);clear HP26;replace HO_9:=Aside0.mk (hp_);replace HB:=Aside0.mk ((by rw [hw];exact below_set (HB.out) GB22.out:Below w.heap.size w w27));clear hg hw hp_;have q28:((ji23):Int) ≤ ((x9_2.length:Int):Int):=of_decide_eq_true zb1;obtain ⟨i55,hi55,_,hsz28,_⟩:=info_parts info9;have hcut28:=cut_to (P:=Tryz.prog) 34 9 .i64 Tryz.underlying34 hi55 (some ⟨go22,0,none⟩) x9_2.length co22 (ji23) (of_decide_eq_true zb1) q28 (Kd.R_reads' HO_9.out).2.1;have hr28:=Kd.R_take (m:=((ji23):Int).toNat) HO_9.out zb16;have hy28:y51.length=((ji23):Int).toNat:=(by rw [Ny51.out,List.length_take];omega);rw [← Ny51.out] at hr28;rw [← hy28] at hr28 hcut28;clear hy28 hi55 hsz28 HO_9;have HO66:=Aside0.mk hr28;clear hr28;replace q28:=eq_true q28))
         go_ret
         exact ⟨_,by first|rfl|(simp [errW_none,errW_some] <;> rfl)|(simp only [← hji12,← hji23];first|rfl|(simp [errW_none,errW_some] <;> rfl))|(simp [*,errW_none,errW_some] <;> rfl),(by rw [Ny51.out,Ny49.out];exact Kd.R_take (m:=((ji23):Int).toNat) HP26.1 (by have q_:(ji23:Int) ≤ (x9_2.length:Int):=of_decide_eq_true (by first|(with_reducible assumption)|assumption);rw [List.length_set];omega)),below_set (HB.out) GB22.out⟩
        ·rw [if_neg c25] at H
         exact absurd H zb24
       ·rw [if_neg c21] at H
        exact absurd H zb24
      rw [if_neg c19] at H
      have c19b0:=decide_eq_false c19
      clear c19
      obtain ⟨ji29,hji29⟩ : ∃ j_:Int,(wrap64 (t4 + a2))=j_:=⟨_,rfl⟩
      replace H:(if 0 ≤ (ji29) then (if (ji29) ≤ (x0_2.size:Int) then (if 0 ≤ x10_2 then (if x10_2 < (x9_2.length:Int) then (if 0 ≤ (wrap64 (t4 + (a1.size:Int))) then (if (wrap64 (t4 + (a1.size:Int))) ≤ (x0_2.size:Int) then (strings_genSplit.l0 k2 (x0_2.extract ((wrap64 (t4 + (a1.size:Int))):Int).toNat x0_2.size) a1 a2 (wrap64 ((ji12) - 1)) (x9_2.set (x10_2:Int).toNat (x0_2.extract 0 ((ji29):Int).toNat)) (wrap64 (x10_2 + 1))) else (none)) else (none)) else (none)) else (none)) else (none)) else (none))=some r:=by first|(rw [hji29] at H;exact H)|(simp only [hji29] at H ⊢;exact H)
      (try rw [hji29] at A18)
      have hji29w:(IntKind.i64.wrap (t4 + a2))=ji29:=(i64_w _).trans hji29
      by_cases c30:0 ≤ (ji29)
      ·rw [if_pos c30] at H
       have c30b0:=eq_true c30
       have c30b1:=decide_eq_true c30
       clear c30
       by_cases c31:(ji29) ≤ (x0_2.size:Int)
       ·rw [if_pos c31] at H
        have c31b0:=eq_true c31
        have c31b1:=decide_eq_true c31
        clear c31
        by_cases c32:0 ≤ x10_2
        ·rw [if_pos c32] at H
         have c32b0:=decide_eq_true c32
         clear c32
         by_cases c33:x10_2 < (x9_2.length:Int)
         ·rw [if_pos c33] at H
          have c33b0:=decide_eq_true c33
          clear c33
          obtain ⟨y52,hy52⟩ : ∃ y_:List ByteArray,y_=(x9_2.set (x10_2:Int).toNat (x0_2.extract 0 ((ji29):Int).toNat)):=⟨_,rfl⟩
          replace H:(if 0 ≤ (wrap64 (t4 + (a1.size:Int))) then (if (wrap64 (t4 + (a1.size:Int))) ≤ (x0_2.size:Int) then (strings_genSplit.l0 k2 (x0_2.extract ((wrap64 (t4 + (a1.size:Int))):Int).toNat x0_2.size) a1 a2 (wrap64 ((ji12) - 1)) y52 (wrap64 (x10_2 + 1))) else (none)) else (none))=some r:=by first|(rw [hy52];with_reducible exact H)|(have H2_:=(Option.bind_some _ _).symm.trans H;rw [hy52];with_reducible exact H2_)|(have H2_:=(Option.bind_some _ _).symm.trans H;with_reducible exact H2_)|with_reducible exact H|(rw [hy52];exact H)|exact H
          have Ny52:=Aside0.mk hy52
          clear hy52
          obtain ⟨ji35,hji35⟩ : ∃ j_:Int,(wrap64 (t4 + (a1.size:Int)))=j_:=⟨_,rfl⟩
          replace H:(if 0 ≤ (ji35) then (if (ji35) ≤ (x0_2.size:Int) then (strings_genSplit.l0 k2 (x0_2.extract ((ji35):Int).toNat x0_2.size) a1 a2 (wrap64 ((ji12) - 1)) y52 (wrap64 (x10_2 + 1))) else (none)) else (none))=some r:=by first|(rw [hji35] at H;exact H)|(simp only [hji35] at H ⊢;exact H)
          (try rw [hji35] at A18)
          have hji35w:(IntKind.i64.wrap (t4 + (a1.size:Int)))=ji35:=(i64_w _).trans hji35
          by_cases c36:0 ≤ (ji35)
          ·rw [if_pos c36] at H
           have c36b0:=eq_true c36
           have c36b1:=decide_eq_true c36
           clear c36
           by_cases c37:(ji35) ≤ (x0_2.size:Int)
           ·rw [if_pos c37] at H
            have c37b0:=eq_true c37
            have c37b1:=decide_eq_true c37
            clear c37
            have H' := Aside0.mk H
            clear H
            go_wp2_with (first|((with_reducible refine gate_callee (f:=105) rfl ?_);refine goesL_ (some 39) rfl rfl Tryz.func105 zb14 rfl #[.string x0_2,.string a1] rfl zb2 ?_;(with_reducible refine (strings_Index.calls x0_2 a1 t4 _ A18.out).mono ?_);rintro e w' ⟨rfl,⟨nd,rfl⟩⟩;(try clear A18);refine ⟨_,rfl,?_⟩;(try (rw [drewN_self wr];generalize hq_:World.drewN wr _=wr;have n0_:Aside0 (Kd.R Kd.string 9 wr w.heap.size (fun _=>True) v59 x9_2):=⟨zb82⟩;have n1_:Aside0 (Below w.heap.size w wr):=⟨zb43⟩;clear HO_9 HB hq_;have HO_9:=n0_;have HB:=n1_;clear n0_ n1_));have p34:0 ≤ (x10_2:Int):=of_decide_eq_true zb1;have q34:(x10_2:Int) < ((x9_2.length:Int):Int):=of_decide_eq_true zb1;obtain ⟨go34,co34,eo34,gb34,gl34,cl34,HG34⟩:=Kd.R_form HO_9.out zb16;(first|cases eo34|(injection eo34 with ea_ en_ ec_;(first|subst ea_|(injection ea_ with ea_;subst ea_));subst ec_;clear en_));have GB34:=Aside0.mk gb34;have GG34:=Aside0.mk HG34;clear gb34 gl34 HG34;obtain ⟨hx34_0,hf34_0⟩:=Kd.R_celln (⟨#[]⟩:ByteArray) HO_9.out (x10_2:Int) p34 q34;replace p34:=eq_true p34;replace q34:=eq_true q34;obtain ⟨hy38_,hz38_⟩:=Kd.R_celln (⟨#[]⟩:ByteArray) HO_9.out (x10_2:Int) (of_decide_eq_true zb1) (of_decide_eq_true zb1);have HP38:=Kd.R_putg HO_9.out (x10_2:Int) (x0_2.extract 0 ((ji29):Int).toNat))|((with_reducible refine gate_store (t:=9) (p:=49) rfl ?_);refine store_event (t:=9) (p:=49) (v:=?vo_w39) (w1:=(wr.setCell ⟨go34,(x10_2:Int).toNat,none⟩ (.string (x0_2.extract 0 ((ji29):Int).toNat)))) ?hg ?ho ?hn ?hr ?_;(case ho=>rfl);(case hg=>rfl);(case hn=>rfl);(case hr=>first|(go_simp;done)|(go_simp;rfl));intro w39 hw;have hg:wr.grownBy w39 (some go34):=(by rw [hw];exact HP38.2);have hp_:Kd.R Kd.string 9 w39 w.heap.size (fun _=>True) (.slice (some ⟨go34,0,none⟩) x9_2.length co34) y52:=(by rw [hw,Ny52.out];exact HP38.1);clear HP38;replace HO_9:=Aside0.mk (hp_);replace HB:=Aside0.mk ((by rw [hw];exact below_set (HB.out) GB34.out:Below w.heap.size w w39));clear hg hw hp_))
            go_roundg k2
            case measure=>have:=HJ8.out;have:=HK2.out;omega
            case rel=>exact ⟨(x0_2.extract ((ji35):Int).toNat x0_2.size),(y52),(wrap64 (x10_2 + 1)),(by first|rfl|(simp;done)|(simp only [← hji35] <;> (first|rfl|simp))|(simp [*];done)),zb5,H',⟨by have:=HJ8.out;have:=HK2.out;omega⟩,⟨by (with_reducible repeat (first|apply Kd.R_alloc|apply Kd.R_drewN|apply Kd.R_drew));exact HO_9.out⟩,⟨zb0⟩⟩
           ·rw [if_neg c37] at H
            exact absurd H zb24
          ·rw [if_neg c36] at H
           exact absurd H zb24
         ·rw [if_neg c33] at H
          exact absurd H zb24
        ·rw [if_neg c32] at H
         exact absurd H zb24
       ·rw [if_neg c31] at H
        exact absurd H zb24
      ·rw [if_neg c30] at H
       exact absurd H zb24
   ·rw [if_neg c14] at H
    exact absurd H zb24
def strings_Split.f (k:Nat) (a0:ByteArray) (a1:ByteArray):Option (List ByteArray):=(strings_genSplit.f k a0 a1 0 (-1)).bind fun t174=>(some t174)
theorem strings_Split.mono : ∀ a0 a1 k,LeO (strings_Split.f k a0 a1) (strings_Split.f (k + 1) a0 a1):=by
 intro a0 a1 k
 unfold strings_Split.f
 repeat' first
  | (with_reducible exact strings_genSplit.mono _ _ _ _ _)
  | (with_reducible exact LeO.refl _)
  | (with_reducible exact LeO.none _)
  | (with_reducible refine LeO.ite ?_ ?_)
  | (with_reducible refine LeO.bind ?_ (fun _=>?_))
  | exact strings_genSplit.mono _ _ _ _ _
  | exact LeO.none _
  | refine LeO.ite ?_ ?_
  | refine LeO.bind ?_ (fun _=>?_)
set_option maxHeartbeats 8000000 in
set_option maxRecDepth 100000 in
theorem strings_Split.calls (k:Nat) (a0:ByteArray) (a1:ByteArray) (r:List ByteArray) (w:World) (h:strings_Split.f k a0 a1=some r) :
 Calls Tryz.prog 44 #[.string a0,.string a1] w fun e w' => ∃ v0_:Value,e = .returned (v0_)∧Kd.R Kd.string 9 w' w.heap.size (fun _=>True) v0_ r∧Below w.heap.size w w' := by
 have HB:=Aside0.mk (Below.refl w.heap.size w)
 unfold strings_Split.f at h
 have H:=h
 clear h
 replace H:=Option.bind_eq_some_iff.mp H
 obtain ⟨t174,A30,H⟩:=H
 try dsimp only at H
 have A3:=Aside0.mk A30
 clear A30
 obtain rfl:=Option.some.inj H
 go_enter Tryz.func44,Tryz.ntmps44
 go_wp2_with (first|((with_reducible refine gate_callee (f:=77) rfl ?_);refine goesL_ (some 7) rfl rfl Tryz.func77 zb14 rfl #[.string a0,.string a1,.int .i64 0,.int .i64 (-1)] rfl zb2 ?_;(with_reducible refine (strings_genSplit.calls k a0 a1 0 (-1) t174 _ A3.out).mono ?_);rintro e w4 ⟨v175,rfl,ho0,hb⟩;(try clear A3);refine ⟨_,rfl,?_⟩;have HO176:=Aside0.mk (Kd.R_lower ho0 (below_size zb0));replace HB:=Aside0.mk (below_step zb0 hb);try clear hb ho0))
 go_ret
 exact ⟨_,zb6,by (with_reducible repeat (first|apply Kd.R_alloc|apply Kd.R_drewN|apply Kd.R_drew));exact HO176.out,zb0⟩
/-- The numbers of some words,if all are numbers as they are told. -/
def slotNs (k:Nat):List ByteArray → Option (Option (List Int))
 | []=>some (some [])
 | w :: r=>(sign_Decimal.f k w).bind fun d=>if d.2=true then (sign_Text.f d.1).bind fun t=>if t.toList=w.toList then (slotNs k r).bind fun o=>some (o.map fun ns=>d.1 :: ns) else some none else some none
def slotE:ByteArray × List ByteArray × Int × Int × Int × Int × Int × Int × Bool:=((⟨#[]⟩:ByteArray),[],0,0,0,0,0,0,false)
def table_slot.f (k:Nat) (a0:ByteArray):Option (ByteArray × List ByteArray × Int × Int × Int × Int × Int × Int × Bool) :=
 (strings_Split.f k a0 (⟨#[32]⟩:ByteArray)).bind fun ws=>if ws.length < 8 then some slotE else if (rdOf ByteArray.empty ws 0).toList=([115,108,111,116]:List UInt8) then (slotNs k ((ws.drop 2).take 6)).bind fun o=>match o with
  | some [n0,n1,n2,n3,n4,n5]=>if (ws.drop 8).length ≤ 8796093022207 then some (rdOf ByteArray.empty ws 1,ws.drop 8,n0,n1,n2,n3,n4,n5,true) else none
  | some _=>none
  | none=>some slotE
 else some slotE
theorem slotNs_mono : ∀ (ws:List ByteArray) (k:Nat),LeO (slotNs k ws) (slotNs (k + 1) ws)
 | [],k=>LeO.refl _
 | w :: r,k=>by
  simp only [slotNs]
  exact LeO.bind (sign_Decimal.mono _ _) (fun _=>LeO.ite (LeO.bind (LeO.refl _) (fun _=>LeO.ite (LeO.bind (slotNs_mono r k) (fun _=>LeO.refl _)) (LeO.refl _))) (LeO.refl _))
theorem table_slot.mono : ∀ a0 k,LeO (table_slot.f k a0) (table_slot.f (k + 1) a0):=by
 intro a0 k
 unfold table_slot.f
 exact LeO.bind (strings_Split.mono _ _ _) (fun _=>LeO.ite (LeO.refl _) (LeO.ite (LeO.bind (slotNs_mono _ _) (fun _=>LeO.refl _)) (LeO.refl _)))
set_option maxHeartbeats 4000000 in
theorem slPut8 {w W:World} {R:Nat} (h:Below w.heap.size w W) (hR:w.heap.size ≤ R) (a0 a1 a2 a3 a4 a5 a6 a7:Value):Below w.heap.size w ((((((((W.setCell ⟨R,0,none⟩ a0).setCell ⟨R,1,none⟩ a1).setCell ⟨R,2,none⟩ a2).setCell ⟨R,3,none⟩ a3).setCell ⟨R,4,none⟩ a4).setCell ⟨R,5,none⟩ a5).setCell ⟨R,6,none⟩ a6).setCell ⟨R,7,none⟩ a7):=by
 have h0:Below w.heap.size w (W.setCell ⟨R,0,none⟩ a0):=h.setCell hR a0
 have h1:Below w.heap.size w ((W.setCell ⟨R,0,none⟩ a0).setCell ⟨R,1,none⟩ a1):=h0.setCell hR a1
 have h2:Below w.heap.size w (((W.setCell ⟨R,0,none⟩ a0).setCell ⟨R,1,none⟩ a1).setCell ⟨R,2,none⟩ a2):=h1.setCell hR a2
 have h3:Below w.heap.size w ((((W.setCell ⟨R,0,none⟩ a0).setCell ⟨R,1,none⟩ a1).setCell ⟨R,2,none⟩ a2).setCell ⟨R,3,none⟩ a3):=h2.setCell hR a3
 have h4:Below w.heap.size w (((((W.setCell ⟨R,0,none⟩ a0).setCell ⟨R,1,none⟩ a1).setCell ⟨R,2,none⟩ a2).setCell ⟨R,3,none⟩ a3).setCell ⟨R,4,none⟩ a4):=h3.setCell hR a4
 have h5:Below w.heap.size w ((((((W.setCell ⟨R,0,none⟩ a0).setCell ⟨R,1,none⟩ a1).setCell ⟨R,2,none⟩ a2).setCell ⟨R,3,none⟩ a3).setCell ⟨R,4,none⟩ a4).setCell ⟨R,5,none⟩ a5):=h4.setCell hR a5
 have h6:Below w.heap.size w (((((((W.setCell ⟨R,0,none⟩ a0).setCell ⟨R,1,none⟩ a1).setCell ⟨R,2,none⟩ a2).setCell ⟨R,3,none⟩ a3).setCell ⟨R,4,none⟩ a4).setCell ⟨R,5,none⟩ a5).setCell ⟨R,6,none⟩ a6):=h5.setCell hR a6
 have h7:Below w.heap.size w ((((((((W.setCell ⟨R,0,none⟩ a0).setCell ⟨R,1,none⟩ a1).setCell ⟨R,2,none⟩ a2).setCell ⟨R,3,none⟩ a3).setCell ⟨R,4,none⟩ a4).setCell ⟨R,5,none⟩ a5).setCell ⟨R,6,none⟩ a6).setCell ⟨R,7,none⟩ a7):=h6.setCell hR a7
 exact h7
set_option maxHeartbeats 4000000 in
theorem slBlk8 {W:World} {R t:Nat} {x0 x1 x2 x3 x4 x5 x6 x7:Value} (h:W.heap[R]? = some (.cells #[x0,x1,x2,x3,x4,x5,x6,x7] t (0,0))) (a0 a1 a2 a3 a4 a5 a6 a7:Value):((((((((W.setCell ⟨R,0,none⟩ a0).setCell ⟨R,1,none⟩ a1).setCell ⟨R,2,none⟩ a2).setCell ⟨R,3,none⟩ a3).setCell ⟨R,4,none⟩ a4).setCell ⟨R,5,none⟩ a5).setCell ⟨R,6,none⟩ a6).setCell ⟨R,7,none⟩ a7).heap[R]? = some (.cells #[a0,a1,a2,a3,a4,a5,a6,a7] t (0,0)):=by
 have h0:(W.setCell ⟨R,0,none⟩ a0).heap[R]? = some (.cells #[a0,x1,x2,x3,x4,x5,x6,x7] t (0,0)):=blk_put h 0 _ rfl
 have h1:((W.setCell ⟨R,0,none⟩ a0).setCell ⟨R,1,none⟩ a1).heap[R]? = some (.cells #[a0,a1,x2,x3,x4,x5,x6,x7] t (0,0)):=blk_put h0 1 _ rfl
 have h2:(((W.setCell ⟨R,0,none⟩ a0).setCell ⟨R,1,none⟩ a1).setCell ⟨R,2,none⟩ a2).heap[R]? = some (.cells #[a0,a1,a2,x3,x4,x5,x6,x7] t (0,0)):=blk_put h1 2 _ rfl
 have h3:((((W.setCell ⟨R,0,none⟩ a0).setCell ⟨R,1,none⟩ a1).setCell ⟨R,2,none⟩ a2).setCell ⟨R,3,none⟩ a3).heap[R]? = some (.cells #[a0,a1,a2,a3,x4,x5,x6,x7] t (0,0)):=blk_put h2 3 _ rfl
 have h4:(((((W.setCell ⟨R,0,none⟩ a0).setCell ⟨R,1,none⟩ a1).setCell ⟨R,2,none⟩ a2).setCell ⟨R,3,none⟩ a3).setCell ⟨R,4,none⟩ a4).heap[R]? = some (.cells #[a0,a1,a2,a3,a4,x5,x6,x7] t (0,0)):=blk_put h3 4 _ rfl
 have h5:((((((W.setCell ⟨R,0,none⟩ a0).setCell ⟨R,1,none⟩ a1).setCell ⟨R,2,none⟩ a2).setCell ⟨R,3,none⟩ a3).setCell ⟨R,4,none⟩ a4).setCell ⟨R,5,none⟩ a5).heap[R]? = some (.cells #[a0,a1,a2,a3,a4,a5,x6,x7] t (0,0)):=blk_put h4 5 _ rfl
 have h6:(((((((W.setCell ⟨R,0,none⟩ a0).setCell ⟨R,1,none⟩ a1).setCell ⟨R,2,none⟩ a2).setCell ⟨R,3,none⟩ a3).setCell ⟨R,4,none⟩ a4).setCell ⟨R,5,none⟩ a5).setCell ⟨R,6,none⟩ a6).heap[R]? = some (.cells #[a0,a1,a2,a3,a4,a5,a6,x7] t (0,0)):=blk_put h5 6 _ rfl
 have h7:((((((((W.setCell ⟨R,0,none⟩ a0).setCell ⟨R,1,none⟩ a1).setCell ⟨R,2,none⟩ a2).setCell ⟨R,3,none⟩ a3).setCell ⟨R,4,none⟩ a4).setCell ⟨R,5,none⟩ a5).setCell ⟨R,6,none⟩ a6).setCell ⟨R,7,none⟩ a7).heap[R]? = some (.cells #[a0,a1,a2,a3,a4,a5,a6,a7] t (0,0)):=blk_put h6 7 _ rfl
 exact h7
set_option maxHeartbeats 4000000 in
theorem slR8 {α:Type} {dd:Kd α} {ty base R:Nat} {W:World} {v:Value} {xs:List α} (h:dd.R ty W base (fun k=>k ≠ R) v xs) (a0 a1 a2 a3 a4 a5 a6 a7:Value):dd.R ty ((((((((W.setCell ⟨R,0,none⟩ a0).setCell ⟨R,1,none⟩ a1).setCell ⟨R,2,none⟩ a2).setCell ⟨R,3,none⟩ a3).setCell ⟨R,4,none⟩ a4).setCell ⟨R,5,none⟩ a5).setCell ⟨R,6,none⟩ a6).setCell ⟨R,7,none⟩ a7) base (fun k=>k ≠ R) v xs:=by
 have h0:dd.R ty (W.setCell ⟨R,0,none⟩ a0) base (fun k=>k ≠ R) v xs:=Kd.R_far h (fun _ hk=>hk) a0
 have h1:dd.R ty ((W.setCell ⟨R,0,none⟩ a0).setCell ⟨R,1,none⟩ a1) base (fun k=>k ≠ R) v xs:=Kd.R_far h0 (fun _ hk=>hk) a1
 have h2:dd.R ty (((W.setCell ⟨R,0,none⟩ a0).setCell ⟨R,1,none⟩ a1).setCell ⟨R,2,none⟩ a2) base (fun k=>k ≠ R) v xs:=Kd.R_far h1 (fun _ hk=>hk) a2
 have h3:dd.R ty ((((W.setCell ⟨R,0,none⟩ a0).setCell ⟨R,1,none⟩ a1).setCell ⟨R,2,none⟩ a2).setCell ⟨R,3,none⟩ a3) base (fun k=>k ≠ R) v xs:=Kd.R_far h2 (fun _ hk=>hk) a3
 have h4:dd.R ty (((((W.setCell ⟨R,0,none⟩ a0).setCell ⟨R,1,none⟩ a1).setCell ⟨R,2,none⟩ a2).setCell ⟨R,3,none⟩ a3).setCell ⟨R,4,none⟩ a4) base (fun k=>k ≠ R) v xs:=Kd.R_far h3 (fun _ hk=>hk) a4
 have h5:dd.R ty ((((((W.setCell ⟨R,0,none⟩ a0).setCell ⟨R,1,none⟩ a1).setCell ⟨R,2,none⟩ a2).setCell ⟨R,3,none⟩ a3).setCell ⟨R,4,none⟩ a4).setCell ⟨R,5,none⟩ a5) base (fun k=>k ≠ R) v xs:=Kd.R_far h4 (fun _ hk=>hk) a5
 have h6:dd.R ty (((((((W.setCell ⟨R,0,none⟩ a0).setCell ⟨R,1,none⟩ a1).setCell ⟨R,2,none⟩ a2).setCell ⟨R,3,none⟩ a3).setCell ⟨R,4,none⟩ a4).setCell ⟨R,5,none⟩ a5).setCell ⟨R,6,none⟩ a6) base (fun k=>k ≠ R) v xs:=Kd.R_far h5 (fun _ hk=>hk) a6
 have h7:dd.R ty ((((((((W.setCell ⟨R,0,none⟩ a0).setCell ⟨R,1,none⟩ a1).setCell ⟨R,2,none⟩ a2).setCell ⟨R,3,none⟩ a3).setCell ⟨R,4,none⟩ a4).setCell ⟨R,5,none⟩ a5).setCell ⟨R,6,none⟩ a6).setCell ⟨R,7,none⟩ a7) base (fun k=>k ≠ R) v xs:=Kd.R_far h6 (fun _ hk=>hk) a7
 exact h7
theorem sl_at (ws:List ByteArray) (h8 : ¬ ws.length < 8) (j:Nat) (hj:j < 6):((ws.drop 2).take 6).drop j=rdOf ByteArray.empty ws ((2 + j:Nat):Int) :: ((ws.drop 2).take 6).drop (j + 1):=by
 have hl:j < ((ws.drop 2).take 6).length:=by rw [List.length_take,List.length_drop];omega
 rw [List.drop_eq_getElem_cons hl]
 congr 1
 rw [List.getElem_take,List.getElem_drop]
 unfold rdOf
 rw [List.getD_eq_getElem?_getD,Int.toNat_natCast,List.getElem?_eq_getElem (show 2 + j < ws.length by omega)]
 rfl
theorem sl_set (ns:List Int) (j:Nat) (d:Int) (h:j < ns.length):(ns.set j d).take (j + 1)=ns.take j ++ [d]:=by
 rw [List.take_succ_eq_append_getElem (by rw [List.length_set];exact h),List.getElem_set_self,List.take_set_of_le (Nat.le_refl j)]
theorem sl_cell (ns:List Int) (j:Nat) (h:j < ns.length):((ns.map (Value.int .i64)).toArray)[j]? = some (.int .i64 (ns.getD j 0)):=by
 rw [List.getElem?_toArray,List.getElem?_map,List.getElem?_eq_getElem h,List.getD_eq_getElem?_getD,List.getElem?_eq_getElem h]
 rfl
theorem sl_map (ns:List Int) (j:Nat) (d:Int):((ns.set j d).map (Value.int .i64)).toArray=((ns.map (Value.int .i64)).toArray).setIfInBounds j (.int .i64 d):=by
 rw [List.setIfInBounds_toArray,List.map_set]
theorem slot_inf:(Tryz.prog.info? 9).map (fun i=>(i.zero,i.size,i.bytes))=some (some (.string ⟨#[]⟩),1,16):=by kernel_rfl
/-- What slot hands back. -/
def SlotPost (w:World) (r1:ByteArray) (r2:List ByteArray) (r3 r4 r5 r6 r7 r8:Int) (r9:Bool) (e:Ending) (w' : World):Prop := ∃ v1_:Value,e = .returned (.tuple #[.agg #[.string r1,v1_,.int .i64 r3,.int .i64 r4,.int .i64 r5,.int .i64 r6,.int .i64 r7,.int .i64 r8],.bool r9])∧Kd.R Kd.string 9 w' w.heap.size (fun _=>True) v1_ r2∧Below w.heap.size w w'
set_option maxHeartbeats 16000000 in
set_option maxRecDepth 100000 in
theorem table_slot.calls (k:Nat) (a0:ByteArray) (r1:ByteArray) (r2:List ByteArray) (r3 r4 r5 r6 r7 r8:Int) (r9:Bool) (w:World) (h:table_slot.f k a0=some (r1,r2,r3,r4,r5,r6,r7,r8,r9)) (ht:Tabs w) :
 Calls Tryz.prog 35 #[.string a0] w fun e w' => ∃ v1_:Value,e = .returned (.tuple #[.agg #[.string r1,v1_,.int .i64 r3,.int .i64 r4,.int .i64 r5,.int .i64 r6,.int .i64 r7,.int .i64 r8],.bool r9])∧Kd.R Kd.string 9 w' w.heap.size (fun _=>True) v1_ r2∧Below w.heap.size w w' := by
 show Calls _ _ _ _ (SlotPost w r1 r2 r3 r4 r5 r6 r7 r8 r9)
 have hu:=Tryz.underlying64
 have HT:=Aside0.mk ht
 clear ht
 unfold table_slot.f at h
 obtain ⟨ws,hws,h'⟩:=Option.bind_eq_some_iff.1 h
 clear h
 have HW:=Aside0.mk hws
 clear hws
 have B0:=Aside0.mk (show (w.alloc (.cells #[.string (⟨#[]⟩:ByteArray),.slice none 0 0,.int .i64 0,.int .i64 0,.int .i64 0,.int .i64 0,.int .i64 0,.int .i64 0] 64 (0,0))).heap[w.heap.size]? = some (.cells #[.string (⟨#[]⟩:ByteArray),.slice none 0 0,.int .i64 0,.int .i64 0,.int .i64 0,.int .i64 0,.int .i64 0,.int .i64 0] 64 (0,0)) from blk_new w _)
 by_cases c8:ws.length < 8
 ·rw [if_pos c8] at h'
  simp only [slotE,Option.some.injEq,Prod.mk.injEq] at h'
  obtain ⟨rfl,rfl,rfl,rfl,rfl,rfl,rfl,rfl,rfl⟩:=h'
  have d1:decide ((ws.length:Int) < 8)=true:=decide_eq_true zb16
  have d2:decide (ws.length < 8)=true:=decide_eq_true zb16
  have d3:((ws.length:Int) < 8)=True:=eq_true zb16
  have d4:(ws.length < 8)=True:=eq_true zb16
  clear c8
  go_enter Tryz.func35,Tryz.ntmps35
  go_wp2_with (first
   | (go_at_call 44;(with_reducible refine (strings_Split.calls k a0 (⟨#[32]⟩:ByteArray) ws _ HW.out).mono ?_);rintro E w1 ⟨v0,rfl,h0,hb⟩;obtain ⟨AW,cW,rfl⟩:=Kd.R_slice h0;have B1:=Aside0.mk (blk_below B0.out hb);have L1:=Aside0.mk (below_step (below_alloc (Below.refl _ w) (.cells #[.string (⟨#[]⟩:ByteArray),.slice none 0 0,.int .i64 0,.int .i64 0,.int .i64 0,.int .i64 0,.int .i64 0,.int .i64 0] 64 (0,0))) hb);have W1:=Aside0.mk (Kd.R_reads' h0).2.2;have WC:=Aside0.mk (Kd.R_reads' h0).2.1;have zf0:=blk_frozen B1.out 0;have zq0:w1.cell? ⟨w.heap.size,0,none⟩=some (.string (⟨#[]⟩:ByteArray)):=(blk_cell B1.out 0).trans rfl;have zf1:=blk_frozen B1.out 1;have zq1:w1.cell? ⟨w.heap.size,1,none⟩=some (.slice none 0 0):=(blk_cell B1.out 1).trans rfl;have zf2:=blk_frozen B1.out 2;have zq2:w1.cell? ⟨w.heap.size,2,none⟩=some (.int .i64 0):=(blk_cell B1.out 2).trans rfl;have zf3:=blk_frozen B1.out 3;have zq3:w1.cell? ⟨w.heap.size,3,none⟩=some (.int .i64 0):=(blk_cell B1.out 3).trans rfl;have zf4:=blk_frozen B1.out 4;have zq4:w1.cell? ⟨w.heap.size,4,none⟩=some (.int .i64 0):=(blk_cell B1.out 4).trans rfl;have zf5:=blk_frozen B1.out 5;have zq5:w1.cell? ⟨w.heap.size,5,none⟩=some (.int .i64 0):=(blk_cell B1.out 5).trans rfl;have zf6:=blk_frozen B1.out 6;have zq6:w1.cell? ⟨w.heap.size,6,none⟩=some (.int .i64 0):=(blk_cell B1.out 6).trans rfl;have zf7:=blk_frozen B1.out 7;have zq7:w1.cell? ⟨w.heap.size,7,none⟩=some (.int .i64 0):=(blk_cell B1.out 7).trans rfl;clear h0 hb))
  refine bodyPost_ret (results_list (rs:=[.cell 2 64,.tmp 3]) rfl zb24 (.cell w.heap.size 64 #[.string (⟨#[]⟩:ByteArray),.slice none 0 0,.int .i64 0,.int .i64 0,.int .i64 0,.int .i64 0,.int .i64 0,.int .i64 0] (0,0) _ rfl (slBlk8 B1.out _ _ _ _ _ _ _ _) hu rfl zb14 (.tmp .nil))) rfl ?_
  exact ⟨_,rfl,Kd.R_nil _ _ _ _ _,slPut8 L1.out (Nat.le_refl _) _ _ _ _ _ _ _ _⟩
 rw [if_neg c8] at h'
 have H8:=Aside0.mk c8
 have d1:decide ((ws.length:Int) < 8)=false:=decide_eq_false zb16
 have d2:decide (ws.length < 8)=false:=decide_eq_false zb16
 have d3:((ws.length:Int) < 8)=False:=eq_false zb16
 have d4:(ws.length < 8)=False:=eq_false zb16
 have d5:(0 < ws.length)=True:=eq_true zb16
 have d6:((0:Int) < (ws.length:Int))=True:=eq_true zb16
 have d7:decide ((0:Int) < (ws.length:Int))=true:=decide_eq_true zb16
 clear c8
 obtain ⟨y0,hy0⟩ : ∃ y,rdOf ByteArray.empty ws 0=y:=⟨_,rfl⟩
 rw [hy0] at h'
 have HY0:=Aside0.mk hy0
 clear hy0
 by_cases cS:y0.toList=([115,108,111,116]:List UInt8)
 rotate_left
 ·rw [if_neg cS] at h'
  simp only [slotE,Option.some.injEq,Prod.mk.injEq] at h'
  obtain ⟨rfl,rfl,rfl,rfl,rfl,rfl,rfl,rfl,rfl⟩:=h'
  have e1:=beq_eq_false_iff_ne.mpr cS
  have e2:=bne_iff_ne.mpr cS
  clear cS
  go_enter Tryz.func35,Tryz.ntmps35
  go_wp2_with (first
   | (go_at_call 44;(with_reducible refine (strings_Split.calls k a0 (⟨#[32]⟩:ByteArray) ws _ HW.out).mono ?_);rintro E w1 ⟨v0,rfl,h0,hb⟩;obtain ⟨AW,cW,rfl⟩:=Kd.R_slice h0;have B1:=Aside0.mk (blk_below B0.out hb);have L1:=Aside0.mk (below_step (below_alloc (Below.refl _ w) (.cells #[.string (⟨#[]⟩:ByteArray),.slice none 0 0,.int .i64 0,.int .i64 0,.int .i64 0,.int .i64 0,.int .i64 0,.int .i64 0] 64 (0,0))) hb);have W1:=Aside0.mk (Kd.R_reads' h0).2.2;have WC:=Aside0.mk (Kd.R_reads' h0).2.1;have zf0:=blk_frozen B1.out 0;have zq0:w1.cell? ⟨w.heap.size,0,none⟩=some (.string (⟨#[]⟩:ByteArray)):=(blk_cell B1.out 0).trans rfl;have zf1:=blk_frozen B1.out 1;have zq1:w1.cell? ⟨w.heap.size,1,none⟩=some (.slice none 0 0):=(blk_cell B1.out 1).trans rfl;have zf2:=blk_frozen B1.out 2;have zq2:w1.cell? ⟨w.heap.size,2,none⟩=some (.int .i64 0):=(blk_cell B1.out 2).trans rfl;have zf3:=blk_frozen B1.out 3;have zq3:w1.cell? ⟨w.heap.size,3,none⟩=some (.int .i64 0):=(blk_cell B1.out 3).trans rfl;have zf4:=blk_frozen B1.out 4;have zq4:w1.cell? ⟨w.heap.size,4,none⟩=some (.int .i64 0):=(blk_cell B1.out 4).trans rfl;have zf5:=blk_frozen B1.out 5;have zq5:w1.cell? ⟨w.heap.size,5,none⟩=some (.int .i64 0):=(blk_cell B1.out 5).trans rfl;have zf6:=blk_frozen B1.out 6;have zq6:w1.cell? ⟨w.heap.size,6,none⟩=some (.int .i64 0):=(blk_cell B1.out 6).trans rfl;have zf7:=blk_frozen B1.out 7;have zq7:w1.cell? ⟨w.heap.size,7,none⟩=some (.int .i64 0):=(blk_cell B1.out 7).trans rfl;have hq:=Kd.at_string W1.out 0 zb16 zb85;obtain ⟨ad,hea,ha0⟩:=hq;rw [HY0.out] at ha0;have hb0:=ha0;simp only [Addr.add,Int.toNat_zero,reduceIte,if_true] at hb0;subst hea;clear h0 hb))
  refine bodyPost_ret (results_list (rs:=[.cell 2 64,.tmp 3]) rfl zb24 (.cell w.heap.size 64 #[.string (⟨#[]⟩:ByteArray),.slice none 0 0,.int .i64 0,.int .i64 0,.int .i64 0,.int .i64 0,.int .i64 0,.int .i64 0] (0,0) _ rfl (slBlk8 B1.out _ _ _ _ _ _ _ _) hu rfl zb14 (.tmp .nil))) rfl ?_
  exact ⟨_,rfl,Kd.R_nil _ _ _ _ _,slPut8 L1.out (Nat.le_refl _) _ _ _ _ _ _ _ _⟩
 rw [if_pos cS] at h'
 have e1:=beq_iff_eq.mpr cS
 have e2:=bne_eq_false_iff_eq.mpr cS
 clear cS
 go_enter Tryz.func35,Tryz.ntmps35
 go_wp2_with (first
  | (go_at_call 44;(with_reducible refine (strings_Split.calls k a0 (⟨#[32]⟩:ByteArray) ws _ HW.out).mono ?_);rintro E w1 ⟨v0,rfl,h0,hb⟩;obtain ⟨AW,cW,rfl⟩:=Kd.R_slice h0;have B1:=Aside0.mk (blk_below B0.out hb);have L1:=Aside0.mk (below_step (below_alloc (Below.refl _ w) (.cells #[.string (⟨#[]⟩:ByteArray),.slice none 0 0,.int .i64 0,.int .i64 0,.int .i64 0,.int .i64 0,.int .i64 0,.int .i64 0] 64 (0,0))) hb);have W1:=Aside0.mk (Kd.R_reads' h0).2.2;have WC:=Aside0.mk (Kd.R_reads' h0).2.1;have hq:=Kd.at_string W1.out 0 zb16 zb85;obtain ⟨ad,hea,ha0⟩:=hq;rw [HY0.out] at ha0;have hb0:=ha0;simp only [Addr.add,Int.toNat_zero,reduceIte,if_true] at hb0;subst hea;have NAD:=Aside0.mk (show w.heap.size < ad.block from by have hz:=Kd.R_base h0 ad.block rfl;rw [show (w.alloc (.cells #[.string (⟨#[]⟩:ByteArray),.slice none 0 0,.int .i64 0,.int .i64 0,.int .i64 0,.int .i64 0,.int .i64 0,.int .i64 0] 64 (0,0))).heap.size=w.heap.size + 1 from Array.size_push ..] at hz;omega);clear h0 hb))
 clear e1 e2 d1 d2 d3 d4 d5 d6 d7 hb0 ha0
 obtain ⟨o,ho,h2⟩:=Option.bind_eq_some_iff.1 h'
 clear h'
 have HO:=Aside0.mk h2
 clear h2
 have M0:=Aside0.mk (below_alloc (Below.refl w1.heap.size w1) (.cells #[.int .i64 0,.int .i64 0,.int .i64 0,.int .i64 0,.int .i64 0,.int .i64 0] 115 (0,0)))
 have BG:=Aside0.mk (show (w1.alloc (.cells #[.int .i64 0,.int .i64 0,.int .i64 0,.int .i64 0,.int .i64 0,.int .i64 0] 115 (0,0))).heap[w1.heap.size]? = some (.cells ((([0,0,0,0,0,0]:List Int).map (Value.int .i64)).toArray) 115 (0,0)) from blk_new w1 _)
 have HN:=Aside0.mk (show ∃ rest,slotNs k (((ws.drop 2).take 6).drop (0:Int).toNat)=some rest∧o=rest.map (fun r=>([0,0,0,0,0,0]:List Int).take (0:Int).toNat ++ r) from ⟨o,ho,by cases o <;> rfl⟩)
 clear ho
 go_loopg [22] 6 (fun kq v wr => ∃ (x:Int) (ns:List Int),v = .int .i64 x∧Aside0 (0 ≤ x∧x ≤ 6∧(6:Int) - x ≤ kq)∧Aside0 (ns.length=6)∧Aside0 (Below w1.heap.size w1 wr)∧Aside0 (wr.heap[w1.heap.size]? = some (.cells ((ns.map (Value.int .i64)).toArray) 115 (0,0)))∧Aside0 (∃ rest,slotNs k (((ws.drop 2).take 6).drop x.toNat)=some rest∧o=rest.map (fun r=>ns.take x.toNat ++ r)))
 case atStart=>exact ⟨0,[0,0,0,0,0,0],rfl,⟨zb16⟩,⟨rfl⟩,M0,BG,HN⟩
 case round =>
  obtain ⟨x,ns,rfl,HX,HL6,M3,BG3,HN3⟩:=hrel
  clear M0 BG HN
  by_cases c4:x < 6
  ·have c4b0:decide (x < (6:Int))=true:=decide_eq_true c4
   obtain ⟨rest,hr1,hr2⟩:=HN3.out
   obtain ⟨j,rfl⟩:=Int.eq_ofNat_of_zero_le HX.out.1
   have hj:j < 6:=by omega
   rw [Int.toNat_natCast] at hr1 hr2
   rw [sl_at ws H8.out j hj,slotNs] at hr1
   obtain ⟨⟨dn,db⟩,hd,hr3⟩:=Option.bind_eq_some_iff.1 hr1
   obtain ⟨ae,he,h0⟩:=Kd.at_string W1.out ((2 + j:Nat):Int) zb16 zb85
   injection he with he
   subst he
   replace h0:=(M3.out.cell (World.block_lt_of_cell? w1 _ h0)).trans h0
   rw [Int.toNat_natCast] at h0
   obtain ⟨y,hy⟩ : ∃ y,rdOf ByteArray.empty ws ((2 + j:Nat):Int)=y:=⟨_,rfl⟩
   rw [hy] at h0 hd hr3
   have HD:=Aside0.mk hd
   have HR2:=Aside0.mk hr2
   have hw2:wrap64 (2 + (j:Int))=((2 + j:Nat):Int):=by unfold wrap64;omega
   have g1:((2:Int) + (j:Int) < (ws.length:Int))=True:=eq_true zb85
   have g2:((0:Int) ≤ 2 + (j:Int))=True:=eq_true zb16
   have g3:(2 + j < ws.length)=True:=eq_true zb85
   have g4:(j < 6)=True:=eq_true hj
   have g5:((j:Int) < 6)=True:=eq_true zb16
   simp only at hr3
   clear hr1 hd hy hr2 c4 hj
   cases db
   ·rw [if_neg zb24] at hr3
    injection hr3 with hr3
    subst hr3
    have h2:=HO.out
    rw [HR2.out] at h2
    simp only [Option.map_none,slotE,Option.some.injEq,Prod.mk.injEq] at h2
    obtain ⟨rfl,rfl,rfl,rfl,rfl,rfl,rfl,rfl,rfl⟩:=h2
    go_wp2_with (first
     | (go_at_call 73;(with_reducible refine (sign_Decimal.calls k y dn false _ HD.out).mono ?_);rintro E w2 ⟨rfl,hb⟩;have M4:=Aside0.mk (below_step M3.out hb);have B4:=Aside0.mk (blk_below B1.out M4.out);have L4:=Aside0.mk (below_step L1.out M4.out);have zf0:=blk_frozen B4.out 0;have zq0:w2.cell? ⟨w.heap.size,0,none⟩=some (.string (⟨#[]⟩:ByteArray)):=(blk_cell B4.out 0).trans rfl;have zf1:=blk_frozen B4.out 1;have zq1:w2.cell? ⟨w.heap.size,1,none⟩=some (.slice none 0 0):=(blk_cell B4.out 1).trans rfl;have zf2:=blk_frozen B4.out 2;have zq2:w2.cell? ⟨w.heap.size,2,none⟩=some (.int .i64 0):=(blk_cell B4.out 2).trans rfl;have zf3:=blk_frozen B4.out 3;have zq3:w2.cell? ⟨w.heap.size,3,none⟩=some (.int .i64 0):=(blk_cell B4.out 3).trans rfl;have zf4:=blk_frozen B4.out 4;have zq4:w2.cell? ⟨w.heap.size,4,none⟩=some (.int .i64 0):=(blk_cell B4.out 4).trans rfl;have zf5:=blk_frozen B4.out 5;have zq5:w2.cell? ⟨w.heap.size,5,none⟩=some (.int .i64 0):=(blk_cell B4.out 5).trans rfl;have zf6:=blk_frozen B4.out 6;have zq6:w2.cell? ⟨w.heap.size,6,none⟩=some (.int .i64 0):=(blk_cell B4.out 6).trans rfl;have zf7:=blk_frozen B4.out 7;have zq7:w2.cell? ⟨w.heap.size,7,none⟩=some (.int .i64 0):=(blk_cell B4.out 7).trans rfl;clear hb))
    refine bodyPost_ret (results_list (rs:=[.cell 2 64,.tmp 3]) rfl zb24 (.cell w.heap.size 64 #[.string (⟨#[]⟩:ByteArray),.slice none 0 0,.int .i64 0,.int .i64 0,.int .i64 0,.int .i64 0,.int .i64 0,.int .i64 0] (0,0) _ rfl (slBlk8 B4.out _ _ _ _ _ _ _ _) hu rfl zb14 (.tmp .nil))) rfl ?_
    exact ⟨_,rfl,Kd.R_nil _ _ _ _ _,slPut8 L4.out (Nat.le_refl _) _ _ _ _ _ _ _ _⟩
   rw [if_pos rfl] at hr3
   obtain ⟨tx,htx,hr4⟩:=Option.bind_eq_some_iff.1 hr3
   clear hr3
   have HX2:=Aside0.mk htx
   clear htx
   by_cases cT:tx.toList=y.toList
   rotate_left
   ·rw [if_neg cT] at hr4
    injection hr4 with hr4
    subst hr4
    have h2:=HO.out
    rw [HR2.out] at h2
    simp only [Option.map_none,slotE,Option.some.injEq,Prod.mk.injEq] at h2
    obtain ⟨rfl,rfl,rfl,rfl,rfl,rfl,rfl,rfl,rfl⟩:=h2
    have e1:=beq_eq_false_iff_ne.mpr cT
    have e2:=bne_iff_ne.mpr cT
    clear cT
    go_wp2_with (first
     | (go_at_call 73;(with_reducible refine (sign_Decimal.calls k y dn true _ HD.out).mono ?_);rintro E w2 ⟨rfl,hb⟩;have M4:=Aside0.mk (below_step M3.out hb);have T4:=Aside0.mk (HT.out.below (below_step L1.out M4.out));have G4:=Aside0.mk (blk_below BG3.out hb);clear hb)
     | (go_at_call 60;(with_reducible refine (sign_Text.calls dn tx _ HX2.out T4.out).mono ?_);rintro E w5 ⟨rfl,hb⟩;have M5:=Aside0.mk (below_step M4.out hb);have B5:=Aside0.mk (blk_below B1.out M5.out);have L5:=Aside0.mk (below_step L1.out M5.out);have BG5:=Aside0.mk (blk_below G4.out hb);clear hb;have zf0:=blk_frozen B5.out 0;have zq0:w5.cell? ⟨w.heap.size,0,none⟩=some (.string (⟨#[]⟩:ByteArray)):=(blk_cell B5.out 0).trans rfl;have zf1:=blk_frozen B5.out 1;have zq1:w5.cell? ⟨w.heap.size,1,none⟩=some (.slice none 0 0):=(blk_cell B5.out 1).trans rfl;have zf2:=blk_frozen B5.out 2;have zq2:w5.cell? ⟨w.heap.size,2,none⟩=some (.int .i64 0):=(blk_cell B5.out 2).trans rfl;have zf3:=blk_frozen B5.out 3;have zq3:w5.cell? ⟨w.heap.size,3,none⟩=some (.int .i64 0):=(blk_cell B5.out 3).trans rfl;have zf4:=blk_frozen B5.out 4;have zq4:w5.cell? ⟨w.heap.size,4,none⟩=some (.int .i64 0):=(blk_cell B5.out 4).trans rfl;have zf5:=blk_frozen B5.out 5;have zq5:w5.cell? ⟨w.heap.size,5,none⟩=some (.int .i64 0):=(blk_cell B5.out 5).trans rfl;have zf6:=blk_frozen B5.out 6;have zq6:w5.cell? ⟨w.heap.size,6,none⟩=some (.int .i64 0):=(blk_cell B5.out 6).trans rfl;have zf7:=blk_frozen B5.out 7;have zq7:w5.cell? ⟨w.heap.size,7,none⟩=some (.int .i64 0):=(blk_cell B5.out 7).trans rfl))
    refine bodyPost_ret (results_list (rs:=[.cell 2 64,.tmp 3]) rfl zb24 (.cell w.heap.size 64 #[.string (⟨#[]⟩:ByteArray),.slice none 0 0,.int .i64 0,.int .i64 0,.int .i64 0,.int .i64 0,.int .i64 0,.int .i64 0] (0,0) _ rfl (slBlk8 B5.out _ _ _ _ _ _ _ _) hu rfl zb14 (.tmp .nil))) rfl ?_
    exact ⟨_,rfl,Kd.R_nil _ _ _ _ _,slPut8 L5.out (Nat.le_refl _) _ _ _ _ _ _ _ _⟩
   rw [if_pos cT] at hr4
   obtain ⟨o5,ho5,hr5⟩:=Option.bind_eq_some_iff.1 hr4
   clear hr4
   injection hr5 with hr5
   have HN5:=Aside0.mk (show ∃ rest,slotNs k (((ws.drop 2).take 6).drop (j + 1))=some rest∧o=rest.map (fun r=>(ns.set j dn).take (j + 1) ++ r) from ⟨o5,ho5,by rw [HR2.out,← hr5];cases o5 with
    | none=>rfl
    | some r=>simp only [Option.map_some];congr 1;rw [sl_set ns j dn (by have:=HL6.out;have:=of_eq_true g4;omega),List.append_assoc];rfl⟩)
   clear ho5 hr5
   have e1:=beq_iff_eq.mpr cT
   have e2:=bne_eq_false_iff_eq.mpr cT
   clear cT
   go_wp2_with (first
    | (go_at_call 73;(with_reducible refine (sign_Decimal.calls k y dn true _ HD.out).mono ?_);rintro E w2 ⟨rfl,hb⟩;have M4:=Aside0.mk (below_step M3.out hb);have T4:=Aside0.mk (HT.out.below (below_step L1.out M4.out));have G4:=Aside0.mk (blk_below BG3.out hb);clear hb)
    | (go_at_call 60;(with_reducible refine (sign_Text.calls dn tx _ HX2.out T4.out).mono ?_);rintro E w5 ⟨rfl,hb⟩;have M5:=Aside0.mk (below_step M4.out hb);have B5:=Aside0.mk (blk_below B1.out M5.out);have L5:=Aside0.mk (below_step L1.out M5.out);have BG5:=Aside0.mk (blk_below G4.out hb);clear hb;have fG:=blk_frozen BG5.out j;have qG:w5.cell? ⟨w1.heap.size,j,none⟩=some (.int .i64 (ns.getD j 0)):=(blk_cell BG5.out j).trans (sl_cell ns j (by have:=HL6.out;have:=of_eq_true g4;omega))))
   go_roundg (gk - 1)
   case measure=>have:=HX.out;have:=of_eq_true g4;omega
   case rel =>
    have hx8:=HX.out
    have hq8:=of_eq_true g4
    have hw:wrap64 ((j:Int) + 1)=((j + 1:Nat):Int):=by unfold wrap64;omega
    refine ⟨wrap64 ((j:Int) + 1),ns.set j dn,zb46,⟨by rw [hw];omega⟩,⟨by rw [List.length_set];exact HL6.out⟩,⟨M5.out.setCell (p:=⟨w1.heap.size,j,none⟩) (Nat.le_refl _) _⟩,⟨?_⟩,⟨by rw [hw,Int.toNat_natCast];exact HN5.out⟩⟩
    rw [sl_map]
    exact blk_put BG5.out j _ rfl
  have c4b0:decide (x < (6:Int))=false:=decide_eq_false c4
  obtain ⟨rest,hr1,hr2⟩:=HN3.out
  have hx6:x=6:=by have:=HX.out;omega
  subst hx6
  obtain ⟨n0,n1,n2,n3,n4,n5,hns⟩ : ∃ n0 n1 n2 n3 n4 n5,ns=[n0,n1,n2,n3,n4,n5]:=by
   have hl:=HL6.out
   match ns,hl with
   | [a,b,c,d,e,f],_=>exact ⟨a,b,c,d,e,f,rfl⟩
  subst hns
  have hdr:((ws.drop 2).take 6).drop (6:Int).toNat=[]:=List.drop_of_length_le (by rw [List.length_take,List.length_drop];have:=H8.out;show _ ≤ 6;omega)
  rw [hdr,slotNs] at hr1
  injection hr1 with hr1
  subst hr1
  have h2:=HO.out
  rw [hr2] at h2
  simp only [Option.map_some,List.append_nil,show (6:Int).toNat=6 from rfl,List.take_succ_cons,List.take_zero] at h2
  clear hr2 hdr c4
  by_cases cD:(ws.drop 8).length ≤ 8796093022207
  rotate_left
  ·rw [if_neg cD] at h2
   cases h2
  rw [if_pos cD] at h2
  simp only [Option.some.injEq,Prod.mk.injEq] at h2
  obtain ⟨rfl,rfl,rfl,rfl,rfl,rfl,rfl,rfl,rfl⟩:=h2
  have HCD:=Aside0.mk (show slices_Clone_string_string.f (ws.drop 8)=some (ws.drop 8) from if_pos cD)
  clear cD
  have BR:=Aside0.mk (blk_below B1.out M3.out)
  have LR:=Aside0.mk (below_step L1.out M3.out)
  obtain ⟨i0,hi0,hz0,hsz0,hby0⟩:=info_parts slot_inf
  obtain ⟨A8,hsl,hrd8,hcc8⟩:=print_drop_of (P:=Tryz.prog) Value.string ByteArray.empty 34 9 .i64 Tryz.underlying34 hi0 hsz0 (some ad) cW ws 8 zb16 zb85 WC.out
  rw [show (8:Int).toNat=8 from rfl] at hsl hrd8 hcc8
  have C8:=Aside0.mk (show Kd.C Kd.string w1 A8 (ws.drop 8).length (ws.drop 8) from Kd.C_of_reads (h1:=fun _=>rfl) (hrd8 w1 (Kd.reads_of_C W1.out)))
  have CC8:=Aside0.mk hcc8
  obtain ⟨l8,hl8⟩ : ∃ l8,l8=ws.drop 8:=⟨_,rfl⟩
  rw [← hl8] at hsl C8 CC8 HCD ⊢
  have hq:=Kd.at_string W1.out 1 zb16 zb85
  obtain ⟨ae,hea,ha1⟩:=hq
  injection hea with hea
  subst hea
  replace ha1:=(M3.out.cell (World.block_lt_of_cell? w1 _ ha1)).trans ha1
  obtain ⟨y1,hy1⟩ : ∃ y,rdOf ByteArray.empty ws 1=y:=⟨_,rfl⟩
  rw [hy1] at ha1 ⊢
  have g7:((1:Int) < (ws.length:Int))=True:=eq_true zb85
  have g8:(1 < ws.length)=True:=eq_true zb85
  have NE:=Aside0.mk (show w.heap.size < w1.heap.size∧w1.heap.size < wr.heap.size from ⟨blk_lt B1.out,blk_lt BG3.out⟩)
  have HY1:=Aside0.mk hy1
  have HL8:=Aside0.mk hl8
  clear hi0 hz0 hsz0 hby0 hrd8 hcc8 hy1 hl8 HX HN3
  go_wp2
  have M5:=Aside0.mk (below_drew1 M3.out)
  have BG5:=Aside0.mk (blk_below BG3.out (below_drew (Below.refl _ _)))
  have BR5:=Aside0.mk (blk_below BR.out (below_drew (Below.refl _ _)))
  have ne1:w1.heap.size ≠ w.heap.size:=by have:=NE.out;omega
  have ne2:w.heap.size ≠ w1.heap.size:=by have:=NE.out;omega
  have ne3:ad.block ≠ w.heap.size:=by have:=NAD.out;omega
  have ne4:w.heap.size ≠ ad.block:=by have:=NAD.out;omega
  have ha5:wr.drew.cell? ⟨ad.block,ad.off + 1,none⟩=some (.string y1):=ha1
  have ug0:wr.drew.cell? ⟨w1.heap.size,0,none⟩=some (.int .i64 n0):=(blk_cell BG5.out 0).trans rfl
  have ug1:wr.drew.cell? ⟨w1.heap.size,1,none⟩=some (.int .i64 n1):=(blk_cell BG5.out 1).trans rfl
  have ug2:wr.drew.cell? ⟨w1.heap.size,2,none⟩=some (.int .i64 n2):=(blk_cell BG5.out 2).trans rfl
  have ug3:wr.drew.cell? ⟨w1.heap.size,3,none⟩=some (.int .i64 n3):=(blk_cell BG5.out 3).trans rfl
  have ug4:wr.drew.cell? ⟨w1.heap.size,4,none⟩=some (.int .i64 n4):=(blk_cell BG5.out 4).trans rfl
  have ug5:wr.drew.cell? ⟨w1.heap.size,5,none⟩=some (.int .i64 n5):=(blk_cell BG5.out 5).trans rfl
  have xf0:=blk_frozen BR5.out 0
  have xq0:wr.drew.cell? ⟨w.heap.size,0,none⟩=some (.string (⟨#[]⟩:ByteArray)):=(blk_cell BR5.out 0).trans rfl
  have xf1:=blk_frozen BR5.out 1
  have xq1:wr.drew.cell? ⟨w.heap.size,1,none⟩=some (.slice none 0 0):=(blk_cell BR5.out 1).trans rfl
  have xf2:=blk_frozen BR5.out 2
  have xq2:wr.drew.cell? ⟨w.heap.size,2,none⟩=some (.int .i64 0):=(blk_cell BR5.out 2).trans rfl
  have xf3:=blk_frozen BR5.out 3
  have xq3:wr.drew.cell? ⟨w.heap.size,3,none⟩=some (.int .i64 0):=(blk_cell BR5.out 3).trans rfl
  have xf4:=blk_frozen BR5.out 4
  have xq4:wr.drew.cell? ⟨w.heap.size,4,none⟩=some (.int .i64 0):=(blk_cell BR5.out 4).trans rfl
  have xf5:=blk_frozen BR5.out 5
  have xq5:wr.drew.cell? ⟨w.heap.size,5,none⟩=some (.int .i64 0):=(blk_cell BR5.out 5).trans rfl
  have xf6:=blk_frozen BR5.out 6
  have xq6:wr.drew.cell? ⟨w.heap.size,6,none⟩=some (.int .i64 0):=(blk_cell BR5.out 6).trans rfl
  have xf7:=blk_frozen BR5.out 7
  have xq7:wr.drew.cell? ⟨w.heap.size,7,none⟩=some (.int .i64 0):=(blk_cell BR5.out 7).trans rfl
  go_region_held3 (fun w' => w'.cell? ⟨w1.heap.size,0,none⟩=some (.int .i64 n0)∧w'.cell? ⟨w1.heap.size,1,none⟩=some (.int .i64 n1)∧w'.cell? ⟨w1.heap.size,2,none⟩=some (.int .i64 n2)∧w'.cell? ⟨w1.heap.size,3,none⟩=some (.int .i64 n3)∧w'.cell? ⟨w1.heap.size,4,none⟩=some (.int .i64 n4)∧w'.cell? ⟨w1.heap.size,5,none⟩=some (.int .i64 n5)∧w'.cell? ⟨ad.block,ad.off + 1,none⟩=some (.string y1)) (go_keep)
   (first
    | (go_at_call 74;(with_reducible refine (slices_Clone_string_string.calls A8 _ l8 l8 _ (Kd.C_below C8.out M5.out) CC8.out HCD.out).mono ?_);rintro E w6 ⟨v9,rfl,h9,hb⟩;obtain ⟨A9,c9,rfl⟩:=Kd.R_slice h9;have S6:=Aside0.mk (Kd.R_mono (Kd.R_bound h9) (fun k_ hk=>(show k_ ≠ w.heap.size from fun e=>by have:=hk.2.1;have:=NE.out;have:=M5.out.size;omega)));have M6:=Aside0.mk (below_step M5.out hb);have BG6:=Aside0.mk (blk_below BG5.out hb);have BR6:=Aside0.mk (blk_below BR5.out hb);have ha6:w6.cell? ⟨ad.block,ad.off + 1,none⟩=some (.string y1):=pw_cell_below hb ha5;have vg0:w6.cell? ⟨w1.heap.size,0,none⟩=some (.int .i64 n0):=(blk_cell BG6.out 0).trans rfl;have vg1:w6.cell? ⟨w1.heap.size,1,none⟩=some (.int .i64 n1):=(blk_cell BG6.out 1).trans rfl;have vg2:w6.cell? ⟨w1.heap.size,2,none⟩=some (.int .i64 n2):=(blk_cell BG6.out 2).trans rfl;have vg3:w6.cell? ⟨w1.heap.size,3,none⟩=some (.int .i64 n3):=(blk_cell BG6.out 3).trans rfl;have vg4:w6.cell? ⟨w1.heap.size,4,none⟩=some (.int .i64 n4):=(blk_cell BG6.out 4).trans rfl;have vg5:w6.cell? ⟨w1.heap.size,5,none⟩=some (.int .i64 n5):=(blk_cell BG6.out 5).trans rfl;have yf0:=blk_frozen BR6.out 0;have yq0:w6.cell? ⟨w.heap.size,0,none⟩=some (.string (⟨#[]⟩:ByteArray)):=(blk_cell BR6.out 0).trans rfl;have yf1:=blk_frozen BR6.out 1;have yq1:w6.cell? ⟨w.heap.size,1,none⟩=some (.slice none 0 0):=(blk_cell BR6.out 1).trans rfl;have yf2:=blk_frozen BR6.out 2;have yq2:w6.cell? ⟨w.heap.size,2,none⟩=some (.int .i64 0):=(blk_cell BR6.out 2).trans rfl;have yf3:=blk_frozen BR6.out 3;have yq3:w6.cell? ⟨w.heap.size,3,none⟩=some (.int .i64 0):=(blk_cell BR6.out 3).trans rfl;have yf4:=blk_frozen BR6.out 4;have yq4:w6.cell? ⟨w.heap.size,4,none⟩=some (.int .i64 0):=(blk_cell BR6.out 4).trans rfl;have yf5:=blk_frozen BR6.out 5;have yq5:w6.cell? ⟨w.heap.size,5,none⟩=some (.int .i64 0):=(blk_cell BR6.out 5).trans rfl;have yf6:=blk_frozen BR6.out 6;have yq6:w6.cell? ⟨w.heap.size,6,none⟩=some (.int .i64 0):=(blk_cell BR6.out 6).trans rfl;have yf7:=blk_frozen BR6.out 7;have yq7:w6.cell? ⟨w.heap.size,7,none⟩=some (.int .i64 0):=(blk_cell BR6.out 7).trans rfl;clear h9 hb))
  go_wp2
  refine bodyPost_ret (results_list (rs:=[.cell 2 64,.tmp 3]) rfl zb24 (.cell w.heap.size 64 #[.string y1,.slice A9 l8.length c9,.int .i64 n0,.int .i64 n1,.int .i64 n2,.int .i64 n3,.int .i64 n4,.int .i64 n5] (0,0) _ rfl (slBlk8 BR6.out _ _ _ _ _ _ _ _) hu rfl zb14 (.tmp .nil))) rfl ?_
  rw [HY1.out,← HL8.out]
  exact ⟨_,rfl,Kd.R_lower (Kd.R_mono (slR8 S6.out _ _ _ _ _ _ _ _) (fun _ _=>trivial)) (show w.heap.size ≤ wr.heap.size from by have:=NE.out;omega),slPut8 (below_step L1.out M6.out) (Nat.le_refl _) _ _ _ _ _ _ _ _⟩
def table_Read.l0:Nat → ByteArray → List (S64) → Option ((List (S64)) × Int)
 | 0,_,_=>none
 | k + 1,x0,x4=>if x0.toList=([]:List UInt8) then ((table_Right.f k x4).bind fun t201=>(if t201=true then (some (x4,0)) else (some (([]:List (S64)),60)))) else ((strings_Cut.f x0 (⟨#[10]⟩:ByteArray)).bind fun bt202=>((table_slot.f k bt202.1).bind fun bt205=>(if bt202.2.2=true then (if bt205.2.2.2.2.2.2.2.2=true then (if x4.length < 1599289640401 then (table_Read.l0 k bt202.2.1 (x4 ++ [(⟨bt205.1,bt205.2.1,bt205.2.2.1,bt205.2.2.2.1,bt205.2.2.2.2.1,bt205.2.2.2.2.2.1,bt205.2.2.2.2.2.2.1,bt205.2.2.2.2.2.2.2.1⟩:S64)])) else (none)) else (some (([]:List (S64)),20))) else (some (([]:List (S64)),20)))))
def table_Read.f (k:Nat) (a0:ByteArray):Option ((List (S64)) × Int):=if (a0.size:Int) > 4096 then (some (([]:List (S64)),2)) else (table_Read.l0 k a0 ([]:List (S64)))
theorem table_Read.mono_l : ∀ k,(∀ y0 y1,LeO (table_Read.l0 k y0 y1) (table_Read.l0 (k + 1) y0 y1))
 | 0=>fun _ _ r h=>by simp [table_Read.l0] at h
 | k + 1=>by
  have ih0:=table_Read.mono_l k
  ·intro y0 y1
   unfold table_Read.l0
   repeat' first
   | (with_reducible exact ih0 _ _)
   | (with_reducible exact table_Right.mono _ _)
   | (with_reducible exact table_slot.mono _ _)
   | (with_reducible exact LeO.refl _)
   | (with_reducible exact LeO.none _)
   | (with_reducible refine LeO.ite ?_ ?_)
   | (with_reducible refine LeO.bind ?_ (fun _=>?_))
   | exact ih0 _ _
   | exact table_Right.mono _ _
   | exact table_slot.mono _ _
   | exact LeO.none _
   | refine LeO.ite ?_ ?_
   | refine LeO.bind ?_ (fun _=>?_)
theorem table_Read.mono : ∀ a0 k,LeO (table_Read.f k a0) (table_Read.f (k + 1) a0):=by
 intro a0 k
 have ih0:=table_Read.mono_l k
 unfold table_Read.f
 repeat' first
  | (with_reducible exact ih0 _ _)
  | (with_reducible exact table_Right.mono _ _)
  | (with_reducible exact table_slot.mono _ _)
  | (with_reducible exact LeO.refl _)
  | (with_reducible exact LeO.none _)
  | (with_reducible refine LeO.ite ?_ ?_)
  | (with_reducible refine LeO.bind ?_ (fun _=>?_))
  | exact ih0 _ _
  | exact table_Right.mono _ _
  | exact table_slot.mono _ _
  | exact LeO.none _
  | refine LeO.ite ?_ ?_
  | refine LeO.bind ?_ (fun _=>?_)
set_option maxHeartbeats 8000000 in
set_option maxRecDepth 100000 in
theorem table_Read.calls (k:Nat) (a0:ByteArray) (r1:List (S64)) (r2:Int) (w:World) (h:table_Read.f k a0=some (r1,r2)) (ht:Tabs w) :
 Calls Tryz.prog 11 #[.string a0] w fun e w' => ∃ v0_:Value,e = .returned (.tuple #[v0_,.int .i64 r2])∧Kd.S k64 64 w' w.heap.size (fun _=>True) v0_ r1∧Below w.heap.size w w' := by
 have HTB:=Aside0.mk ht
 clear ht
 have hu64:=Tryz.underlying64
 have HB:=Aside0.mk (Below.refl w.heap.size w)
 unfold table_Read.f at h
 have H:=h
 clear h
 by_cases c2:(a0.size:Int) > 4096
 ·rw [if_pos c2] at H
  have c2b0:decide (4096 < (a0.size:Int))=true:=decide_eq_true c2
  have c2b1:decide (4096 < a0.size)=true:=decide_eq_true zb16
  clear c2
  simp only [Option.some.injEq,Prod.mk.injEq] at H
  obtain ⟨rfl,rfl⟩:=H
  go_enter Tryz.func11,Tryz.ntmps11
  go_wp2
  go_ret2
  exact ⟨_,zb6,zb18,zb0⟩
 rw [if_neg c2] at H
 have c2b0:decide (4096 < (a0.size:Int))=false:=decide_eq_false c2
 have c2b1:decide (4096 < a0.size)=false:=decide_eq_false zb16
 clear c2
 have H' := Aside0.mk H
 clear H
 go_enter Tryz.func11,Tryz.ntmps11
 go_wp2
 go_loopg [0,4] k (fun kq v0 v4 w' => ∃ (x0_1:ByteArray) (x4_1:List (S64)),v0 = .string x0_1∧Aside0 (table_Read.l0 kq x0_1 x4_1=some (r1,r2))∧Aside0 (kq ≤ k)∧Aside0 (Kd.S k64 64 w' w.heap.size (fun _=>True) v4 x4_1)∧Aside0 (Below w.heap.size w w'))
 case atStart=>exact ⟨(a0),(([]:List (S64))),zb5,H',⟨Nat.le_refl _⟩,⟨zb18⟩,⟨zb0⟩⟩
 case round =>
  clear H'
  try clear c1
  try clear c2
  try clear c2b0
  try clear c2b1
  try clear p2
  obtain ⟨x0_1,x4_1,rfl,HA,HK1,HO_4,HB⟩:=hrel
  cases gk with
  | zero=>exact absurd HA.out (by simp [table_Read.l0])
  | succ k1 =>
   have H:=HA.out
   clear HA
   simp only [table_Read.l0] at H
   by_cases c3:x0_1.toList=([]:List UInt8)
   ·rw [if_pos c3] at H
    have c3b0:=beq_iff_eq.mpr c3
    have c3b1:=bne_eq_false_iff_eq.mpr c3
    clear c3
    replace H:=Option.bind_eq_some_iff.mp H
    obtain ⟨t51,A40,H⟩:=H
    try dsimp only at H
    have A4:=Aside0.mk A40
    clear A40
    by_cases c5:t51=true
    ·subst c5
     rw [if_pos rfl] at H
     simp only [Option.some.injEq,Prod.mk.injEq] at H
     obtain ⟨rfl,rfl⟩:=H
     obtain ⟨Ao6,co6,eo6⟩:=Kd.S_slice HO_4.out
     subst eo6
     go_wp2_with (first|((with_reducible refine gate_callee (f:=31) rfl ?_);refine goesL_ (some 38) rfl rfl Tryz.func31 zb14 rfl #[.slice Ao6 x4_1.length co6] rfl zb2 ?_;(with_reducible refine (table_Right.calls k1 _ _ x4_1 true _ ?side1 ?side2 A4.out).mono ?_);(case side1=>exact zb72);(case side2=>exact (Kd.S_reads' HO_4.out).2.1);rintro e w7 ⟨rfl,hb⟩;(try clear A4);refine ⟨_,rfl,?_⟩;replace HO_4:=Aside0.mk (Kd.S_below zb32 hb);replace HB:=Aside0.mk (below_step zb0 hb);(try clear hb)))
     go_ret2
     exact ⟨_,zb6,zb32,zb0⟩
    replace c5:=Bool.eq_false_iff.mpr c5
    subst c5
    rw [if_neg (show ¬ (false=true) by decide)] at H
    simp only [Option.some.injEq,Prod.mk.injEq] at H
    obtain ⟨rfl,rfl⟩:=H
    obtain ⟨Ao8,co8,eo8⟩:=Kd.S_slice HO_4.out
    subst eo8
    go_wp2_with (first|((with_reducible refine gate_callee (f:=31) rfl ?_);refine goesL_ (some 38) rfl rfl Tryz.func31 zb14 rfl #[.slice Ao8 x4_1.length co8] rfl zb2 ?_;(with_reducible refine (table_Right.calls k1 _ _ x4_1 false _ ?side1 ?side2 A4.out).mono ?_);(case side1=>exact zb72);(case side2=>exact (Kd.S_reads' HO_4.out).2.1);rintro e w9 ⟨rfl,hb⟩;(try clear A4);refine ⟨_,rfl,?_⟩;replace HO_4:=Aside0.mk (Kd.S_below zb32 hb);replace HB:=Aside0.mk (below_step zb0 hb);(try clear hb)))
    go_ret2
    exact ⟨_,zb6,zb18,zb0⟩
   rw [if_neg c3] at H
   have c3b0:=beq_eq_false_iff_ne.mpr c3
   have c3b1:=bne_iff_ne.mpr c3
   replace H:=Option.bind_eq_some_iff.mp H
   obtain ⟨⟨t44,t46,t48⟩,A49,H⟩:=H
   try dsimp only at H
   have A10:=Aside0.mk A49
   clear A49
   replace H:=Option.bind_eq_some_iff.mp H
   obtain ⟨⟨t32,t33,t36,t37,t39,t41,t42,t43,t47⟩,A50,H⟩:=H
   try dsimp only at H
   have A11:=Aside0.mk A50
   clear A50
   by_cases c12:t48=true;rotate_left
   ·replace c12:=Bool.eq_false_iff.mpr c12
    subst c12
    rw [if_neg (show ¬ (false=true) by decide)] at H
    simp only [Option.some.injEq,Prod.mk.injEq] at H
    obtain ⟨rfl,rfl⟩:=H
    go_wp2_with (first|((with_reducible refine gate_callee (f:=34) rfl ?_);refine goesL_ (some 17) rfl rfl Tryz.func34 zb14 rfl #[.string x0_1,.string (⟨#[10]⟩:ByteArray)] rfl zb2 ?_;(with_reducible refine (strings_Cut.calls x0_1 (⟨#[10]⟩:ByteArray) t44 t46 false _ A10.out).mono ?_);rintro e w' ⟨rfl,⟨nd,rfl⟩⟩;(try clear A10);refine ⟨_,rfl,?_⟩;(try (rw [drewN_self wr];generalize hq_:World.drewN wr _=wr;have n0_:Aside0 (Kd.S k64 64 wr w.heap.size (fun _=>True) u4 x4_1):=⟨zb64⟩;have n1_:Aside0 (Below w.heap.size w wr):=⟨zb43⟩;clear HO_4 HB hq_;have HO_4:=n0_;have HB:=n1_;clear n0_ n1_)))|((with_reducible refine gate_callee (f:=35) rfl ?_);refine goesL_ (some 23) rfl rfl Tryz.func35 zb14 rfl #[.string t44] rfl zb2 ?_;(with_reducible refine (table_slot.calls k1 t44 t32 t33 t36 t37 t39 t41 t42 t43 t47 _ A11.out ?hT).mono ?_);(case hT=>exact HTB.out.below zb25);rintro e w26 ⟨v52,rfl,ho0,hb⟩;(try clear A11);refine ⟨_,rfl,?_⟩;replace HO_4:=Aside0.mk (Kd.S_elder' zb32 (Kd.R_base ho0) hb);have HO38:=Aside0.mk (Kd.R_lower ho0 (below_size zb0));replace HB:=Aside0.mk (below_step zb0 hb);try clear hb ho0)|((with_reducible refine gate_dst (N:=8) rfl ?_);refine box_event rfl (N:=8) rfl (cs:=#[.string (⟨#[]⟩:ByteArray),.slice none 0 0,.int .i64 0,.int .i64 0,.int .i64 0,.int .i64 0,.int .i64 0,.int .i64 0]) (t:=64) zS ?_;intro gb30 hg w27 hbox hb;replace HO_4:=Aside0.mk (Kd.S_below (Kd.S_elderB zb32 gb30 (Nat.le_of_eq hg.symm)) hb);replace HO38:=Aside0.mk (Kd.R_below zb79 hb);have BK30:=Aside0.mk (hbox);have GW30:=zG hg zb0;have GE30:=GW30;replace HB:=Aside0.mk (below_step zb0 hb);clear hb hbox hg;have hcz28_0:w27.cell? ⟨gb30,0,none⟩=some (.string (⟨#[]⟩:ByteArray)):=(blk_cell BK30.out 0).trans rfl;have hcz28_1:w27.cell? ⟨gb30,1,none⟩=some (.slice none 0 0):=(blk_cell BK30.out 1).trans rfl;have hcz28_2:w27.cell? ⟨gb30,2,none⟩=some (.int .i64 0):=(blk_cell BK30.out 2).trans rfl;have hcz28_3:w27.cell? ⟨gb30,3,none⟩=some (.int .i64 0):=(blk_cell BK30.out 3).trans rfl;have hcz28_4:w27.cell? ⟨gb30,4,none⟩=some (.int .i64 0):=(blk_cell BK30.out 4).trans rfl;have hcz28_5:w27.cell? ⟨gb30,5,none⟩=some (.int .i64 0):=(blk_cell BK30.out 5).trans rfl;have hcz28_6:w27.cell? ⟨gb30,6,none⟩=some (.int .i64 0):=(blk_cell BK30.out 6).trans rfl;have hcz28_7:w27.cell? ⟨gb30,7,none⟩=some (.int .i64 0):=(blk_cell BK30.out 7).trans rfl;have hfz28_0:=blk_frozen BK30.out 0;have hfz28_1:=blk_frozen BK30.out 1;have hfz28_2:=blk_frozen BK30.out 2;have hfz28_3:=blk_frozen BK30.out 3;have hfz28_4:=blk_frozen BK30.out 4;have hfz28_5:=blk_frozen BK30.out 5;have hfz28_6:=blk_frozen BK30.out 6;have hfz28_7:=blk_frozen BK30.out 7;obtain ⟨Ao29,co29,eo29⟩:=Kd.R_slice HO38.out;subst eo29))
    go_ret2
    exact ⟨_,zb6,zb18,zb25⟩
   subst c12
   rw [if_pos rfl] at H
   by_cases c13:t47=true
   ·subst c13
    rw [if_pos rfl] at H
    by_cases c14:x4_1.length < 1599289640401;rotate_left
    ·rw [if_neg c14] at H
     exact absurd H zb24
    rw [if_pos c14] at H
    have LMc14:=Aside0.mk c14
    clear c14
    obtain ⟨y45,hy45⟩ : ∃ y_:List (S64),y_=(x4_1 ++ [(⟨t32,t33,t36,t37,t39,t41,t42,t43⟩:S64)]):=⟨_,rfl⟩
    replace H:(table_Read.l0 k1 t46 y45)=some (r1,r2):=by first|(rw [hy45];with_reducible exact H)|(have H2_:=(Option.bind_some _ _).symm.trans H;rw [hy45];with_reducible exact H2_)|(have H2_:=(Option.bind_some _ _).symm.trans H;with_reducible exact H2_)|with_reducible exact H|(rw [hy45];exact H)|exact H
    have Ny45:=Aside0.mk hy45
    clear hy45
    have H' := Aside0.mk H
    clear H
    go_wp2_with (first|((with_reducible refine gate_callee (f:=34) rfl ?_);refine goesL_ (some 17) rfl rfl Tryz.func34 zb14 rfl #[.string x0_1,.string (⟨#[10]⟩:ByteArray)] rfl zb2 ?_;(with_reducible refine (strings_Cut.calls x0_1 (⟨#[10]⟩:ByteArray) t44 t46 true _ A10.out).mono ?_);rintro e w' ⟨rfl,⟨nd,rfl⟩⟩;(try clear A10);refine ⟨_,rfl,?_⟩;(try (rw [drewN_self wr];generalize hq_:World.drewN wr _=wr;have n0_:Aside0 (Kd.S k64 64 wr w.heap.size (fun _=>True) u4 x4_1):=⟨zb64⟩;have n1_:Aside0 (Below w.heap.size w wr):=⟨zb43⟩;clear HO_4 HB hq_;have HO_4:=n0_;have HB:=n1_;clear n0_ n1_)))|((with_reducible refine gate_callee (f:=35) rfl ?_);refine goesL_ (some 23) rfl rfl Tryz.func35 zb14 rfl #[.string t44] rfl zb2 ?_;(with_reducible refine (table_slot.calls k1 t44 t32 t33 t36 t37 t39 t41 t42 t43 true _ A11.out ?hT).mono ?_);(case hT=>exact HTB.out.below zb25);rintro e w15 ⟨v52,rfl,ho0,hb⟩;(try clear A11);refine ⟨_,rfl,?_⟩;replace HO_4:=Aside0.mk (Kd.S_elder' zb32 (Kd.R_base ho0) hb);have HO38:=Aside0.mk (Kd.R_lower ho0 (below_size zb0));replace HB:=Aside0.mk (below_step zb0 hb);try clear hb ho0)|((with_reducible refine gate_dst (N:=8) rfl ?_);refine box_event rfl (N:=8) rfl (cs:=#[.string (⟨#[]⟩:ByteArray),.slice none 0 0,.int .i64 0,.int .i64 0,.int .i64 0,.int .i64 0,.int .i64 0,.int .i64 0]) (t:=64) zS ?_;intro gb30 hg w16 hbox hb;replace HO_4:=Aside0.mk (Kd.S_below (Kd.S_elderB zb32 gb30 (Nat.le_of_eq hg.symm)) hb);replace HO38:=Aside0.mk (Kd.R_below zb79 hb);have BK30:=Aside0.mk (hbox);have GW30:=zG hg zb0;have GE30:=GW30;replace HB:=Aside0.mk (below_step zb0 hb);clear hb hbox hg;have hcz17_0:w16.cell? ⟨gb30,0,none⟩=some (.string (⟨#[]⟩:ByteArray)):=(blk_cell BK30.out 0).trans rfl;have hcz17_1:w16.cell? ⟨gb30,1,none⟩=some (.slice none 0 0):=(blk_cell BK30.out 1).trans rfl;have hcz17_2:w16.cell? ⟨gb30,2,none⟩=some (.int .i64 0):=(blk_cell BK30.out 2).trans rfl;have hcz17_3:w16.cell? ⟨gb30,3,none⟩=some (.int .i64 0):=(blk_cell BK30.out 3).trans rfl;have hcz17_4:w16.cell? ⟨gb30,4,none⟩=some (.int .i64 0):=(blk_cell BK30.out 4).trans rfl;have hcz17_5:w16.cell? ⟨gb30,5,none⟩=some (.int .i64 0):=(blk_cell BK30.out 5).trans rfl;have hcz17_6:w16.cell? ⟨gb30,6,none⟩=some (.int .i64 0):=(blk_cell BK30.out 6).trans rfl;have hcz17_7:w16.cell? ⟨gb30,7,none⟩=some (.int .i64 0):=(blk_cell BK30.out 7).trans rfl;have hfz17_0:=blk_frozen BK30.out 0;have hfz17_1:=blk_frozen BK30.out 1;have hfz17_2:=blk_frozen BK30.out 2;have hfz17_3:=blk_frozen BK30.out 3;have hfz17_4:=blk_frozen BK30.out 4;have hfz17_5:=blk_frozen BK30.out 5;have hfz17_6:=blk_frozen BK30.out 6;have hfz17_7:=blk_frozen BK30.out 7;obtain ⟨Ao18,co18,eo18⟩:=Kd.R_slice HO38.out;subst eo18)|((with_reducible refine gate_store (t:=64) (p:=8) rfl ?_);refine store_event (t:=64) (p:=8) (v:=?vo_w19) (w1:=((((((((w16.setCell ⟨gb30,0,none⟩ (.string t32)).setCell ⟨gb30,1,none⟩ (.slice Ao18 t33.length co18)).setCell ⟨gb30,2,none⟩ (.int .i64 t36)).setCell ⟨gb30,3,none⟩ (.int .i64 t37)).setCell ⟨gb30,4,none⟩ (.int .i64 t39)).setCell ⟨gb30,5,none⟩ (.int .i64 t41)).setCell ⟨gb30,6,none⟩ (.int .i64 t42)).setCell ⟨gb30,7,none⟩ (.int .i64 t43))) ?hg ?ho ?hn ?hr ?_;(case ho=>rfl);(case hg=>rfl);(case hn=>rfl);(case hr=>first|(go_simp;done)|(go_simp;rfl));intro w19 hw;have n0_:Aside0 (Kd.S k64 64 w19 w.heap.size (fun k_=>some k_ ≠ (.slice Ao18 t33.length co18:Value).ownBlock∧k_ ≠ gb30) u4 x4_1):=⟨(by rw [hw];exact (by (with_reducible repeat (first|apply Kd.S_alloc|apply Kd.S_drewN|apply Kd.S_drew));exact Kd.S_mono (Kd.S_far (p:=⟨gb30,7,none⟩) (Kd.S_far (p:=⟨gb30,6,none⟩) (Kd.S_far (p:=⟨gb30,5,none⟩) (Kd.S_far (p:=⟨gb30,4,none⟩) (Kd.S_far (p:=⟨gb30,3,none⟩) (Kd.S_far (p:=⟨gb30,2,none⟩) (Kd.S_far (p:=⟨gb30,1,none⟩) (Kd.S_far (p:=⟨gb30,0,none⟩) (Kd.S_mono HO_4.out (fun k_ hk=>(⟨hk,hk.2⟩:_∧k_ ≠ gb30))) (fun _ hk=>hk.2) (.string t32)) (fun _ hk=>hk.2) (.slice Ao18 t33.length co18)) (fun _ hk=>hk.2) (.int .i64 t36)) (fun _ hk=>hk.2) (.int .i64 t37)) (fun _ hk=>hk.2) (.int .i64 t39)) (fun _ hk=>hk.2) (.int .i64 t41)) (fun _ hk=>hk.2) (.int .i64 t42)) (fun _ hk=>hk.2) (.int .i64 t43)) (fun _ hk=>⟨hk.1.1.2,hk.1.2⟩)))⟩;have n1_:Aside0 (Kd.R Kd.string 9 w19 w.heap.size (fun _=>True) (.slice Ao18 t33.length co18) t33):=⟨(by rw [hw];exact (by (with_reducible repeat (first|apply Kd.R_alloc|apply Kd.R_drewN|apply Kd.R_drew));exact Kd.R_mono (Kd.R_far (p:=⟨gb30,7,none⟩) (Kd.R_far (p:=⟨gb30,6,none⟩) (Kd.R_far (p:=⟨gb30,5,none⟩) (Kd.R_far (p:=⟨gb30,4,none⟩) (Kd.R_far (p:=⟨gb30,3,none⟩) (Kd.R_far (p:=⟨gb30,2,none⟩) (Kd.R_far (p:=⟨gb30,1,none⟩) (Kd.R_far (p:=⟨gb30,0,none⟩) (Kd.R_types HO38.out BK30.out (by decide)) (fun _ hk=>hk.2) (.string t32)) (fun _ hk=>hk.2) (.slice Ao18 t33.length co18)) (fun _ hk=>hk.2) (.int .i64 t36)) (fun _ hk=>hk.2) (.int .i64 t37)) (fun _ hk=>hk.2) (.int .i64 t39)) (fun _ hk=>hk.2) (.int .i64 t41)) (fun _ hk=>hk.2) (.int .i64 t42)) (fun _ hk=>hk.2) (.int .i64 t43)) (fun _ hk=>trivial)))⟩;have n2_:Aside0 (w19.heap[gb30]? = some (.cells #[.string t32,.slice Ao18 t33.length co18,.int .i64 t36,.int .i64 t37,.int .i64 t39,.int .i64 t41,.int .i64 t42,.int .i64 t43] 64 (0,0))):=⟨(by rw [hw];exact (by (with_reducible repeat (first|refine blk_drewN ?_ _|refine blk_drew ?_|refine blk_alloc ?_ _));refine blk_put (cs:=#[.string t32,.slice Ao18 t33.length co18,.int .i64 t36,.int .i64 t37,.int .i64 t39,.int .i64 t41,.int .i64 t42,.int .i64 0]) ?_ 7 _ rfl;(with_reducible repeat (first|refine blk_drewN ?_ _|refine blk_drew ?_|refine blk_alloc ?_ _));refine blk_put (cs:=#[.string t32,.slice Ao18 t33.length co18,.int .i64 t36,.int .i64 t37,.int .i64 t39,.int .i64 t41,.int .i64 0,.int .i64 0]) ?_ 6 _ rfl;(with_reducible repeat (first|refine blk_drewN ?_ _|refine blk_drew ?_|refine blk_alloc ?_ _));refine blk_put (cs:=#[.string t32,.slice Ao18 t33.length co18,.int .i64 t36,.int .i64 t37,.int .i64 t39,.int .i64 0,.int .i64 0,.int .i64 0]) ?_ 5 _ rfl;(with_reducible repeat (first|refine blk_drewN ?_ _|refine blk_drew ?_|refine blk_alloc ?_ _));refine blk_put (cs:=#[.string t32,.slice Ao18 t33.length co18,.int .i64 t36,.int .i64 t37,.int .i64 0,.int .i64 0,.int .i64 0,.int .i64 0]) ?_ 4 _ rfl;(with_reducible repeat (first|refine blk_drewN ?_ _|refine blk_drew ?_|refine blk_alloc ?_ _));refine blk_put (cs:=#[.string t32,.slice Ao18 t33.length co18,.int .i64 t36,.int .i64 0,.int .i64 0,.int .i64 0,.int .i64 0,.int .i64 0]) ?_ 3 _ rfl;(with_reducible repeat (first|refine blk_drewN ?_ _|refine blk_drew ?_|refine blk_alloc ?_ _));refine blk_put (cs:=#[.string t32,.slice Ao18 t33.length co18,.int .i64 0,.int .i64 0,.int .i64 0,.int .i64 0,.int .i64 0,.int .i64 0]) ?_ 2 _ rfl;(with_reducible repeat (first|refine blk_drewN ?_ _|refine blk_drew ?_|refine blk_alloc ?_ _));refine blk_put (cs:=#[.string t32,.slice none 0 0,.int .i64 0,.int .i64 0,.int .i64 0,.int .i64 0,.int .i64 0,.int .i64 0]) ?_ 1 _ rfl;(with_reducible repeat (first|refine blk_drewN ?_ _|refine blk_drew ?_|refine blk_alloc ?_ _));refine blk_put (cs:=#[.string (⟨#[]⟩:ByteArray),.slice none 0 0,.int .i64 0,.int .i64 0,.int .i64 0,.int .i64 0,.int .i64 0,.int .i64 0]) ?_ 0 _ rfl;(with_reducible repeat (first|refine blk_drewN ?_ _|refine blk_drew ?_|refine blk_alloc ?_ _));exact BK30.out))⟩;have n3_:Aside0 (Below w.heap.size w w19):=⟨(by rw [hw];exact (by repeat (first|(with_reducible first|exact HB.out|apply below_alloc|apply pw_below_drewN|apply below_drew1|refine below_set ?_ GE30.out)|exact HB.out)))⟩;clear hw;clear HO_4;clear HO38;clear BK30;clear HB;have HO_4:=n0_;have HO38:=n1_;have BK30:=n2_;have HB:=n3_;clear n0_ n1_ n2_ n3_;have hcz20_0:w19.cell? ⟨gb30,0,none⟩=some (.string t32):=(blk_cell BK30.out 0).trans rfl;have hcz20_1:w19.cell? ⟨gb30,1,none⟩=some (.slice Ao18 t33.length co18):=(blk_cell BK30.out 1).trans rfl;have hcz20_2:w19.cell? ⟨gb30,2,none⟩=some (.int .i64 t36):=(blk_cell BK30.out 2).trans rfl;have hcz20_3:w19.cell? ⟨gb30,3,none⟩=some (.int .i64 t37):=(blk_cell BK30.out 3).trans rfl;have hcz20_4:w19.cell? ⟨gb30,4,none⟩=some (.int .i64 t39):=(blk_cell BK30.out 4).trans rfl;have hcz20_5:w19.cell? ⟨gb30,5,none⟩=some (.int .i64 t41):=(blk_cell BK30.out 5).trans rfl;have hcz20_6:w19.cell? ⟨gb30,6,none⟩=some (.int .i64 t42):=(blk_cell BK30.out 6).trans rfl;have hcz20_7:w19.cell? ⟨gb30,7,none⟩=some (.int .i64 t43):=(blk_cell BK30.out 7).trans rfl;have hfz20_0:=blk_frozen BK30.out 0;have hfz20_1:=blk_frozen BK30.out 1;have hfz20_2:=blk_frozen BK30.out 2;have hfz20_3:=blk_frozen BK30.out 3;have hfz20_4:=blk_frozen BK30.out 4;have hfz20_5:=blk_frozen BK30.out 5;have hfz20_6:=blk_frozen BK30.out 6;have hfz20_7:=blk_frozen BK30.out 7)|((with_reducible refine gate_builtin (b:=.append) (xs:=#[.tmp 32,.tmp 34]) rfl ?_);at_builtin;refine Kd.S_append k64 (w0:=w) w.heap.size rfl (.tmp 32) (.tmp 34) 23 64 (.agg #[(.string ⟨#[]⟩),(.slice none 0 0),(.int .i64 0),(.int .i64 0),(.int .i64 0),(.int .i64 0),(.int .i64 0),(.int .i64 0)]) 88 rfl Tryz.underlying23 info64 rfl zb22 zb16 u4 x4_1 (⟨t32,t33,t36,t37,t39,t41,t42,t43⟩:S64) [.string t32,.slice Ao18 t33.length co18,.int .i64 t36,.int .i64 t37,.int .i64 t39,.int .i64 t41,.int .i64 t42,.int .i64 t43] (fun k_=>k_ ≠ gb30) (fun k_=>some k_=(.slice Ao18 t33.length co18:Value).ownBlock) rfl rfl ?aP (fun k_ hk_=>((Kd.R_mono (ok' := fun k_=>((fun k_=>k_ ≠ gb30)) k_∧some k_ ≠ (u4:Value).ownBlock) (Kd.R_types (Kd.R_apart' (HO38.out) (Kd.S_typed HO_4.out) zb22) BK30.out zb22) (fun k_ hk=>⟨hk.2,hk.1.2⟩))).1 k_ hk_.symm) ?aF ?aO ?aB ?aS ?aL ?_;(case aP=>exact k64_mkM _ _ _ (⟨t32,t33,t36,t37,t39,t41,t42,t43⟩:S64) (Kd.R_mono (Kd.R_tight rfl (Kd.R_mono (ok' := fun k_=>((fun k_=>k_ ≠ gb30)) k_∧some k_ ≠ (u4:Value).ownBlock) (Kd.R_types (Kd.R_apart' (HO38.out) (Kd.S_typed HO_4.out) zb22) BK30.out zb22) (fun k_ hk=>⟨hk.2,hk.1.2⟩))) (fun _ h_=>h_)));(case aB=>exact zb25);(case aF=>exact (fun k_ hk=>Kd.freshB (g:=gb30) (o:=.cells #[.string t32,.slice Ao18 t33.length co18,.int .i64 t36,.int .i64 t37,.int .i64 t39,.int .i64 t41,.int .i64 t42,.int .i64 t43] 64 (0,0)) zb84 k_ hk));(case aO=>exact (by (with_reducible repeat (first|apply Kd.S_alloc|apply Kd.S_drewN|apply Kd.S_drew));exact Kd.S_mono HO_4.out (fun k_ hk=>⟨hk.2,fun e_=>hk.1 e_⟩)));(case aS=>exact (below_size zb25));(case aL=>have:=LMc14.out;omega);intro v54 w21 ho hb hg hat;rw [← Ny45.out] at ho;replace BK30:=Aside0.mk (blk_grown (g:=gb30) (o:=.cells #[.string t32,.slice Ao18 t33.length co18,.int .i64 t36,.int .i64 t37,.int .i64 t39,.int .i64 t41,.int .i64 t42,.int .i64 t43] 64 (0,0)) zb84 hg (Kd.S_away HO_4.out (fun _ hk=>hk.2)));replace HB:=Aside0.mk (hb);have HO53:=Aside0.mk (ho);clear ho hb hg hat))
    go_roundg k1
    case measure=>have:=HK1.out;omega
    case rel=>exact ⟨(t46),(y45),zb5,H',⟨zb54⟩,⟨by (with_reducible repeat (first|apply Kd.S_alloc|apply Kd.S_drewN|apply Kd.S_drew));exact Kd.S_mono HO53.out (fun _ hk=>trivial)⟩,⟨zb25⟩⟩
   ·replace c13:=Bool.eq_false_iff.mpr c13
    subst c13
    rw [if_neg (show ¬ (false=true) by decide)] at H
    simp only [Option.some.injEq,Prod.mk.injEq] at H
    obtain ⟨rfl,rfl⟩:=H
    go_wp2_with (first|((with_reducible refine gate_callee (f:=34) rfl ?_);refine goesL_ (some 17) rfl rfl Tryz.func34 zb14 rfl #[.string x0_1,.string (⟨#[10]⟩:ByteArray)] rfl zb2 ?_;(with_reducible refine (strings_Cut.calls x0_1 (⟨#[10]⟩:ByteArray) t44 t46 true _ A10.out).mono ?_);rintro e w' ⟨rfl,⟨nd,rfl⟩⟩;(try clear A10);refine ⟨_,rfl,?_⟩;(try (rw [drewN_self wr];generalize hq_:World.drewN wr _=wr;have n0_:Aside0 (Kd.S k64 64 wr w.heap.size (fun _=>True) u4 x4_1):=⟨zb64⟩;have n1_:Aside0 (Below w.heap.size w wr):=⟨zb43⟩;clear HO_4 HB hq_;have HO_4:=n0_;have HB:=n1_;clear n0_ n1_)))|((with_reducible refine gate_callee (f:=35) rfl ?_);refine goesL_ (some 23) rfl rfl Tryz.func35 zb14 rfl #[.string t44] rfl zb2 ?_;(with_reducible refine (table_slot.calls k1 t44 t32 t33 t36 t37 t39 t41 t42 t43 false _ A11.out ?hT).mono ?_);(case hT=>exact HTB.out.below zb25);rintro e w22 ⟨v52,rfl,ho0,hb⟩;(try clear A11);refine ⟨_,rfl,?_⟩;replace HO_4:=Aside0.mk (Kd.S_elder' zb32 (Kd.R_base ho0) hb);have HO38:=Aside0.mk (Kd.R_lower ho0 (below_size zb0));replace HB:=Aside0.mk (below_step zb0 hb);try clear hb ho0)|((with_reducible refine gate_dst (N:=8) rfl ?_);refine box_event rfl (N:=8) rfl (cs:=#[.string (⟨#[]⟩:ByteArray),.slice none 0 0,.int .i64 0,.int .i64 0,.int .i64 0,.int .i64 0,.int .i64 0,.int .i64 0]) (t:=64) zS ?_;intro gb30 hg w23 hbox hb;replace HO_4:=Aside0.mk (Kd.S_below (Kd.S_elderB zb32 gb30 (Nat.le_of_eq hg.symm)) hb);replace HO38:=Aside0.mk (Kd.R_below zb79 hb);have BK30:=Aside0.mk (hbox);have GW30:=zG hg zb0;have GE30:=GW30;replace HB:=Aside0.mk (below_step zb0 hb);clear hb hbox hg;have hcz24_0:w23.cell? ⟨gb30,0,none⟩=some (.string (⟨#[]⟩:ByteArray)):=(blk_cell BK30.out 0).trans rfl;have hcz24_1:w23.cell? ⟨gb30,1,none⟩=some (.slice none 0 0):=(blk_cell BK30.out 1).trans rfl;have hcz24_2:w23.cell? ⟨gb30,2,none⟩=some (.int .i64 0):=(blk_cell BK30.out 2).trans rfl;have hcz24_3:w23.cell? ⟨gb30,3,none⟩=some (.int .i64 0):=(blk_cell BK30.out 3).trans rfl;have hcz24_4:w23.cell? ⟨gb30,4,none⟩=some (.int .i64 0):=(blk_cell BK30.out 4).trans rfl;have hcz24_5:w23.cell? ⟨gb30,5,none⟩=some (.int .i64 0):=(blk_cell BK30.out 5).trans rfl;have hcz24_6:w23.cell? ⟨gb30,6,none⟩=some (.int .i64 0):=(blk_cell BK30.out 6).trans rfl;have hcz24_7:w23.cell? ⟨gb30,7,none⟩=some (.int .i64 0):=(blk_cell BK30.out 7).trans rfl;have hfz24_0:=blk_frozen BK30.out 0;have hfz24_1:=blk_frozen BK30.out 1;have hfz24_2:=blk_frozen BK30.out 2;have hfz24_3:=blk_frozen BK30.out 3;have hfz24_4:=blk_frozen BK30.out 4;have hfz24_5:=blk_frozen BK30.out 5;have hfz24_6:=blk_frozen BK30.out 6;have hfz24_7:=blk_frozen BK30.out 7;obtain ⟨Ao25,co25,eo25⟩:=Kd.R_slice HO38.out;subst eo25))
    go_ret2
    exact ⟨_,zb6,zb18,zb25⟩
/-- What is asked of a test of such structs that is handed over. -/
def TestOf_Slot (g:Nat) (lb:Array Value) (q:S64 → Option Bool) (w:World):Prop :=
 ∀ (W:World) (x:S64) (b:Bool) (A1:Option Addr) (c1:Nat),Below w.heap.size w W → x.f1.length ≤ c1 → Kd.C Kd.string W A1 x.f1.length x.f1 → q x=some b → Calls Tryz.prog g (#[.agg #[.string x.f0,.slice A1 x.f1.length c1,.int .i64 x.f2,.int .i64 x.f3,.int .i64 x.f4,.int .i64 x.f5,.int .i64 x.f6,.int .i64 x.f7]] ++ lb) W fun e w' => e = .returned (.bool b)∧Below W.heap.size W w'
set_option maxHeartbeats 4000000 in
set_option maxRecDepth 100000 in
theorem slices_IndexFunc_Slot.callsOf (q:S64 → Option Bool) (g:Nat) (lb:Array Value) (eg : ∀ args w,(callFunc g args).run Tryz.prog w = .ok (.enter g args) w) (A_:Option Addr) (c_:Nat) (l0:List (S64)) (r:Int) (w:World) (hr0:Kd.C k64 w A_ l0.length l0) (hc0:l0.length ≤ c_)
 (hq:TestOf_Slot g lb q w) (h:idxO q l0 0=some r) :
 Calls Tryz.prog 69 #[.slice A_ l0.length c_,.func (.func g) #[] lb] w fun e w' => e = .returned (.int .i64 r)∧Below w.heap.size w w' := by
 have hu:=Tryz.underlying64
 have HR:=Aside0.mk hr0
 have HQ:=Aside0.mk hq
 have H0:=Aside0.mk (show idxO q (l0.drop (0:Int).toNat) 0=some r from h)
 have HM:=Aside0.mk (show l0.length ≤ 9223372036854775807 from hr0.2.1)
 clear hr0 hq h
 go_enter Tryz.func69,Tryz.ntmps69
 go_wp2
 go_loopg [5,8] l0.length (fun kq _ v8 wr => ∃ (x8:Int),v8 = .int .i64 x8∧Aside0 (0 ≤ x8∧x8 ≤ l0.length∧(l0.length:Int) - x8 ≤ kq)∧Aside0 (Below w.heap.size w wr)∧Aside0 (idxO q (l0.drop x8.toNat) x8=some r))
 case atStart=>exact ⟨0,rfl,⟨zb16⟩,⟨Below.refl _ w⟩,H0⟩
 case round =>
  obtain ⟨x8,rfl,HX,BW,HH⟩:=hrel
  clear H0
  by_cases c4:x8 < (l0.length:Int);rotate_left
  ·have c4b0:=decide_eq_false c4
   have hx:=HH.out
   rw [List.drop_of_length_le zb86,idxO] at hx
   injection hx with hx
   clear c4
   go_wp2
   go_ret
   subst hx
   exact ⟨zb46,BW.out⟩
  have c4b0:=decide_eq_true c4
  have hx:=HH.out
  have hlt:x8.toNat < l0.length:=by have:=HX.out;omega
  rw [List.drop_eq_getElem_cons hlt,idxO] at hx
  obtain ⟨b,hb,hx⟩:=Option.bind_eq_some_iff.1 hx
  have hrd:rd_T64 l0 x8=l0[x8.toNat]:=by unfold rd_T64;rw [List.getD_eq_getElem?_getD,List.getElem?_eq_getElem hlt];rfl
  obtain ⟨ad,A1,c1,he,h0,h1,h2,h3,h4,h5,h6,h7,lc1,hC1⟩:=at_T64 HR.out x8 HX.out.1 c4
  replace h0:=(BW.out.cell (World.block_lt_of_cell? w _ h0)).trans h0
  replace h1:=(BW.out.cell (World.block_lt_of_cell? w _ h1)).trans h1
  replace h2:=(BW.out.cell (World.block_lt_of_cell? w _ h2)).trans h2
  replace h3:=(BW.out.cell (World.block_lt_of_cell? w _ h3)).trans h3
  replace h4:=(BW.out.cell (World.block_lt_of_cell? w _ h4)).trans h4
  replace h5:=(BW.out.cell (World.block_lt_of_cell? w _ h5)).trans h5
  replace h6:=(BW.out.cell (World.block_lt_of_cell? w _ h6)).trans h6
  replace h7:=(BW.out.cell (World.block_lt_of_cell? w _ h7)).trans h7
  have hcall:=HQ.out wr l0[x8.toNat] b A1 c1 BW.out (by rw [← hrd];exact lc1) (by rw [← hrd];exact Kd.C_below hC1 BW.out) hb
  rw [← hrd] at hcall
  obtain ⟨y,hy⟩ : ∃ y,rd_T64 l0 x8=y:=⟨_,rfl⟩
  rw [hy] at hcall h0 h1 h2 h3 h4 h5 h6 h7
  have HCALL:=Aside0.mk hcall
  have HN:=Aside0.mk hx
  have p8:(0 ≤ x8)=True:=eq_true HX.out.1
  have q8:(x8 < (l0.length:Int))=True:=eq_true c4
  clear hx hb hrd HH hy hcall c4 lc1 hC1
  subst he
  cases b with
  | true =>
   go_wp2_with (go_at_fn g;refine HCALL.out.mono ?_;rintro e w' ⟨rfl,hb'⟩)
   go_ret
   have hx:=HN.out
   simp only [if_true,Option.some.injEq] at hx
   subst hx
   exact ⟨zb46,BW.out.trans (sl_base (Below.size BW.out) hb')⟩
  | false =>
   go_wp2_with (go_at_fn g;refine HCALL.out.mono ?_;rintro e w' ⟨rfl,hb'⟩)
   go_roundg (gk - 1)
   case measure=>have:=HX.out;have:=of_eq_true q8;omega
   case rel =>
    have hx:=HN.out
    simp only [Bool.false_eq_true,if_false] at hx
    have hx8:=HX.out
    have hq8:=of_eq_true q8
    have hw:wrap64 (x8 + 1)=x8 + 1:=by have:=HM.out;unfold wrap64;omega
    refine ⟨wrap64 (x8 + 1),rfl,⟨by rw [hw];omega⟩,⟨BW.out.trans (sl_base (Below.size BW.out) hb')⟩,⟨?_⟩⟩
    rw [hw,show (x8 + 1).toNat=x8.toNat + 1 by omega]
    exact hx
def slices_Index_string_string.l0:Nat → List ByteArray → ByteArray → Int → Int → Option (Int)
 | 0,_,_,_,_=>none
 | k + 1,x0,x1,x7,x8=>if x8 < x7 then (if 0 ≤ x8 then (if x8 < (x0.length:Int) then (if x1.toList=(rdOf ByteArray.empty x0 x8).toList then (some x8) else (slices_Index_string_string.l0 k x0 x1 x7 (wrap64 (x8 + 1)))) else (none)) else (none)) else (some (-1))
def slices_Index_string_string.f (k:Nat) (l0:List ByteArray) (a1:ByteArray):Option (Int):=slices_Index_string_string.l0 k l0 a1 (l0.length:Int) 0
theorem slices_Index_string_string.mono_l : ∀ k,(∀ y0 y1 y2 y3,LeO (slices_Index_string_string.l0 k y0 y1 y2 y3) (slices_Index_string_string.l0 (k + 1) y0 y1 y2 y3))
 | 0=>fun _ _ _ _ r h=>by simp [slices_Index_string_string.l0] at h
 | k + 1=>by
  have ih0:=slices_Index_string_string.mono_l k
  ·intro y0 y1 y2 y3
   unfold slices_Index_string_string.l0
   repeat' first
   | (with_reducible exact ih0 _ _ _ _)
   | (with_reducible exact LeO.refl _)
   | (with_reducible exact LeO.none _)
   | (with_reducible refine LeO.ite ?_ ?_)
   | (with_reducible refine LeO.bind ?_ (fun _=>?_))
   | exact ih0 _ _ _ _
   | exact LeO.none _
   | refine LeO.ite ?_ ?_
   | refine LeO.bind ?_ (fun _=>?_)
theorem slices_Index_string_string.mono : ∀ a0 a1 k,LeO (slices_Index_string_string.f k a0 a1) (slices_Index_string_string.f (k + 1) a0 a1):=by
 intro a0 a1 k
 have ih0:=slices_Index_string_string.mono_l k
 unfold slices_Index_string_string.f
 repeat' first
  | (with_reducible exact ih0 _ _ _ _)
  | (with_reducible exact LeO.refl _)
  | (with_reducible exact LeO.none _)
  | (with_reducible refine LeO.ite ?_ ?_)
  | (with_reducible refine LeO.bind ?_ (fun _=>?_))
  | exact ih0 _ _ _ _
  | exact LeO.none _
  | refine LeO.ite ?_ ?_
  | refine LeO.bind ?_ (fun _=>?_)
set_option maxHeartbeats 8000000 in
set_option maxRecDepth 100000 in
theorem slices_Index_string_string.calls (k:Nat) (A0:Option Addr) (c0:Nat) (l0:List ByteArray) (a1:ByteArray) (r:Int) (w:World) (hr0:Kd.C Kd.string w A0 l0.length l0) (hc0:l0.length ≤ c0) (h:slices_Index_string_string.f k l0 a1=some r) :
 Calls Tryz.prog 47 #[.slice A0 l0.length c0,.string a1] w fun e w' => e = .returned (.int .i64 r)∧Drawn0 w w' := by
 have HR0:=Aside0.mk hr0
 have HC0:=Aside0.mk hc0
 clear hr0 hc0
 unfold slices_Index_string_string.f at h
 have H:=h
 clear h
 have H' := Aside0.mk H
 clear H
 go_enter Tryz.func47,Tryz.ntmps47
 go_wp2
 go_loopg [8] k (fun kq v8 w' => ∃ (x8_1:Int),v8 = .int .i64 x8_1∧Aside0 (slices_Index_string_string.l0 kq l0 a1 (l0.length:Int) x8_1=some r)∧Aside0 (kq ≤ k)∧Drawn0 w w')
 case atStart=>exact ⟨(0),zb5,H',⟨Nat.le_refl _⟩,zb13⟩
 case round =>
  clear H'
  try clear p2
  obtain ⟨x8_1,rfl,HA,HK1,⟨m1,rfl⟩⟩:=hrel
  cases gk with
  | zero=>exact absurd HA.out (by simp [slices_Index_string_string.l0])
  | succ k1 =>
   have H:=HA.out
   clear HA
   simp only [slices_Index_string_string.l0] at H
   by_cases c3:x8_1 < (l0.length:Int);rotate_left
   ·rw [if_neg c3] at H
    have c3b0:=decide_eq_false c3
    clear c3
    obtain rfl:=Option.some.inj H
    go_wp2
    go_ret
    exact ⟨zb5,zb13⟩
   rw [if_pos c3] at H
   have c3b0:=decide_eq_true c3
   clear c3
   by_cases c4:0 ≤ x8_1
   ·rw [if_pos c4] at H
    have c4b0:=decide_eq_true c4
    clear c4
    by_cases c5:x8_1 < (l0.length:Int)
    ·rw [if_pos c5] at H
     have c5b0:=decide_eq_true c5
     clear c5
     by_cases c6:a1.toList=(rdOf ByteArray.empty l0 x8_1).toList
     ·rw [if_pos c6] at H
      have c6b0:=beq_iff_eq.mpr c6
      have c6b1:=bne_eq_false_iff_eq.mpr c6
      clear c6
      obtain rfl:=Option.some.inj H
      have p117:0 ≤ (x8_1:Int):=of_decide_eq_true zb1
      have q117:x8_1 < (l0.length:Int):=of_decide_eq_true zb1
      obtain ⟨ad117,e117,hx117_0⟩:=Kd.at_string HR0.out x8_1 p117 q117
      cases e117
      replace p117:=eq_true p117
      replace q117:=eq_true q117
      go_wp2
      go_ret
      exact ⟨zb5,zb13⟩
     rw [if_neg c6] at H
     have c6b0:=beq_eq_false_iff_ne.mpr c6
     have c6b1:=bne_iff_ne.mpr c6
     have H' := Aside0.mk H
     clear H
     have p117:0 ≤ (x8_1:Int):=of_decide_eq_true zb1
     have q117:x8_1 < (l0.length:Int):=of_decide_eq_true zb1
     obtain ⟨ad117,e117,hx117_0⟩:=Kd.at_string HR0.out x8_1 p117 q117
     cases e117
     replace p117:=eq_true p117
     replace q117:=eq_true q117
     go_wp2
     go_roundg k1
     case measure=>have:=HK1.out;omega
     case rel=>exact ⟨(wrap64 (x8_1 + 1)),zb5,H',⟨zb54⟩,zb13⟩
    ·rw [if_neg c5] at H
     exact absurd H zb24
   ·rw [if_neg c4] at H
    exact absurd H zb24
def slices_Contains_string_string.f (k:Nat) (l0:List ByteArray) (a1:ByteArray):Option (Bool):=(slices_Index_string_string.f k l0 a1).bind fun t118=>(some (decide (t118 ≥ 0)))
theorem slices_Contains_string_string.mono : ∀ a0 a1 k,LeO (slices_Contains_string_string.f k a0 a1) (slices_Contains_string_string.f (k + 1) a0 a1):=by
 intro a0 a1 k
 unfold slices_Contains_string_string.f
 repeat' first
  | (with_reducible exact slices_Index_string_string.mono _ _ _)
  | (with_reducible exact LeO.refl _)
  | (with_reducible exact LeO.none _)
  | (with_reducible refine LeO.ite ?_ ?_)
  | (with_reducible refine LeO.bind ?_ (fun _=>?_))
  | exact slices_Index_string_string.mono _ _ _
  | exact LeO.none _
  | refine LeO.ite ?_ ?_
  | refine LeO.bind ?_ (fun _=>?_)
set_option maxHeartbeats 8000000 in
set_option maxRecDepth 100000 in
theorem slices_Contains_string_string.calls (k:Nat) (A0:Option Addr) (c0:Nat) (l0:List ByteArray) (a1:ByteArray) (r:Bool) (w:World) (hr0:Kd.C Kd.string w A0 l0.length l0) (hc0:l0.length ≤ c0) (h:slices_Contains_string_string.f k l0 a1=some r) :
 Calls Tryz.prog 46 #[.slice A0 l0.length c0,.string a1] w fun e w' => e = .returned (.bool r)∧Drawn0 w w' := by
 have HR0:=Aside0.mk hr0
 have HC0:=Aside0.mk hc0
 clear hr0 hc0
 unfold slices_Contains_string_string.f at h
 have H:=h
 clear h
 replace H:=Option.bind_eq_some_iff.mp H
 obtain ⟨t118,A30,H⟩:=H
 try dsimp only at H
 have A3:=Aside0.mk A30
 clear A30
 obtain rfl:=Option.some.inj H
 go_enter Tryz.func46,Tryz.ntmps46
 go_wp2_with (first|((with_reducible refine gate_callee (f:=47) rfl ?_);refine goesL_ (some 7) rfl rfl Tryz.func47 zb14 rfl #[.slice A0 l0.length c0,.string a1] rfl zb2 ?_;(with_reducible refine (slices_Index_string_string.calls k _ _ l0 a1 t118 _ ?side1 ?side2 A3.out).mono ?_);(case side1=>repeat (first|exact HR0.out|(with_reducible refine Kd.C_alloc ?_ _)|(with_reducible refine Kd.C_drewN ?_ _)|(with_reducible refine Kd.C_drew ?_)));(case side2=>exact HC0.out);rintro e w' ⟨rfl,⟨nd,rfl⟩⟩;(try clear A3);refine ⟨_,rfl,?_⟩))
 go_ret
 exact ⟨zb5,zb13⟩
set_option maxHeartbeats 4000000 in
set_option maxRecDepth 100000 in
theorem table_Find_1.callsOf (k:Nat) (g:Nat) (host:ByteArray) (w:World) (hc:w.cell? ⟨g,0,none⟩=some (.string host)):TestOf_Slot 70 #[.pointer (some ⟨g,0,none⟩)] (fun x=>slices_Contains_string_string.f k x.f1 host) w:=by
 intro W x b A1 c1 hb hl hr hq
 have hcW:=pw_cell_below hb hc
 have hu:=Tryz.underlying64
 show Calls Tryz.prog 70 #[.agg #[.string x.f0,.slice A1 x.f1.length c1,.int .i64 x.f2,.int .i64 x.f3,.int .i64 x.f4,.int .i64 x.f5,.int .i64 x.f6,.int .i64 x.f7],.pointer (some ⟨g,0,none⟩)] W _
 have HR:=Aside0.mk hr
 have HL:=Aside0.mk hl
 have HQ:=Aside0.mk hq
 clear hr hl hq hb hc
 go_enter Tryz.func70,Tryz.ntmps70
 go_wp2_with (first
  | ((with_reducible refine gate_dst (N:=2) rfl ?_);refine box_event ?hg (N:=2) ?hd (cs:=#[.string x.f0,.slice A1 x.f1.length c1,.int .i64 x.f2,.int .i64 x.f3,.int .i64 x.f4,.int .i64 x.f5,.int .i64 x.f6,.int .i64 x.f7]) (t:=64) ?hr ?_;(case hd=>rfl);(case hg=>rfl);(case hr=>first|(go_simp;done)|(go_simp;rfl));intro X hX w1 hBX hbX;have X1:=Aside0.mk hBX;have L1:=Aside0.mk hbX;have hcX:=pw_cell_below hbX hcW;clear hBX hbX hX;have q1:w1.cell? ⟨X,1,none⟩=some (.slice A1 x.f1.length c1):=(blk_cell X1.out 1).trans rfl)
  | (go_at_call 46;(with_reducible refine (slices_Contains_string_string.calls k A1 c1 x.f1 host b _ (Kd.C_below HR.out L1.out) HL.out HQ.out).mono ?_);rintro e w2 ⟨rfl,hb2⟩;have L2:=Aside0.mk (below_step L1.out hb2.below);clear hb2))
 go_ret
 exact ⟨zb46,L2.out⟩
def table_Find.f (k:Nat) (l0:List (S64)) (a1:ByteArray):Option Int:=idxO (fun x=>slices_Contains_string_string.f k x.f1 a1) l0 0
theorem idxO_mono {α:Type} (p q:α → Option Bool) (hpq : ∀ x,LeO (p x) (q x)) : ∀ (xs:List α) (i:Int),LeO (idxO p xs i) (idxO q xs i)
 | [],_=>LeO.refl _
 | x :: r,i=>by
  simp only [idxO]
  exact LeO.bind (hpq x) (fun _=>LeO.ite (LeO.refl _) (idxO_mono p q hpq r (i + 1)))
theorem table_Find.mono : ∀ a0 a1 k,LeO (table_Find.f k a0 a1) (table_Find.f (k + 1) a0 a1):=fun a0 a1 k=>idxO_mono _ _ (fun x=>slices_Contains_string_string.mono _ _ _) a0 0
set_option maxHeartbeats 4000000 in
set_option maxRecDepth 100000 in
theorem table_Find.calls (k:Nat) (A0:Option Addr) (c0:Nat) (l0:List (S64)) (a1:ByteArray) (r:Int) (w:World) (hr0:Kd.C k64 w A0 l0.length l0) (hc0:l0.length ≤ c0) (h:table_Find.f k l0 a1=some r) :
 Calls Tryz.prog 32 #[.slice A0 l0.length c0,.string a1] w fun e w' => e = .returned (.int .i64 r)∧Below w.heap.size w w' := by
 unfold table_Find.f at h
 have HR:=Aside0.mk hr0
 have HC:=Aside0.mk hc0
 have HA:=Aside0.mk h
 have EG:=Aside0.mk (enters_of Tryz.func70 zb14 rfl : ∀ args w,(callFunc 70 args).run Tryz.prog w = .ok (.enter 70 args) w)
 clear hr0 hc0 h
 have hcell:(w.alloc (.cells #[.string a1] 9)).cell? ⟨w.heap.size,0,none⟩=some (.string a1):=(blk_cell (blk_new w _) 0).trans rfl
 go_enter Tryz.func32,Tryz.ntmps32
 go_wp2_with (first
  | (go_at_call 69;refine (slices_IndexFunc_Slot.callsOf (fun x=>slices_Contains_string_string.f k x.f1 a1) 70 #[.pointer (some ⟨w.heap.size,0,none⟩)] EG.out A0 c0 l0 r _ (Kd.C_alloc HR.out _) HC.out (table_Find_1.callsOf k w.heap.size a1 _ hcell) HA.out).mono ?_;rintro e w2 ⟨rfl,hb2⟩))
 go_ret
 exact ⟨zb46,((Below.refl _ w).alloc (Nat.le_refl _) _).trans (sl_base zb24 hb2)⟩
set_option maxHeartbeats 4000000 in
set_option maxRecDepth 100000 in
theorem table_Named_1.callsOf (g:Nat) (host:ByteArray) (w:World) (hc:w.cell? ⟨g,0,none⟩=some (.string host)):TestOf_Slot 71 #[.pointer (some ⟨g,0,none⟩)] (fun x=>some (x.f0.toList == host.toList)) w:=by
 intro W x b A1 c1 hb hl hr hq
 have hcW:=pw_cell_below hb hc
 have hu:=Tryz.underlying64
 show Calls Tryz.prog 71 #[.agg #[.string x.f0,.slice A1 x.f1.length c1,.int .i64 x.f2,.int .i64 x.f3,.int .i64 x.f4,.int .i64 x.f5,.int .i64 x.f6,.int .i64 x.f7],.pointer (some ⟨g,0,none⟩)] W _
 have HR:=Aside0.mk hr
 have HL:=Aside0.mk hl
 have HQ:=Aside0.mk hq
 clear hr hl hq hb hc
 go_enter Tryz.func71,Tryz.ntmps71
 go_wp2_with (first
  | ((with_reducible refine gate_dst (N:=2) rfl ?_);refine box_event ?hg (N:=2) ?hd (cs:=#[.string x.f0,.slice A1 x.f1.length c1,.int .i64 x.f2,.int .i64 x.f3,.int .i64 x.f4,.int .i64 x.f5,.int .i64 x.f6,.int .i64 x.f7]) (t:=64) ?hr ?_;(case hd=>rfl);(case hg=>rfl);(case hr=>first|(go_simp;done)|(go_simp;rfl));intro X hX w1 hBX hbX;have X1:=Aside0.mk hBX;have L1:=Aside0.mk hbX;have hcX:=pw_cell_below hbX hcW;clear hBX hbX hX;have q0:w1.cell? ⟨X,0,none⟩=some (.string x.f0):=(blk_cell X1.out 0).trans rfl))
 go_ret
 exact ⟨by have:=HQ.out;injection this with this;first|(rw [this];done)|(rw [← this];done)|(simp [this];done)|(simp [← this];done),L1.out⟩
def table_Named.f (l0:List (S64)) (a1:ByteArray):Option Int:=idxO (fun x=>some (x.f0.toList == a1.toList)) l0 0
set_option maxHeartbeats 4000000 in
set_option maxRecDepth 100000 in
theorem table_Named.calls (A0:Option Addr) (c0:Nat) (l0:List (S64)) (a1:ByteArray) (r:Int) (w:World) (hr0:Kd.C k64 w A0 l0.length l0) (hc0:l0.length ≤ c0) (h:table_Named.f l0 a1=some r) :
 Calls Tryz.prog 33 #[.slice A0 l0.length c0,.string a1] w fun e w' => e = .returned (.int .i64 r)∧Below w.heap.size w w' := by
 unfold table_Named.f at h
 have HR:=Aside0.mk hr0
 have HC:=Aside0.mk hc0
 have HA:=Aside0.mk h
 have EG:=Aside0.mk (enters_of Tryz.func71 zb14 rfl : ∀ args w,(callFunc 71 args).run Tryz.prog w = .ok (.enter 71 args) w)
 clear hr0 hc0 h
 have hcell:(w.alloc (.cells #[.string a1] 9)).cell? ⟨w.heap.size,0,none⟩=some (.string a1):=(blk_cell (blk_new w _) 0).trans rfl
 go_enter Tryz.func33,Tryz.ntmps33
 go_wp2_with (first
  | (go_at_call 69;refine (slices_IndexFunc_Slot.callsOf (fun x=>some (x.f0.toList == a1.toList)) 71 #[.pointer (some ⟨w.heap.size,0,none⟩)] EG.out A0 c0 l0 r _ (Kd.C_alloc HR.out _) HC.out (table_Named_1.callsOf w.heap.size a1 _ hcell) HA.out).mono ?_;rintro e w2 ⟨rfl,hb2⟩))
 go_ret
 exact ⟨zb46,((Below.refl _ w).alloc (Nat.le_refl _) _).trans (sl_base zb24 hb2)⟩
def strings_Join.f (l0:List ByteArray) (a1:ByteArray):Option ByteArray:=if l0.length ≤ 140737488355328∧(Lib.join (l0.map (·.data.toList)) a1.data.toList).length ≤ 140737488355328 then some ⟨(Lib.join (l0.map (·.data.toList)) a1.data.toList).toArray⟩ else none
theorem join_add (b o j:Nat):(⟨b,o,none⟩:Addr).add j=⟨b,o + j,none⟩:=by unfold Addr.add;split <;> simp_all
theorem strings_Join.calls (A0:Option Addr) (c0:Nat) (l0:List ByteArray) (a1:ByteArray) (r:ByteArray) (w:World) (hr0:Kd.C Kd.string w A0 l0.length l0) (hc0:l0.length ≤ c0) (h:strings_Join.f l0 a1=some r) :
 Calls Tryz.prog 58 #[.slice A0 l0.length c0,.string a1] w fun e w' => e = .returned (.string r)∧Below w.heap.size w w' := by
 unfold strings_Join.f at h
 by_cases hz:l0.length ≤ 140737488355328∧(Lib.join (l0.map (·.data.toList)) a1.data.toList).length ≤ 140737488355328;rotate_left
 ·rw [if_neg hz] at h
  cases h
 rw [if_pos hz] at h
 injection h with h
 subst h
 by_cases hl:l0.length=0
 ·obtain rfl:=List.eq_nil_of_length_eq_zero hl
  refine (Tryz.strings_Join_none A0 c0 a1 w).mono ?_
  rintro e w' ⟨rfl,rfl⟩
  exact ⟨rfl,Below.refl _ _⟩
 obtain ⟨ad,he,h0⟩:=Kd.at_string hr0 0 zb16 zb16
 obtain ⟨b,o,s⟩:=ad
 cases s with
 | some s =>
  exfalso
  rw [show (⟨b,o,some s⟩:Addr).add (0:Int).toNat=⟨b,o,some s⟩ from rfl] at h0
  unfold World.cell? at h0
  split at h0
  ·simp at h0
  cases h0
 | none =>
  rw [he]
  refine Tryz.strings_Join b o c0 l0 a1 w (fun j x hj=>?_) (World.block_lt_of_cell? w _ h0) hz.1 hc0 hz.2
  have hlt:=(List.getElem?_eq_some_iff.1 hj).1
  obtain ⟨ad,he2,h2⟩:=Kd.at_string hr0 (j:Int) zb16 zb16
  rw [he] at he2
  injection he2 with he2
  rw [← he2,Int.toNat_natCast,join_add] at h2
  rw [h2]
  have:=(List.getElem?_eq_some_iff.1 hj).2
  simp [rdOf,List.getD_eq_getElem?_getD,hj]
/-- The texts of a slot's numbers. -/
def wrT:List (S111) → Option (List ByteArray)
 | []=>some []
 | b :: r=>(sign_Text.f b.f0).bind fun t=>(wrT r).bind fun ts=>some (t :: ts)
/-- A slot's line. -/
def wrLine (x:S64):Option ByteArray:=(table_bounds.f x.f0 x.f1 x.f2 x.f3 x.f4 x.f5 x.f6 x.f7).bind fun bs=>(wrT bs).bind fun ts=>if x.f1.length ≤ 1000000∧ts.length ≤ 1000 then (strings_Join.f (([(⟨#[115,108,111,116]⟩:ByteArray),x.f0] ++ ts) ++ x.f1) (⟨#[32]⟩:ByteArray)).bind fun j=>if j.size ≤ 140737488355000 then some (j ++ (⟨#[10]⟩:ByteArray)) else none else none
def wrOut:List (S64) → List UInt8 → Option (List UInt8)
 | [],acc=>some acc
 | x :: r,acc=>(wrLine x).bind fun s=>if acc.length + s.size ≤ 140737488355328 then wrOut r (acc ++ s.data.toList) else none
def table_Write.f (k:Nat) (l0:List (S64)):Option (ByteArray × Int):=(table_Right.f k l0).bind fun b=>if b=true then (wrOut l0 []).bind fun l=>some (⟨l.toArray⟩,0) else some ((⟨#[]⟩:ByteArray),60)
theorem table_Write.mono : ∀ a0 k,LeO (table_Write.f k a0) (table_Write.f (k + 1) a0):=by
 intro a0 k
 unfold table_Write.f
 exact LeO.bind (table_Right.mono _ _) (fun _=>LeO.refl _)
set_option maxHeartbeats 16000000 in
set_option maxRecDepth 100000 in
theorem table_Write.calls (k:Nat) (A0:Option Addr) (c0:Nat) (l0:List (S64)) (r1:ByteArray) (r2:Int) (w:World) (hr0:Kd.C k64 w A0 l0.length l0) (hc0:l0.length ≤ c0) (h:table_Write.f k l0=some (r1,r2)) (ht:Tabs w) :
 Calls Tryz.prog 30 #[.slice A0 l0.length c0] w fun e w' => e = .returned (.tuple #[.string r1,.int .i64 r2])∧Below w.heap.size w w' := by
 have HR:=Aside0.mk hr0
 have HC:=Aside0.mk hc0
 have HT:=Aside0.mk ht
 clear hr0 hc0 ht
 unfold table_Write.f at h
 obtain ⟨b,hb_,h'⟩:=Option.bind_eq_some_iff.1 h
 clear h
 have HB:=Aside0.mk hb_
 clear hb_
 cases b
 ·rw [if_neg zb24] at h'
  simp only [Option.some.injEq,Prod.mk.injEq] at h'
  obtain ⟨rfl,rfl⟩:=h'
  go_enter Tryz.func30,Tryz.ntmps30
  go_wp2_with (first
   | (go_at_call 31;(with_reducible refine (table_Right.calls k A0 c0 l0 false _ HR.out HC.out HB.out).mono ?_);rintro E w1 ⟨rfl,hb⟩;have L1:=Aside0.mk hb;clear hb))
  go_ret2
  exact ⟨zb46,L1.out⟩
 rw [if_pos rfl] at h'
 obtain ⟨l,hl_,h2⟩:=Option.bind_eq_some_iff.1 h'
 clear h'
 simp only [Option.some.injEq,Prod.mk.injEq] at h2
 obtain ⟨rfl,rfl⟩:=h2
 have H0:=Aside0.mk (show wrOut (l0.drop (0:Int).toNat) []=some l from hl_)
 clear hl_
 go_enter Tryz.func30,Tryz.ntmps30
 go_wp2_with (first
  | (go_at_call 31;(with_reducible refine (table_Right.calls k A0 c0 l0 true _ HR.out HC.out HB.out).mono ?_);rintro E w1 ⟨rfl,hb⟩;have L1:=Aside0.mk hb;clear hb))
 have IB0:=Aside0.mk (Lib.fresh_isBuilder 94 5 w1)
 have M0:=Aside0.mk (below_alloc (Below.refl w1.heap.size w1) (.cells #[.pointer none,.slice none 0 0] 94))
 go_loopg [15] l0.length (fun kq v wr => ∃ (x:Int) (acc:List UInt8),v = .int .i64 x∧Aside0 (0 ≤ x∧x ≤ l0.length∧(l0.length:Int) - x ≤ kq)∧Aside0 (Below w1.heap.size w1 wr)∧Aside0 (Lib.IsBuilder 94 5 w1.heap.size w1.heap.size (Lib.byteCells acc) wr)∧Aside0 (wrOut (l0.drop x.toNat) acc=some l))
 case atStart=>exact ⟨0,[],rfl,⟨zb16⟩,M0,IB0,H0⟩
 case round =>
  obtain ⟨x,acc,rfl,HX,M3,IB3,HO⟩:=hrel
  obtain ⟨wo,hwo⟩ : ∃ wo,wo=wr:=⟨wr,rfl⟩
  subst hwo
  obtain ⟨gq,hgq⟩ : ∃ gq,gq=gk:=⟨gk,rfl⟩
  subst hgq
  clear M0 IB0 H0
  by_cases c4:x < (l0.length:Int);rotate_left
  ·have c4b0:=decide_eq_false c4
   have hh:=HO.out
   rw [List.drop_of_length_le zb86,wrOut] at hh
   injection hh with hh
   subst hh
   clear c4
   go_wp2_with (first
    | (go_at_call 61;(with_reducible refine (bld_string w1.heap.size w1.heap.size acc _ IB3.out M3.out.size).mono ?_);rintro E w5 ⟨rfl,hb⟩;have L5:=Aside0.mk (below_step L1.out (M3.out.trans hb));clear hb))
   go_ret2
   exact ⟨zb46,L5.out⟩
  have c4b0:=decide_eq_true c4
  have hlt:x.toNat < l0.length:=by have:=HX.out;omega
  have hrd:rd_T64 l0 x=l0[x.toNat]:=by unfold rd_T64;rw [List.getD_eq_getElem?_getD,List.getElem?_eq_getElem hlt];rfl
  obtain ⟨ad,A1,c1,he,h0,h1,h2,h3,h4,h5,h6,h7,lc1,hC1⟩:=at_T64 HR.out x HX.out.1 c4
  have LW:=Aside0.mk (below_step L1.out M3.out)
  replace h0:=(LW.out.cell (World.block_lt_of_cell? w _ h0)).trans h0
  replace h1:=(LW.out.cell (World.block_lt_of_cell? w _ h1)).trans h1
  replace h2:=(LW.out.cell (World.block_lt_of_cell? w _ h2)).trans h2
  replace h3:=(LW.out.cell (World.block_lt_of_cell? w _ h3)).trans h3
  replace h4:=(LW.out.cell (World.block_lt_of_cell? w _ h4)).trans h4
  replace h5:=(LW.out.cell (World.block_lt_of_cell? w _ h5)).trans h5
  replace h6:=(LW.out.cell (World.block_lt_of_cell? w _ h6)).trans h6
  replace h7:=(LW.out.cell (World.block_lt_of_cell? w _ h7)).trans h7
  obtain ⟨y,hy⟩ : ∃ y,rd_T64 l0 x=y:=⟨_,rfl⟩
  have hh:=HO.out
  rw [List.drop_eq_getElem_cons hlt,← hrd,hy,wrOut] at hh
  rw [hy] at h0 h1 h2 h3 h4 h5 h6 h7 lc1 hC1
  obtain ⟨s,hs,hh2⟩:=Option.bind_eq_some_iff.1 hh
  clear hh
  unfold wrLine at hs
  obtain ⟨bs,hbs,hs2⟩:=Option.bind_eq_some_iff.1 hs
  clear hs
  obtain ⟨ts,hts,hs3⟩:=Option.bind_eq_some_iff.1 hs2
  clear hs2
  have HBS:=Aside0.mk hbs
  have HTS:=Aside0.mk hts
  have HS3:=Aside0.mk hs3
  have HH2:=Aside0.mk hh2
  have HLC:=Aside0.mk lc1
  have HC1:=Aside0.mk (Kd.C_below hC1 LW.out)
  have p8:(0 ≤ x)=True:=eq_true HX.out.1
  have q8:(x < (l0.length:Int))=True:=eq_true c4
  clear hbs hts hs3 hh2 lc1 hC1 hlt hrd hy c4 HO
  subst he
  have m0:(wo.alloc (.cells #[.string y.f0,.slice A1 y.f1.length c1,.int .i64 y.f2,.int .i64 y.f3,.int .i64 y.f4,.int .i64 y.f5,.int .i64 y.f6,.int .i64 y.f7] 64 (0,0))).cell? ⟨wo.heap.size,0,none⟩=some (.string y.f0):=(blk_cell (blk_new wo _) 0).trans rfl
  have m1:(wo.alloc (.cells #[.string y.f0,.slice A1 y.f1.length c1,.int .i64 y.f2,.int .i64 y.f3,.int .i64 y.f4,.int .i64 y.f5,.int .i64 y.f6,.int .i64 y.f7] 64 (0,0))).cell? ⟨wo.heap.size,1,none⟩=some (.slice A1 y.f1.length c1):=(blk_cell (blk_new wo _) 1).trans rfl
  have m2:(wo.alloc (.cells #[.string y.f0,.slice A1 y.f1.length c1,.int .i64 y.f2,.int .i64 y.f3,.int .i64 y.f4,.int .i64 y.f5,.int .i64 y.f6,.int .i64 y.f7] 64 (0,0))).cell? ⟨wo.heap.size,2,none⟩=some (.int .i64 y.f2):=(blk_cell (blk_new wo _) 2).trans rfl
  have m3:(wo.alloc (.cells #[.string y.f0,.slice A1 y.f1.length c1,.int .i64 y.f2,.int .i64 y.f3,.int .i64 y.f4,.int .i64 y.f5,.int .i64 y.f6,.int .i64 y.f7] 64 (0,0))).cell? ⟨wo.heap.size,3,none⟩=some (.int .i64 y.f3):=(blk_cell (blk_new wo _) 3).trans rfl
  have m4:(wo.alloc (.cells #[.string y.f0,.slice A1 y.f1.length c1,.int .i64 y.f2,.int .i64 y.f3,.int .i64 y.f4,.int .i64 y.f5,.int .i64 y.f6,.int .i64 y.f7] 64 (0,0))).cell? ⟨wo.heap.size,4,none⟩=some (.int .i64 y.f4):=(blk_cell (blk_new wo _) 4).trans rfl
  have m5:(wo.alloc (.cells #[.string y.f0,.slice A1 y.f1.length c1,.int .i64 y.f2,.int .i64 y.f3,.int .i64 y.f4,.int .i64 y.f5,.int .i64 y.f6,.int .i64 y.f7] 64 (0,0))).cell? ⟨wo.heap.size,5,none⟩=some (.int .i64 y.f5):=(blk_cell (blk_new wo _) 5).trans rfl
  have m6:(wo.alloc (.cells #[.string y.f0,.slice A1 y.f1.length c1,.int .i64 y.f2,.int .i64 y.f3,.int .i64 y.f4,.int .i64 y.f5,.int .i64 y.f6,.int .i64 y.f7] 64 (0,0))).cell? ⟨wo.heap.size,6,none⟩=some (.int .i64 y.f6):=(blk_cell (blk_new wo _) 6).trans rfl
  have m7:(wo.alloc (.cells #[.string y.f0,.slice A1 y.f1.length c1,.int .i64 y.f2,.int .i64 y.f3,.int .i64 y.f4,.int .i64 y.f5,.int .i64 y.f6,.int .i64 y.f7] 64 (0,0))).cell? ⟨wo.heap.size,7,none⟩=some (.int .i64 y.f7):=(blk_cell (blk_new wo _) 7).trans rfl
  have BY4:=Aside0.mk (blk_new wo (.cells #[.string y.f0,.slice A1 y.f1.length c1,.int .i64 y.f2,.int .i64 y.f3,.int .i64 y.f4,.int .i64 y.f5,.int .i64 y.f6,.int .i64 y.f7] 64 (0,0)))
  have M4:=Aside0.mk (below_alloc (Below.refl wo.heap.size wo) (.cells #[.string y.f0,.slice A1 y.f1.length c1,.int .i64 y.f2,.int .i64 y.f3,.int .i64 y.f4,.int .i64 y.f5,.int .i64 y.f6,.int .i64 y.f7] 64 (0,0)))
  go_wp2_with (first
   | ((with_reducible refine gate_dst (N:=21) rfl ?_);refine Kd.R_lit Kd.string _ 9 ?hg (N:=21) ?hd (xs:=[(⟨#[115,108,111,116]⟩:ByteArray),y.f0]) (inner:=[.string (⟨#[115,108,111,116]⟩:ByteArray),.string y.f0]) (ok:=fun _=>True) (okp:=fun _=>True) ?hr ?hp (fun _ hk=>hk) trivial (Below.refl _ _) (Nat.le_refl _) zb24 ?_;(case hd=>rfl);(case hg=>rfl);(case hr=>first|(go_simp;done)|(go_simp;rfl));(case hp=>exact (Reps.one (show Kd.M Kd.string _ _ _ (⟨#[115,108,111,116]⟩:ByteArray) [.string (⟨#[115,108,111,116]⟩:ByteArray)] from rfl) (Reps.one (show Kd.M Kd.string _ _ _ y.f0 [.string y.f0] from rfl) (Reps.none _ _))));intro v5 w2 ho3 hb hg_ hnew_;clear hg_ hnew_;have HO5:=Aside0.mk ho3;have N5:=Aside0.mk hb;have BY5:=Aside0.mk (blk_below BY4.out hb);have M5:=Aside0.mk (below_step M4.out hb);have q0:w2.cell? ⟨wo.heap.size,0,none⟩=some (.string y.f0):=(blk_cell BY5.out 0).trans rfl;have q1:w2.cell? ⟨wo.heap.size,1,none⟩=some (.slice A1 y.f1.length c1):=(blk_cell BY5.out 1).trans rfl;have q2:w2.cell? ⟨wo.heap.size,2,none⟩=some (.int .i64 y.f2):=(blk_cell BY5.out 2).trans rfl;have q3:w2.cell? ⟨wo.heap.size,3,none⟩=some (.int .i64 y.f3):=(blk_cell BY5.out 3).trans rfl;have q4:w2.cell? ⟨wo.heap.size,4,none⟩=some (.int .i64 y.f4):=(blk_cell BY5.out 4).trans rfl;have q5:w2.cell? ⟨wo.heap.size,5,none⟩=some (.int .i64 y.f5):=(blk_cell BY5.out 5).trans rfl;have q6:w2.cell? ⟨wo.heap.size,6,none⟩=some (.int .i64 y.f6):=(blk_cell BY5.out 6).trans rfl;have q7:w2.cell? ⟨wo.heap.size,7,none⟩=some (.int .i64 y.f7):=(blk_cell BY5.out 7).trans rfl;clear hb ho3)
   | (go_at_call 66;(with_reducible refine (table_bounds.calls y.f0 A1 c1 y.f1 y.f2 y.f3 y.f4 y.f5 y.f6 y.f7 bs _ (Kd.C_below HC1.out M5.out) HLC.out HBS.out).mono ?_);rintro E w3 ⟨v6,rfl,hb6,hb⟩;obtain ⟨AB,cB,rfl⟩:=Kd.R_slice hb6;have RB6:=Aside0.mk (Kd.R_lower (Kd.R_new' hb6 (Kd.R_lt HO5.out)) (below_size N5.out));have N6:=Aside0.mk (below_step N5.out hb);have RW6:=Aside0.mk (Kd.R_below HO5.out hb);clear hb hb6))
  have T6:=Aside0.mk (show wrT (bs.drop (0:Int).toNat)=some ts∧[(⟨#[115,108,111,116]⟩:ByteArray),y.f0] ++ ts=[(⟨#[115,108,111,116]⟩:ByteArray),y.f0] ++ ts from ⟨HTS.out,rfl⟩)
  clear BY5 M5 N5 HO5
  go_loopg [25,7] bs.length (fun kq v v7 wi => ∃ (z:Int) (ws rest:List ByteArray),v = .int .i64 z∧Aside0 (0 ≤ z∧z ≤ bs.length∧(bs.length:Int) - z ≤ kq)∧Aside0 (Below (wo.alloc (.cells #[.string y.f0,.slice A1 y.f1.length c1,.int .i64 y.f2,.int .i64 y.f3,.int .i64 y.f4,.int .i64 y.f5,.int .i64 y.f6,.int .i64 y.f7] 64 (0,0))).heap.size (wo.alloc (.cells #[.string y.f0,.slice A1 y.f1.length c1,.int .i64 y.f2,.int .i64 y.f3,.int .i64 y.f4,.int .i64 y.f5,.int .i64 y.f6,.int .i64 y.f7] 64 (0,0))) wi)∧Aside0 (Kd.R Kd.string 9 wi (wo.alloc (.cells #[.string y.f0,.slice A1 y.f1.length c1,.int .i64 y.f2,.int .i64 y.f3,.int .i64 y.f4,.int .i64 y.f5,.int .i64 y.f6,.int .i64 y.f7] 64 (0,0))).heap.size (fun _=>True) v7 ws)∧Aside0 (Kd.R k111 111 wi (wo.alloc (.cells #[.string y.f0,.slice A1 y.f1.length c1,.int .i64 y.f2,.int .i64 y.f3,.int .i64 y.f4,.int .i64 y.f5,.int .i64 y.f6,.int .i64 y.f7] 64 (0,0))).heap.size (fun k=>True∧some k ≠ v7.ownBlock) (.slice AB bs.length cB) bs)∧Aside0 (wrT (bs.drop z.toNat)=some rest∧[(⟨#[115,108,111,116]⟩:ByteArray),y.f0] ++ ts=ws ++ rest))
  case atStart=>exact ⟨0,_,ts,rfl,⟨zb16⟩,N6,RW6,RB6,T6⟩
  case round =>
   obtain ⟨z,ws,rest,rfl,HZ,N7,RW7,RB7,T7⟩:=hrel
   clear N6 RW6 RB6 T6
   by_cases c5:z < (bs.length:Int)
   ·have c5b0:=decide_eq_true c5
    have hlz:z.toNat < bs.length:=by have:=HZ.out;omega
    have hrz:rd_T111 bs z=bs[z.toNat]:=by unfold rd_T111;rw [List.getD_eq_getElem?_getD,List.getElem?_eq_getElem hlz];rfl
    obtain ⟨ae,hae,g0,g1,g2⟩:=at_T111 (Kd.R_reads' RB7.out).2.2 z HZ.out.1 c5
    obtain ⟨b,hb_⟩ : ∃ b,rd_T111 bs z=b:=⟨_,rfl⟩
    rw [hb_] at g0 g1 g2
    have ht7:=T7.out.1
    rw [List.drop_eq_getElem_cons hlz,← hrz,hb_,wrT] at ht7
    obtain ⟨tx,htx,ht8⟩:=Option.bind_eq_some_iff.1 ht7
    obtain ⟨rest2,hr2,ht9⟩:=Option.bind_eq_some_iff.1 ht8
    injection ht9 with ht9
    have TX:=Aside0.mk htx
    have ZN:(z + 1).toNat=z.toNat + 1:=by have:=HZ.out.1;omega
    have T8:=Aside0.mk (show wrT (bs.drop (z + 1).toNat)=some rest2∧[(⟨#[115,108,111,116]⟩:ByteArray),y.f0] ++ ts=(ws ++ [tx]) ++ rest2 from ⟨by rw [ZN];exact hr2,by rw [List.append_assoc,List.singleton_append,ht9];exact T7.out.2⟩)
    have LWs:=Aside0.mk (show ws.length ≤ 2000 from by
     have h1:=congrArg List.length T7.out.2
     have h2:=HS3.out
     split at h2
     ·rename_i h3
      simp only [List.length_append,List.length_cons,List.length_nil] at h1
      omega
     cases h2)
    have p9:(0 ≤ z)=True:=eq_true HZ.out.1
    have q9:(z < (bs.length:Int))=True:=eq_true c5
    have G0:=Aside0.mk c5
    have m0:(wr.alloc (.cells #[.int .i64 b.f0,.int .i64 b.f1,.int .i64 b.f2] 111 (0,0))).cell? ⟨wr.heap.size,0,none⟩=some (.int .i64 b.f0):=(blk_cell (blk_new wr _) 0).trans rfl
    clear ht7 htx ht8 hr2 ht9 hb_ hrz hlz c5 ZN T7
    subst hae
    go_wp2_with (first
     | (go_at_call 60;(with_reducible refine (sign_Text.calls b.f0 tx _ TX.out (HT.out.below (below_step (below_step L1.out M3.out) (below_step M4.out (below_alloc N7.out _))))).mono ?_);rintro E w4 ⟨rfl,hb⟩;have N8:=Aside0.mk (below_step (below_alloc N7.out _) hb);have RW8:=Aside0.mk (Kd.R_below (Kd.R_alloc RW7.out _) hb);have RB8:=Aside0.mk (Kd.R_below (Kd.R_alloc RB7.out _) hb);clear hb)
     | ((with_reducible refine gate_builtin (b:=.append) (xs:=#[.tmp 29,.tmp 33]) rfl ?_);at_builtin;refine Kd.R_append Kd.string (w0:=wo.alloc (.cells #[.string y.f0,.slice A1 y.f1.length c1,.int .i64 y.f2,.int .i64 y.f3,.int .i64 y.f4,.int .i64 y.f5,.int .i64 y.f6,.int .i64 y.f7] 64 (0,0))) (wo.alloc (.cells #[.string y.f0,.slice A1 y.f1.length c1,.int .i64 y.f2,.int .i64 y.f3,.int .i64 y.f4,.int .i64 y.f5,.int .i64 y.f6,.int .i64 y.f7] 64 (0,0))).heap.size rfl (.tmp 29) (.tmp 33) 34 9 (.string ⟨#[]⟩) 16 rfl Tryz.underlying34 info9 rfl zb22 zb16 u7 ws tx [.string tx] (fun _=>True) (fun _=>False) rfl rfl ?aP (fun _ hk=>hk.elim) (fun _ _=>trivial) ?aO ?aB ?aS ?aL ?_;(case aP=>exact rfl);(case aO=>exact RW8.out);(case aB=>exact N8.out);(case aS=>exact below_size N8.out);(case aL=>have:=LWs.out;omega);intro v10 w5 ho hb hg hat;have RB9:=Aside0.mk (Kd.R_after (ok:=fun _=>True) RB8.out hg hat);have N9:=Aside0.mk hb;have RW9:=Aside0.mk ho;clear ho hb hg hat))
    go_roundg (gk - 1)
    case measure=>have:=HZ.out;have:=G0.out;omega
    case rel =>
     have hx8:=HZ.out
     have hq8:=G0.out
     have hcB:=(Kd.R_reads' RB9.out).2.2.2.1
     have hw:wrap64 (z + 1)=z + 1:=by unfold wrap64;omega
     exact ⟨wrap64 (z + 1),ws ++ [tx],rest2,zb46,⟨by rw [hw];omega⟩,N9,RW9,RB9,⟨by rw [hw];exact T8.out⟩⟩
   have c5b0:=decide_eq_false c5
   have ht7:=T7.out
   rw [List.drop_of_length_le (by have:=HZ.out;omega),wrT] at ht7
   obtain ⟨ht8,ht9⟩:=ht7
   injection ht8 with ht8
   subst ht8
   rw [List.append_nil] at ht9
   have HS4:=Aside0.mk HS3.out
   clear HS3
   have hs4:=HS4.out
   rw [ht9] at hs4
   split at hs4
   rotate_left
   ·cases hs4
   rename_i hl4
   obtain ⟨j,hj,hs5⟩:=Option.bind_eq_some_iff.1 hs4
   split at hs5
   rotate_left
   ·cases hs5
   rename_i hj4
   injection hs5 with hs5
   have hh3:=HH2.out
   split at hh3
   rotate_left
   ·cases hh3
   rename_i hacc
   have LWs:=Aside0.mk (show ws.length ≤ 2000∧y.f1.length ≤ 1000000 from by
    have h1:=congrArg List.length ht9
    simp only [List.length_append,List.length_cons,List.length_nil] at h1
    omega)
   obtain ⟨wy,hwy⟩ : ∃ wy,ws ++ y.f1=wy:=⟨_,rfl⟩
   rw [hwy] at hj
   have HWY:=Aside0.mk hwy
   have HJ:=Aside0.mk hj
   have HJ4:=Aside0.mk hj4
   have jb1:(9223372036854775807 < j.size + 1)=False:=eq_false zb16
   have jb2:decide (j.size + 1 ≤ 9223372036854775807)=true:=decide_eq_true zb16
   have jb3:(j.size + 1 ≤ 9223372036854775807)=True:=eq_true zb16
   have HS5:=Aside0.mk hs5
   have HAC:=Aside0.mk hacc
   have HH3:=Aside0.mk hh3
   have N10:=Aside0.mk (below_step M4.out N7.out)
   have BY7:=Aside0.mk (blk_below BY4.out N7.out)
   have s1:wr.cell? ⟨wo.heap.size,1,none⟩=some (.slice A1 y.f1.length c1):=(blk_cell BY7.out 1).trans rfl
   clear ht9 hs4 hwy hj hj4 hs5 hh3 hacc hl4 c5
   go_wp2_with (first
    | ((with_reducible refine gate_builtin (b:=.append) (xs:=#[.tmp 36,.tmp 38]) rfl ?_);at_builtin;refine Kd.R_append_rows Kd.string (w0:=wo.alloc (.cells #[.string y.f0,.slice A1 y.f1.length c1,.int .i64 y.f2,.int .i64 y.f3,.int .i64 y.f4,.int .i64 y.f5,.int .i64 y.f6,.int .i64 y.f7] 64 (0,0))) (wo.alloc (.cells #[.string y.f0,.slice A1 y.f1.length c1,.int .i64 y.f2,.int .i64 y.f3,.int .i64 y.f4,.int .i64 y.f5,.int .i64 y.f6,.int .i64 y.f7] 64 (0,0))).heap.size rfl (.tmp 36) (.tmp 38) 34 9 (.string ⟨#[]⟩) 16 rfl Tryz.underlying34 info9 rfl zb22 zb16 u7 ws y.f1 _ _ _ (fun _=>True) (fun _=>False) rfl rfl ?aO ?aR (fun _ _ h=>h) (fun _ h=>h.elim) (fun _ _=>trivial) ?aB ?aS ?aL ?_;(case aO=>exact RW7.out);(case aR=>exact Kd.C_below HC1.out N10.out);(case aB=>exact N7.out);(case aS=>exact below_size N7.out);(case aL=>have:=LWs.out;omega);intro v11 w5 ho hb3 hg3 hat;rw [HWY.out] at ho;obtain ⟨AW,cW,rfl⟩:=Kd.R_slice ho;have RC8:=Aside0.mk (Kd.R_reads' ho).2.2;have RD8:=Aside0.mk (Kd.R_reads' ho).2.1;have N11:=Aside0.mk (below_step M4.out hb3);clear ho hb3 hg3 hat)
    | (go_at_call 58;(with_reducible refine (strings_Join.calls AW cW wy (⟨#[32]⟩:ByteArray) j _ RC8.out RD8.out HJ.out).mono ?_);rintro E w6 ⟨rfl,hb⟩;have N12:=Aside0.mk (below_step N11.out hb);clear hb)
    | (go_at_call 57;(with_reducible refine (bld_write w1.heap.size w1.heap.size (Lib.byteCells acc) (j ++ (⟨#[10]⟩:ByteArray)) _ (bld_below IB3.out N12.out) ?hl ?hB).mono ?_);(case hl=>rw [HS5.out,Lib.byteCells_length];exact HAC.out);(case hB=>exact Nat.le_trans M3.out.size N12.out.size);rintro E w7 ⟨rfl,hib,hb⟩;have M13:=Aside0.mk ((below_step M3.out N12.out).trans hb);have IB13:=Aside0.mk hib;clear hb hib))
   go_roundg (gq - 1)
   case measure=>have:=HX.out;have:=of_eq_true q8;omega
   case rel =>
    have hx8:=HX.out
    have hq8:=of_eq_true q8
    have hcB:=HR.out.2.1
    have hw:wrap64 (x + 1)=x + 1:=by unfold wrap64;omega
    have hw2:(wrap64 (x + 1)).toNat=x.toNat + 1:=by rw [hw];omega
    exact ⟨wrap64 (x + 1),acc ++ s.data.toList,zb46,⟨by rw [hw];omega⟩,M13,⟨by rw [Lib.byteCells_append,← HS5.out];exact IB13.out⟩,⟨by rw [hw2];exact HH3.out⟩⟩
end Go.Proofs.YtclpanalnbmejaaGreatDoor.P
