/- Each function below answers as its Lean twin says; plain lemmas; a row where its theorem stands. No further condition. (Laid by this repo's pack.py out of its texts and of the print's words.) -/
import Derived.Test.YtagffbblalldiaaGreatDoorZ3d8491c0
import Derived.Shelf.Abstract
import Derived.Shelf.Strings.SlTrimAscii
import Derived.Lib.LastIndexByte
import Derived.Laws.RangeString
import Derived.Laws.RangeAny
import Derived.Lib.SlTrimSet
import Derived.WalkSpells
import Derived.Deep.RegionHeld3
import Derived.Lib.SlBytesConst
import Derived.Deep.QuietTactic
import Derived.BigQuiet
namespace Go.Proofs.YtagffbblalldiaaGreatDoor.P
open Go.RowKit Go.Proofs.YtagffbblalldiaaGreatDoorW.PrintWords Go.Proofs.YtagffbblalldiaaGreatDoorW.PrintLast Go.Proofs.YtagffbblalldiaaGreatDoorW.PrintMore
attribute [local go_sem] max2_int min2_int max_two min_two max_three min_three max_four min_four
set_option linter.unusedVariables false
set_option linter.unusedSimpArgs false
/-- The place of the first that a test takes,from a place on: -1: none. -/
def idxO {α:Type} (q:α → Option Bool):List α → Int → Option Int
 | [],_=>some (-1)
 | x :: r,i=>(q x).bind fun b=>if b=true then some i else idxO q r (i + 1)
/-- Does a test take one of them? -/
def anyO {α:Type} (q:α → Option Bool):List α → Option Bool
 | []=>some false
 | x :: r=>(q x).bind fun b=>if b=true then some true else anyO q r
theorem idxO_any {α:Type} (q:α → Option Bool) : ∀ (xs:List α) (i:Int) (b:Bool),0 ≤ i → anyO q xs=some b → ∃ j,idxO q xs i=some j∧decide (0 ≤ j)=b
 | [],i,b,_,h=>⟨-1,rfl,by simp only [anyO,Option.some.injEq] at h;rw [← h];rfl⟩
 | x :: r,i,b,hi,h=>by
  simp only [anyO] at h
  obtain ⟨c,hc,h⟩:=Option.bind_eq_some_iff.1 h
  simp only [idxO,hc,Option.bind_some]
  cases c
  ·simp only [Bool.false_eq_true,if_false] at h ⊢
   exact idxO_any q r (i + 1) b (by omega) h
  simp only [if_true,Option.some.injEq] at h ⊢
  exact ⟨i,rfl,by rw [← h];exact decide_eq_true hi⟩
theorem sl_base {w w1:World} {b g:Nat} (hg:b ≤ g) (h:Below g w w1):Below b w w1:=⟨h.os,h.tape,h.output,h.size,fun i hi=>h.block i (Nat.lt_of_lt_of_le hi hg)⟩
/-- What is asked of a test that is handed over: its answer,in every later world. -/
def TestOf (g:Nat) (lb:Array Value) (enc:ByteArray → Value) (q:ByteArray → Option Bool) (w:World):Prop :=
 ∀ (W:World) (x:ByteArray) (b:Bool),Below w.heap.size w W → q x=some b → Calls Tryz.prog g (#[enc x] ++ lb) W fun e w' => e = .returned (.bool b)∧Below W.heap.size W w'
set_option maxHeartbeats 4000000 in
set_option maxRecDepth 100000 in
theorem slices_IndexFunc_string_string.callsOf (q:ByteArray → Option Bool) (g:Nat) (lb:Array Value) (eg : ∀ args w,(callFunc g args).run Tryz.prog w = .ok (.enter g args) w) (A0:Option Addr) (c0:Nat) (l0:List ByteArray) (r:Int) (w:World) (hr0:Kd.C Kd.string w A0 l0.length l0) (hc0:l0.length ≤ c0)
 (hq:TestOf g lb Value.string q w) (h:idxO q l0 0=some r) :
 Calls Tryz.prog 135 #[.slice A0 l0.length c0,.func (.func g) #[] lb] w fun e w' => e = .returned (.int .i64 r)∧Below w.heap.size w w' := by
 have HR:=Aside0.mk hr0
 have HQ:=Aside0.mk hq
 have H0:=Aside0.mk (show idxO q (l0.drop (0:Int).toNat) 0=some r from h)
 have HM:=Aside0.mk (show l0.length ≤ 9223372036854775807 from hr0.2.1)
 clear hr0 hq h
 go_enter Tryz.func135,Tryz.ntmps135
 go_wp2
 go_loopg [5,8] l0.length (fun kq _ v8 wr => ∃ (x8:Int),v8 = .int .i64 x8∧Aside0 (0 ≤ x8∧x8 ≤ l0.length∧(l0.length:Int) - x8 ≤ kq)∧Aside0 (Below w.heap.size w wr)∧Aside0 (idxO q (l0.drop x8.toNat) x8=some r))
 case atStart=>exact ⟨0,rfl,⟨zb17⟩,⟨Below.refl _ w⟩,H0⟩
 case round =>
  obtain ⟨x8,rfl,HX,BW,HH⟩:=hrel
  clear H0
  by_cases c4:x8 < (l0.length:Int);rotate_left
  ·have c4b0:=decide_eq_false c4
   have hx:=HH.out
   rw [List.drop_of_length_le zb150,idxO] at hx
   injection hx with hx
   clear c4
   go_wp2
   go_ret
   subst hx
   exact ⟨zb46,BW.out⟩
  have c4b0:=decide_eq_true c4
  have hx:=HH.out
  have hlt:x8.toNat < l0.length:=by have:=HX.out;omega
  rw [List.drop_eq_getElem_cons hlt,idxO] at hx
  obtain ⟨b,hb,hx⟩:=Option.bind_eq_some_iff.1 hx
  have hrd:rdOf ByteArray.empty l0 x8=l0[x8.toNat]:=by simp [rdOf,List.getD_eq_getElem?_getD,List.getElem?_eq_getElem hlt]
  have hcall:=HQ.out wr l0[x8.toNat] b BW.out hb
  rw [← hrd] at hcall
  obtain ⟨ad,he,hcell⟩:=Kd.at_string HR.out x8 HX.out.1 c4
  replace hcell:=(BW.out.cell (World.block_lt_of_cell? w _ hcell)).trans hcell
  obtain ⟨y,hy⟩ : ∃ y,rdOf ByteArray.empty l0 x8=y:=⟨_,rfl⟩
  rw [hy] at hcall hcell
  have HCALL:=Aside0.mk hcall
  have HN:=Aside0.mk hx
  have p8:(0 ≤ x8)=True:=eq_true HX.out.1
  have q8:(x8 < (l0.length:Int))=True:=eq_true c4
  clear hx hb hrd HH hy hcall c4
  subst he
  cases b with
  | true =>
   go_wp2_with (go_at_fn g;refine HCALL.out.mono ?_;rintro e w' ⟨rfl,hb'⟩)
   go_ret
   have hx:=HN.out
   simp only [if_true,Option.some.injEq] at hx
   subst hx
   exact ⟨zb46,BW.out.trans (sl_base (Below.size BW.out) hb')⟩
  | false =>
   go_wp2_with (go_at_fn g;refine HCALL.out.mono ?_;rintro e w' ⟨rfl,hb'⟩)
   go_roundg (gk - 1)
   case measure=>have:=HX.out;have:=of_eq_true q8;omega
   case rel =>
    have hx:=HN.out
    simp only [Bool.false_eq_true,if_false] at hx
    have hx8:=HX.out
    have hq8:=of_eq_true q8
    have hw:wrap64 (x8 + 1)=x8 + 1:=by have:=HM.out;unfold wrap64;omega
    refine ⟨wrap64 (x8 + 1),rfl,⟨by rw [hw];omega⟩,⟨BW.out.trans (sl_base (Below.size BW.out) hb')⟩,⟨?_⟩⟩
    rw [hw,show (x8 + 1).toNat=x8.toNat + 1 by omega]
    exact hx
/-- What is asked of a test of such structs that is handed over. -/
def TestOf_Up (g:Nat) (lb:Array Value) (q:S83 → Option Bool) (w:World):Prop :=
 ∀ (W:World) (x:S83) (b:Bool) (A1:Option Addr) (c1:Nat),Below w.heap.size w W → x.f1.length ≤ c1 → Kd.C Kd.string W A1 x.f1.length x.f1 → q x=some b → Calls Tryz.prog g (#[.agg #[.string x.f0,.slice A1 x.f1.length c1]] ++ lb) W fun e w' => e = .returned (.bool b)∧Below W.heap.size W w'
set_option maxHeartbeats 4000000 in
set_option maxRecDepth 100000 in
theorem slices_IndexFunc_Up.callsOf (q:S83 → Option Bool) (g:Nat) (lb:Array Value) (eg : ∀ args w,(callFunc g args).run Tryz.prog w = .ok (.enter g args) w) (A_:Option Addr) (c_:Nat) (l0:List (S83)) (r:Int) (w:World) (hr0:Kd.C k83 w A_ l0.length l0) (hc0:l0.length ≤ c_)
 (hq:TestOf_Up g lb q w) (h:idxO q l0 0=some r) :
 Calls Tryz.prog 146 #[.slice A_ l0.length c_,.func (.func g) #[] lb] w fun e w' => e = .returned (.int .i64 r)∧Below w.heap.size w w' := by
 have hu:=Tryz.underlying83
 have HR:=Aside0.mk hr0
 have HQ:=Aside0.mk hq
 have H0:=Aside0.mk (show idxO q (l0.drop (0:Int).toNat) 0=some r from h)
 have HM:=Aside0.mk (show l0.length ≤ 9223372036854775807 from hr0.2.1)
 clear hr0 hq h
 go_enter Tryz.func146,Tryz.ntmps146
 go_wp2
 go_loopg [5,8] l0.length (fun kq _ v8 wr => ∃ (x8:Int),v8 = .int .i64 x8∧Aside0 (0 ≤ x8∧x8 ≤ l0.length∧(l0.length:Int) - x8 ≤ kq)∧Aside0 (Below w.heap.size w wr)∧Aside0 (idxO q (l0.drop x8.toNat) x8=some r))
 case atStart=>exact ⟨0,rfl,⟨zb17⟩,⟨Below.refl _ w⟩,H0⟩
 case round =>
  obtain ⟨x8,rfl,HX,BW,HH⟩:=hrel
  clear H0
  by_cases c4:x8 < (l0.length:Int);rotate_left
  ·have c4b0:=decide_eq_false c4
   have hx:=HH.out
   rw [List.drop_of_length_le zb150,idxO] at hx
   injection hx with hx
   clear c4
   go_wp2
   go_ret
   subst hx
   exact ⟨zb46,BW.out⟩
  have c4b0:=decide_eq_true c4
  have hx:=HH.out
  have hlt:x8.toNat < l0.length:=by have:=HX.out;omega
  rw [List.drop_eq_getElem_cons hlt,idxO] at hx
  obtain ⟨b,hb,hx⟩:=Option.bind_eq_some_iff.1 hx
  have hrd:rd_T83 l0 x8=l0[x8.toNat]:=by unfold rd_T83;rw [List.getD_eq_getElem?_getD,List.getElem?_eq_getElem hlt];rfl
  obtain ⟨ad,A1,c1,he,h0,h1,lc1,hC1⟩:=at_T83 HR.out x8 HX.out.1 c4
  replace h0:=(BW.out.cell (World.block_lt_of_cell? w _ h0)).trans h0
  replace h1:=(BW.out.cell (World.block_lt_of_cell? w _ h1)).trans h1
  have hcall:=HQ.out wr l0[x8.toNat] b A1 c1 BW.out (by rw [← hrd];exact lc1) (by rw [← hrd];exact Kd.C_below hC1 BW.out) hb
  rw [← hrd] at hcall
  obtain ⟨y,hy⟩ : ∃ y,rd_T83 l0 x8=y:=⟨_,rfl⟩
  rw [hy] at hcall h0 h1
  have HCALL:=Aside0.mk hcall
  have HN:=Aside0.mk hx
  have p8:(0 ≤ x8)=True:=eq_true HX.out.1
  have q8:(x8 < (l0.length:Int))=True:=eq_true c4
  clear hx hb hrd HH hy hcall c4 lc1 hC1
  subst he
  cases b with
  | true =>
   go_wp2_with (go_at_fn g;refine HCALL.out.mono ?_;rintro e w' ⟨rfl,hb'⟩)
   go_ret
   have hx:=HN.out
   simp only [if_true,Option.some.injEq] at hx
   subst hx
   exact ⟨zb46,BW.out.trans (sl_base (Below.size BW.out) hb')⟩
  | false =>
   go_wp2_with (go_at_fn g;refine HCALL.out.mono ?_;rintro e w' ⟨rfl,hb'⟩)
   go_roundg (gk - 1)
   case measure=>have:=HX.out;have:=of_eq_true q8;omega
   case rel =>
    have hx:=HN.out
    simp only [Bool.false_eq_true,if_false] at hx
    have hx8:=HX.out
    have hq8:=of_eq_true q8
    have hw:wrap64 (x8 + 1)=x8 + 1:=by have:=HM.out;unfold wrap64;omega
    refine ⟨wrap64 (x8 + 1),rfl,⟨by rw [hw];omega⟩,⟨BW.out.trans (sl_base (Below.size BW.out) hb')⟩,⟨?_⟩⟩
    rw [hw,show (x8 + 1).toNat=x8.toNat + 1 by omega]
    exact hx
set_option maxHeartbeats 4000000 in
set_option maxRecDepth 100000 in
theorem slices_ContainsFunc_Up.callsOf (q:S83 → Option Bool) (g:Nat) (lb:Array Value) (eg : ∀ args w,(callFunc g args).run Tryz.prog w = .ok (.enter g args) w) (A_:Option Addr) (c_:Nat) (l0:List (S83)) (r:Bool) (w:World) (hr0:Kd.C k83 w A_ l0.length l0) (hc0:l0.length ≤ c_)
 (hq:TestOf_Up g lb q w) (h:anyO q l0=some r) :
 Calls Tryz.prog 96 #[.slice A_ l0.length c_,.func (.func g) #[] lb] w fun e w' => e = .returned (.bool r)∧Below w.heap.size w w' := by
 obtain ⟨j,hj,hb⟩:=idxO_any q l0 0 r zb17 h
 have HC:=Aside0.mk (slices_IndexFunc_Up.callsOf q g lb eg A_ c_ l0 j w hr0 hc0 hq hj)
 have HBB:=Aside0.mk hb
 clear hb hj h hq hr0 hc0 eg
 go_enter Tryz.func96,Tryz.ntmps96
 go_wp2_with (go_at_call 146;refine HC.out.mono ?_;rintro e w' ⟨rfl,hb'⟩)
 go_ret
 have e:=HBB.out
 subst e
 exact ⟨zb46,hb'⟩
def conf_many_1.f (a0_0:ByteArray) (l0_1:List ByteArray):Option (Bool):=if (l0_1.length:Int) < 1 then (some true) else (some (decide ((l0_1.length:Int) > 8)))
set_option maxHeartbeats 8000000 in
set_option maxRecDepth 100000 in
theorem conf_many_1.calls (a0_0:ByteArray) (A0_1:Option Addr) (c0_1:Nat) (l0_1:List ByteArray) (r:Bool) (w:World) (hr0_1:Kd.C Kd.string w A0_1 l0_1.length l0_1) (hc0_1:l0_1.length ≤ c0_1) (h:conf_many_1.f a0_0 l0_1=some r) :
 Calls Tryz.prog 97 #[.agg #[.string a0_0,.slice A0_1 l0_1.length c0_1]] w fun e w' => e = .returned (.bool r)∧Below w.heap.size w w' := by
 have hu83:=Tryz.underlying83
 have HR0_1:=Aside0.mk hr0_1
 have HC0_1:=Aside0.mk hc0_1
 clear hr0_1 hc0_1
 have HB:=Aside0.mk (Below.refl w.heap.size w)
 unfold conf_many_1.f at h
 have H:=h
 clear h
 by_cases c2:(l0_1.length:Int) < 1
 ·rw [if_pos c2] at H
  have c2b0:=decide_eq_true c2
  have c2b1:decide (l0_1.length < 1)=true:=decide_eq_true zb17
  clear c2
  obtain rfl:=Option.some.inj H
  go_enter Tryz.func97,Tryz.ntmps97
  go_wp2_with (first|((with_reducible refine gate_dst (N:=1) rfl ?_);(try (refine gate_guard zb45 ?_;dsimp only));refine box_event rfl (N:=1) rfl (cs:=#[.string a0_0,.slice A0_1 l0_1.length c0_1]) (t:=83) zS ?_;intro gb171 hg w3 hbox hb;have GW171:=zG hg zb0;have GE171:=GW171;have BK171:=Aside0.mk hbox;replace HB:=Aside0.mk (below_step zb0 hb);clear hb hbox hg;obtain ⟨hcz4_0,hcz4_1,hfz4_0,hfz4_1⟩:=zq2 BK171.out))
  go_ret
  exact ⟨zb2,zb138⟩
 rw [if_neg c2] at H
 have c2b0:=decide_eq_false c2
 have c2b1:decide (l0_1.length < 1)=false:=decide_eq_false zb17
 clear c2
 obtain rfl:=Option.some.inj H
 go_enter Tryz.func97,Tryz.ntmps97
 go_wp2_with (first|((with_reducible refine gate_dst (N:=1) rfl ?_);(try (refine gate_guard zb45 ?_;dsimp only));refine box_event rfl (N:=1) rfl (cs:=#[.string a0_0,.slice A0_1 l0_1.length c0_1]) (t:=83) zS ?_;intro gb171 hg w5 hbox hb;have GW171:=zG hg zb0;have GE171:=GW171;have BK171:=Aside0.mk hbox;replace HB:=Aside0.mk (below_step zb0 hb);clear hb hbox hg;obtain ⟨hcz6_0,hcz6_1,hfz6_0,hfz6_1⟩:=zq2 BK171.out))
 go_ret
 exact ⟨zb2,zb138⟩
def conf_many.f (l0_0:List (S83)) (l0_1:List (S85)) (l0_2:List (S36)) (l0_3:List ByteArray) (a0_4:Int) (a0_5:Int) (a0_6:Int) (a0_7:Int):Option Bool:=(anyO (fun u=>conf_many_1.f u.f0 u.f1) l0_0).bind fun b=>if b=true then some true else if (l0_0.length:Int) > 16 then some true else if (l0_1.length:Int) > 32 then some true else if (l0_2.length:Int) > 16 then some true else some (decide ((l0_3.length:Int) > 16))
set_option maxHeartbeats 8000000 in
set_option maxRecDepth 100000 in
theorem conf_many.calls (A0_0:Option Addr) (c0_0:Nat) (l0_0:List (S83)) (A0_1:Option Addr) (c0_1:Nat) (l0_1:List (S85)) (A0_2:Option Addr) (c0_2:Nat) (l0_2:List (S36)) (A0_3:Option Addr) (c0_3:Nat) (l0_3:List ByteArray) (a0_4:Int) (a0_5:Int) (a0_6:Int) (a0_7:Int) (r:Bool) (w:World) (hr0_0:Kd.C k83 w A0_0 l0_0.length l0_0) (hc0_0:l0_0.length ≤ c0_0) (hr0_1:Kd.C k85 w A0_1 l0_1.length l0_1) (hc0_1:l0_1.length ≤ c0_1) (hr0_2:Kd.C k36 w A0_2 l0_2.length l0_2) (hc0_2:l0_2.length ≤ c0_2) (hr0_3:Kd.C Kd.string w A0_3 l0_3.length l0_3) (hc0_3:l0_3.length ≤ c0_3) (h:conf_many.f l0_0 l0_1 l0_2 l0_3 a0_4 a0_5 a0_6 a0_7=some r) :
 Calls Tryz.prog 56 #[.agg #[.slice A0_0 l0_0.length c0_0,.slice A0_1 l0_1.length c0_1,.slice A0_2 l0_2.length c0_2,.slice A0_3 l0_3.length c0_3,.int .i64 a0_4,.int .i64 a0_5,.int .i64 a0_6,.int .i64 a0_7]] w fun e w' => e = .returned (.bool r)∧Below w.heap.size w w' := by
 have hu:=Tryz.underlying46
 have HR0:=Aside0.mk hr0_0
 have HR1:=Aside0.mk hr0_1
 have HR2:=Aside0.mk hr0_2
 have HR3:=Aside0.mk hr0_3
 have HC0:=Aside0.mk hc0_0
 have HC1:=Aside0.mk hc0_1
 have HC2:=Aside0.mk hc0_2
 have HC3:=Aside0.mk hc0_3
 clear hr0_0 hr0_1 hr0_2 hr0_3 hc0_0 hc0_1 hc0_2 hc0_3
 have EG:=Aside0.mk (enters_of Tryz.func97 zb7 rfl : ∀ args w,(callFunc 97 args).run Tryz.prog w = .ok (.enter 97 args) w)
 unfold conf_many.f at h
 obtain ⟨b,hb,h⟩:=Option.bind_eq_some_iff.1 h
 have HA:=Aside0.mk hb
 clear hb
 cases b
 ·rw [if_neg zb44] at h
  by_cases k0:(l0_0.length:Int) > 16
  ·rw [if_pos k0] at h
   injection h with h
   subst h
   have d01:decide (16 < (l0_0.length:Int))=true:=decide_eq_true zb17
   have d02:decide (16 < l0_0.length)=true:=decide_eq_true zb17
   have d03:(16 < (l0_0.length:Int))=True:=eq_true zb17
   have d04:(16 < l0_0.length)=True:=eq_true zb17
   clear k0
   go_enter Tryz.func56,Tryz.ntmps56
   go_wp2_with (first
    | ((with_reducible refine gate_dst (N:=1) rfl ?_);refine box_event ?hg (N:=1) ?hd (cs:=#[.slice A0_0 l0_0.length c0_0,.slice A0_1 l0_1.length c0_1,.slice A0_2 l0_2.length c0_2,.slice A0_3 l0_3.length c0_3,.int .i64 a0_4,.int .i64 a0_5,.int .i64 a0_6,.int .i64 a0_7]) (t:=46) ?hr ?_;(case hd=>rfl);(case hg=>rfl);(case hr=>first|(go_simp;done)|(go_simp;rfl));intro X hX w1 hBX hbX;have BX1:=Aside0.mk hBX;have L1:=Aside0.mk hbX;clear hBX hbX hX;have q0:w1.cell? ⟨X,0,none⟩=some (.slice A0_0 l0_0.length c0_0):=(blk_cell BX1.out 0).trans rfl;have q1:w1.cell? ⟨X,1,none⟩=some (.slice A0_1 l0_1.length c0_1):=(blk_cell BX1.out 1).trans rfl;have q2:w1.cell? ⟨X,2,none⟩=some (.slice A0_2 l0_2.length c0_2):=(blk_cell BX1.out 2).trans rfl;have q3:w1.cell? ⟨X,3,none⟩=some (.slice A0_3 l0_3.length c0_3):=(blk_cell BX1.out 3).trans rfl;have q4:w1.cell? ⟨X,4,none⟩=some (.int .i64 a0_4):=(blk_cell BX1.out 4).trans rfl;have q5:w1.cell? ⟨X,5,none⟩=some (.int .i64 a0_5):=(blk_cell BX1.out 5).trans rfl;have q6:w1.cell? ⟨X,6,none⟩=some (.int .i64 a0_6):=(blk_cell BX1.out 6).trans rfl;have q7:w1.cell? ⟨X,7,none⟩=some (.int .i64 a0_7):=(blk_cell BX1.out 7).trans rfl)
    | (go_at_call 96;(refine (slices_ContainsFunc_Up.callsOf (fun u=>conf_many_1.f u.f0 u.f1) 97 #[] EG.out A0_0 c0_0 l0_0 _ _ (Kd.C_below HR0.out L1.out) HC0.out (fun W x b A c _ hl hr hq=> zb89) HA.out).mono ?_);rintro e w2 ⟨rfl,hb2⟩;have BX2:=Aside0.mk (blk_below BX1.out hb2);have L2:=Aside0.mk (below_step L1.out hb2);clear q0 q1 q2 q3 q4 q5 q6 q7;clear hb2;have q0:w2.cell? ⟨X,0,none⟩=some (.slice A0_0 l0_0.length c0_0):=(blk_cell BX2.out 0).trans rfl;have q1:w2.cell? ⟨X,1,none⟩=some (.slice A0_1 l0_1.length c0_1):=(blk_cell BX2.out 1).trans rfl;have q2:w2.cell? ⟨X,2,none⟩=some (.slice A0_2 l0_2.length c0_2):=(blk_cell BX2.out 2).trans rfl;have q3:w2.cell? ⟨X,3,none⟩=some (.slice A0_3 l0_3.length c0_3):=(blk_cell BX2.out 3).trans rfl;have q4:w2.cell? ⟨X,4,none⟩=some (.int .i64 a0_4):=(blk_cell BX2.out 4).trans rfl;have q5:w2.cell? ⟨X,5,none⟩=some (.int .i64 a0_5):=(blk_cell BX2.out 5).trans rfl;have q6:w2.cell? ⟨X,6,none⟩=some (.int .i64 a0_6):=(blk_cell BX2.out 6).trans rfl;have q7:w2.cell? ⟨X,7,none⟩=some (.int .i64 a0_7):=(blk_cell BX2.out 7).trans rfl))
   go_ret
   exact ⟨zb46,L2.out⟩
  rw [if_neg k0] at h
  have d01:decide (16 < (l0_0.length:Int))=false:=decide_eq_false zb17
  have d02:decide (16 < l0_0.length)=false:=decide_eq_false zb17
  have d03:(16 < (l0_0.length:Int))=False:=eq_false zb17
  have d04:(16 < l0_0.length)=False:=eq_false zb17
  clear k0
  by_cases k1:(l0_1.length:Int) > 32
  ·rw [if_pos k1] at h
   injection h with h
   subst h
   have d11:decide (32 < (l0_1.length:Int))=true:=decide_eq_true zb17
   have d12:decide (32 < l0_1.length)=true:=decide_eq_true zb17
   have d13:(32 < (l0_1.length:Int))=True:=eq_true zb17
   have d14:(32 < l0_1.length)=True:=eq_true zb17
   clear k1
   go_enter Tryz.func56,Tryz.ntmps56
   go_wp2_with (first
    | ((with_reducible refine gate_dst (N:=1) rfl ?_);refine box_event ?hg (N:=1) ?hd (cs:=#[.slice A0_0 l0_0.length c0_0,.slice A0_1 l0_1.length c0_1,.slice A0_2 l0_2.length c0_2,.slice A0_3 l0_3.length c0_3,.int .i64 a0_4,.int .i64 a0_5,.int .i64 a0_6,.int .i64 a0_7]) (t:=46) ?hr ?_;(case hd=>rfl);(case hg=>rfl);(case hr=>first|(go_simp;done)|(go_simp;rfl));intro X hX w1 hBX hbX;have BX1:=Aside0.mk hBX;have L1:=Aside0.mk hbX;clear hBX hbX hX;have q0:w1.cell? ⟨X,0,none⟩=some (.slice A0_0 l0_0.length c0_0):=(blk_cell BX1.out 0).trans rfl;have q1:w1.cell? ⟨X,1,none⟩=some (.slice A0_1 l0_1.length c0_1):=(blk_cell BX1.out 1).trans rfl;have q2:w1.cell? ⟨X,2,none⟩=some (.slice A0_2 l0_2.length c0_2):=(blk_cell BX1.out 2).trans rfl;have q3:w1.cell? ⟨X,3,none⟩=some (.slice A0_3 l0_3.length c0_3):=(blk_cell BX1.out 3).trans rfl;have q4:w1.cell? ⟨X,4,none⟩=some (.int .i64 a0_4):=(blk_cell BX1.out 4).trans rfl;have q5:w1.cell? ⟨X,5,none⟩=some (.int .i64 a0_5):=(blk_cell BX1.out 5).trans rfl;have q6:w1.cell? ⟨X,6,none⟩=some (.int .i64 a0_6):=(blk_cell BX1.out 6).trans rfl;have q7:w1.cell? ⟨X,7,none⟩=some (.int .i64 a0_7):=(blk_cell BX1.out 7).trans rfl)
    | (go_at_call 96;(refine (slices_ContainsFunc_Up.callsOf (fun u=>conf_many_1.f u.f0 u.f1) 97 #[] EG.out A0_0 c0_0 l0_0 _ _ (Kd.C_below HR0.out L1.out) HC0.out (fun W x b A c _ hl hr hq=> zb89) HA.out).mono ?_);rintro e w2 ⟨rfl,hb2⟩;have BX2:=Aside0.mk (blk_below BX1.out hb2);have L2:=Aside0.mk (below_step L1.out hb2);clear q0 q1 q2 q3 q4 q5 q6 q7;clear hb2;have q0:w2.cell? ⟨X,0,none⟩=some (.slice A0_0 l0_0.length c0_0):=(blk_cell BX2.out 0).trans rfl;have q1:w2.cell? ⟨X,1,none⟩=some (.slice A0_1 l0_1.length c0_1):=(blk_cell BX2.out 1).trans rfl;have q2:w2.cell? ⟨X,2,none⟩=some (.slice A0_2 l0_2.length c0_2):=(blk_cell BX2.out 2).trans rfl;have q3:w2.cell? ⟨X,3,none⟩=some (.slice A0_3 l0_3.length c0_3):=(blk_cell BX2.out 3).trans rfl;have q4:w2.cell? ⟨X,4,none⟩=some (.int .i64 a0_4):=(blk_cell BX2.out 4).trans rfl;have q5:w2.cell? ⟨X,5,none⟩=some (.int .i64 a0_5):=(blk_cell BX2.out 5).trans rfl;have q6:w2.cell? ⟨X,6,none⟩=some (.int .i64 a0_6):=(blk_cell BX2.out 6).trans rfl;have q7:w2.cell? ⟨X,7,none⟩=some (.int .i64 a0_7):=(blk_cell BX2.out 7).trans rfl))
   go_ret
   exact ⟨zb46,L2.out⟩
  rw [if_neg k1] at h
  have d11:decide (32 < (l0_1.length:Int))=false:=decide_eq_false zb17
  have d12:decide (32 < l0_1.length)=false:=decide_eq_false zb17
  have d13:(32 < (l0_1.length:Int))=False:=eq_false zb17
  have d14:(32 < l0_1.length)=False:=eq_false zb17
  clear k1
  by_cases k2:(l0_2.length:Int) > 16
  ·rw [if_pos k2] at h
   injection h with h
   subst h
   have d21:decide (16 < (l0_2.length:Int))=true:=decide_eq_true zb17
   have d22:decide (16 < l0_2.length)=true:=decide_eq_true zb17
   have d23:(16 < (l0_2.length:Int))=True:=eq_true zb17
   have d24:(16 < l0_2.length)=True:=eq_true zb17
   clear k2
   go_enter Tryz.func56,Tryz.ntmps56
   go_wp2_with (first
    | ((with_reducible refine gate_dst (N:=1) rfl ?_);refine box_event ?hg (N:=1) ?hd (cs:=#[.slice A0_0 l0_0.length c0_0,.slice A0_1 l0_1.length c0_1,.slice A0_2 l0_2.length c0_2,.slice A0_3 l0_3.length c0_3,.int .i64 a0_4,.int .i64 a0_5,.int .i64 a0_6,.int .i64 a0_7]) (t:=46) ?hr ?_;(case hd=>rfl);(case hg=>rfl);(case hr=>first|(go_simp;done)|(go_simp;rfl));intro X hX w1 hBX hbX;have BX1:=Aside0.mk hBX;have L1:=Aside0.mk hbX;clear hBX hbX hX;have q0:w1.cell? ⟨X,0,none⟩=some (.slice A0_0 l0_0.length c0_0):=(blk_cell BX1.out 0).trans rfl;have q1:w1.cell? ⟨X,1,none⟩=some (.slice A0_1 l0_1.length c0_1):=(blk_cell BX1.out 1).trans rfl;have q2:w1.cell? ⟨X,2,none⟩=some (.slice A0_2 l0_2.length c0_2):=(blk_cell BX1.out 2).trans rfl;have q3:w1.cell? ⟨X,3,none⟩=some (.slice A0_3 l0_3.length c0_3):=(blk_cell BX1.out 3).trans rfl;have q4:w1.cell? ⟨X,4,none⟩=some (.int .i64 a0_4):=(blk_cell BX1.out 4).trans rfl;have q5:w1.cell? ⟨X,5,none⟩=some (.int .i64 a0_5):=(blk_cell BX1.out 5).trans rfl;have q6:w1.cell? ⟨X,6,none⟩=some (.int .i64 a0_6):=(blk_cell BX1.out 6).trans rfl;have q7:w1.cell? ⟨X,7,none⟩=some (.int .i64 a0_7):=(blk_cell BX1.out 7).trans rfl)
    | (go_at_call 96;(refine (slices_ContainsFunc_Up.callsOf (fun u=>conf_many_1.f u.f0 u.f1) 97 #[] EG.out A0_0 c0_0 l0_0 _ _ (Kd.C_below HR0.out L1.out) HC0.out (fun W x b A c _ hl hr hq=> zb89) HA.out).mono ?_);rintro e w2 ⟨rfl,hb2⟩;have BX2:=Aside0.mk (blk_below BX1.out hb2);have L2:=Aside0.mk (below_step L1.out hb2);clear q0 q1 q2 q3 q4 q5 q6 q7;clear hb2;have q0:w2.cell? ⟨X,0,none⟩=some (.slice A0_0 l0_0.length c0_0):=(blk_cell BX2.out 0).trans rfl;have q1:w2.cell? ⟨X,1,none⟩=some (.slice A0_1 l0_1.length c0_1):=(blk_cell BX2.out 1).trans rfl;have q2:w2.cell? ⟨X,2,none⟩=some (.slice A0_2 l0_2.length c0_2):=(blk_cell BX2.out 2).trans rfl;have q3:w2.cell? ⟨X,3,none⟩=some (.slice A0_3 l0_3.length c0_3):=(blk_cell BX2.out 3).trans rfl;have q4:w2.cell? ⟨X,4,none⟩=some (.int .i64 a0_4):=(blk_cell BX2.out 4).trans rfl;have q5:w2.cell? ⟨X,5,none⟩=some (.int .i64 a0_5):=(blk_cell BX2.out 5).trans rfl;have q6:w2.cell? ⟨X,6,none⟩=some (.int .i64 a0_6):=(blk_cell BX2.out 6).trans rfl;have q7:w2.cell? ⟨X,7,none⟩=some (.int .i64 a0_7):=(blk_cell BX2.out 7).trans rfl))
   go_ret
   exact ⟨zb46,L2.out⟩
  rw [if_neg k2] at h
  have d21:decide (16 < (l0_2.length:Int))=false:=decide_eq_false zb17
  have d22:decide (16 < l0_2.length)=false:=decide_eq_false zb17
  have d23:(16 < (l0_2.length:Int))=False:=eq_false zb17
  have d24:(16 < l0_2.length)=False:=eq_false zb17
  clear k2
  injection h with h
  subst h
  go_enter Tryz.func56,Tryz.ntmps56
  go_wp2_with (first
   | ((with_reducible refine gate_dst (N:=1) rfl ?_);refine box_event ?hg (N:=1) ?hd (cs:=#[.slice A0_0 l0_0.length c0_0,.slice A0_1 l0_1.length c0_1,.slice A0_2 l0_2.length c0_2,.slice A0_3 l0_3.length c0_3,.int .i64 a0_4,.int .i64 a0_5,.int .i64 a0_6,.int .i64 a0_7]) (t:=46) ?hr ?_;(case hd=>rfl);(case hg=>rfl);(case hr=>first|(go_simp;done)|(go_simp;rfl));intro X hX w1 hBX hbX;have BX1:=Aside0.mk hBX;have L1:=Aside0.mk hbX;clear hBX hbX hX;have q0:w1.cell? ⟨X,0,none⟩=some (.slice A0_0 l0_0.length c0_0):=(blk_cell BX1.out 0).trans rfl;have q1:w1.cell? ⟨X,1,none⟩=some (.slice A0_1 l0_1.length c0_1):=(blk_cell BX1.out 1).trans rfl;have q2:w1.cell? ⟨X,2,none⟩=some (.slice A0_2 l0_2.length c0_2):=(blk_cell BX1.out 2).trans rfl;have q3:w1.cell? ⟨X,3,none⟩=some (.slice A0_3 l0_3.length c0_3):=(blk_cell BX1.out 3).trans rfl;have q4:w1.cell? ⟨X,4,none⟩=some (.int .i64 a0_4):=(blk_cell BX1.out 4).trans rfl;have q5:w1.cell? ⟨X,5,none⟩=some (.int .i64 a0_5):=(blk_cell BX1.out 5).trans rfl;have q6:w1.cell? ⟨X,6,none⟩=some (.int .i64 a0_6):=(blk_cell BX1.out 6).trans rfl;have q7:w1.cell? ⟨X,7,none⟩=some (.int .i64 a0_7):=(blk_cell BX1.out 7).trans rfl)
   | (go_at_call 96;(refine (slices_ContainsFunc_Up.callsOf (fun u=>conf_many_1.f u.f0 u.f1) 97 #[] EG.out A0_0 c0_0 l0_0 _ _ (Kd.C_below HR0.out L1.out) HC0.out (fun W x b A c _ hl hr hq=> zb89) HA.out).mono ?_);rintro e w2 ⟨rfl,hb2⟩;have BX2:=Aside0.mk (blk_below BX1.out hb2);have L2:=Aside0.mk (below_step L1.out hb2);clear q0 q1 q2 q3 q4 q5 q6 q7;clear hb2;have q0:w2.cell? ⟨X,0,none⟩=some (.slice A0_0 l0_0.length c0_0):=(blk_cell BX2.out 0).trans rfl;have q1:w2.cell? ⟨X,1,none⟩=some (.slice A0_1 l0_1.length c0_1):=(blk_cell BX2.out 1).trans rfl;have q2:w2.cell? ⟨X,2,none⟩=some (.slice A0_2 l0_2.length c0_2):=(blk_cell BX2.out 2).trans rfl;have q3:w2.cell? ⟨X,3,none⟩=some (.slice A0_3 l0_3.length c0_3):=(blk_cell BX2.out 3).trans rfl;have q4:w2.cell? ⟨X,4,none⟩=some (.int .i64 a0_4):=(blk_cell BX2.out 4).trans rfl;have q5:w2.cell? ⟨X,5,none⟩=some (.int .i64 a0_5):=(blk_cell BX2.out 5).trans rfl;have q6:w2.cell? ⟨X,6,none⟩=some (.int .i64 a0_6):=(blk_cell BX2.out 6).trans rfl;have q7:w2.cell? ⟨X,7,none⟩=some (.int .i64 a0_7):=(blk_cell BX2.out 7).trans rfl))
  go_ret
  exact ⟨zb46,L2.out⟩
 rw [if_pos rfl] at h
 injection h with h
 subst h
 go_enter Tryz.func56,Tryz.ntmps56
 go_wp2_with (first
  | ((with_reducible refine gate_dst (N:=1) rfl ?_);refine box_event ?hg (N:=1) ?hd (cs:=#[.slice A0_0 l0_0.length c0_0,.slice A0_1 l0_1.length c0_1,.slice A0_2 l0_2.length c0_2,.slice A0_3 l0_3.length c0_3,.int .i64 a0_4,.int .i64 a0_5,.int .i64 a0_6,.int .i64 a0_7]) (t:=46) ?hr ?_;(case hd=>rfl);(case hg=>rfl);(case hr=>first|(go_simp;done)|(go_simp;rfl));intro X hX w1 hBX hbX;have BX1:=Aside0.mk hBX;have L1:=Aside0.mk hbX;clear hBX hbX hX;have q0:w1.cell? ⟨X,0,none⟩=some (.slice A0_0 l0_0.length c0_0):=(blk_cell BX1.out 0).trans rfl;have q1:w1.cell? ⟨X,1,none⟩=some (.slice A0_1 l0_1.length c0_1):=(blk_cell BX1.out 1).trans rfl;have q2:w1.cell? ⟨X,2,none⟩=some (.slice A0_2 l0_2.length c0_2):=(blk_cell BX1.out 2).trans rfl;have q3:w1.cell? ⟨X,3,none⟩=some (.slice A0_3 l0_3.length c0_3):=(blk_cell BX1.out 3).trans rfl;have q4:w1.cell? ⟨X,4,none⟩=some (.int .i64 a0_4):=(blk_cell BX1.out 4).trans rfl;have q5:w1.cell? ⟨X,5,none⟩=some (.int .i64 a0_5):=(blk_cell BX1.out 5).trans rfl;have q6:w1.cell? ⟨X,6,none⟩=some (.int .i64 a0_6):=(blk_cell BX1.out 6).trans rfl;have q7:w1.cell? ⟨X,7,none⟩=some (.int .i64 a0_7):=(blk_cell BX1.out 7).trans rfl)
  | (go_at_call 96;(refine (slices_ContainsFunc_Up.callsOf (fun u=>conf_many_1.f u.f0 u.f1) 97 #[] EG.out A0_0 c0_0 l0_0 _ _ (Kd.C_below HR0.out L1.out) HC0.out (fun W x b A c _ hl hr hq=> zb89) HA.out).mono ?_);rintro e w2 ⟨rfl,hb2⟩;have BX2:=Aside0.mk (blk_below BX1.out hb2);have L2:=Aside0.mk (below_step L1.out hb2);clear q0 q1 q2 q3 q4 q5 q6 q7;clear hb2;have q0:w2.cell? ⟨X,0,none⟩=some (.slice A0_0 l0_0.length c0_0):=(blk_cell BX2.out 0).trans rfl;have q1:w2.cell? ⟨X,1,none⟩=some (.slice A0_1 l0_1.length c0_1):=(blk_cell BX2.out 1).trans rfl;have q2:w2.cell? ⟨X,2,none⟩=some (.slice A0_2 l0_2.length c0_2):=(blk_cell BX2.out 2).trans rfl;have q3:w2.cell? ⟨X,3,none⟩=some (.slice A0_3 l0_3.length c0_3):=(blk_cell BX2.out 3).trans rfl;have q4:w2.cell? ⟨X,4,none⟩=some (.int .i64 a0_4):=(blk_cell BX2.out 4).trans rfl;have q5:w2.cell? ⟨X,5,none⟩=some (.int .i64 a0_5):=(blk_cell BX2.out 5).trans rfl;have q6:w2.cell? ⟨X,6,none⟩=some (.int .i64 a0_6):=(blk_cell BX2.out 6).trans rfl;have q7:w2.cell? ⟨X,7,none⟩=some (.int .i64 a0_7):=(blk_cell BX2.out 7).trans rfl))
 go_ret
 exact ⟨zb46,L2.out⟩
def foldC (c:Int):Int:=if 65 ≤ c∧c ≤ 90 then c + 32 else c
def sign_Fold.f (a0:ByteArray):Option ByteArray:=if a0.size ≤ 140737488355328 then some (strOfNums ((bytesOf a0).map foldC)) else none
theorem fold_step (l:List Int) (x:Int) (h0:0 ≤ x) (h:x < (l.length:Int)) :
 ((l.take x.toNat).map foldC ++ l.drop x.toNat).set x.toNat (foldC (rd l x))=(l.take (x + 1).toNat).map foldC ++ l.drop (x + 1).toNat:=by
 obtain ⟨n,rfl⟩:=Int.eq_ofNat_of_zero_le h0
 have hl:n < l.length:=by omega
 have e:((n:Int) + 1).toNat=n + 1:=by omega
 have hm:((l.take n).map foldC).length=n:=by rw [List.length_map,List.length_take];omega
 have hr:rd l n=l[n]:=by simp [rd,List.getD_eq_getElem?_getD,List.getElem?_eq_getElem hl]
 rw [e,Int.toNat_natCast,List.set_append_right _ _ (by omega),hm,Nat.sub_self,List.drop_eq_getElem_cons hl,List.set_cons_zero,List.take_succ_eq_append_getElem hl,List.map_append,hr]
 simp only [List.map_cons,List.map_nil,List.append_assoc,List.cons_append,List.nil_append]
theorem fold_same (l:List Int) (x:Int) (h0:0 ≤ x) (h:x < (l.length:Int)) (hs:foldC (rd l x)=rd l x) :
 (l.take x.toNat).map foldC ++ l.drop x.toNat=(l.take (x + 1).toNat).map foldC ++ l.drop (x + 1).toNat:=by
 obtain ⟨n,rfl⟩:=Int.eq_ofNat_of_zero_le h0
 have hl:n < l.length:=by omega
 have e:((n:Int) + 1).toNat=n + 1:=by omega
 have hr:rd l n=l[n]:=by simp [rd,List.getD_eq_getElem?_getD,List.getElem?_eq_getElem hl]
 rw [hr] at hs
 rw [e,Int.toNat_natCast,List.drop_eq_getElem_cons hl,List.take_succ_eq_append_getElem hl,List.map_append]
 simp only [List.map_cons,List.map_nil,List.append_assoc,List.cons_append,List.nil_append,hs]
theorem fold_at (l:List Int) (x:Int) (h0:0 ≤ x) (h:x < (l.length:Int)):rd ((l.take x.toNat).map foldC ++ l.drop x.toNat) x=rd l x:=by
 have hl:x.toNat < l.length:=by omega
 have hm:((l.take x.toNat).map foldC).length=x.toNat:=by simp;omega
 unfold rd
 rw [List.getD_eq_getElem?_getD,List.getD_eq_getElem?_getD,List.getElem?_append_right (by omega),hm]
 simp
theorem fold_len (l:List Int) (x:Int):((l.take x.toNat).map foldC ++ l.drop x.toNat).length=l.length:=by
 simp;omega
set_option maxHeartbeats 2000000 in
theorem sign_Fold.calls (a0:ByteArray) (r:ByteArray) (w:World) (h:sign_Fold.f a0=some r) :
 Calls Tryz.prog 64 #[.string a0] w fun e w' => e = .returned (.string r)∧Below w.heap.size w w' := by
 unfold sign_Fold.f at h
 by_cases h0:a0.size ≤ 140737488355328;rotate_left
 ·rw [if_neg h0] at h
  cases h
 rw [if_pos h0] at h
 obtain rfl:=Option.some.inj h
 clear h
 have kb:=fun W=>print_bytes (P:=Tryz.prog) 9 22 5 Tryz.underlying9 Tryz.underlying22 Tryz.underlying5 a0 W
 go_enter Tryz.func64,Tryz.ntmps64
 go_wp2
 go_loopw [4,5,10] (fun _ _ v wr => ∃ x:Int,v = .int .i64 x∧Aside0 (0 ≤ x∧x ≤ a0.size)∧Aside0 (MRow wr w.heap.size 5 (((bytesOf a0).take x.toNat).map foldC ++ (bytesOf a0).drop x.toNat))∧Aside0 (Below w.heap.size w wr)) (fun _ _ v _=>a0.size - (intOf v).toNat)
 case atStart=>exact ⟨0,rfl,⟨zb17,zb17⟩,⟨by simpa using MRow.bytes w 5 a0⟩,⟨bytes_below (Below.refl _ _) (Nat.le_refl _) _ _⟩⟩
 case round =>
  obtain ⟨x,rfl,HX,HM,HB⟩:=hrel
  have hlen:(((bytesOf a0).take x.toNat).map foldC ++ (bytesOf a0).drop x.toNat).length=a0.size:=(fold_len _ _).trans (bytesOf_length a0)
  by_cases hlt:x < (a0.size:Int);rotate_left
  ·have he:x=(a0.size:Int):=by have:=HX.out;omega
   have hR:=HM.out.reads (by rw [hlen];omega)
   rw [hlen] at hR
   have hcv:=string_of_reads (P:=Tryz.prog) (src:=22) (dst:=9) (c:=grownCap w a0.size 0 5) Tryz.underlying22 Tryz.underlying5 Tryz.underlying9 hR
   rw [show ((bytesOf a0).take x.toNat).map foldC ++ (bytesOf a0).drop x.toNat=(bytesOf a0).map foldC by rw [List.take_of_length_le (by rw [bytesOf_length];omega),List.drop_of_length_le (by rw [bytesOf_length];omega),List.append_nil]] at hcv
   have q2:decide (x < (a0.size:Int))=false:=decide_eq_false hlt
   have HLN:=Aside0.mk hlen
   clear hlt he hlen hR
   go_wp2
   go_ret
   exact ⟨rfl,HB.out⟩
  have hlb:x < ((bytesOf a0).length:Int):=by rw [bytesOf_length];exact hlt
  have hc:=HM.out.cell x HX.out.1 (by rw [hlen];exact hlt)
  have hf:=HM.out.free x HX.out.1 (by rw [hlen];exact hlt)
  rw [fold_at _ x HX.out.1 hlb,rd_bytesOf] at hc
  have hst:=fold_step (bytesOf a0) x HX.out.1 hlb
  have hsm:=fold_same (bytesOf a0) x HX.out.1 hlb
  rw [rd_bytesOf] at hst hsm
  have hr:=bt_range a0 x
  have HR:=Aside0.mk hr
  obtain ⟨c,hcv⟩ : ∃ c,c=bt a0 x:=⟨_,rfl⟩
  rw [← hcv] at hc hst hsm hr
  have p1:(0 ≤ x)=True:=eq_true HX.out.1
  have q1:(x < (a0.size:Int))=True:=eq_true hlt
  have q2:decide (x < (a0.size:Int))=true:=decide_eq_true hlt
  have HLT:=Aside0.mk hlt
  have HST:=Aside0.mk hst
  have HSM:=Aside0.mk hsm
  have HRR:=Aside0.mk hr
  have HLN:=Aside0.mk hlen
  have HCV:=Aside0.mk hcv
  clear hlt hlb hst hsm hr hlen hcv
  have hw:Aside0 (wrap64 (x + 1)=x + 1):=⟨by have:=HX.out;unfold wrap64;omega⟩
  by_cases c1:65 ≤ c
  ·have c1b:decide (c ≥ 65)=true:=decide_eq_true c1
   have c1c:=decide_eq_true c1
   by_cases c2:c ≤ 90
   ·have c2b:=decide_eq_true c2
    have HC1:=Aside0.mk (And.intro c1 c2)
    go_wp2
    refine ⟨⟨x + 1,by rw [hw.out],⟨zb150,by have:=HLT.out;omega⟩,⟨?_⟩,⟨HB.out.setCell (Nat.le_refl _) _⟩⟩,?_⟩
    ·rw [← HST.out]
     have hv:foldC c=c + 97 - 65:=by unfold foldC;rw [if_pos HC1.out];omega
     rw [hv]
     exact HM.out.set x _
    have:=HX.out;have:=HLT.out;rw [hw.out];simp [intOf];omega
   ·have c2b:=decide_eq_false c2
    go_wp2
    refine ⟨⟨x + 1,by rw [hw.out],⟨zb150,by have:=HLT.out;omega⟩,⟨?_⟩,HB⟩,?_⟩
    ·rw [← HSM.out (if_neg zb17)];exact HM.out
    ·have:=HX.out;have:=HLT.out;rw [hw.out];simp [intOf];omega
  ·have c1b:decide (c ≥ 65)=false:=decide_eq_false c1
   have c1c:=decide_eq_false c1
   go_wp2
   refine ⟨⟨x + 1,by rw [hw.out],⟨zb150,by have:=HLT.out;omega⟩,⟨?_⟩,HB⟩,?_⟩
   ·rw [← HSM.out (if_neg zb17)];exact HM.out
   ·have:=HX.out;have:=HLT.out;rw [hw.out];simp [intOf];omega
def conf_Kept.f (a0:ByteArray):Option (Bool):=(sign_Fold.f a0).bind fun t704=>(if t704.toList=([104,111,115,116]:List UInt8) then (some true) else (if t704.toList=([99,111,110,116,101,110,116,45,108,101,110,103,116,104]:List UInt8) then (some true) else (if t704.toList=([116,114,97,110,115,102,101,114,45,101,110,99,111,100,105,110,103]:List UInt8) then (some true) else (if t704.toList=([99,111,110,110,101,99,116,105,111,110]:List UInt8) then (some true) else (if t704.toList=([107,101,101,112,45,97,108,105,118,101]:List UInt8) then (some true) else (if t704.toList=([112,114,111,120,121,45,99,111,110,110,101,99,116,105,111,110]:List UInt8) then (some true) else (if t704.toList=([116,101]:List UInt8) then (some true) else (if t704.toList=([116,114,97,105,108,101,114]:List UInt8) then (some true) else (if t704.toList=([117,112,103,114,97,100,101]:List UInt8) then (some true) else (if t704.toList=([101,120,112,101,99,116]:List UInt8) then (some true) else (if t704.toList=([118,105,97]:List UInt8) then (some true) else (some false))))))))))))
set_option maxHeartbeats 8000000 in
set_option maxRecDepth 100000 in
theorem conf_Kept.calls (a0:ByteArray) (r:Bool) (w:World) (h:conf_Kept.f a0=some r) :
 Calls Tryz.prog 33 #[.string a0] w fun e w' => e = .returned (.bool r)∧Below w.heap.size w w' := by
 have HB:=Aside0.mk (Below.refl w.heap.size w)
 unfold conf_Kept.f at h
 have H:=h
 clear h
 replace H:=Option.bind_eq_some_iff.mp H
 obtain ⟨t26,A20,H⟩:=H
 try dsimp only at H
 have A2:=Aside0.mk A20
 clear A20
 by_cases c3:t26.toList=([104,111,115,116]:List UInt8)
 ·rw [if_pos c3] at H
  have c3b0:=beq_iff_eq.mpr c3
  have c3b1:=bne_eq_false_iff_eq.mpr c3
  clear c3
  obtain rfl:=Option.some.inj H
  go_enter Tryz.func33,Tryz.ntmps33
  go_wp2_with (first|((with_reducible refine gate_callee (f:=64) rfl ?_);refine goesL_ (some 4) rfl rfl Tryz.func64 zb7 rfl #[.string a0] rfl zb1 ?_;(with_reducible refine (sign_Fold.calls a0 t26 _ A2.out).mono ?_);rintro e w4 ⟨rfl,hb⟩;(try clear A2);refine ⟨_,rfl,?_⟩;replace HB:=Aside0.mk (below_step zb0 hb);(try clear hb)))
  go_ret
  exact ⟨zb2,zb0⟩
 rw [if_neg c3] at H
 have c3b0:=beq_eq_false_iff_ne.mpr c3
 have c3b1:=bne_iff_ne.mpr c3
 by_cases c5:t26.toList=([99,111,110,116,101,110,116,45,108,101,110,103,116,104]:List UInt8)
 ·rw [if_pos c5] at H
  have c5b0:=beq_iff_eq.mpr c5
  have c5b1:=bne_eq_false_iff_eq.mpr c5
  clear c5
  obtain rfl:=Option.some.inj H
  go_enter Tryz.func33,Tryz.ntmps33
  go_wp2_with (first|((with_reducible refine gate_callee (f:=64) rfl ?_);refine goesL_ (some 4) rfl rfl Tryz.func64 zb7 rfl #[.string a0] rfl zb1 ?_;(with_reducible refine (sign_Fold.calls a0 t26 _ A2.out).mono ?_);rintro e w6 ⟨rfl,hb⟩;(try clear A2);refine ⟨_,rfl,?_⟩;replace HB:=Aside0.mk (below_step zb0 hb);(try clear hb)))
  go_ret
  exact ⟨zb2,zb0⟩
 rw [if_neg c5] at H
 have c5b0:=beq_eq_false_iff_ne.mpr c5
 have c5b1:=bne_iff_ne.mpr c5
 by_cases c7:t26.toList=([116,114,97,110,115,102,101,114,45,101,110,99,111,100,105,110,103]:List UInt8)
 ·rw [if_pos c7] at H
  have c7b0:=beq_iff_eq.mpr c7
  have c7b1:=bne_eq_false_iff_eq.mpr c7
  clear c7
  obtain rfl:=Option.some.inj H
  go_enter Tryz.func33,Tryz.ntmps33
  go_wp2_with (first|((with_reducible refine gate_callee (f:=64) rfl ?_);refine goesL_ (some 4) rfl rfl Tryz.func64 zb7 rfl #[.string a0] rfl zb1 ?_;(with_reducible refine (sign_Fold.calls a0 t26 _ A2.out).mono ?_);rintro e w8 ⟨rfl,hb⟩;(try clear A2);refine ⟨_,rfl,?_⟩;replace HB:=Aside0.mk (below_step zb0 hb);(try clear hb)))
  go_ret
  exact ⟨zb2,zb0⟩
 rw [if_neg c7] at H
 have c7b0:=beq_eq_false_iff_ne.mpr c7
 have c7b1:=bne_iff_ne.mpr c7
 by_cases c9:t26.toList=([99,111,110,110,101,99,116,105,111,110]:List UInt8)
 ·rw [if_pos c9] at H
  have c9b0:=beq_iff_eq.mpr c9
  have c9b1:=bne_eq_false_iff_eq.mpr c9
  clear c9
  obtain rfl:=Option.some.inj H
  go_enter Tryz.func33,Tryz.ntmps33
  go_wp2_with (first|((with_reducible refine gate_callee (f:=64) rfl ?_);refine goesL_ (some 4) rfl rfl Tryz.func64 zb7 rfl #[.string a0] rfl zb1 ?_;(with_reducible refine (sign_Fold.calls a0 t26 _ A2.out).mono ?_);rintro e w10 ⟨rfl,hb⟩;(try clear A2);refine ⟨_,rfl,?_⟩;replace HB:=Aside0.mk (below_step zb0 hb);(try clear hb)))
  go_ret
  exact ⟨zb2,zb0⟩
 rw [if_neg c9] at H
 have c9b0:=beq_eq_false_iff_ne.mpr c9
 have c9b1:=bne_iff_ne.mpr c9
 by_cases c11:t26.toList=([107,101,101,112,45,97,108,105,118,101]:List UInt8)
 ·rw [if_pos c11] at H
  have c11b0:=beq_iff_eq.mpr c11
  have c11b1:=bne_eq_false_iff_eq.mpr c11
  clear c11
  obtain rfl:=Option.some.inj H
  go_enter Tryz.func33,Tryz.ntmps33
  go_wp2_with (first|((with_reducible refine gate_callee (f:=64) rfl ?_);refine goesL_ (some 4) rfl rfl Tryz.func64 zb7 rfl #[.string a0] rfl zb1 ?_;(with_reducible refine (sign_Fold.calls a0 t26 _ A2.out).mono ?_);rintro e w12 ⟨rfl,hb⟩;(try clear A2);refine ⟨_,rfl,?_⟩;replace HB:=Aside0.mk (below_step zb0 hb);(try clear hb)))
  go_ret
  exact ⟨zb2,zb0⟩
 rw [if_neg c11] at H
 have c11b0:=beq_eq_false_iff_ne.mpr c11
 have c11b1:=bne_iff_ne.mpr c11
 by_cases c13:t26.toList=([112,114,111,120,121,45,99,111,110,110,101,99,116,105,111,110]:List UInt8)
 ·rw [if_pos c13] at H
  have c13b0:=beq_iff_eq.mpr c13
  have c13b1:=bne_eq_false_iff_eq.mpr c13
  clear c13
  obtain rfl:=Option.some.inj H
  go_enter Tryz.func33,Tryz.ntmps33
  go_wp2_with (first|((with_reducible refine gate_callee (f:=64) rfl ?_);refine goesL_ (some 4) rfl rfl Tryz.func64 zb7 rfl #[.string a0] rfl zb1 ?_;(with_reducible refine (sign_Fold.calls a0 t26 _ A2.out).mono ?_);rintro e w14 ⟨rfl,hb⟩;(try clear A2);refine ⟨_,rfl,?_⟩;replace HB:=Aside0.mk (below_step zb0 hb);(try clear hb)))
  go_ret
  exact ⟨zb2,zb0⟩
 rw [if_neg c13] at H
 have c13b0:=beq_eq_false_iff_ne.mpr c13
 have c13b1:=bne_iff_ne.mpr c13
 by_cases c15:t26.toList=([116,101]:List UInt8)
 ·rw [if_pos c15] at H
  have c15b0:=beq_iff_eq.mpr c15
  have c15b1:=bne_eq_false_iff_eq.mpr c15
  clear c15
  obtain rfl:=Option.some.inj H
  go_enter Tryz.func33,Tryz.ntmps33
  go_wp2_with (first|((with_reducible refine gate_callee (f:=64) rfl ?_);refine goesL_ (some 4) rfl rfl Tryz.func64 zb7 rfl #[.string a0] rfl zb1 ?_;(with_reducible refine (sign_Fold.calls a0 t26 _ A2.out).mono ?_);rintro e w16 ⟨rfl,hb⟩;(try clear A2);refine ⟨_,rfl,?_⟩;replace HB:=Aside0.mk (below_step zb0 hb);(try clear hb)))
  go_ret
  exact ⟨zb2,zb0⟩
 rw [if_neg c15] at H
 have c15b0:=beq_eq_false_iff_ne.mpr c15
 have c15b1:=bne_iff_ne.mpr c15
 by_cases c17:t26.toList=([116,114,97,105,108,101,114]:List UInt8)
 ·rw [if_pos c17] at H
  have c17b0:=beq_iff_eq.mpr c17
  have c17b1:=bne_eq_false_iff_eq.mpr c17
  clear c17
  obtain rfl:=Option.some.inj H
  go_enter Tryz.func33,Tryz.ntmps33
  go_wp2_with (first|((with_reducible refine gate_callee (f:=64) rfl ?_);refine goesL_ (some 4) rfl rfl Tryz.func64 zb7 rfl #[.string a0] rfl zb1 ?_;(with_reducible refine (sign_Fold.calls a0 t26 _ A2.out).mono ?_);rintro e w18 ⟨rfl,hb⟩;(try clear A2);refine ⟨_,rfl,?_⟩;replace HB:=Aside0.mk (below_step zb0 hb);(try clear hb)))
  go_ret
  exact ⟨zb2,zb0⟩
 rw [if_neg c17] at H
 have c17b0:=beq_eq_false_iff_ne.mpr c17
 have c17b1:=bne_iff_ne.mpr c17
 by_cases c19:t26.toList=([117,112,103,114,97,100,101]:List UInt8)
 ·rw [if_pos c19] at H
  have c19b0:=beq_iff_eq.mpr c19
  have c19b1:=bne_eq_false_iff_eq.mpr c19
  clear c19
  obtain rfl:=Option.some.inj H
  go_enter Tryz.func33,Tryz.ntmps33
  go_wp2_with (first|((with_reducible refine gate_callee (f:=64) rfl ?_);refine goesL_ (some 4) rfl rfl Tryz.func64 zb7 rfl #[.string a0] rfl zb1 ?_;(with_reducible refine (sign_Fold.calls a0 t26 _ A2.out).mono ?_);rintro e w20 ⟨rfl,hb⟩;(try clear A2);refine ⟨_,rfl,?_⟩;replace HB:=Aside0.mk (below_step zb0 hb);(try clear hb)))
  go_ret
  exact ⟨zb2,zb0⟩
 rw [if_neg c19] at H
 have c19b0:=beq_eq_false_iff_ne.mpr c19
 have c19b1:=bne_iff_ne.mpr c19
 by_cases c21:t26.toList=([101,120,112,101,99,116]:List UInt8)
 ·rw [if_pos c21] at H
  have c21b0:=beq_iff_eq.mpr c21
  have c21b1:=bne_eq_false_iff_eq.mpr c21
  clear c21
  obtain rfl:=Option.some.inj H
  go_enter Tryz.func33,Tryz.ntmps33
  go_wp2_with (first|((with_reducible refine gate_callee (f:=64) rfl ?_);refine goesL_ (some 4) rfl rfl Tryz.func64 zb7 rfl #[.string a0] rfl zb1 ?_;(with_reducible refine (sign_Fold.calls a0 t26 _ A2.out).mono ?_);rintro e w22 ⟨rfl,hb⟩;(try clear A2);refine ⟨_,rfl,?_⟩;replace HB:=Aside0.mk (below_step zb0 hb);(try clear hb)))
  go_ret
  exact ⟨zb2,zb0⟩
 rw [if_neg c21] at H
 have c21b0:=beq_eq_false_iff_ne.mpr c21
 have c21b1:=bne_iff_ne.mpr c21
 by_cases c23:t26.toList=([118,105,97]:List UInt8);rotate_left
 ·rw [if_neg c23] at H
  have c23b0:=beq_eq_false_iff_ne.mpr c23
  have c23b1:=bne_iff_ne.mpr c23
  obtain rfl:=Option.some.inj H
  go_enter Tryz.func33,Tryz.ntmps33
  go_wp2_with (first|((with_reducible refine gate_callee (f:=64) rfl ?_);refine goesL_ (some 4) rfl rfl Tryz.func64 zb7 rfl #[.string a0] rfl zb1 ?_;(with_reducible refine (sign_Fold.calls a0 t26 _ A2.out).mono ?_);rintro e w25 ⟨rfl,hb⟩;(try clear A2);refine ⟨_,rfl,?_⟩;replace HB:=Aside0.mk (below_step zb0 hb);(try clear hb)))
  go_ret
  exact ⟨zb2,zb0⟩
 rw [if_pos c23] at H
 have c23b0:=beq_iff_eq.mpr c23
 have c23b1:=bne_eq_false_iff_eq.mpr c23
 clear c23
 obtain rfl:=Option.some.inj H
 go_enter Tryz.func33,Tryz.ntmps33
 go_wp2_with (first|((with_reducible refine gate_callee (f:=64) rfl ?_);refine goesL_ (some 4) rfl rfl Tryz.func64 zb7 rfl #[.string a0] rfl zb1 ?_;(with_reducible refine (sign_Fold.calls a0 t26 _ A2.out).mono ?_);rintro e w24 ⟨rfl,hb⟩;(try clear A2);refine ⟨_,rfl,?_⟩;replace HB:=Aside0.mk (below_step zb0 hb);(try clear hb)))
 go_ret
 exact ⟨zb2,zb0⟩
def sign_alnum.f (a0:Int):Option (Bool):=if a0 ≥ 97 then (if a0 ≤ 122 then (some true) else (if a0 ≥ 65 then (if a0 ≤ 90 then (some true) else (if a0 ≥ 48 then (some (decide (a0 ≤ 57))) else (some false))) else (if a0 ≥ 48 then (some (decide (a0 ≤ 57))) else (some false)))) else (if a0 ≥ 65 then (if a0 ≤ 90 then (some true) else (if a0 ≥ 48 then (some (decide (a0 ≤ 57))) else (some false))) else (if a0 ≥ 48 then (some (decide (a0 ≤ 57))) else (some false)))
set_option maxHeartbeats 8000000 in
set_option maxRecDepth 100000 in
theorem sign_alnum.calls (a0:Int) (r:Bool) (w:World) (h:sign_alnum.f a0=some r) :
 Calls Tryz.prog 162 #[.int .u8 a0] w fun e w' => e = .returned (.bool r)∧Drawn0 w w' := by
 unfold sign_alnum.f at h
 have H:=h
 clear h
 by_cases c2:a0 ≥ 97;rotate_left
 ·rw [if_neg c2] at H
  have c2b0:decide (97 ≤ a0)=false:=decide_eq_false c2
  clear c2
  by_cases c8:a0 ≥ 65;rotate_left
  ·rw [if_neg c8] at H
   have c8b0:decide (65 ≤ a0)=false:=decide_eq_false c8
   clear c8
   by_cases c11:a0 ≥ 48
   ·rw [if_pos c11] at H
    have c11b0:decide (48 ≤ a0)=true:=decide_eq_true c11
    clear c11
    obtain rfl:=Option.some.inj H
    go_enter Tryz.func162,Tryz.ntmps162
    go_wp2
    go_ret
    exact ⟨zb5,zb9⟩
   rw [if_neg c11] at H
   have c11b0:decide (48 ≤ a0)=false:=decide_eq_false c11
   clear c11
   obtain rfl:=Option.some.inj H
   go_enter Tryz.func162,Tryz.ntmps162
   go_wp2
   go_ret
   exact ⟨zb5,zb9⟩
  rw [if_pos c8] at H
  have c8b0:decide (65 ≤ a0)=true:=decide_eq_true c8
  clear c8
  by_cases c9:a0 ≤ 90
  ·rw [if_pos c9] at H
   have c9b0:=decide_eq_true c9
   clear c9
   obtain rfl:=Option.some.inj H
   go_enter Tryz.func162,Tryz.ntmps162
   go_wp2
   go_ret
   exact ⟨zb5,zb9⟩
  rw [if_neg c9] at H
  have c9b0:=decide_eq_false c9
  clear c9
  by_cases c10:a0 ≥ 48
  ·rw [if_pos c10] at H
   have c10b0:decide (48 ≤ a0)=true:=decide_eq_true c10
   clear c10
   obtain rfl:=Option.some.inj H
   go_enter Tryz.func162,Tryz.ntmps162
   go_wp2
   go_ret
   exact ⟨zb5,zb9⟩
  rw [if_neg c10] at H
  have c10b0:decide (48 ≤ a0)=false:=decide_eq_false c10
  clear c10
  obtain rfl:=Option.some.inj H
  go_enter Tryz.func162,Tryz.ntmps162
  go_wp2
  go_ret
  exact ⟨zb5,zb9⟩
 rw [if_pos c2] at H
 have c2b0:decide (97 ≤ a0)=true:=decide_eq_true c2
 clear c2
 by_cases c3:a0 ≤ 122
 ·rw [if_pos c3] at H
  have c3b0:=decide_eq_true c3
  clear c3
  obtain rfl:=Option.some.inj H
  go_enter Tryz.func162,Tryz.ntmps162
  go_wp2
  go_ret
  exact ⟨zb5,zb9⟩
 ·rw [if_neg c3] at H
  have c3b0:=decide_eq_false c3
  clear c3
  by_cases c4:a0 ≥ 65
  ·rw [if_pos c4] at H
   have c4b0:decide (65 ≤ a0)=true:=decide_eq_true c4
   clear c4
   by_cases c5:a0 ≤ 90
   ·rw [if_pos c5] at H
    have c5b0:=decide_eq_true c5
    clear c5
    obtain rfl:=Option.some.inj H
    go_enter Tryz.func162,Tryz.ntmps162
    go_wp2
    go_ret
    exact ⟨zb5,zb9⟩
   ·rw [if_neg c5] at H
    have c5b0:=decide_eq_false c5
    clear c5
    by_cases c6:a0 ≥ 48
    ·rw [if_pos c6] at H
     have c6b0:decide (48 ≤ a0)=true:=decide_eq_true c6
     clear c6
     obtain rfl:=Option.some.inj H
     go_enter Tryz.func162,Tryz.ntmps162
     go_wp2
     go_ret
     exact ⟨zb5,zb9⟩
    ·rw [if_neg c6] at H
     have c6b0:decide (48 ≤ a0)=false:=decide_eq_false c6
     clear c6
     obtain rfl:=Option.some.inj H
     go_enter Tryz.func162,Tryz.ntmps162
     go_wp2
     go_ret
     exact ⟨zb5,zb9⟩
  ·rw [if_neg c4] at H
   have c4b0:decide (65 ≤ a0)=false:=decide_eq_false c4
   clear c4
   by_cases c7:a0 ≥ 48
   ·rw [if_pos c7] at H
    have c7b0:decide (48 ≤ a0)=true:=decide_eq_true c7
    clear c7
    obtain rfl:=Option.some.inj H
    go_enter Tryz.func162,Tryz.ntmps162
    go_wp2
    go_ret
    exact ⟨zb5,zb9⟩
   ·rw [if_neg c7] at H
    have c7b0:decide (48 ≤ a0)=false:=decide_eq_false c7
    clear c7
    obtain rfl:=Option.some.inj H
    go_enter Tryz.func162,Tryz.ntmps162
    go_wp2
    go_ret
    exact ⟨zb5,zb9⟩
def strings_IndexByte.f (a0:ByteArray) (a1:Int):Option Int:=some (Lib.indexByte a0.data.toList a1.toNat.toUInt8)
theorem strings_IndexByte.calls (a0:ByteArray) (a1:Int) (r:Int) (w:World) (h:strings_IndexByte.f a0 a1=some r) :
 Calls Tryz.prog 163 #[.string a0,.int .u8 a1] w fun e w' => e = .returned (.int .i64 r)∧Drawn0 w w' := by
 obtain rfl:=Option.some.inj h
 refine (Tryz.strings_IndexByte a0 a1 w).mono ?_
 rintro e w' ⟨rfl,rfl⟩
 exact ⟨rfl,Drawn0.refl _⟩
def sign_Token_1.f (a0:Int):Option (Bool):=(sign_alnum.f a0).bind fun t174=>(if t174=true then (some true) else ((strings_IndexByte.f (⟨#[33,35,36,37,38,39,42,43,45,46,94,95,96,124,126]⟩:ByteArray) a0).bind fun t175=>(some (decide (t175 ≥ 0)))))
set_option maxHeartbeats 8000000 in
set_option maxRecDepth 100000 in
theorem sign_Token_1.calls (a0:Int) (r:Bool) (w:World) (h:sign_Token_1.f a0=some r) :
 Calls Tryz.prog 161 #[.int .u8 a0] w fun e w' => e = .returned (.bool r)∧Drawn0 w w' := by
 unfold sign_Token_1.f at h
 have H:=h
 clear h
 replace H:=Option.bind_eq_some_iff.mp H
 obtain ⟨t174,A20,H⟩:=H
 try dsimp only at H
 have A2:=Aside0.mk A20
 clear A20
 by_cases c3:t174=true
 ·subst c3
  rw [if_pos rfl] at H
  obtain rfl:=Option.some.inj H
  go_enter Tryz.func161,Tryz.ntmps161
  go_wp2_with (first|((with_reducible refine gate_callee (f:=162) rfl ?_);refine goesL_ (some 4) rfl rfl Tryz.func162 zb7 rfl #[.int .u8 a0] rfl zb1 ?_;(with_reducible refine (sign_alnum.calls a0 true _ A2.out).mono ?_);rintro e w' ⟨rfl,⟨nd,rfl⟩⟩;(try clear A2);refine ⟨_,rfl,?_⟩))
  go_ret
  exact ⟨zb5,zb9⟩
 replace c3:=Bool.eq_false_iff.mpr c3
 subst c3
 rw [if_neg (show ¬ (false=true) by decide)] at H
 replace H:=Option.bind_eq_some_iff.mp H
 obtain ⟨t175,A40,H⟩:=H
 try dsimp only at H
 have A4:=Aside0.mk A40
 clear A40
 obtain rfl:=Option.some.inj H
 go_enter Tryz.func161,Tryz.ntmps161
 go_wp2_with (first|((with_reducible refine gate_callee (f:=162) rfl ?_);refine goesL_ (some 4) rfl rfl Tryz.func162 zb7 rfl #[.int .u8 a0] rfl zb1 ?_;(with_reducible refine (sign_alnum.calls a0 false _ A2.out).mono ?_);rintro e w' ⟨rfl,⟨nd,rfl⟩⟩;(try clear A2);refine ⟨_,rfl,?_⟩)|(go_at_call 163;(with_reducible refine (strings_IndexByte.calls (⟨#[33,35,36,37,38,39,42,43,45,46,94,95,96,124,126]⟩:ByteArray) a0 t175 _ A4.out).mono ?_);rintro e w' ⟨rfl,⟨nd,rfl⟩⟩;(try clear A4)))
 go_ret
 exact ⟨zb5,zb9⟩
/-- all,at any function value that tells p of every byte. -/
theorem sign_all.callsOf (K:Nat) (p:Int → Bool) (hK : ∀ args w,(callFunc K args).run Tryz.prog w = .ok (.enter K args) w)
 (hp : ∀ c w,0 ≤ c → c ≤ 255 → Calls Tryz.prog K #[.int .u8 c] w fun e w' => e = .returned (.bool (p c))∧Drawn0 w w')
 (a0:ByteArray) (h0:a0.size ≤ 140737488355328) (w:World) :
 Calls Tryz.prog 158 #[.string a0,.func (.func K) #[] #[]] w fun e w' => e = .returned (.bool ((bytesOf a0).all p))∧Drawn0 w w' := by
 go_enter Tryz.func158,Tryz.ntmps158
 go_wp2
 go_loopw [8] (fun v wr => ∃ x:Int,v = .int .i64 x∧Aside0 (0 ≤ x∧x ≤ a0.size)∧Aside0 ((bytesOf a0).all p=((bytesOf a0).drop x.toNat).all p)∧Drawn0 w wr) (fun v _=>a0.size - (intOf v).toNat)
 case atStart=>exact ⟨0,rfl,⟨zb17,zb17⟩,⟨zb44⟩,Drawn0.refl _⟩
 case round =>
  obtain ⟨x,rfl,HX,HA,⟨m,rfl⟩⟩:=hrel
  by_cases hlt:x < (a0.size:Int);rotate_left
  ·have HE:=Aside0.mk (HA.out)
   clear HA
   have hge:=Aside0.mk hlt
   have q2:decide (x < (a0.size:Int))=false:=decide_eq_false hlt
   clear hlt
   go_wp2
   go_ret
   exact ⟨by have:=hge.out;have:=HX.out;rw [HE.out,List.drop_of_length_le (by rw [bytesOf_length];omega)];rfl,zb9⟩
  have hx:=bt_at a0 x
  have hr:=bt_range a0 x
  have HR:=Aside0.mk hr
  clear hr
  have HN:=Aside0.mk (bytes_drop_all p a0 x HX.out.1 hlt)
  have p1:(0 ≤ x)=True:=eq_true HX.out.1
  have q1:(x < (a0.size:Int))=True:=eq_true hlt
  have q2:decide (x < (a0.size:Int))=true:=decide_eq_true hlt
  have hlt' := Aside0.mk hlt
  clear hlt
  cases hpc:p (bt a0 x)
  ·have HN' := HN.out
   rw [hpc] at HN'
   have HE:=Aside0.mk (HA.out.trans HN')
   clear HN' HN HA
   go_wp2_with ((with_reducible refine (hp (bt a0 x) _ HR.out.1 HR.out.2).mono ?_);rintro e w' ⟨rfl,⟨nd,rfl⟩⟩;rw [hpc])
   go_ret
   exact ⟨by rw [HE.out];rfl,zb9⟩
  have HN' := HN.out
  rw [hpc] at HN'
  have HE:=Aside0.mk (HA.out.trans HN')
  clear HN' HN HA
  go_wp2_with ((with_reducible refine (hp (bt a0 x) _ HR.out.1 HR.out.2).mono ?_);rintro e w' ⟨rfl,⟨nd,rfl⟩⟩;rw [hpc])
  go_roundw
  case rel =>
   have hw:wrap64 (x + 1)=x + 1:=by have:=HX.out;unfold wrap64;omega
   exact ⟨x + 1,by rw [hw],⟨zb150,by have:=hlt'.out;omega⟩,⟨by have:=HX.out;rw [HE.out,show (x + 1).toNat=x.toNat + 1 by omega];simp⟩,zb9⟩
  case measure =>
   have hw:wrap64 (x + 1)=x + 1:=by have:=HX.out;unfold wrap64;omega
   have:=HX.out
   have:=hlt'.out
   simp [intOf,hw]
   omega
def sign_Token.f (a0:ByteArray):Option Bool:=if a0.size ≤ 140737488355328 then some (!a0.toList.isEmpty && (bytesOf a0).all fun c=>(sign_Token_1.f c).getD false) else none
theorem sign_Token_1.tells (c:Int) : ∃ b,sign_Token_1.f c=some b:=by
 unfold sign_Token_1.f sign_alnum.f strings_IndexByte.f
 repeat' split
 all_goals first|exact ⟨_,rfl⟩|(simp only [Option.bind_some];split <;> exact ⟨_,rfl⟩)
theorem sign_Token_1.any (c:Int) (w:World):Calls Tryz.prog 161 #[.int .u8 c] w fun e w' => e = .returned (.bool ((sign_Token_1.f c).getD false))∧Drawn0 w w' := by
 obtain ⟨b,hb⟩:=sign_Token_1.tells c
 have:=sign_Token_1.calls c b w hb
 rw [hb]
 exact this
theorem sign_Token.calls (a0:ByteArray) (r:Bool) (w:World) (h:sign_Token.f a0=some r) :
 Calls Tryz.prog 117 #[.string a0] w fun e w' => e = .returned (.bool r)∧Drawn0 w w' := by
 unfold sign_Token.f at h
 by_cases h0:a0.size ≤ 140737488355328;rotate_left
 ·rw [if_neg h0] at h
  cases h
 rw [if_pos h0] at h
 obtain rfl:=Option.some.inj h
 clear h
 have he : ∀ args w,(callFunc 161 args).run Tryz.prog w = .ok (.enter 161 args) w:=fun args w=>enters_ Tryz.func161 zb7 rfl args w
 have HC:=Aside0.mk (fun w' => sign_all.callsOf 161 (fun c=>(sign_Token_1.f c).getD false) he (fun c w _ _=>sign_Token_1.any c w) a0 h0 w')
 clear he h0
 go_enter Tryz.func117,Tryz.ntmps117
 go_wp2_with (go_at_call 158;(with_reducible refine (HC.out _).mono ?_);rintro e w' ⟨rfl,⟨nd,rfl⟩⟩)
 all_goals
  go_ret
  exact ⟨by first|rfl|(simp [*];done),zb9⟩
def conf_drop.f (a0:ByteArray):Option (Bool):=(sign_Token.f a0).bind fun t808=>(if t808=true then (if (a0.size:Int) ≤ 100 then ((conf_Kept.f a0).bind fun t809=>(some (!t809))) else (some false)) else (some false))
set_option maxHeartbeats 8000000 in
set_option maxRecDepth 100000 in
theorem conf_drop.calls (a0:ByteArray) (r:Bool) (w:World) (h:conf_drop.f a0=some r) :
 Calls Tryz.prog 101 #[.string a0] w fun e w' => e = .returned (.bool r)∧Below w.heap.size w w' := by
 have HB:=Aside0.mk (Below.refl w.heap.size w)
 unfold conf_drop.f at h
 have H:=h
 clear h
 replace H:=Option.bind_eq_some_iff.mp H
 obtain ⟨t808,A20,H⟩:=H
 try dsimp only at H
 have A2:=Aside0.mk A20
 clear A20
 by_cases c3:t808=true;rotate_left
 ·replace c3:=Bool.eq_false_iff.mpr c3
  subst c3
  rw [if_neg (show ¬ (false=true) by decide)] at H
  obtain rfl:=Option.some.inj H
  go_enter Tryz.func101,Tryz.ntmps101
  go_wp2_with (first|((with_reducible refine gate_callee (f:=117) rfl ?_);refine goesL_ (some 4) rfl rfl Tryz.func117 zb7 rfl #[.string a0] rfl zb1 ?_;(with_reducible refine (sign_Token.calls a0 false _ A2.out).mono ?_);rintro e w' ⟨rfl,⟨nd,rfl⟩⟩;(try clear A2);refine ⟨_,rfl,?_⟩))
  go_ret
  exact ⟨zb2,zb0⟩
 subst c3
 rw [if_pos rfl] at H
 by_cases c4:(a0.size:Int) ≤ 100;rotate_left
 ·rw [if_neg c4] at H
  have c4b0:=decide_eq_false c4
  have c4b1:decide (a0.size ≤ 100)=false:=decide_eq_false zb17
  clear c4
  obtain rfl:=Option.some.inj H
  go_enter Tryz.func101,Tryz.ntmps101
  go_wp2_with (first|((with_reducible refine gate_callee (f:=117) rfl ?_);refine goesL_ (some 4) rfl rfl Tryz.func117 zb7 rfl #[.string a0] rfl zb1 ?_;(with_reducible refine (sign_Token.calls a0 true _ A2.out).mono ?_);rintro e w' ⟨rfl,⟨nd,rfl⟩⟩;(try clear A2);refine ⟨_,rfl,?_⟩))
  go_ret
  exact ⟨zb2,zb0⟩
 rw [if_pos c4] at H
 have c4b0:=decide_eq_true c4
 have c4b1:decide (a0.size ≤ 100)=true:=decide_eq_true zb17
 clear c4
 replace H:=Option.bind_eq_some_iff.mp H
 obtain ⟨t809,A50,H⟩:=H
 try dsimp only at H
 have A5:=Aside0.mk A50
 clear A50
 obtain rfl:=Option.some.inj H
 go_enter Tryz.func101,Tryz.ntmps101
 go_wp2_with (first|((with_reducible refine gate_callee (f:=117) rfl ?_);refine goesL_ (some 4) rfl rfl Tryz.func117 zb7 rfl #[.string a0] rfl zb1 ?_;(with_reducible refine (sign_Token.calls a0 true _ A2.out).mono ?_);rintro e w' ⟨rfl,⟨nd,rfl⟩⟩;(try clear A2);refine ⟨_,rfl,?_⟩)|(go_at_call 33;(with_reducible refine (conf_Kept.calls a0 t809 _ A5.out).mono ?_);rintro e w6 ⟨rfl,hb⟩;(try clear A5);replace HB:=Aside0.mk (below_step zb0 hb);(try clear hb)))
 go_ret
 exact ⟨zb2,zb0⟩
/-- What is asked of a test of such structs that is handed over. -/
def TestOf_number (g:Nat) (lb:Array Value) (q:S131 → Option Bool) (w:World):Prop :=
 ∀ (W:World) (x:S131) (b:Bool),Below w.heap.size w W → q x=some b → Calls Tryz.prog g (#[.agg #[.string x.f0,.int .i64 x.f1,.int .i64 x.f2,.int .i64 x.f3]] ++ lb) W fun e w' => e = .returned (.bool b)∧Below W.heap.size W w'
set_option maxHeartbeats 4000000 in
set_option maxRecDepth 100000 in
theorem slices_IndexFunc_number.callsOf (q:S131 → Option Bool) (g:Nat) (lb:Array Value) (eg : ∀ args w,(callFunc g args).run Tryz.prog w = .ok (.enter g args) w) (A_:Option Addr) (c_:Nat) (l0:List (S131)) (r:Int) (w:World) (hr0:Kd.C k131 w A_ l0.length l0) (hc0:l0.length ≤ c_)
 (hq:TestOf_number g lb q w) (h:idxO q l0 0=some r) :
 Calls Tryz.prog 151 #[.slice A_ l0.length c_,.func (.func g) #[] lb] w fun e w' => e = .returned (.int .i64 r)∧Below w.heap.size w w' := by
 have hu:=Tryz.underlying131
 have HR:=Aside0.mk hr0
 have HQ:=Aside0.mk hq
 have H0:=Aside0.mk (show idxO q (l0.drop (0:Int).toNat) 0=some r from h)
 have HM:=Aside0.mk (show l0.length ≤ 9223372036854775807 from hr0.2.1)
 clear hr0 hq h
 go_enter Tryz.func151,Tryz.ntmps151
 go_wp2
 go_loopg [5,8] l0.length (fun kq _ v8 wr => ∃ (x8:Int),v8 = .int .i64 x8∧Aside0 (0 ≤ x8∧x8 ≤ l0.length∧(l0.length:Int) - x8 ≤ kq)∧Aside0 (Below w.heap.size w wr)∧Aside0 (idxO q (l0.drop x8.toNat) x8=some r))
 case atStart=>exact ⟨0,rfl,⟨zb17⟩,⟨Below.refl _ w⟩,H0⟩
 case round =>
  obtain ⟨x8,rfl,HX,BW,HH⟩:=hrel
  clear H0
  by_cases c4:x8 < (l0.length:Int);rotate_left
  ·have c4b0:=decide_eq_false c4
   have hx:=HH.out
   rw [List.drop_of_length_le zb150,idxO] at hx
   injection hx with hx
   clear c4
   go_wp2
   go_ret
   subst hx
   exact ⟨zb46,BW.out⟩
  have c4b0:=decide_eq_true c4
  have hx:=HH.out
  have hlt:x8.toNat < l0.length:=by have:=HX.out;omega
  rw [List.drop_eq_getElem_cons hlt,idxO] at hx
  obtain ⟨b,hb,hx⟩:=Option.bind_eq_some_iff.1 hx
  have hrd:rd_T131 l0 x8=l0[x8.toNat]:=by unfold rd_T131;rw [List.getD_eq_getElem?_getD,List.getElem?_eq_getElem hlt];rfl
  obtain ⟨ad,he,h0,h1,h2,h3⟩:=at_T131 HR.out x8 HX.out.1 c4
  replace h0:=(BW.out.cell (World.block_lt_of_cell? w _ h0)).trans h0
  replace h1:=(BW.out.cell (World.block_lt_of_cell? w _ h1)).trans h1
  replace h2:=(BW.out.cell (World.block_lt_of_cell? w _ h2)).trans h2
  replace h3:=(BW.out.cell (World.block_lt_of_cell? w _ h3)).trans h3
  have hcall:=HQ.out wr l0[x8.toNat] b BW.out hb
  rw [← hrd] at hcall
  obtain ⟨y,hy⟩ : ∃ y,rd_T131 l0 x8=y:=⟨_,rfl⟩
  rw [hy] at hcall h0 h1 h2 h3
  have HCALL:=Aside0.mk hcall
  have HN:=Aside0.mk hx
  have p8:(0 ≤ x8)=True:=eq_true HX.out.1
  have q8:(x8 < (l0.length:Int))=True:=eq_true c4
  clear hx hb hrd HH hy hcall c4
  subst he
  cases b with
  | true =>
   go_wp2_with (go_at_fn g;refine HCALL.out.mono ?_;rintro e w' ⟨rfl,hb'⟩)
   go_ret
   have hx:=HN.out
   simp only [if_true,Option.some.injEq] at hx
   subst hx
   exact ⟨zb46,BW.out.trans (sl_base (Below.size BW.out) hb')⟩
  | false =>
   go_wp2_with (go_at_fn g;refine HCALL.out.mono ?_;rintro e w' ⟨rfl,hb'⟩)
   go_roundg (gk - 1)
   case measure=>have:=HX.out;have:=of_eq_true q8;omega
   case rel =>
    have hx:=HN.out
    simp only [Bool.false_eq_true,if_false] at hx
    have hx8:=HX.out
    have hq8:=of_eq_true q8
    have hw:wrap64 (x8 + 1)=x8 + 1:=by have:=HM.out;unfold wrap64;omega
    refine ⟨wrap64 (x8 + 1),rfl,⟨by rw [hw];omega⟩,⟨BW.out.trans (sl_base (Below.size BW.out) hb')⟩,⟨?_⟩⟩
    rw [hw,show (x8 + 1).toNat=x8.toNat + 1 by omega]
    exact hx
set_option maxHeartbeats 4000000 in
set_option maxRecDepth 100000 in
theorem slices_ContainsFunc_number.callsOf (q:S131 → Option Bool) (g:Nat) (lb:Array Value) (eg : ∀ args w,(callFunc g args).run Tryz.prog w = .ok (.enter g args) w) (A_:Option Addr) (c_:Nat) (l0:List (S131)) (r:Bool) (w:World) (hr0:Kd.C k131 w A_ l0.length l0) (hc0:l0.length ≤ c_)
 (hq:TestOf_number g lb q w) (h:anyO q l0=some r) :
 Calls Tryz.prog 102 #[.slice A_ l0.length c_,.func (.func g) #[] lb] w fun e w' => e = .returned (.bool r)∧Below w.heap.size w w' := by
 obtain ⟨j,hj,hb⟩:=idxO_any q l0 0 r zb17 h
 have HC:=Aside0.mk (slices_IndexFunc_number.callsOf q g lb eg A_ c_ l0 j w hr0 hc0 hq hj)
 have HBB:=Aside0.mk hb
 clear hb hj h hq hr0 hc0 eg
 go_enter Tryz.func102,Tryz.ntmps102
 go_wp2_with (go_at_call 151;refine HC.out.mono ?_;rintro e w' ⟨rfl,hb'⟩)
 go_ret
 have e:=HBB.out
 subst e
 exact ⟨zb46,hb'⟩
def conf_numbers.f (l0_0:List (S83)) (l0_1:List (S85)) (l0_2:List (S36)) (l0_3:List ByteArray) (a0_4:Int) (a0_5:Int) (a0_6:Int) (a0_7:Int):Option ((List (S131))):=some (([(⟨(⟨#[116,111,116,97,108]⟩:ByteArray),a0_4,1,1048576⟩:S131),(⟨(⟨#[116,114,105,101,115]⟩:ByteArray),a0_5,0,3⟩:S131),(⟨(⟨#[102,97,105,108,115]⟩:ByteArray),a0_6,1,100⟩:S131),(⟨(⟨#[99,111,111,108]⟩:ByteArray),a0_7,0,1048576⟩:S131)]:List (S131)))
set_option maxHeartbeats 8000000 in
set_option maxRecDepth 100000 in
theorem conf_numbers.calls (A0_0:Option Addr) (c0_0:Nat) (l0_0:List (S83)) (A0_1:Option Addr) (c0_1:Nat) (l0_1:List (S85)) (A0_2:Option Addr) (c0_2:Nat) (l0_2:List (S36)) (A0_3:Option Addr) (c0_3:Nat) (l0_3:List ByteArray) (a0_4:Int) (a0_5:Int) (a0_6:Int) (a0_7:Int) (r:List (S131)) (w:World) (hr0_0:Kd.C k83 w A0_0 l0_0.length l0_0) (hc0_0:l0_0.length ≤ c0_0) (hr0_1:Kd.C k85 w A0_1 l0_1.length l0_1) (hc0_1:l0_1.length ≤ c0_1) (hr0_2:Kd.C k36 w A0_2 l0_2.length l0_2) (hc0_2:l0_2.length ≤ c0_2) (hr0_3:Kd.C Kd.string w A0_3 l0_3.length l0_3) (hc0_3:l0_3.length ≤ c0_3) (h:conf_numbers.f l0_0 l0_1 l0_2 l0_3 a0_4 a0_5 a0_6 a0_7=some r) :
 Calls Tryz.prog 103 #[.agg #[.slice A0_0 l0_0.length c0_0,.slice A0_1 l0_1.length c0_1,.slice A0_2 l0_2.length c0_2,.slice A0_3 l0_3.length c0_3,.int .i64 a0_4,.int .i64 a0_5,.int .i64 a0_6,.int .i64 a0_7]] w fun e w' => ∃ v0_:Value,e = .returned (v0_)∧Kd.R k131 131 w' w.heap.size (fun _=>True) v0_ r∧Below w.heap.size w w' := by
 have hu46:=Tryz.underlying46
 have hu131:=Tryz.underlying131
 have HR0_0:=Aside0.mk hr0_0
 have HC0_0:=Aside0.mk hc0_0
 clear hr0_0 hc0_0
 have HR0_1:=Aside0.mk hr0_1
 have HC0_1:=Aside0.mk hc0_1
 clear hr0_1 hc0_1
 have HR0_2:=Aside0.mk hr0_2
 have HC0_2:=Aside0.mk hc0_2
 clear hr0_2 hc0_2
 have HR0_3:=Aside0.mk hr0_3
 have HC0_3:=Aside0.mk hc0_3
 clear hr0_3 hc0_3
 have HB:=Aside0.mk (Below.refl w.heap.size w)
 unfold conf_numbers.f at h
 have H:=h
 clear h
 obtain ⟨y811,hy811⟩ : ∃ y_:List (S131),y_=(([(⟨(⟨#[116,111,116,97,108]⟩:ByteArray),a0_4,1,1048576⟩:S131),(⟨(⟨#[116,114,105,101,115]⟩:ByteArray),a0_5,0,3⟩:S131),(⟨(⟨#[102,97,105,108,115]⟩:ByteArray),a0_6,1,100⟩:S131),(⟨(⟨#[99,111,111,108]⟩:ByteArray),a0_7,0,1048576⟩:S131)]:List (S131))):=⟨_,rfl⟩
 replace H:(some y811)=some r:=by first|(rw [hy811];with_reducible exact H)|(have H2_:=(Option.bind_some _ _).symm.trans H;rw [hy811];with_reducible exact H2_)|(have H2_:=(Option.bind_some _ _).symm.trans H;with_reducible exact H2_)|with_reducible exact H|(rw [hy811];exact H)|exact H
 have Ny811:=Aside0.mk hy811
 clear hy811
 obtain rfl:=Option.some.inj H
 go_enter Tryz.func103,Tryz.ntmps103
 go_wp2_with (first|((with_reducible refine gate_dst (N:=1) rfl ?_);refine box_event rfl (N:=1) rfl (cs:=#[.slice A0_0 l0_0.length c0_0,.slice A0_1 l0_1.length c0_1,.slice A0_2 l0_2.length c0_2,.slice A0_3 l0_3.length c0_3,.int .i64 a0_4,.int .i64 a0_5,.int .i64 a0_6,.int .i64 a0_7]) (t:=46) zS ?_;intro gb810 hg w2 hbox hb;have GW810:=zG hg zb0;have GE810:=GW810;have BK810:=Aside0.mk hbox;replace HB:=Aside0.mk (below_step zb0 hb);clear hb hbox hg;have hcz3_0:w2.cell? ⟨gb810,0,none⟩=some (.slice A0_0 l0_0.length c0_0):=(blk_cell BK810.out 0).trans rfl;have hcz3_1:w2.cell? ⟨gb810,1,none⟩=some (.slice A0_1 l0_1.length c0_1):=(blk_cell BK810.out 1).trans rfl;have hcz3_2:w2.cell? ⟨gb810,2,none⟩=some (.slice A0_2 l0_2.length c0_2):=(blk_cell BK810.out 2).trans rfl;have hcz3_3:w2.cell? ⟨gb810,3,none⟩=some (.slice A0_3 l0_3.length c0_3):=(blk_cell BK810.out 3).trans rfl;have hcz3_4:w2.cell? ⟨gb810,4,none⟩=some (.int .i64 a0_4):=(blk_cell BK810.out 4).trans rfl;have hcz3_5:w2.cell? ⟨gb810,5,none⟩=some (.int .i64 a0_5):=(blk_cell BK810.out 5).trans rfl;have hcz3_6:w2.cell? ⟨gb810,6,none⟩=some (.int .i64 a0_6):=(blk_cell BK810.out 6).trans rfl;have hcz3_7:w2.cell? ⟨gb810,7,none⟩=some (.int .i64 a0_7):=(blk_cell BK810.out 7).trans rfl;have hfz3_0:=blk_frozen BK810.out 0;have hfz3_1:=blk_frozen BK810.out 1;have hfz3_2:=blk_frozen BK810.out 2;have hfz3_3:=blk_frozen BK810.out 3;have hfz3_4:=blk_frozen BK810.out 4;have hfz3_5:=blk_frozen BK810.out 5;have hfz3_6:=blk_frozen BK810.out 6;have hfz3_7:=blk_frozen BK810.out 7)|((with_reducible refine gate_dst (N:=15) rfl ?_);refine Kd.R_lit k131 _ 131 ?hg (N:=15) ?hd (xs:=([(⟨(⟨#[116,111,116,97,108]⟩:ByteArray),a0_4,1,1048576⟩:S131),(⟨(⟨#[116,114,105,101,115]⟩:ByteArray),a0_5,0,3⟩:S131),(⟨(⟨#[102,97,105,108,115]⟩:ByteArray),a0_6,1,100⟩:S131),(⟨(⟨#[99,111,111,108]⟩:ByteArray),a0_7,0,1048576⟩:S131)]:List (S131))) (inner:=[.string (⟨#[116,111,116,97,108]⟩:ByteArray),.int .i64 a0_4,.int .i64 1,.int .i64 1048576,.string (⟨#[116,114,105,101,115]⟩:ByteArray),.int .i64 a0_5,.int .i64 0,.int .i64 3,.string (⟨#[102,97,105,108,115]⟩:ByteArray),.int .i64 a0_6,.int .i64 1,.int .i64 100,.string (⟨#[99,111,111,108]⟩:ByteArray),.int .i64 a0_7,.int .i64 0,.int .i64 1048576]) (ok:=fun _=>True) (okp:=fun _=>True) ?hr ?hp (fun _ hk=>hk) trivial (Below.refl _ _) (Nat.le_refl _) zb44 ?_;(case hd=>rfl);(case hg=>rfl);(case hr=>first|(go_simp;done)|(go_simp;rfl));(case hp=>exact (Reps.c4 (show Kd.M k131 _ _ _ (⟨(⟨#[116,111,116,97,108]⟩:ByteArray),a0_4,1,1048576⟩:S131) [.string (⟨#[116,111,116,97,108]⟩:ByteArray),.int .i64 a0_4,.int .i64 1,.int .i64 1048576] from (k131_mkM _ _ _ (⟨(⟨#[116,111,116,97,108]⟩:ByteArray),a0_4,1,1048576⟩:S131) )) (Reps.c4 (show Kd.M k131 _ _ _ (⟨(⟨#[116,114,105,101,115]⟩:ByteArray),a0_5,0,3⟩:S131) [.string (⟨#[116,114,105,101,115]⟩:ByteArray),.int .i64 a0_5,.int .i64 0,.int .i64 3] from (k131_mkM _ _ _ (⟨(⟨#[116,114,105,101,115]⟩:ByteArray),a0_5,0,3⟩:S131) )) (Reps.c4 (show Kd.M k131 _ _ _ (⟨(⟨#[102,97,105,108,115]⟩:ByteArray),a0_6,1,100⟩:S131) [.string (⟨#[102,97,105,108,115]⟩:ByteArray),.int .i64 a0_6,.int .i64 1,.int .i64 100] from (k131_mkM _ _ _ (⟨(⟨#[102,97,105,108,115]⟩:ByteArray),a0_6,1,100⟩:S131) )) (Reps.c4 (show Kd.M k131 _ _ _ (⟨(⟨#[99,111,111,108]⟩:ByteArray),a0_7,0,1048576⟩:S131) [.string (⟨#[99,111,111,108]⟩:ByteArray),.int .i64 a0_7,.int .i64 0,.int .i64 1048576] from (k131_mkM _ _ _ (⟨(⟨#[99,111,111,108]⟩:ByteArray),a0_7,0,1048576⟩:S131) )) (Reps.none _ _))))));intro v812 w4 ho5 hb hg_ hnew_;clear hg_ hnew_;(first|rw [← Ny811.out] at ho5|(simp only [Int.reduceToNat] at ho5;rw [← Ny811.out] at ho5));have HO813:=Aside0.mk (Kd.R_lower ho5 (below_size zb107));replace BK810:=Aside0.mk (blk_below (g:=gb810) (o:=.cells #[.slice A0_0 l0_0.length c0_0,.slice A0_1 l0_1.length c0_1,.slice A0_2 l0_2.length c0_2,.slice A0_3 l0_3.length c0_3,.int .i64 a0_4,.int .i64 a0_5,.int .i64 a0_6,.int .i64 a0_7] 46 (0,0)) (by (with_reducible repeat (first|refine blk_drewN ?_ _|refine blk_drew ?_|refine blk_alloc ?_ _));exact BK810.out) hb);replace HB:=Aside0.mk (below_step zb107 hb);clear hb ho5))
 go_ret
 exact ⟨_,zb2,by (with_reducible repeat (first|apply Kd.R_alloc|apply Kd.R_drewN|apply Kd.R_drew));exact HO813.out,zb107⟩
def sign_Target_1.f (a0:Int):Option (Bool):=if a0 ≥ 33 then (some (decide (a0 ≤ 126))) else (some false)
set_option maxHeartbeats 8000000 in
set_option maxRecDepth 100000 in
theorem sign_Target_1.calls (a0:Int) (r:Bool) (w:World) (h:sign_Target_1.f a0=some r) :
 Calls Tryz.prog 181 #[.int .u8 a0] w fun e w' => e = .returned (.bool r)∧Drawn0 w w' := by
 unfold sign_Target_1.f at h
 have H:=h
 clear h
 by_cases c2:a0 ≥ 33
 ·rw [if_pos c2] at H
  have c2b0:decide (33 ≤ a0)=true:=decide_eq_true c2
  clear c2
  obtain rfl:=Option.some.inj H
  go_enter Tryz.func181,Tryz.ntmps181
  go_wp2
  go_ret
  exact ⟨zb5,zb9⟩
 rw [if_neg c2] at H
 have c2b0:decide (33 ≤ a0)=false:=decide_eq_false c2
 clear c2
 obtain rfl:=Option.some.inj H
 go_enter Tryz.func181,Tryz.ntmps181
 go_wp2
 go_ret
 exact ⟨zb5,zb9⟩
def sign_Target.f (a0:ByteArray):Option Bool:=if a0.size ≤ 140737488355328 then some (!a0.toList.isEmpty && (bytesOf a0).all fun c=>(sign_Target_1.f c).getD false) else none
theorem sign_Target_1.tells (c:Int) : ∃ b,sign_Target_1.f c=some b:=by
 unfold sign_Target_1.f
 repeat' split
 all_goals exact ⟨_,rfl⟩
theorem sign_Target_1.any (c:Int) (w:World):Calls Tryz.prog 181 #[.int .u8 c] w fun e w' => e = .returned (.bool ((sign_Target_1.f c).getD false))∧Drawn0 w w' := by
 obtain ⟨b,hb⟩:=sign_Target_1.tells c
 have:=sign_Target_1.calls c b w hb
 rw [hb]
 exact this
theorem sign_Target.calls (a0:ByteArray) (r:Bool) (w:World) (h:sign_Target.f a0=some r) :
 Calls Tryz.prog 149 #[.string a0] w fun e w' => e = .returned (.bool r)∧Drawn0 w w' := by
 unfold sign_Target.f at h
 by_cases h0:a0.size ≤ 140737488355328;rotate_left
 ·rw [if_neg h0] at h
  cases h
 rw [if_pos h0] at h
 obtain rfl:=Option.some.inj h
 clear h
 have he : ∀ args w,(callFunc 181 args).run Tryz.prog w = .ok (.enter 181 args) w:=fun args w=>enters_ Tryz.func181 zb7 rfl args w
 have HC:=Aside0.mk (fun w' => sign_all.callsOf 181 (fun c=>(sign_Target_1.f c).getD false) he (fun c w _ _=>sign_Target_1.any c w) a0 h0 w')
 clear he h0
 go_enter Tryz.func149,Tryz.ntmps149
 go_wp2_with (go_at_call 158;(with_reducible refine (HC.out _).mono ?_);rintro e w' ⟨rfl,⟨nd,rfl⟩⟩)
 all_goals
  go_ret
  exact ⟨by first|rfl|(simp [*];done),zb9⟩
def conf_path.f (a0:ByteArray):Option (Bool):=(sign_Target.f a0).bind fun t801=>(if t801=true then (if 0 < (a0.size:Int) then (if (bt a0 0)=47 then (some (decide ((a0.size:Int) ≤ 100))) else (some false)) else (none)) else (some false))
set_option maxHeartbeats 8000000 in
set_option maxRecDepth 100000 in
theorem conf_path.calls (a0:ByteArray) (r:Bool) (w:World) (h:conf_path.f a0=some r) :
 Calls Tryz.prog 99 #[.string a0] w fun e w' => e = .returned (.bool r)∧Drawn0 w w' := by
 unfold conf_path.f at h
 have H:=h
 clear h
 replace H:=Option.bind_eq_some_iff.mp H
 obtain ⟨t801,A20,H⟩:=H
 try dsimp only at H
 have A2:=Aside0.mk A20
 clear A20
 by_cases c3:t801=true;rotate_left
 ·replace c3:=Bool.eq_false_iff.mpr c3
  subst c3
  rw [if_neg (show ¬ (false=true) by decide)] at H
  obtain rfl:=Option.some.inj H
  go_enter Tryz.func99,Tryz.ntmps99
  go_wp2_with (first|((with_reducible refine gate_callee (f:=149) rfl ?_);refine goesL_ (some 4) rfl rfl Tryz.func149 zb7 rfl #[.string a0] rfl zb1 ?_;(with_reducible refine (sign_Target.calls a0 false _ A2.out).mono ?_);rintro e w' ⟨rfl,⟨nd,rfl⟩⟩;(try clear A2);refine ⟨_,rfl,?_⟩))
  go_ret
  exact ⟨zb5,zb9⟩
 subst c3
 rw [if_pos rfl] at H
 by_cases c4:0 < (a0.size:Int)
 ·rw [if_pos c4] at H
  have c4b0:=decide_eq_true c4
  have c4b1:decide (0 < a0.size)=true:=decide_eq_true zb17
  clear c4
  by_cases c6:(bt a0 0)=47;rotate_left
  ·rw [if_neg c6] at H
   have c6b0:=beq_eq_false_iff_ne.mpr c6
   have c6b1:=bne_iff_ne.mpr c6
   obtain rfl:=Option.some.inj H
   go_enter Tryz.func99,Tryz.ntmps99
   go_wp2_with (first|((with_reducible refine gate_callee (f:=149) rfl ?_);refine goesL_ (some 4) rfl rfl Tryz.func149 zb7 rfl #[.string a0] rfl zb1 ?_;(with_reducible refine (sign_Target.calls a0 true _ A2.out).mono ?_);rintro e w' ⟨rfl,⟨nd,rfl⟩⟩;(try clear A2);refine ⟨_,rfl,?_⟩;have p5:0 ≤ (0:Int):=zb17;have q5:0 < a0.size:=zb98;have hx5 : ∀ h:0 < a0.size,((a0[0]'h).toNat:Int)=bt a0 0:=bt_at a0 0;clear p5;have qi5:(0 < (a0.size:Int))=True:=eq_true (of_decide_eq_true zb3);replace q5:=eq_true q5))
   go_ret
   exact ⟨zb5,zb9⟩
  rw [if_pos c6] at H
  have c6b0:=beq_iff_eq.mpr c6
  have c6b1:=bne_eq_false_iff_eq.mpr c6
  clear c6
  obtain rfl:=Option.some.inj H
  go_enter Tryz.func99,Tryz.ntmps99
  go_wp2_with (first|((with_reducible refine gate_callee (f:=149) rfl ?_);refine goesL_ (some 4) rfl rfl Tryz.func149 zb7 rfl #[.string a0] rfl zb1 ?_;(with_reducible refine (sign_Target.calls a0 true _ A2.out).mono ?_);rintro e w' ⟨rfl,⟨nd,rfl⟩⟩;(try clear A2);refine ⟨_,rfl,?_⟩;have p5:0 ≤ (0:Int):=zb17;have q5:0 < a0.size:=zb98;have hx5 : ∀ h:0 < a0.size,((a0[0]'h).toNat:Int)=bt a0 0:=bt_at a0 0;clear p5;have qi5:(0 < (a0.size:Int))=True:=eq_true (of_decide_eq_true zb3);replace q5:=eq_true q5))
  go_ret
  exact ⟨zb5,zb9⟩
 ·rw [if_neg c4] at H
  exact absurd H zb44
def conf_right_1.f (a0_0:ByteArray) (a0_1:Int) (a0_2:Int) (a0_3:Int):Option (Bool):=if a0_1 < a0_2 then (some true) else (some (decide (a0_1 > a0_3)))
set_option maxHeartbeats 8000000 in
set_option maxRecDepth 100000 in
theorem conf_right_1.calls (a0_0:ByteArray) (a0_1:Int) (a0_2:Int) (a0_3:Int) (r:Bool) (w:World) (h:conf_right_1.f a0_0 a0_1 a0_2 a0_3=some r) :
 Calls Tryz.prog 104 #[.agg #[.string a0_0,.int .i64 a0_1,.int .i64 a0_2,.int .i64 a0_3]] w fun e w' => e = .returned (.bool r)∧Below w.heap.size w w' := by
 have hu131:=Tryz.underlying131
 have HB:=Aside0.mk (Below.refl w.heap.size w)
 unfold conf_right_1.f at h
 have H:=h
 clear h
 by_cases c2:a0_1 < a0_2
 ·rw [if_pos c2] at H
  have c2b0:=decide_eq_true c2
  clear c2
  obtain rfl:=Option.some.inj H
  go_enter Tryz.func104,Tryz.ntmps104
  go_wp2_with (first|((with_reducible refine gate_dst (N:=1) rfl ?_);refine box_event rfl (N:=1) rfl (cs:=#[.string a0_0,.int .i64 a0_1,.int .i64 a0_2,.int .i64 a0_3]) (t:=131) zS ?_;intro gb172 hg w3 hbox hb;have GW172:=zG hg zb0;have GE172:=GW172;have BK172:=Aside0.mk hbox;replace HB:=Aside0.mk (below_step zb0 hb);clear hb hbox hg;have hcz4_0:w3.cell? ⟨gb172,0,none⟩=some (.string a0_0):=(blk_cell BK172.out 0).trans rfl;have hcz4_1:w3.cell? ⟨gb172,1,none⟩=some (.int .i64 a0_1):=(blk_cell BK172.out 1).trans rfl;have hcz4_2:w3.cell? ⟨gb172,2,none⟩=some (.int .i64 a0_2):=(blk_cell BK172.out 2).trans rfl;have hcz4_3:w3.cell? ⟨gb172,3,none⟩=some (.int .i64 a0_3):=(blk_cell BK172.out 3).trans rfl;have hfz4_0:=blk_frozen BK172.out 0;have hfz4_1:=blk_frozen BK172.out 1;have hfz4_2:=blk_frozen BK172.out 2;have hfz4_3:=blk_frozen BK172.out 3))
  go_ret
  exact ⟨zb2,zb139⟩
 rw [if_neg c2] at H
 have c2b0:=decide_eq_false c2
 clear c2
 obtain rfl:=Option.some.inj H
 go_enter Tryz.func104,Tryz.ntmps104
 go_wp2_with (first|((with_reducible refine gate_dst (N:=1) rfl ?_);refine box_event rfl (N:=1) rfl (cs:=#[.string a0_0,.int .i64 a0_1,.int .i64 a0_2,.int .i64 a0_3]) (t:=131) zS ?_;intro gb172 hg w5 hbox hb;have GW172:=zG hg zb0;have GE172:=GW172;have BK172:=Aside0.mk hbox;replace HB:=Aside0.mk (below_step zb0 hb);clear hb hbox hg;have hcz6_0:w5.cell? ⟨gb172,0,none⟩=some (.string a0_0):=(blk_cell BK172.out 0).trans rfl;have hcz6_1:w5.cell? ⟨gb172,1,none⟩=some (.int .i64 a0_1):=(blk_cell BK172.out 1).trans rfl;have hcz6_2:w5.cell? ⟨gb172,2,none⟩=some (.int .i64 a0_2):=(blk_cell BK172.out 2).trans rfl;have hcz6_3:w5.cell? ⟨gb172,3,none⟩=some (.int .i64 a0_3):=(blk_cell BK172.out 3).trans rfl;have hfz6_0:=blk_frozen BK172.out 0;have hfz6_1:=blk_frozen BK172.out 1;have hfz6_2:=blk_frozen BK172.out 2;have hfz6_3:=blk_frozen BK172.out 3))
 go_ret
 exact ⟨zb2,zb139⟩
/-- What is asked of a test of such structs that is handed over. -/
def TestOf_Field (g:Nat) (lb:Array Value) (q:S36 → Option Bool) (w:World):Prop :=
 ∀ (W:World) (x:S36) (b:Bool),Below w.heap.size w W → q x=some b → Calls Tryz.prog g (#[.agg #[.string x.f0,.string x.f1]] ++ lb) W fun e w' => e = .returned (.bool b)∧Below W.heap.size W w'
set_option maxHeartbeats 4000000 in
set_option maxRecDepth 100000 in
theorem slices_IndexFunc_Field.callsOf (q:S36 → Option Bool) (g:Nat) (lb:Array Value) (eg : ∀ args w,(callFunc g args).run Tryz.prog w = .ok (.enter g args) w) (A_:Option Addr) (c_:Nat) (l0:List (S36)) (r:Int) (w:World) (hr0:Kd.C k36 w A_ l0.length l0) (hc0:l0.length ≤ c_)
 (hq:TestOf_Field g lb q w) (h:idxO q l0 0=some r) :
 Calls Tryz.prog 198 #[.slice A_ l0.length c_,.func (.func g) #[] lb] w fun e w' => e = .returned (.int .i64 r)∧Below w.heap.size w w' := by
 have hu:=Tryz.underlying36
 have HR:=Aside0.mk hr0
 have HQ:=Aside0.mk hq
 have H0:=Aside0.mk (show idxO q (l0.drop (0:Int).toNat) 0=some r from h)
 have HM:=Aside0.mk (show l0.length ≤ 9223372036854775807 from hr0.2.1)
 clear hr0 hq h
 go_enter Tryz.func198,Tryz.ntmps198
 go_wp2
 go_loopg [5,8] l0.length (fun kq _ v8 wr => ∃ (x8:Int),v8 = .int .i64 x8∧Aside0 (0 ≤ x8∧x8 ≤ l0.length∧(l0.length:Int) - x8 ≤ kq)∧Aside0 (Below w.heap.size w wr)∧Aside0 (idxO q (l0.drop x8.toNat) x8=some r))
 case atStart=>exact ⟨0,rfl,⟨zb17⟩,⟨Below.refl _ w⟩,H0⟩
 case round =>
  obtain ⟨x8,rfl,HX,BW,HH⟩:=hrel
  clear H0
  by_cases c4:x8 < (l0.length:Int);rotate_left
  ·have c4b0:=decide_eq_false c4
   have hx:=HH.out
   rw [List.drop_of_length_le zb150,idxO] at hx
   injection hx with hx
   clear c4
   go_wp2
   go_ret
   subst hx
   exact ⟨zb46,BW.out⟩
  have c4b0:=decide_eq_true c4
  have hx:=HH.out
  have hlt:x8.toNat < l0.length:=by have:=HX.out;omega
  rw [List.drop_eq_getElem_cons hlt,idxO] at hx
  obtain ⟨b,hb,hx⟩:=Option.bind_eq_some_iff.1 hx
  have hrd:rd_T36 l0 x8=l0[x8.toNat]:=by unfold rd_T36;rw [List.getD_eq_getElem?_getD,List.getElem?_eq_getElem hlt];rfl
  obtain ⟨ad,he,h0,h1⟩:=at_T36 HR.out x8 HX.out.1 c4
  replace h0:=(BW.out.cell (World.block_lt_of_cell? w _ h0)).trans h0
  replace h1:=(BW.out.cell (World.block_lt_of_cell? w _ h1)).trans h1
  have hcall:=HQ.out wr l0[x8.toNat] b BW.out hb
  rw [← hrd] at hcall
  obtain ⟨y,hy⟩ : ∃ y,rd_T36 l0 x8=y:=⟨_,rfl⟩
  rw [hy] at hcall h0 h1
  have HCALL:=Aside0.mk hcall
  have HN:=Aside0.mk hx
  have p8:(0 ≤ x8)=True:=eq_true HX.out.1
  have q8:(x8 < (l0.length:Int))=True:=eq_true c4
  clear hx hb hrd HH hy hcall c4
  subst he
  cases b with
  | true =>
   go_wp2_with (go_at_fn g;refine HCALL.out.mono ?_;rintro e w' ⟨rfl,hb'⟩)
   go_ret
   have hx:=HN.out
   simp only [if_true,Option.some.injEq] at hx
   subst hx
   exact ⟨zb46,BW.out.trans (sl_base (Below.size BW.out) hb')⟩
  | false =>
   go_wp2_with (go_at_fn g;refine HCALL.out.mono ?_;rintro e w' ⟨rfl,hb'⟩)
   go_roundg (gk - 1)
   case measure=>have:=HX.out;have:=of_eq_true q8;omega
   case rel =>
    have hx:=HN.out
    simp only [Bool.false_eq_true,if_false] at hx
    have hx8:=HX.out
    have hq8:=of_eq_true q8
    have hw:wrap64 (x8 + 1)=x8 + 1:=by have:=HM.out;unfold wrap64;omega
    refine ⟨wrap64 (x8 + 1),rfl,⟨by rw [hw];omega⟩,⟨BW.out.trans (sl_base (Below.size BW.out) hb')⟩,⟨?_⟩⟩
    rw [hw,show (x8 + 1).toNat=x8.toNat + 1 by omega]
    exact hx
set_option maxHeartbeats 4000000 in
set_option maxRecDepth 100000 in
theorem slices_ContainsFunc_Field.callsOf (q:S36 → Option Bool) (g:Nat) (lb:Array Value) (eg : ∀ args w,(callFunc g args).run Tryz.prog w = .ok (.enter g args) w) (A_:Option Addr) (c_:Nat) (l0:List (S36)) (r:Bool) (w:World) (hr0:Kd.C k36 w A_ l0.length l0) (hc0:l0.length ≤ c_)
 (hq:TestOf_Field g lb q w) (h:anyO q l0=some r) :
 Calls Tryz.prog 182 #[.slice A_ l0.length c_,.func (.func g) #[] lb] w fun e w' => e = .returned (.bool r)∧Below w.heap.size w w' := by
 obtain ⟨j,hj,hb⟩:=idxO_any q l0 0 r zb17 h
 have HC:=Aside0.mk (slices_IndexFunc_Field.callsOf q g lb eg A_ c_ l0 j w hr0 hc0 hq hj)
 have HBB:=Aside0.mk hb
 clear hb hj h hq hr0 hc0 eg
 go_enter Tryz.func182,Tryz.ntmps182
 go_wp2_with (go_at_call 198;refine HC.out.mono ?_;rintro e w' ⟨rfl,hb'⟩)
 go_ret
 have e:=HBB.out
 subst e
 exact ⟨zb46,hb'⟩
/-- At a cutset of ASCII bytes. -/
def strings_Trim.f (a0 a1:ByteArray):Option ByteArray :=
 if a0.size ≤ 9223372036854775807∧a1.size < 4294967281∧a1.data.toList.all (fun b=>decide (b.toNat < 128))=true then some ⟨(Lib.trimS a0.data.toList a1.data.toList).toArray⟩ else none
theorem strings_Trim.calls (a0 a1:ByteArray) (r:ByteArray) (w:World) (h:strings_Trim.f a0 a1=some r) :
 Calls Tryz.prog 91 #[.string a0,.string a1] w fun e w' => e = .returned (.string r)∧Below w.heap.size w w' := by
 unfold strings_Trim.f at h
 split at h
 ·rename_i hc
  obtain rfl:=Option.some.inj h
  exact Go.Proofs.Any.strings_Trim_laid Tryz.lays160 zb7 a0 a1 w hc.1 hc.2.1 (Go.Proofs.ascii_of_all hc.2.2)
 cases h
def sign_Trim.f (a0:ByteArray):Option (ByteArray):=(strings_Trim.f a0 (⟨#[32,9]⟩:ByteArray)).bind fun t178=>(some t178)
set_option maxHeartbeats 8000000 in
set_option maxRecDepth 100000 in
theorem sign_Trim.calls (a0:ByteArray) (r:ByteArray) (w:World) (h:sign_Trim.f a0=some r) :
 Calls Tryz.prog 153 #[.string a0] w fun e w' => e = .returned (.string r)∧Below w.heap.size w w' := by
 have HB:=Aside0.mk (Below.refl w.heap.size w)
 unfold sign_Trim.f at h
 have H:=h
 clear h
 replace H:=Option.bind_eq_some_iff.mp H
 obtain ⟨t178,A20,H⟩:=H
 try dsimp only at H
 have A2:=Aside0.mk A20
 clear A20
 obtain rfl:=Option.some.inj H
 go_enter Tryz.func153,Tryz.ntmps153
 go_wp2_with (first|((with_reducible refine gate_callee (f:=91) rfl ?_);refine goesL_ (some 4) rfl rfl Tryz.func91 zb7 rfl #[.string a0,.string (⟨#[32,9]⟩:ByteArray)] rfl zb1 ?_;(with_reducible refine (strings_Trim.calls a0 (⟨#[32,9]⟩:ByteArray) t178 _ A2.out).mono ?_);rintro e w3 ⟨rfl,hb⟩;(try clear A2);refine ⟨_,rfl,?_⟩;replace HB:=Aside0.mk (below_step zb0 hb);(try clear hb)))
 go_ret
 exact ⟨zb2,zb0⟩
def sign_Value_1.f (a0:Int):Option (Bool):=if a0 ≥ 32 then (if a0=127 then (some (a0 == 9)) else (some true)) else (some (a0 == 9))
set_option maxHeartbeats 8000000 in
set_option maxRecDepth 100000 in
theorem sign_Value_1.calls (a0:Int) (r:Bool) (w:World) (h:sign_Value_1.f a0=some r) :
 Calls Tryz.prog 159 #[.int .u8 a0] w fun e w' => e = .returned (.bool r)∧Drawn0 w w' := by
 unfold sign_Value_1.f at h
 have H:=h
 clear h
 by_cases c2:a0 ≥ 32;rotate_left
 ·rw [if_neg c2] at H
  have c2b0:decide (32 ≤ a0)=false:=decide_eq_false c2
  clear c2
  obtain rfl:=Option.some.inj H
  go_enter Tryz.func159,Tryz.ntmps159
  go_wp2
  go_ret
  exact ⟨zb5,zb9⟩
 rw [if_pos c2] at H
 have c2b0:decide (32 ≤ a0)=true:=decide_eq_true c2
 clear c2
 by_cases c3:a0=127
 ·rw [if_pos c3] at H
  have c3b0:=beq_iff_eq.mpr c3
  have c3b1:=bne_eq_false_iff_eq.mpr c3
  clear c3
  obtain rfl:=Option.some.inj H
  go_enter Tryz.func159,Tryz.ntmps159
  go_wp2
  go_ret
  exact ⟨zb5,zb9⟩
 ·rw [if_neg c3] at H
  have c3b0:=beq_eq_false_iff_ne.mpr c3
  have c3b1:=bne_iff_ne.mpr c3
  obtain rfl:=Option.some.inj H
  go_enter Tryz.func159,Tryz.ntmps159
  go_wp2
  go_ret
  exact ⟨zb5,zb9⟩
def sign_Value.f (a0:ByteArray):Option Bool:=if a0.size ≤ 140737488355328 then some ((bytesOf a0).all fun c=>(sign_Value_1.f c).getD false) else none
theorem sign_Value_1.tells (c:Int) : ∃ b,sign_Value_1.f c=some b:=by
 unfold sign_Value_1.f
 repeat' split
 all_goals exact ⟨_,rfl⟩
theorem sign_Value_1.any (c:Int) (w:World):Calls Tryz.prog 159 #[.int .u8 c] w fun e w' => e = .returned (.bool ((sign_Value_1.f c).getD false))∧Drawn0 w w' := by
 obtain ⟨b,hb⟩:=sign_Value_1.tells c
 have:=sign_Value_1.calls c b w hb
 rw [hb]
 exact this
theorem sign_Value.calls (a0:ByteArray) (r:Bool) (w:World) (h:sign_Value.f a0=some r) :
 Calls Tryz.prog 114 #[.string a0] w fun e w' => e = .returned (.bool r)∧Drawn0 w w' := by
 unfold sign_Value.f at h
 by_cases h0:a0.size ≤ 140737488355328;rotate_left
 ·rw [if_neg h0] at h
  cases h
 rw [if_pos h0] at h
 obtain rfl:=Option.some.inj h
 clear h
 have he : ∀ args w,(callFunc 159 args).run Tryz.prog w = .ok (.enter 159 args) w:=fun args w=>enters_ Tryz.func159 zb7 rfl args w
 have HC:=Aside0.mk (fun w' => sign_all.callsOf 159 (fun c=>(sign_Value_1.f c).getD false) he (fun c w _ _=>sign_Value_1.any c w) a0 h0 w')
 clear he h0
 go_enter Tryz.func114,Tryz.ntmps114
 go_wp2_with (go_at_call 158;(with_reducible refine (HC.out _).mono ?_);rintro e w' ⟨rfl,⟨nd,rfl⟩⟩)
 go_ret
 exact ⟨rfl,zb9⟩
def field_right.f (a0_0:ByteArray) (a0_1:ByteArray):Option (Bool):=if (a0_0.size:Int) ≤ 100 then ((sign_Token.f a0_0).bind fun t180=>(if t180=true then (if (a0_1.size:Int) ≤ 1000 then ((sign_Value.f a0_1).bind fun t181=>(if t181=true then ((sign_Trim.f a0_1).bind fun t182=>(some (t182.toList == a0_1.toList))) else (some false))) else (some false)) else (some false))) else (some false)
def field_right.T1:Bool × List (List Nat × List Nat):=(true,[([],[]),([0],[0]),([1],[1]),([2],[2]),([3],[3]),([4],[4]),([5,4],[4,5]),([6,4,4],[4,6]),([4,7],[4,7]),([8,7],[8]),([9],[9]),([10,9],[9,10]),([11,9],[9,11]),([12,9],[9,12]),([9,13],[9,13]),([14,9],[14]),([15],[15]),([16,15],[15,16]),([17,15,15],[15,17]),([15,18],[15,18]),([19,18],[19]),([20],[20]),([21,20],[20,21]),([22,20,20],[20,22]),([20],[20]),([24,20],[20,24]),([23,25,20],[20,23,25]),([20,26],[20,26]),([27,23,0,1,2,3,4,5,6,7,8,9,10,11,12,13,14,15,16,17,18,19,20,21,22,23,24,25,26,27],[27])])
def field_right.B1:List Nat:=[0,1,3,7,15,31,63,127,255,511,1023,2047,4095,8191,16383,32767,65535,131071,262143,524287,1048575,2097151,4194303,8388607,2097151,18874367,67108863,134217727,268435455]
theorem field_right.tab1:rtab .any (opsOf Tryz.f154 1)=field_right.T1:=by kernel_rfl
theorem field_right.bits1:waitsOk field_right.T1.2 field_right.B1=true:=by kernel_rfl
set_option maxHeartbeats 8000000 in
set_option maxRecDepth 100000 in
theorem field_right.calls (a0_0:ByteArray) (a0_1:ByteArray) (r:Bool) (w:World) (h:field_right.f a0_0 a0_1=some r) :
 Calls Tryz.prog 154 #[.agg #[.string a0_0,.string a0_1]] w fun e w' => e = .returned (.bool r)∧Below w.heap.size w w' := by
 have hu36:=Tryz.underlying36
 have HB:=Aside0.mk (Below.refl w.heap.size w)
 unfold field_right.f at h
 have H:=h
 clear h
 by_cases c2:(a0_0.size:Int) ≤ 100;rotate_left
 ·rw [if_neg c2] at H
  have c2b0:=decide_eq_false c2
  have c2b1:decide (a0_0.size ≤ 100)=false:=decide_eq_false zb17
  clear c2
  obtain rfl:=Option.some.inj H
  go_enter Tryz.func154,Tryz.ntmps154
  try go_wp2_with (first|((with_reducible refine gate_dst (N:=1) rfl ?_);(try (refine gate_guard zb45 ?_;dsimp only));refine box_event rfl (N:=1) rfl (cs:=#[.string a0_0,.string a0_1]) (t:=36) zS ?_;intro gb20 hg w18 hbox hb;have GW20:=zG hg zb0;have GE20:=GW20;have BK20:=Aside0.mk hbox;replace HB:=Aside0.mk (below_step zb0 hb);clear hb hbox hg))
  replace BK20:=Aside0.mk (blk_drew BK20.out)
  replace HB:=Aside0.mk (below_drew1 HB.out)
  refine start_ (n:=29) (S:=fun w' => w'.cell? ⟨gb20,0,none⟩=some (.string a0_0)∧w'.cell? ⟨gb20,1,none⟩=some (.string a0_1)) (ds:=[]) (zl 29 0) zb7 rfl rfl ⟨(blk_cell BK20.out 0).trans rfl,(blk_cell BK20.out 1).trans rfl⟩ (fun hHeld=>?_);refine with_tabW field_right.tab1 field_right.bits1 (fun HT_ HW_=>?_)
  generalize w18.drew=w19 at BK20 HB hHeld ⊢
  refine zpu 0 (N:=some 3) (zl 29 1) HT_.out rfl rfl ?_
  refine take_ (i:=1) (N:=some 4) (v:=?_) (a' := ?_) (zl 29 3) rfl rfl (take_ofW HT_.out HW_.out zb7) (fun _ _ _ h=>h) (Or.inl ⟨zb45,?_⟩) hHeld ?_ ?_
  rotate_left
  ·rintro w' ⟨s0,s1⟩;go_simp;with_reducible rfl
  rotate_left
  ·simp only [Act.put,zqA,zqB,zqC,i64_w,i32_w];rfl
  refine zpu 2 (N:=some 5) (zl 29 7) HT_.out rfl rfl ?_
  refine zpu 3 (N:=some 6) (zl 29 15) HT_.out rfl rfl ?_
  refine zpu 4 (N:=some 7) (zl 29 31) HT_.out rfl rfl ?_
  refine pure_ (i:=5) (N:=some 8) (v:=undef) (a' := ?_) (zl 29 63) rfl rfl (any_of HT_.out zb7) (fun _ _ _ h=>h) (Or.inr ⟨zb45,rfl⟩) ?_ ?_
  rotate_left
  ·simp only [Act.put,zqA,zqB,zqC,i64_w,i32_w];rfl
  refine pure_ (i:=6) (N:=some 9) (v:=undef) (a' := ?_) (zl 29 127) rfl rfl (any_of HT_.out zb7) (fun _ _ _ h=>h) (Or.inr ⟨zb45,rfl⟩) ?_ ?_
  rotate_left
  ·simp only [Act.put,zqA,zqB,zqC,i64_w,i32_w];rfl
  refine pure_ (i:=7) (N:=some 10) (v:=undef) (a' := ?_) (zl 29 255) rfl rfl (any_of HT_.out zb7) (fun _ _ _ h=>h) (Or.inr ⟨zb45,rfl⟩) ?_ ?_
  rotate_left
  ·simp only [Act.put,zqA,zqB,zqC,i64_w,i32_w];rfl
  refine zpu 8 (N:=some 11) (zl 29 511) HT_.out rfl rfl ?_
  refine zpu 9 (N:=some 12) (zl 29 1023) HT_.out rfl rfl ?_
  refine pure_ (i:=10) (N:=some 13) (v:=undef) (a' := ?_) (zl 29 2047) rfl rfl (any_of HT_.out zb7) (fun _ _ _ h=>h) (Or.inr ⟨zb45,rfl⟩) ?_ ?_
  rotate_left
  ·simp only [Act.put,zqA,zqB,zqC,i64_w,i32_w];rfl
  refine pure_ (i:=11) (N:=some 14) (v:=undef) (a' := ?_) (zl 29 4095) rfl rfl (any_of HT_.out zb7) (fun _ _ _ h=>h) (Or.inr ⟨zb45,rfl⟩) ?_ ?_
  rotate_left
  ·simp only [Act.put,zqA,zqB,zqC,i64_w,i32_w];rfl
  refine pure_ (i:=12) (N:=some 15) (v:=undef) (a' := ?_) (zl 29 8191) rfl rfl (any_of HT_.out zb7) (fun _ _ _ h=>h) (Or.inr ⟨zb45,rfl⟩) ?_ ?_
  rotate_left
  ·simp only [Act.put,zqA,zqB,zqC,i64_w,i32_w];rfl
  refine pure_ (i:=13) (N:=some 16) (v:=undef) (a' := ?_) (zl 29 16383) rfl rfl (any_of HT_.out zb7) (fun _ _ _ h=>h) (Or.inr ⟨zb45,rfl⟩) ?_ ?_
  rotate_left
  ·simp only [Act.put,zqA,zqB,zqC,i64_w,i32_w];rfl
  refine zpu 14 (N:=some 17) (zl 29 32767) HT_.out rfl rfl ?_
  refine zpu 15 (N:=some 18) (zl 29 65535) HT_.out rfl rfl ?_
  refine pure_ (i:=16) (N:=some 19) (v:=undef) (a' := ?_) (zl 29 131071) rfl rfl (any_of HT_.out zb7) (fun _ _ _ h=>h) (Or.inr ⟨zb45,rfl⟩) ?_ ?_
  rotate_left
  ·simp only [Act.put,zqA,zqB,zqC,i64_w,i32_w];rfl
  refine pure_ (i:=17) (N:=some 20) (v:=undef) (a' := ?_) (zl 29 262143) rfl rfl (any_of HT_.out zb7) (fun _ _ _ h=>h) (Or.inr ⟨zb45,rfl⟩) ?_ ?_
  rotate_left
  ·simp only [Act.put,zqA,zqB,zqC,i64_w,i32_w];rfl
  refine pure_ (i:=18) (N:=some 21) (v:=undef) (a' := ?_) (zl 29 524287) rfl rfl (any_of HT_.out zb7) (fun _ _ _ h=>h) (Or.inr ⟨zb45,rfl⟩) ?_ ?_
  rotate_left
  ·simp only [Act.put,zqA,zqB,zqC,i64_w,i32_w];rfl
  refine zpu 19 (N:=some 22) (zl 29 1048575) HT_.out rfl rfl ?_
  refine zpu 20 (N:=some 23) (zl 29 2097151) HT_.out rfl rfl ?_
  refine pure_ (i:=21) (N:=some 24) (v:=undef) (a' := ?_) (zl 29 4194303) rfl rfl (any_of HT_.out zb7) (fun _ _ _ h=>h) (Or.inr ⟨zb45,rfl⟩) ?_ ?_
  rotate_left
  ·simp only [Act.put,zqA,zqB,zqC,i64_w,i32_w];rfl
  refine pure_ (i:=22) (N:=some 25) (v:=undef) (a' := ?_) (zl 29 8388607) rfl rfl (any_of HT_.out zb7) (fun _ _ _ h=>h) (Or.inr ⟨zb45,rfl⟩) ?_ ?_
  rotate_left
  ·simp only [Act.put,zqA,zqB,zqC,i64_w,i32_w];rfl
  refine pure_ (i:=23) (N:=some 26) (v:=undef) (a' := ?_) (zl 29 16777215) rfl rfl (any_of HT_.out zb7) (fun _ _ _ h=>h) (Or.inr ⟨zb45,rfl⟩) ?_ ?_
  rotate_left
  ·simp only [Act.put,zqA,zqB,zqC,i64_w,i32_w];rfl
  refine pure_ (i:=24) (N:=some 27) (v:=undef) (a' := ?_) (zl 29 33554431) rfl rfl (any_of HT_.out zb7) (fun _ _ _ h=>h) (Or.inr ⟨zb45,rfl⟩) ?_ ?_
  rotate_left
  ·simp only [Act.put,zqA,zqB,zqC,i64_w,i32_w];rfl
  refine pure_ (i:=25) (N:=some 28) (v:=undef) (a' := ?_) (zl 29 67108863) rfl rfl (any_of HT_.out zb7) (fun _ _ _ h=>h) (Or.inr ⟨zb45,rfl⟩) ?_ ?_
  rotate_left
  ·simp only [Act.put,zqA,zqB,zqC,i64_w,i32_w];rfl
  refine pure_ (i:=26) (N:=some 29) (v:=undef) (a' := ?_) (zl 29 134217727) rfl rfl (any_of HT_.out zb7) (fun _ _ _ h=>h) (Or.inr ⟨zb45,rfl⟩) ?_ ?_
  rotate_left
  ·simp only [Act.put,zqA,zqB,zqC,i64_w,i32_w];rfl
  refine zpu 27 (N:=some 30) (zl 29 268435455) HT_.out rfl rfl ?_
  refine zpu 28 (N:=some 2) (zl 29 536870911) HT_.out rfl rfl ?_
  refine done_ (done_of HT_.out zb7) ?_
  try go_wp2
  go_ret
  exact ⟨zb2,zb67⟩
 rw [if_pos c2] at H
 have c2b0:=decide_eq_true c2
 have c2b1:decide (a0_0.size ≤ 100)=true:=decide_eq_true zb17
 clear c2
 replace H:=Option.bind_eq_some_iff.mp H
 obtain ⟨t23,A30,H⟩:=H
 try dsimp only at H
 have A3:=Aside0.mk A30
 clear A30
 by_cases c4:t23=true;rotate_left
 ·replace c4:=Bool.eq_false_iff.mpr c4
  subst c4
  rw [if_neg (show ¬ (false=true) by decide)] at H
  obtain rfl:=Option.some.inj H
  go_enter Tryz.func154,Tryz.ntmps154
  try go_wp2_with (first|((with_reducible refine gate_dst (N:=1) rfl ?_);(try (refine gate_guard zb45 ?_;dsimp only));refine box_event rfl (N:=1) rfl (cs:=#[.string a0_0,.string a0_1]) (t:=36) zS ?_;intro gb20 hg w16 hbox hb;have GW20:=zG hg zb0;have GE20:=GW20;have BK20:=Aside0.mk hbox;replace HB:=Aside0.mk (below_step zb0 hb);clear hb hbox hg))
  replace BK20:=Aside0.mk (blk_drew BK20.out)
  replace HB:=Aside0.mk (below_drew1 HB.out)
  refine start_ (n:=29) (S:=fun w' => w'.cell? ⟨gb20,0,none⟩=some (.string a0_0)∧w'.cell? ⟨gb20,1,none⟩=some (.string a0_1)) (ds:=[]) (zl 29 0) zb7 rfl rfl ⟨(blk_cell BK20.out 0).trans rfl,(blk_cell BK20.out 1).trans rfl⟩ (fun hHeld=>?_);refine with_tabW field_right.tab1 field_right.bits1 (fun HT_ HW_=>?_)
  generalize w16.drew=w17 at BK20 HB hHeld ⊢
  refine zpu 0 (N:=some 3) (zl 29 1) HT_.out rfl rfl ?_
  refine take_ (i:=1) (N:=some 4) (v:=?_) (a' := ?_) (zl 29 3) rfl rfl (take_ofW HT_.out HW_.out zb7) (fun _ _ _ h=>h) (Or.inl ⟨zb45,?_⟩) hHeld ?_ ?_
  rotate_left
  ·rintro w' ⟨s0,s1⟩;go_simp;with_reducible rfl
  rotate_left
  ·simp only [Act.put,zqA,zqB,zqC,i64_w,i32_w];rfl
  refine zpu 2 (N:=some 5) (zl 29 7) HT_.out rfl rfl ?_
  refine zpu 3 (N:=some 6) (zl 29 15) HT_.out rfl rfl ?_
  refine zpu 4 (N:=some 7) (zl 29 31) HT_.out rfl rfl ?_
  refine zpu 5 (N:=some 8) (zl 29 63) HT_.out rfl rfl ?_
  refine take_ (i:=6) (N:=some 9) (v:=?_) (a' := ?_) (zl 29 127) rfl rfl (take_ofW HT_.out HW_.out zb7) (fun _ _ _ h=>h) (Or.inl ⟨zb45,?_⟩) hHeld ?_ ?_
  rotate_left
  ·rintro w' ⟨s0,s1⟩;go_simp;with_reducible rfl
  rotate_left
  ·simp only [Act.put,zqA,zqB,zqC,i64_w,i32_w];rfl
  refine one_ (i:=7) (N:=some 10) (zl 29 255) rfl rfl (one_of HT_.out zb7) zb47 (fun K hK=>?_)
  refine goes_ Tryz.func117 zb7 rfl #[.string a0_0] zb45 rfl rfl zb1 ?_
  with_reducible refine (sign_Token.calls a0_0 false _ A3.out).mono ?_
  rintro e w' ⟨rfl,⟨nd,rfl⟩⟩
  refine ⟨_,rfl,?_⟩
  refine hK.out _ _ ⟨(blk_cell BK20.out 0).trans rfl,(blk_cell BK20.out 1).trans rfl⟩ (fun hHeld=>?_)
  clear hK K
  refine norm_ (a' := ?_) ?_ ?_
  rotate_left
  ·show Act.put _ (some 10) _=_
   simp only [Act.put,zqA,zqB,zqC,i64_w,i32_w]
   rfl
  refine zpu 8 (N:=some 11) (zl 29 511) HT_.out rfl rfl ?_
  refine zpu 9 (N:=some 12) (zl 29 1023) HT_.out rfl rfl ?_
  refine pure_ (i:=10) (N:=some 13) (v:=undef) (a' := ?_) (zl 29 2047) rfl rfl (any_of HT_.out zb7) (fun _ _ _ h=>h) (Or.inr ⟨zb45,rfl⟩) ?_ ?_
  rotate_left
  ·simp only [Act.put,zqA,zqB,zqC,i64_w,i32_w];rfl
  refine pure_ (i:=11) (N:=some 14) (v:=undef) (a' := ?_) (zl 29 4095) rfl rfl (any_of HT_.out zb7) (fun _ _ _ h=>h) (Or.inr ⟨zb45,rfl⟩) ?_ ?_
  rotate_left
  ·simp only [Act.put,zqA,zqB,zqC,i64_w,i32_w];rfl
  refine pure_ (i:=12) (N:=some 15) (v:=undef) (a' := ?_) (zl 29 8191) rfl rfl (any_of HT_.out zb7) (fun _ _ _ h=>h) (Or.inr ⟨zb45,rfl⟩) ?_ ?_
  rotate_left
  ·simp only [Act.put,zqA,zqB,zqC,i64_w,i32_w];rfl
  refine pure_ (i:=13) (N:=some 16) (v:=undef) (a' := ?_) (zl 29 16383) rfl rfl (any_of HT_.out zb7) (fun _ _ _ h=>h) (Or.inr ⟨zb45,rfl⟩) ?_ ?_
  rotate_left
  ·simp only [Act.put,zqA,zqB,zqC,i64_w,i32_w];rfl
  refine zpu 14 (N:=some 17) (zl 29 32767) HT_.out rfl rfl ?_
  refine zpu 15 (N:=some 18) (zl 29 65535) HT_.out rfl rfl ?_
  refine pure_ (i:=16) (N:=some 19) (v:=undef) (a' := ?_) (zl 29 131071) rfl rfl (any_of HT_.out zb7) (fun _ _ _ h=>h) (Or.inr ⟨zb45,rfl⟩) ?_ ?_
  rotate_left
  ·simp only [Act.put,zqA,zqB,zqC,i64_w,i32_w];rfl
  refine pure_ (i:=17) (N:=some 20) (v:=undef) (a' := ?_) (zl 29 262143) rfl rfl (any_of HT_.out zb7) (fun _ _ _ h=>h) (Or.inr ⟨zb45,rfl⟩) ?_ ?_
  rotate_left
  ·simp only [Act.put,zqA,zqB,zqC,i64_w,i32_w];rfl
  refine pure_ (i:=18) (N:=some 21) (v:=undef) (a' := ?_) (zl 29 524287) rfl rfl (any_of HT_.out zb7) (fun _ _ _ h=>h) (Or.inr ⟨zb45,rfl⟩) ?_ ?_
  rotate_left
  ·simp only [Act.put,zqA,zqB,zqC,i64_w,i32_w];rfl
  refine zpu 19 (N:=some 22) (zl 29 1048575) HT_.out rfl rfl ?_
  refine zpu 20 (N:=some 23) (zl 29 2097151) HT_.out rfl rfl ?_
  refine pure_ (i:=21) (N:=some 24) (v:=undef) (a' := ?_) (zl 29 4194303) rfl rfl (any_of HT_.out zb7) (fun _ _ _ h=>h) (Or.inr ⟨zb45,rfl⟩) ?_ ?_
  rotate_left
  ·simp only [Act.put,zqA,zqB,zqC,i64_w,i32_w];rfl
  refine pure_ (i:=22) (N:=some 25) (v:=undef) (a' := ?_) (zl 29 8388607) rfl rfl (any_of HT_.out zb7) (fun _ _ _ h=>h) (Or.inr ⟨zb45,rfl⟩) ?_ ?_
  rotate_left
  ·simp only [Act.put,zqA,zqB,zqC,i64_w,i32_w];rfl
  refine pure_ (i:=23) (N:=some 26) (v:=undef) (a' := ?_) (zl 29 16777215) rfl rfl (any_of HT_.out zb7) (fun _ _ _ h=>h) (Or.inr ⟨zb45,rfl⟩) ?_ ?_
  rotate_left
  ·simp only [Act.put,zqA,zqB,zqC,i64_w,i32_w];rfl
  refine pure_ (i:=24) (N:=some 27) (v:=undef) (a' := ?_) (zl 29 33554431) rfl rfl (any_of HT_.out zb7) (fun _ _ _ h=>h) (Or.inr ⟨zb45,rfl⟩) ?_ ?_
  rotate_left
  ·simp only [Act.put,zqA,zqB,zqC,i64_w,i32_w];rfl
  refine pure_ (i:=25) (N:=some 28) (v:=undef) (a' := ?_) (zl 29 67108863) rfl rfl (any_of HT_.out zb7) (fun _ _ _ h=>h) (Or.inr ⟨zb45,rfl⟩) ?_ ?_
  rotate_left
  ·simp only [Act.put,zqA,zqB,zqC,i64_w,i32_w];rfl
  refine pure_ (i:=26) (N:=some 29) (v:=undef) (a' := ?_) (zl 29 134217727) rfl rfl (any_of HT_.out zb7) (fun _ _ _ h=>h) (Or.inr ⟨zb45,rfl⟩) ?_ ?_
  rotate_left
  ·simp only [Act.put,zqA,zqB,zqC,i64_w,i32_w];rfl
  refine zpu 27 (N:=some 30) (zl 29 268435455) HT_.out rfl rfl ?_
  refine zpu 28 (N:=some 2) (zl 29 536870911) HT_.out rfl rfl ?_
  refine done_ (done_of HT_.out zb7) ?_
  try go_wp2
  go_ret
  exact ⟨zb2,zb67⟩
 subst c4
 rw [if_pos rfl] at H
 by_cases c5:(a0_1.size:Int) ≤ 1000
 ·rw [if_pos c5] at H
  have c5b0:=decide_eq_true c5
  have c5b1:decide (a0_1.size ≤ 1000)=true:=decide_eq_true zb17
  clear c5
  replace H:=Option.bind_eq_some_iff.mp H
  obtain ⟨t22,A60,H⟩:=H
  try dsimp only at H
  have A6:=Aside0.mk A60
  clear A60
  by_cases c7:t22=true;rotate_left
  ·replace c7:=Bool.eq_false_iff.mpr c7
   subst c7
   rw [if_neg (show ¬ (false=true) by decide)] at H
   obtain rfl:=Option.some.inj H
   go_enter Tryz.func154,Tryz.ntmps154
   try go_wp2_with (first|((with_reducible refine gate_dst (N:=1) rfl ?_);(try (refine gate_guard zb45 ?_;dsimp only));refine box_event rfl (N:=1) rfl (cs:=#[.string a0_0,.string a0_1]) (t:=36) zS ?_;intro gb20 hg w12 hbox hb;have GW20:=zG hg zb0;have GE20:=GW20;have BK20:=Aside0.mk hbox;replace HB:=Aside0.mk (below_step zb0 hb);clear hb hbox hg))
   replace BK20:=Aside0.mk (blk_drew BK20.out)
   replace HB:=Aside0.mk (below_drew1 HB.out)
   refine start_ (n:=29) (S:=fun w' => w'.cell? ⟨gb20,0,none⟩=some (.string a0_0)∧w'.cell? ⟨gb20,1,none⟩=some (.string a0_1)) (ds:=[]) (zl 29 0) zb7 rfl rfl ⟨(blk_cell BK20.out 0).trans rfl,(blk_cell BK20.out 1).trans rfl⟩ (fun hHeld=>?_);refine with_tabW field_right.tab1 field_right.bits1 (fun HT_ HW_=>?_)
   generalize w12.drew=w13 at BK20 HB hHeld ⊢
   refine zpu 0 (N:=some 3) (zl 29 1) HT_.out rfl rfl ?_
   refine take_ (i:=1) (N:=some 4) (v:=?_) (a' := ?_) (zl 29 3) rfl rfl (take_ofW HT_.out HW_.out zb7) (fun _ _ _ h=>h) (Or.inl ⟨zb45,?_⟩) hHeld ?_ ?_
   rotate_left
   ·rintro w' ⟨s0,s1⟩;go_simp;with_reducible rfl
   rotate_left
   ·simp only [Act.put,zqA,zqB,zqC,i64_w,i32_w];rfl
   refine zpu 2 (N:=some 5) (zl 29 7) HT_.out rfl rfl ?_
   refine zpu 3 (N:=some 6) (zl 29 15) HT_.out rfl rfl ?_
   refine zpu 4 (N:=some 7) (zl 29 31) HT_.out rfl rfl ?_
   refine zpu 5 (N:=some 8) (zl 29 63) HT_.out rfl rfl ?_
   refine take_ (i:=6) (N:=some 9) (v:=?_) (a' := ?_) (zl 29 127) rfl rfl (take_ofW HT_.out HW_.out zb7) (fun _ _ _ h=>h) (Or.inl ⟨zb45,?_⟩) hHeld ?_ ?_
   rotate_left
   ·rintro w' ⟨s0,s1⟩;go_simp;with_reducible rfl
   rotate_left
   ·simp only [Act.put,zqA,zqB,zqC,i64_w,i32_w];rfl
   refine one_ (i:=7) (N:=some 10) (zl 29 255) rfl rfl (one_of HT_.out zb7) zb47 (fun K hK=>?_)
   refine goes_ Tryz.func117 zb7 rfl #[.string a0_0] zb45 rfl rfl zb1 ?_
   with_reducible refine (sign_Token.calls a0_0 true _ A3.out).mono ?_
   rintro e w' ⟨rfl,⟨nd,rfl⟩⟩
   refine ⟨_,rfl,?_⟩
   refine hK.out _ _ ⟨(blk_cell BK20.out 0).trans rfl,(blk_cell BK20.out 1).trans rfl⟩ (fun hHeld=>?_)
   clear hK K
   refine norm_ (a' := ?_) ?_ ?_
   rotate_left
   ·show Act.put _ (some 10) _=_
    simp only [Act.put,zqA,zqB,zqC,i64_w,i32_w]
    rfl
   refine zpu 8 (N:=some 11) (zl 29 511) HT_.out rfl rfl ?_
   refine zpu 9 (N:=some 12) (zl 29 1023) HT_.out rfl rfl ?_
   refine zpu 10 (N:=some 13) (zl 29 2047) HT_.out rfl rfl ?_
   refine take_ (i:=11) (N:=some 14) (v:=?_) (a' := ?_) (zl 29 4095) rfl rfl (take_ofW HT_.out HW_.out zb7) (fun _ _ _ h=>h) (Or.inl ⟨zb45,?_⟩) hHeld ?_ ?_
   rotate_left
   ·rintro w' ⟨s0,s1⟩;go_simp;with_reducible rfl
   rotate_left
   ·simp only [Act.put,zqA,zqB,zqC,i64_w,i32_w];rfl
   refine zpu 12 (N:=some 15) (zl 29 8191) HT_.out rfl rfl ?_
   refine zpu 13 (N:=some 16) (zl 29 16383) HT_.out rfl rfl ?_
   refine zpu 14 (N:=some 17) (zl 29 32767) HT_.out rfl rfl ?_
   refine zpu 15 (N:=some 18) (zl 29 65535) HT_.out rfl rfl ?_
   refine zpu 16 (N:=some 19) (zl 29 131071) HT_.out rfl rfl ?_
   refine take_ (i:=17) (N:=some 20) (v:=?_) (a' := ?_) (zl 29 262143) rfl rfl (take_ofW HT_.out HW_.out zb7) (fun _ _ _ h=>h) (Or.inl ⟨zb45,?_⟩) hHeld ?_ ?_
   rotate_left
   ·rintro w' ⟨s0,s1⟩;go_simp;with_reducible rfl
   rotate_left
   ·simp only [Act.put,zqA,zqB,zqC,i64_w,i32_w];rfl
   refine one_ (i:=18) (N:=some 21) (zl 29 524287) rfl rfl (one_of HT_.out zb7) zb47 (fun K hK=>?_)
   refine goes_ Tryz.func114 zb7 rfl #[.string a0_1] zb45 rfl rfl zb1 ?_
   with_reducible refine (sign_Value.calls a0_1 false _ A6.out).mono ?_
   rintro e w' ⟨rfl,⟨nd,rfl⟩⟩
   refine ⟨_,rfl,?_⟩
   refine hK.out _ _ ⟨(blk_cell BK20.out 0).trans rfl,(blk_cell BK20.out 1).trans rfl⟩ (fun hHeld=>?_)
   clear hK K
   refine norm_ (a' := ?_) ?_ ?_
   rotate_left
   ·show Act.put _ (some 21) _=_
    simp only [Act.put,zqA,zqB,zqC,i64_w,i32_w]
    rfl
   refine zpu 19 (N:=some 22) (zl 29 1048575) HT_.out rfl rfl ?_
   refine zpu 20 (N:=some 23) (zl 29 2097151) HT_.out rfl rfl ?_
   refine pure_ (i:=21) (N:=some 24) (v:=undef) (a' := ?_) (zl 29 4194303) rfl rfl (any_of HT_.out zb7) (fun _ _ _ h=>h) (Or.inr ⟨zb45,rfl⟩) ?_ ?_
   rotate_left
   ·simp only [Act.put,zqA,zqB,zqC,i64_w,i32_w];rfl
   refine pure_ (i:=22) (N:=some 25) (v:=undef) (a' := ?_) (zl 29 8388607) rfl rfl (any_of HT_.out zb7) (fun _ _ _ h=>h) (Or.inr ⟨zb45,rfl⟩) ?_ ?_
   rotate_left
   ·simp only [Act.put,zqA,zqB,zqC,i64_w,i32_w];rfl
   refine pure_ (i:=23) (N:=some 26) (v:=undef) (a' := ?_) (zl 29 16777215) rfl rfl (any_of HT_.out zb7) (fun _ _ _ h=>h) (Or.inr ⟨zb45,rfl⟩) ?_ ?_
   rotate_left
   ·simp only [Act.put,zqA,zqB,zqC,i64_w,i32_w];rfl
   refine pure_ (i:=24) (N:=some 27) (v:=undef) (a' := ?_) (zl 29 33554431) rfl rfl (any_of HT_.out zb7) (fun _ _ _ h=>h) (Or.inr ⟨zb45,rfl⟩) ?_ ?_
   rotate_left
   ·simp only [Act.put,zqA,zqB,zqC,i64_w,i32_w];rfl
   refine pure_ (i:=25) (N:=some 28) (v:=undef) (a' := ?_) (zl 29 67108863) rfl rfl (any_of HT_.out zb7) (fun _ _ _ h=>h) (Or.inr ⟨zb45,rfl⟩) ?_ ?_
   rotate_left
   ·simp only [Act.put,zqA,zqB,zqC,i64_w,i32_w];rfl
   refine pure_ (i:=26) (N:=some 29) (v:=undef) (a' := ?_) (zl 29 134217727) rfl rfl (any_of HT_.out zb7) (fun _ _ _ h=>h) (Or.inr ⟨zb45,rfl⟩) ?_ ?_
   rotate_left
   ·simp only [Act.put,zqA,zqB,zqC,i64_w,i32_w];rfl
   refine zpu 27 (N:=some 30) (zl 29 268435455) HT_.out rfl rfl ?_
   refine zpu 28 (N:=some 2) (zl 29 536870911) HT_.out rfl rfl ?_
   refine done_ (done_of HT_.out zb7) ?_
   try go_wp2
   go_ret
   exact ⟨zb2,zb67⟩
  subst c7
  rw [if_pos rfl] at H
  replace H:=Option.bind_eq_some_iff.mp H
  obtain ⟨t21,A80,H⟩:=H
  try dsimp only at H
  have A8:=Aside0.mk A80
  clear A80
  obtain rfl:=Option.some.inj H
  go_enter Tryz.func154,Tryz.ntmps154
  try go_wp2_with (first|((with_reducible refine gate_dst (N:=1) rfl ?_);(try (refine gate_guard zb45 ?_;dsimp only));refine box_event rfl (N:=1) rfl (cs:=#[.string a0_0,.string a0_1]) (t:=36) zS ?_;intro gb20 hg w9 hbox hb;have GW20:=zG hg zb0;have GE20:=GW20;have BK20:=Aside0.mk hbox;replace HB:=Aside0.mk (below_step zb0 hb);clear hb hbox hg))
  replace BK20:=Aside0.mk (blk_drew BK20.out)
  replace HB:=Aside0.mk (below_drew1 HB.out)
  refine start_ (n:=29) (S:=fun w' => w'.cell? ⟨gb20,0,none⟩=some (.string a0_0)∧w'.cell? ⟨gb20,1,none⟩=some (.string a0_1)) (ds:=[]) (zl 29 0) zb7 rfl rfl ⟨(blk_cell BK20.out 0).trans rfl,(blk_cell BK20.out 1).trans rfl⟩ (fun hHeld=>?_);refine with_tabW field_right.tab1 field_right.bits1 (fun HT_ HW_=>?_)
  generalize w9.drew=w10 at BK20 HB hHeld ⊢
  refine zpu 0 (N:=some 3) (zl 29 1) HT_.out rfl rfl ?_
  refine take_ (i:=1) (N:=some 4) (v:=?_) (a' := ?_) (zl 29 3) rfl rfl (take_ofW HT_.out HW_.out zb7) (fun _ _ _ h=>h) (Or.inl ⟨zb45,?_⟩) hHeld ?_ ?_
  rotate_left
  ·rintro w' ⟨s0,s1⟩;go_simp;with_reducible rfl
  rotate_left
  ·simp only [Act.put,zqA,zqB,zqC,i64_w,i32_w];rfl
  refine zpu 2 (N:=some 5) (zl 29 7) HT_.out rfl rfl ?_
  refine zpu 3 (N:=some 6) (zl 29 15) HT_.out rfl rfl ?_
  refine zpu 4 (N:=some 7) (zl 29 31) HT_.out rfl rfl ?_
  refine zpu 5 (N:=some 8) (zl 29 63) HT_.out rfl rfl ?_
  refine take_ (i:=6) (N:=some 9) (v:=?_) (a' := ?_) (zl 29 127) rfl rfl (take_ofW HT_.out HW_.out zb7) (fun _ _ _ h=>h) (Or.inl ⟨zb45,?_⟩) hHeld ?_ ?_
  rotate_left
  ·rintro w' ⟨s0,s1⟩;go_simp;with_reducible rfl
  rotate_left
  ·simp only [Act.put,zqA,zqB,zqC,i64_w,i32_w];rfl
  refine one_ (i:=7) (N:=some 10) (zl 29 255) rfl rfl (one_of HT_.out zb7) zb47 (fun K hK=>?_)
  refine goes_ Tryz.func117 zb7 rfl #[.string a0_0] zb45 rfl rfl zb1 ?_
  with_reducible refine (sign_Token.calls a0_0 true _ A3.out).mono ?_
  rintro e w' ⟨rfl,⟨nd,rfl⟩⟩
  refine ⟨_,rfl,?_⟩
  refine hK.out _ _ ⟨(blk_cell BK20.out 0).trans rfl,(blk_cell BK20.out 1).trans rfl⟩ (fun hHeld=>?_)
  clear hK K
  refine norm_ (a' := ?_) ?_ ?_
  rotate_left
  ·show Act.put _ (some 10) _=_
   simp only [Act.put,zqA,zqB,zqC,i64_w,i32_w]
   rfl
  refine zpu 8 (N:=some 11) (zl 29 511) HT_.out rfl rfl ?_
  refine zpu 9 (N:=some 12) (zl 29 1023) HT_.out rfl rfl ?_
  refine zpu 10 (N:=some 13) (zl 29 2047) HT_.out rfl rfl ?_
  refine take_ (i:=11) (N:=some 14) (v:=?_) (a' := ?_) (zl 29 4095) rfl rfl (take_ofW HT_.out HW_.out zb7) (fun _ _ _ h=>h) (Or.inl ⟨zb45,?_⟩) hHeld ?_ ?_
  rotate_left
  ·rintro w' ⟨s0,s1⟩;go_simp;with_reducible rfl
  rotate_left
  ·simp only [Act.put,zqA,zqB,zqC,i64_w,i32_w];rfl
  refine zpu 12 (N:=some 15) (zl 29 8191) HT_.out rfl rfl ?_
  refine zpu 13 (N:=some 16) (zl 29 16383) HT_.out rfl rfl ?_
  refine zpu 14 (N:=some 17) (zl 29 32767) HT_.out rfl rfl ?_
  refine zpu 15 (N:=some 18) (zl 29 65535) HT_.out rfl rfl ?_
  refine zpu 16 (N:=some 19) (zl 29 131071) HT_.out rfl rfl ?_
  refine take_ (i:=17) (N:=some 20) (v:=?_) (a' := ?_) (zl 29 262143) rfl rfl (take_ofW HT_.out HW_.out zb7) (fun _ _ _ h=>h) (Or.inl ⟨zb45,?_⟩) hHeld ?_ ?_
  rotate_left
  ·rintro w' ⟨s0,s1⟩;go_simp;with_reducible rfl
  rotate_left
  ·simp only [Act.put,zqA,zqB,zqC,i64_w,i32_w];rfl
  refine one_ (i:=18) (N:=some 21) (zl 29 524287) rfl rfl (one_of HT_.out zb7) zb47 (fun K hK=>?_)
  refine goes_ Tryz.func114 zb7 rfl #[.string a0_1] zb45 rfl rfl zb1 ?_
  with_reducible refine (sign_Value.calls a0_1 true _ A6.out).mono ?_
  rintro e w' ⟨rfl,⟨nd,rfl⟩⟩
  refine ⟨_,rfl,?_⟩
  refine hK.out _ _ ⟨(blk_cell BK20.out 0).trans rfl,(blk_cell BK20.out 1).trans rfl⟩ (fun hHeld=>?_)
  clear hK K
  refine norm_ (a' := ?_) ?_ ?_
  rotate_left
  ·show Act.put _ (some 21) _=_
   simp only [Act.put,zqA,zqB,zqC,i64_w,i32_w]
   rfl
  refine zpu 19 (N:=some 22) (zl 29 1048575) HT_.out rfl rfl ?_
  refine zpu 20 (N:=some 23) (zl 29 2097151) HT_.out rfl rfl ?_
  refine zpu 21 (N:=some 24) (zl 29 4194303) HT_.out rfl rfl ?_
  refine zpu 24 (N:=some 27) (zl 29 20971519) HT_.out rfl rfl ?_
  refine take_ (i:=22) (N:=some 25) (v:=?_) (a' := ?_) (zl 29 25165823) rfl rfl (take_ofW HT_.out HW_.out zb7) (fun _ _ _ h=>h) (Or.inl ⟨zb45,?_⟩) hHeld ?_ ?_
  rotate_left
  ·rintro w' ⟨s0,s1⟩;go_simp;with_reducible rfl
  rotate_left
  ·simp only [Act.put,zqA,zqB,zqC,i64_w,i32_w];rfl
  refine take_ (i:=25) (N:=some 28) (v:=?_) (a' := ?_) (zl 29 58720255) rfl rfl (take_ofW HT_.out HW_.out zb7) (fun _ _ _ h=>h) (Or.inl ⟨zb45,?_⟩) hHeld ?_ ?_
  rotate_left
  ·rintro w' ⟨s0,s1⟩;go_simp;with_reducible rfl
  rotate_left
  ·simp only [Act.put,zqA,zqB,zqC,i64_w,i32_w];rfl
  refine one_ (i:=23) (N:=some 26) (zl 29 67108863) rfl rfl (one_of HT_.out zb7) zb47 (fun K hK=>?_)
  refine goes_ Tryz.func153 zb7 rfl #[.string a0_1] zb45 rfl rfl zb1 ?_
  with_reducible refine (sign_Trim.calls a0_1 t21 _ A8.out).mono ?_
  rintro e w11 ⟨rfl,hb⟩
  refine ⟨_,rfl,?_⟩
  replace BK20:=Aside0.mk (blk_below (g:=gb20) (o:=.cells #[.string a0_0,.string a0_1] 36 (0,0)) (by (with_reducible repeat (first|refine blk_drewN ?_ _|refine blk_drew ?_|refine blk_alloc ?_ _));exact BK20.out) hb)
  replace HB:=Aside0.mk (below_step zb67 hb)
  (try clear hb)
  (try clear hb2)
  (try clear hk)
  (try clear hi)
  refine hK.out _ _ ⟨(blk_cell BK20.out 0).trans rfl,(blk_cell BK20.out 1).trans rfl⟩ (fun hHeld=>?_)
  clear hK K
  refine norm_ (a' := ?_) ?_ ?_
  rotate_left
  ·show Act.put _ (some 26) _=_
   simp only [Act.put,zqA,zqB,zqC,i64_w,i32_w]
   rfl
  refine zpu 26 (N:=some 29) (zl 29 134217727) HT_.out rfl rfl ?_
  refine zpu 27 (N:=some 30) (zl 29 268435455) HT_.out rfl rfl ?_
  refine zpu 28 (N:=some 2) (zl 29 536870911) HT_.out rfl rfl ?_
  refine done_ (done_of HT_.out zb7) ?_
  try go_wp2
  go_ret
  exact ⟨zb2,zb67⟩
 ·rw [if_neg c5] at H
  have c5b0:=decide_eq_false c5
  have c5b1:decide (a0_1.size ≤ 1000)=false:=decide_eq_false zb17
  clear c5
  obtain rfl:=Option.some.inj H
  go_enter Tryz.func154,Tryz.ntmps154
  try go_wp2_with (first|((with_reducible refine gate_dst (N:=1) rfl ?_);(try (refine gate_guard zb45 ?_;dsimp only));refine box_event rfl (N:=1) rfl (cs:=#[.string a0_0,.string a0_1]) (t:=36) zS ?_;intro gb20 hg w14 hbox hb;have GW20:=zG hg zb0;have GE20:=GW20;have BK20:=Aside0.mk hbox;replace HB:=Aside0.mk (below_step zb0 hb);clear hb hbox hg))
  replace BK20:=Aside0.mk (blk_drew BK20.out)
  replace HB:=Aside0.mk (below_drew1 HB.out)
  refine start_ (n:=29) (S:=fun w' => w'.cell? ⟨gb20,0,none⟩=some (.string a0_0)∧w'.cell? ⟨gb20,1,none⟩=some (.string a0_1)) (ds:=[]) (zl 29 0) zb7 rfl rfl ⟨(blk_cell BK20.out 0).trans rfl,(blk_cell BK20.out 1).trans rfl⟩ (fun hHeld=>?_);refine with_tabW field_right.tab1 field_right.bits1 (fun HT_ HW_=>?_)
  generalize w14.drew=w15 at BK20 HB hHeld ⊢
  refine zpu 0 (N:=some 3) (zl 29 1) HT_.out rfl rfl ?_
  refine take_ (i:=1) (N:=some 4) (v:=?_) (a' := ?_) (zl 29 3) rfl rfl (take_ofW HT_.out HW_.out zb7) (fun _ _ _ h=>h) (Or.inl ⟨zb45,?_⟩) hHeld ?_ ?_
  rotate_left
  ·rintro w' ⟨s0,s1⟩;go_simp;with_reducible rfl
  rotate_left
  ·simp only [Act.put,zqA,zqB,zqC,i64_w,i32_w];rfl
  refine zpu 2 (N:=some 5) (zl 29 7) HT_.out rfl rfl ?_
  refine zpu 3 (N:=some 6) (zl 29 15) HT_.out rfl rfl ?_
  refine zpu 4 (N:=some 7) (zl 29 31) HT_.out rfl rfl ?_
  refine zpu 5 (N:=some 8) (zl 29 63) HT_.out rfl rfl ?_
  refine take_ (i:=6) (N:=some 9) (v:=?_) (a' := ?_) (zl 29 127) rfl rfl (take_ofW HT_.out HW_.out zb7) (fun _ _ _ h=>h) (Or.inl ⟨zb45,?_⟩) hHeld ?_ ?_
  rotate_left
  ·rintro w' ⟨s0,s1⟩;go_simp;with_reducible rfl
  rotate_left
  ·simp only [Act.put,zqA,zqB,zqC,i64_w,i32_w];rfl
  refine one_ (i:=7) (N:=some 10) (zl 29 255) rfl rfl (one_of HT_.out zb7) zb47 (fun K hK=>?_)
  refine goes_ Tryz.func117 zb7 rfl #[.string a0_0] zb45 rfl rfl zb1 ?_
  with_reducible refine (sign_Token.calls a0_0 true _ A3.out).mono ?_
  rintro e w' ⟨rfl,⟨nd,rfl⟩⟩
  refine ⟨_,rfl,?_⟩
  refine hK.out _ _ ⟨(blk_cell BK20.out 0).trans rfl,(blk_cell BK20.out 1).trans rfl⟩ (fun hHeld=>?_)
  clear hK K
  refine norm_ (a' := ?_) ?_ ?_
  rotate_left
  ·show Act.put _ (some 10) _=_
   simp only [Act.put,zqA,zqB,zqC,i64_w,i32_w]
   rfl
  refine zpu 8 (N:=some 11) (zl 29 511) HT_.out rfl rfl ?_
  refine zpu 9 (N:=some 12) (zl 29 1023) HT_.out rfl rfl ?_
  refine zpu 10 (N:=some 13) (zl 29 2047) HT_.out rfl rfl ?_
  refine take_ (i:=11) (N:=some 14) (v:=?_) (a' := ?_) (zl 29 4095) rfl rfl (take_ofW HT_.out HW_.out zb7) (fun _ _ _ h=>h) (Or.inl ⟨zb45,?_⟩) hHeld ?_ ?_
  rotate_left
  ·rintro w' ⟨s0,s1⟩;go_simp;with_reducible rfl
  rotate_left
  ·simp only [Act.put,zqA,zqB,zqC,i64_w,i32_w];rfl
  refine zpu 12 (N:=some 15) (zl 29 8191) HT_.out rfl rfl ?_
  refine zpu 13 (N:=some 16) (zl 29 16383) HT_.out rfl rfl ?_
  refine zpu 14 (N:=some 17) (zl 29 32767) HT_.out rfl rfl ?_
  refine zpu 15 (N:=some 18) (zl 29 65535) HT_.out rfl rfl ?_
  refine pure_ (i:=16) (N:=some 19) (v:=undef) (a' := ?_) (zl 29 131071) rfl rfl (any_of HT_.out zb7) (fun _ _ _ h=>h) (Or.inr ⟨zb45,rfl⟩) ?_ ?_
  rotate_left
  ·simp only [Act.put,zqA,zqB,zqC,i64_w,i32_w];rfl
  refine pure_ (i:=17) (N:=some 20) (v:=undef) (a' := ?_) (zl 29 262143) rfl rfl (any_of HT_.out zb7) (fun _ _ _ h=>h) (Or.inr ⟨zb45,rfl⟩) ?_ ?_
  rotate_left
  ·simp only [Act.put,zqA,zqB,zqC,i64_w,i32_w];rfl
  refine pure_ (i:=18) (N:=some 21) (v:=undef) (a' := ?_) (zl 29 524287) rfl rfl (any_of HT_.out zb7) (fun _ _ _ h=>h) (Or.inr ⟨zb45,rfl⟩) ?_ ?_
  rotate_left
  ·simp only [Act.put,zqA,zqB,zqC,i64_w,i32_w];rfl
  refine zpu 19 (N:=some 22) (zl 29 1048575) HT_.out rfl rfl ?_
  refine zpu 20 (N:=some 23) (zl 29 2097151) HT_.out rfl rfl ?_
  refine pure_ (i:=21) (N:=some 24) (v:=undef) (a' := ?_) (zl 29 4194303) rfl rfl (any_of HT_.out zb7) (fun _ _ _ h=>h) (Or.inr ⟨zb45,rfl⟩) ?_ ?_
  rotate_left
  ·simp only [Act.put,zqA,zqB,zqC,i64_w,i32_w];rfl
  refine pure_ (i:=22) (N:=some 25) (v:=undef) (a' := ?_) (zl 29 8388607) rfl rfl (any_of HT_.out zb7) (fun _ _ _ h=>h) (Or.inr ⟨zb45,rfl⟩) ?_ ?_
  rotate_left
  ·simp only [Act.put,zqA,zqB,zqC,i64_w,i32_w];rfl
  refine pure_ (i:=23) (N:=some 26) (v:=undef) (a' := ?_) (zl 29 16777215) rfl rfl (any_of HT_.out zb7) (fun _ _ _ h=>h) (Or.inr ⟨zb45,rfl⟩) ?_ ?_
  rotate_left
  ·simp only [Act.put,zqA,zqB,zqC,i64_w,i32_w];rfl
  refine pure_ (i:=24) (N:=some 27) (v:=undef) (a' := ?_) (zl 29 33554431) rfl rfl (any_of HT_.out zb7) (fun _ _ _ h=>h) (Or.inr ⟨zb45,rfl⟩) ?_ ?_
  rotate_left
  ·simp only [Act.put,zqA,zqB,zqC,i64_w,i32_w];rfl
  refine pure_ (i:=25) (N:=some 28) (v:=undef) (a' := ?_) (zl 29 67108863) rfl rfl (any_of HT_.out zb7) (fun _ _ _ h=>h) (Or.inr ⟨zb45,rfl⟩) ?_ ?_
  rotate_left
  ·simp only [Act.put,zqA,zqB,zqC,i64_w,i32_w];rfl
  refine pure_ (i:=26) (N:=some 29) (v:=undef) (a' := ?_) (zl 29 134217727) rfl rfl (any_of HT_.out zb7) (fun _ _ _ h=>h) (Or.inr ⟨zb45,rfl⟩) ?_ ?_
  rotate_left
  ·simp only [Act.put,zqA,zqB,zqC,i64_w,i32_w];rfl
  refine zpu 27 (N:=some 30) (zl 29 268435455) HT_.out rfl rfl ?_
  refine zpu 28 (N:=some 2) (zl 29 536870911) HT_.out rfl rfl ?_
  refine done_ (done_of HT_.out zb7) ?_
  try go_wp2
  go_ret
  exact ⟨zb2,zb67⟩
def field_Right_1.f (a0_0:ByteArray) (a0_1:ByteArray):Option (Bool):=(field_right.f a0_0 a0_1).bind fun t184=>(some (!t184))
set_option maxHeartbeats 8000000 in
set_option maxRecDepth 100000 in
theorem field_Right_1.calls (a0_0:ByteArray) (a0_1:ByteArray) (r:Bool) (w:World) (h:field_Right_1.f a0_0 a0_1=some r) :
 Calls Tryz.prog 183 #[.agg #[.string a0_0,.string a0_1]] w fun e w' => e = .returned (.bool r)∧Below w.heap.size w w' := by
 have hu36:=Tryz.underlying36
 have HB:=Aside0.mk (Below.refl w.heap.size w)
 unfold field_Right_1.f at h
 have H:=h
 clear h
 replace H:=Option.bind_eq_some_iff.mp H
 obtain ⟨t184,A20,H⟩:=H
 try dsimp only at H
 have A2:=Aside0.mk A20
 clear A20
 obtain rfl:=Option.some.inj H
 go_enter Tryz.func183,Tryz.ntmps183
 go_wp2_with (first|((with_reducible refine gate_dst (N:=1) rfl ?_);refine box_event rfl (N:=1) rfl (cs:=#[.string a0_0,.string a0_1]) (t:=36) zS ?_;intro gb183 hg w3 hbox hb;have GW183:=zG hg zb0;have GE183:=GW183;have BK183:=Aside0.mk hbox;replace HB:=Aside0.mk (below_step zb0 hb);clear hb hbox hg;obtain ⟨hcz4_0,hcz4_1,hfz4_0,hfz4_1⟩:=zq2 BK183.out)|((with_reducible refine gate_callee (f:=154) rfl ?_);refine goesL_ (some 4) rfl rfl Tryz.func154 zb7 rfl #[.agg #[.string a0_0,.string a0_1]] rfl zb1 ?_;(with_reducible refine (field_right.calls a0_0 a0_1 t184 _ A2.out).mono ?_);rintro e w5 ⟨rfl,hb⟩;(try clear A2);refine ⟨_,rfl,?_⟩;replace BK183:=Aside0.mk (blk_below (g:=gb183) (o:=.cells #[.string a0_0,.string a0_1] 36 (0,0)) (by (with_reducible repeat (first|refine blk_drewN ?_ _|refine blk_drew ?_|refine blk_alloc ?_ _));exact BK183.out) hb);replace HB:=Aside0.mk (below_step zb134 hb);(try clear hb)))
 go_ret
 exact ⟨zb2,zb134⟩
def field_Right.f (l0:List (S36)):Option Bool:=if (l0.length:Int) ≤ 40 then (anyO (fun f=>field_Right_1.f f.f0 f.f1) l0).bind fun b=>some (!b) else some false
set_option maxHeartbeats 8000000 in
set_option maxRecDepth 100000 in
theorem field_Right.calls (A0:Option Addr) (c0:Nat) (l0:List (S36)) (r:Bool) (w:World) (hr0:Kd.C k36 w A0 l0.length l0) (hc0:l0.length ≤ c0) (h:field_Right.f l0=some r) :
 Calls Tryz.prog 150 #[.slice A0 l0.length c0] w fun e w' => e = .returned (.bool r)∧Below w.heap.size w w' := by
 have HR:=Aside0.mk hr0
 have HC:=Aside0.mk hc0
 have EG:=Aside0.mk (enters_of Tryz.func183 zb7 rfl : ∀ args w,(callFunc 183 args).run Tryz.prog w = .ok (.enter 183 args) w)
 unfold field_Right.f at h
 clear hr0 hc0
 have HQ:Aside0 (TestOf_Field 183 #[] (fun f=>field_Right_1.f f.f0 f.f1) w):=⟨fun W x b _ hq=>by
  show Calls Tryz.prog 183 #[.agg #[.string x.f0,.string x.f1]] W _
  exact field_Right_1.calls x.f0 x.f1 b W hq⟩
 by_cases c1:(l0.length:Int) ≤ 40;rotate_left
 ·rw [if_neg c1] at h
  injection h with h
  subst h
  have d1:decide ((l0.length:Int) ≤ 40)=false:=decide_eq_false zb17
  have d2:decide (l0.length ≤ 40)=false:=decide_eq_false zb17
  have d3:((l0.length:Int) ≤ 40)=False:=eq_false zb17
  have d4:(l0.length ≤ 40)=False:=eq_false zb17
  clear c1
  go_enter Tryz.func150,Tryz.ntmps150
  go_wp2
  go_ret
  exact ⟨zb46,Below.refl _ _⟩
 rw [if_pos c1] at h
 obtain ⟨b,hb,h⟩:=Option.bind_eq_some_iff.1 h
 injection h with h
 subst h
 have HA:=Aside0.mk hb
 clear hb
 have d1:decide ((l0.length:Int) ≤ 40)=true:=decide_eq_true zb17
 have d2:decide (l0.length ≤ 40)=true:=decide_eq_true zb17
 have d3:((l0.length:Int) ≤ 40)=True:=eq_true zb17
 have d4:(l0.length ≤ 40)=True:=eq_true zb17
 clear c1
 go_enter Tryz.func150,Tryz.ntmps150
 go_wp2_with (first
  | (go_at_call 182;(refine (slices_ContainsFunc_Field.callsOf (fun f=>field_Right_1.f f.f0 f.f1) 183 #[] EG.out A0 c0 l0 _ _ HR.out HC.out HQ.out HA.out).mono ?_);rintro e w1 ⟨rfl,hb1⟩))
 go_ret
 exact ⟨zb46,hb1⟩
def conf_set.f (a0_0:ByteArray) (a0_1:ByteArray):Option (Bool):=(field_Right.f (([(⟨a0_0,a0_1⟩:S36)]:List (S36)))).bind fun t806=>(if t806=true then ((conf_Kept.f a0_0).bind fun t807=>(some (!t807))) else (some false))
set_option maxHeartbeats 8000000 in
set_option maxRecDepth 100000 in
theorem conf_set.calls (a0_0:ByteArray) (a0_1:ByteArray) (r:Bool) (w:World) (h:conf_set.f a0_0 a0_1=some r) :
 Calls Tryz.prog 100 #[.agg #[.string a0_0,.string a0_1]] w fun e w' => e = .returned (.bool r)∧Below w.heap.size w w' := by
 have hu36:=Tryz.underlying36
 have HB:=Aside0.mk (Below.refl w.heap.size w)
 unfold conf_set.f at h
 have H:=h
 clear h
 obtain ⟨y803,hy803⟩ : ∃ y_:List (S36),y_=(([(⟨a0_0,a0_1⟩:S36)]:List (S36))):=⟨_,rfl⟩
 replace H:((field_Right.f y803).bind fun t806=>(if t806=true then ((conf_Kept.f a0_0).bind fun t807=>(some (!t807))) else (some false)))=some r:=by first|(rw [hy803];with_reducible exact H)|(have H2_:=(Option.bind_some _ _).symm.trans H;rw [hy803];with_reducible exact H2_)|(have H2_:=(Option.bind_some _ _).symm.trans H;with_reducible exact H2_)|with_reducible exact H|(rw [hy803];exact H)|exact H
 have Ny803:=Aside0.mk hy803
 clear hy803
 replace H:=Option.bind_eq_some_iff.mp H
 obtain ⟨t806,A20,H⟩:=H
 try dsimp only at H
 have A2:=Aside0.mk A20
 clear A20
 by_cases c3:t806=true;rotate_left
 ·replace c3:=Bool.eq_false_iff.mpr c3
  subst c3
  rw [if_neg (show ¬ (false=true) by decide)] at H
  obtain rfl:=Option.some.inj H
  go_enter Tryz.func100,Tryz.ntmps100
  go_wp2_with (first|((with_reducible refine gate_dst (N:=1) rfl ?_);refine box_event rfl (N:=1) rfl (cs:=#[.string a0_0,.string a0_1]) (t:=36) zS ?_;intro gb802 hg w13 hbox hb;have GW802:=zG hg zb0;have GE802:=GW802;have BK802:=Aside0.mk hbox;replace HB:=Aside0.mk (below_step zb0 hb);clear hb hbox hg;obtain ⟨hcz14_0,hcz14_1,hfz14_0,hfz14_1⟩:=zq2 BK802.out)|((with_reducible refine gate_dst (N:=4) rfl ?_);refine Kd.R_lit k36 _ 36 ?hg (N:=4) ?hd (xs:=([(⟨a0_0,a0_1⟩:S36)]:List (S36))) (inner:=[.string a0_0,.string a0_1]) (ok:=fun _=>True) (okp:=fun _=>True) ?hr ?hp (fun _ hk=>hk) trivial (Below.refl _ _) (Nat.le_refl _) zb44 ?_;(case hd=>rfl);(case hg=>rfl);(case hr=>first|(go_simp;done)|(go_simp;rfl));(case hp=>exact (Reps.c2 (show Kd.M k36 _ _ _ (⟨a0_0,a0_1⟩:S36) [.string a0_0,.string a0_1] from (k36_mkM _ _ _ (⟨a0_0,a0_1⟩:S36) )) (Reps.none _ _)));intro v804 w15 ho16 hb hg_ hnew_;clear hg_ hnew_;(first|rw [← Ny803.out] at ho16|(simp only [Int.reduceToNat] at ho16;rw [← Ny803.out] at ho16));have HO805:=Aside0.mk (Kd.R_lower (Kd.R_newB ho16 (g:=gb802) (o:=.cells #[.string a0_0,.string a0_1] 36 (0,0)) zb75) (below_size zb36));replace BK802:=Aside0.mk (blk_below (g:=gb802) (o:=.cells #[.string a0_0,.string a0_1] 36 (0,0)) zb75 hb);replace HB:=Aside0.mk (below_step zb36 hb);clear hb ho16;obtain ⟨Ao17,co17,eo17⟩:=Kd.R_slice HO805.out;subst eo17)|((with_reducible refine gate_callee (f:=150) rfl ?_);refine goesL_ (some 5) rfl rfl Tryz.func150 zb7 rfl #[.slice Ao17 y803.length co17] rfl zb1 ?_;(with_reducible refine (field_Right.calls _ _ y803 false _ ?side1 ?side2 A2.out).mono ?_);(case side1=>exact zb132);(case side2=>exact (Kd.R_reads' HO805.out).2.1);rintro e w18 ⟨rfl,hb⟩;(try clear A2);refine ⟨_,rfl,?_⟩;replace HO805:=Aside0.mk (Kd.R_below zb140 hb);replace BK802:=Aside0.mk (blk_below (g:=gb802) (o:=.cells #[.string a0_0,.string a0_1] 36 (0,0)) zb75 hb);replace HB:=Aside0.mk (below_step zb36 hb);(try clear hb)))
  go_ret
  exact ⟨zb2,zb36⟩
 subst c3
 rw [if_pos rfl] at H
 replace H:=Option.bind_eq_some_iff.mp H
 obtain ⟨t807,A40,H⟩:=H
 try dsimp only at H
 have A4:=Aside0.mk A40
 clear A40
 obtain rfl:=Option.some.inj H
 go_enter Tryz.func100,Tryz.ntmps100
 go_wp2_with (first|((with_reducible refine gate_dst (N:=1) rfl ?_);refine box_event rfl (N:=1) rfl (cs:=#[.string a0_0,.string a0_1]) (t:=36) zS ?_;intro gb802 hg w5 hbox hb;have GW802:=zG hg zb0;have GE802:=GW802;have BK802:=Aside0.mk hbox;replace HB:=Aside0.mk (below_step zb0 hb);clear hb hbox hg;obtain ⟨hcz6_0,hcz6_1,hfz6_0,hfz6_1⟩:=zq2 BK802.out)|((with_reducible refine gate_dst (N:=4) rfl ?_);refine Kd.R_lit k36 _ 36 ?hg (N:=4) ?hd (xs:=([(⟨a0_0,a0_1⟩:S36)]:List (S36))) (inner:=[.string a0_0,.string a0_1]) (ok:=fun _=>True) (okp:=fun _=>True) ?hr ?hp (fun _ hk=>hk) trivial (Below.refl _ _) (Nat.le_refl _) zb44 ?_;(case hd=>rfl);(case hg=>rfl);(case hr=>first|(go_simp;done)|(go_simp;rfl));(case hp=>exact (Reps.c2 (show Kd.M k36 _ _ _ (⟨a0_0,a0_1⟩:S36) [.string a0_0,.string a0_1] from (k36_mkM _ _ _ (⟨a0_0,a0_1⟩:S36) )) (Reps.none _ _)));intro v804 w7 ho8 hb hg_ hnew_;clear hg_ hnew_;(first|rw [← Ny803.out] at ho8|(simp only [Int.reduceToNat] at ho8;rw [← Ny803.out] at ho8));have HO805:=Aside0.mk (Kd.R_lower (Kd.R_newB ho8 (g:=gb802) (o:=.cells #[.string a0_0,.string a0_1] 36 (0,0)) zb75) (below_size zb36));replace BK802:=Aside0.mk (blk_below (g:=gb802) (o:=.cells #[.string a0_0,.string a0_1] 36 (0,0)) zb75 hb);replace HB:=Aside0.mk (below_step zb36 hb);clear hb ho8;obtain ⟨Ao9,co9,eo9⟩:=Kd.R_slice HO805.out;subst eo9)|((with_reducible refine gate_callee (f:=150) rfl ?_);refine goesL_ (some 5) rfl rfl Tryz.func150 zb7 rfl #[.slice Ao9 y803.length co9] rfl zb1 ?_;(with_reducible refine (field_Right.calls _ _ y803 true _ ?side1 ?side2 A2.out).mono ?_);(case side1=>exact zb132);(case side2=>exact (Kd.R_reads' HO805.out).2.1);rintro e w10 ⟨rfl,hb⟩;(try clear A2);refine ⟨_,rfl,?_⟩;replace HO805:=Aside0.mk (Kd.R_below zb140 hb);replace BK802:=Aside0.mk (blk_below (g:=gb802) (o:=.cells #[.string a0_0,.string a0_1] 36 (0,0)) zb75 hb);replace HB:=Aside0.mk (below_step zb36 hb);(try clear hb);obtain ⟨hcz11_0,hcz11_1,hfz11_0,hfz11_1⟩:=zq2 BK802.out)|(go_at_call 33;(with_reducible refine (conf_Kept.calls a0_0 t807 _ A4.out).mono ?_);rintro e w12 ⟨rfl,hb⟩;(try clear A4);replace HO805:=Aside0.mk (Kd.R_below zb140 hb);replace BK802:=Aside0.mk (blk_below (g:=gb802) (o:=.cells #[.string a0_0,.string a0_1] 36 (0,0)) zb75 hb);replace HB:=Aside0.mk (below_step zb36 hb);(try clear hb)))
 go_ret
 exact ⟨zb2,zb36⟩
def conf_up_1.f (a0:ByteArray):Option (Bool):=(sign_Target.f a0).bind fun t173=>(if t173=true then (some (decide ((a0.size:Int) > 40))) else (some true))
set_option maxHeartbeats 8000000 in
set_option maxRecDepth 100000 in
theorem conf_up_1.calls (a0:ByteArray) (r:Bool) (w:World) (h:conf_up_1.f a0=some r) :
 Calls Tryz.prog 148 #[.string a0] w fun e w' => e = .returned (.bool r)∧Drawn0 w w' := by
 unfold conf_up_1.f at h
 have H:=h
 clear h
 replace H:=Option.bind_eq_some_iff.mp H
 obtain ⟨t173,A20,H⟩:=H
 try dsimp only at H
 have A2:=Aside0.mk A20
 clear A20
 by_cases c3:t173=true
 ·subst c3
  rw [if_pos rfl] at H
  obtain rfl:=Option.some.inj H
  go_enter Tryz.func148,Tryz.ntmps148
  go_wp2_with (first|((with_reducible refine gate_callee (f:=149) rfl ?_);refine goesL_ (some 4) rfl rfl Tryz.func149 zb7 rfl #[.string a0] rfl zb1 ?_;(with_reducible refine (sign_Target.calls a0 true _ A2.out).mono ?_);rintro e w' ⟨rfl,⟨nd,rfl⟩⟩;(try clear A2);refine ⟨_,rfl,?_⟩))
  go_ret
  exact ⟨zb5,zb9⟩
 replace c3:=Bool.eq_false_iff.mpr c3
 subst c3
 rw [if_neg (show ¬ (false=true) by decide)] at H
 obtain rfl:=Option.some.inj H
 go_enter Tryz.func148,Tryz.ntmps148
 go_wp2_with (first|((with_reducible refine gate_callee (f:=149) rfl ?_);refine goesL_ (some 4) rfl rfl Tryz.func149 zb7 rfl #[.string a0] rfl zb1 ?_;(with_reducible refine (sign_Target.calls a0 false _ A2.out).mono ?_);rintro e w' ⟨rfl,⟨nd,rfl⟩⟩;(try clear A2);refine ⟨_,rfl,?_⟩))
 go_ret
 exact ⟨zb5,zb9⟩
set_option maxHeartbeats 4000000 in
set_option maxRecDepth 100000 in
theorem slices_ContainsFunc_string_string.callsOf (q:ByteArray → Option Bool) (g:Nat) (lb:Array Value) (eg : ∀ args w,(callFunc g args).run Tryz.prog w = .ok (.enter g args) w) (A0:Option Addr) (c0:Nat) (l0:List ByteArray) (r:Bool) (w:World) (hr0:Kd.C Kd.string w A0 l0.length l0) (hc0:l0.length ≤ c0)
 (hq:TestOf g lb Value.string q w) (h:anyO q l0=some r) :
 Calls Tryz.prog 86 #[.slice A0 l0.length c0,.func (.func g) #[] lb] w fun e w' => e = .returned (.bool r)∧Below w.heap.size w w' := by
 obtain ⟨j,hj,hb⟩:=idxO_any q l0 0 r zb17 h
 have HC:=Aside0.mk (slices_IndexFunc_string_string.callsOf q g lb eg A0 c0 l0 j w hr0 hc0 hq hj)
 have HBB:=Aside0.mk hb
 clear hb hj h hq hr0 hc0 eg
 go_enter Tryz.func86,Tryz.ntmps86
 go_wp2_with (go_at_call 135;refine HC.out.mono ?_;rintro e w' ⟨rfl,hb'⟩)
 go_ret
 have e:=HBB.out
 subst e
 exact ⟨zb46,hb'⟩
mutual
def table_Name.j0:Nat → ByteArray → Bool → Option (Bool)
 | 0,_,_=>none
 | k + 1,x0,x21=>if x21=true then (some false) else (table_Name.l0 k x0 (x0.size:Int) 0)
def table_Name.l0:Nat → ByteArray → Int → Int → Option (Bool)
 | 0,_,_,_=>none
 | k + 1,x0,x23,x24=>if x24 < x23 then (if 0 ≤ x24 then (if x24 < (x0.size:Int) then (if (bt x0 x24) < 97 then (if (bt x0 x24) < 48 then (if (bt x0 x24)=45 then (table_Name.l0 k x0 x23 (wrap64 (x24 + 1))) else (some false)) else (if (bt x0 x24) > 57 then (if (bt x0 x24)=45 then (table_Name.l0 k x0 x23 (wrap64 (x24 + 1))) else (some false)) else (table_Name.l0 k x0 x23 (wrap64 (x24 + 1))))) else (if (bt x0 x24) > 122 then (if (bt x0 x24) < 48 then (if (bt x0 x24)=45 then (table_Name.l0 k x0 x23 (wrap64 (x24 + 1))) else (some false)) else (if (bt x0 x24) > 57 then (if (bt x0 x24)=45 then (table_Name.l0 k x0 x23 (wrap64 (x24 + 1))) else (some false)) else (table_Name.l0 k x0 x23 (wrap64 (x24 + 1))))) else (table_Name.l0 k x0 x23 (wrap64 (x24 + 1))))) else (none)) else (none)) else (some true)
end
def table_Name.f (k:Nat) (a0:ByteArray):Option (Bool):=if a0.toList=([]:List UInt8) then (table_Name.j0 k a0 true) else (if (a0.size:Int) > 30 then (table_Name.j0 k a0 true) else (if 0 < (a0.size:Int) then (if (bt a0 0) < 97 then (table_Name.j0 k a0 true) else (table_Name.j0 k a0 (decide ((bt a0 0) > 122)))) else (none)))
set_option maxHeartbeats 8000000 in
set_option maxRecDepth 100000 in
theorem table_Name.calls (k:Nat) (a0:ByteArray) (r:Bool) (w:World) (h:table_Name.f k a0=some r) :
 Calls Tryz.prog 147 #[.string a0] w fun e w' => e = .returned (.bool r)∧Drawn0 w w' := by
 unfold table_Name.f at h
 have H:=h
 clear h
 have HC2:=Aside0.mk H
 clear H
 go_enter Tryz.func147,Tryz.ntmps147
 go_upto_region 1 with (fail)
 go_cut [21] (fun v21 wc => ∃ (kq:Nat) (x21_1:Bool),v21 = .bool x21_1∧Aside0 (table_Name.j0 kq a0 x21_1=some r)∧Aside0 (kq ≤ k)∧Drawn0 w wc)
 case first =>
  have H:=HC2.out
  clear HC2
  by_cases c3:a0.toList=([]:List UInt8)
  ·rw [if_pos c3] at H
   have c3b0:=beq_iff_eq.mpr c3
   have c3b1:=bne_eq_false_iff_eq.mpr c3
   clear c3
   (first|rw [c3b0]|(simp only [i64_w,i32_w];rw [c3b0])|rw [c3b1]|skip)
   have H' := Aside0.mk H
   clear H
   go_wp2
   go_meet
   case rel=>exact ⟨_,(true),zb5,H',⟨zb77⟩,zb9⟩
  rw [if_neg c3] at H
  have c3b0:=beq_eq_false_iff_ne.mpr c3
  have c3b1:=bne_iff_ne.mpr c3
  (first|rw [c3b0]|(simp only [i64_w,i32_w];rw [c3b0])|rw [c3b1]|skip)
  by_cases c4:(a0.size:Int) > 30
  ·rw [if_pos c4] at H
   have c4b0:decide (30 < (a0.size:Int))=true:=decide_eq_true c4
   have c4b1:decide (30 < a0.size)=true:=decide_eq_true zb17
   clear c4
   have H' := Aside0.mk H
   clear H
   go_wp2
   go_meet
   case rel=>exact ⟨_,(true),zb5,H',⟨zb77⟩,zb9⟩
  rw [if_neg c4] at H
  have c4b0:decide (30 < (a0.size:Int))=false:=decide_eq_false c4
  have c4b1:decide (30 < a0.size)=false:=decide_eq_false zb17
  clear c4
  by_cases c5:0 < (a0.size:Int);rotate_left
  ·rw [if_neg c5] at H
   exact absurd H zb44
  rw [if_pos c5] at H
  have c5b0:=decide_eq_true c5
  have c5b1:decide (0 < a0.size)=true:=decide_eq_true zb17
  clear c5
  by_cases c7:(bt a0 0) < 97
  ·rw [if_pos c7] at H
   have c7b0:=decide_eq_true c7
   clear c7
   have H' := Aside0.mk H
   clear H
   have p6:0 ≤ (0:Int):=zb17
   have q6:0 < a0.size:=zb98
   have hx6 : ∀ h:0 < a0.size,((a0[0]'h).toNat:Int)=bt a0 0:=bt_at a0 0
   clear p6
   have qi6:(0 < (a0.size:Int))=True:=eq_true (of_decide_eq_true zb3)
   replace q6:=eq_true q6
   go_wp2
   go_meet
   case rel=>exact ⟨_,(true),zb5,H',⟨zb77⟩,zb9⟩
  rw [if_neg c7] at H
  have c7b0:=decide_eq_false c7
  clear c7
  have H' := Aside0.mk H
  clear H
  have p6:0 ≤ (0:Int):=zb17
  have q6:0 < a0.size:=zb98
  have hx6 : ∀ h:0 < a0.size,((a0[0]'h).toNat:Int)=bt a0 0:=bt_at a0 0
  clear p6
  have qi6:(0 < (a0.size:Int))=True:=eq_true (of_decide_eq_true zb3)
  replace q6:=eq_true q6
  have p8:0 ≤ (0:Int):=zb17
  have q8:0 < a0.size:=zb98
  have hx8 : ∀ h:0 < a0.size,((a0[0]'h).toNat:Int)=bt a0 0:=bt_at a0 0
  clear p8
  have qi8:(0 < (a0.size:Int))=True:=eq_true (of_decide_eq_true zb3)
  replace q8:=eq_true q8
  go_wp2
  go_meet
  case rel=>exact ⟨_,(decide ((bt a0 0) > 122)),zb5,H',⟨zb77⟩,zb9⟩
 case rest =>
  clear HC2
  try clear c1
  try clear p2
  try clear c3
  try clear c3b0
  try clear c3b1
  try clear c4
  try clear c4b0
  try clear c4b1
  try clear c5
  try clear c5b0
  try clear c5b1
  try clear p6
  try clear q6
  try clear hx6
  try clear qi6
  try clear c7
  try clear c7b0
  try clear p8
  try clear q8
  try clear hx8
  try clear qi8
  try clear p6
  try clear p8
  try clear q6
  try clear q8
  obtain ⟨kq,x21_1,rfl,HA,HJ1,⟨mc1,rfl⟩⟩:=hcut
  cases kq with
  | zero=>exact absurd HA.out (by simp [table_Name.j0])
  | succ kj1 =>
   have H:=HA.out
   clear HA
   simp only [table_Name.j0] at H
   by_cases c9:x21_1=true
   ·subst c9
    rw [if_pos rfl] at H
    obtain rfl:=Option.some.inj H
    go_wp2
    go_ret
    exact ⟨zb5,zb9⟩
   replace c9:=Bool.eq_false_iff.mpr c9
   subst c9
   rw [if_neg (show ¬ (false=true) by decide)] at H
   have H' := Aside0.mk H
   clear H
   go_wp2
   go_loopg [24] kj1 (fun kq v24 w' => ∃ (x24_2:Int),v24 = .int .i64 x24_2∧Aside0 (table_Name.l0 kq a0 (a0.size:Int) x24_2=some r)∧Aside0 (kq ≤ kj1)∧Drawn0 w w')
   case atStart=>exact ⟨(0),zb5,H',⟨Nat.le_refl _⟩,zb9⟩
   case round =>
    clear H'
    try clear c1
    try clear p2
    try clear c3
    try clear c3b0
    try clear c3b1
    try clear c4
    try clear c4b0
    try clear c4b1
    try clear c5
    try clear c5b0
    try clear c5b1
    try clear p6
    try clear q6
    try clear hx6
    try clear qi6
    try clear c7
    try clear c7b0
    try clear p8
    try clear q8
    try clear hx8
    try clear qi8
    try clear c9
    try clear p2
    try clear p6
    try clear p8
    try clear q6
    try clear q8
    obtain ⟨x24_2,rfl,HA,HK2,⟨m2,rfl⟩⟩:=hrel
    cases gk with
    | zero=>exact absurd HA.out (by simp [table_Name.l0])
    | succ k2 =>
     have H:=HA.out
     clear HA
     simp only [table_Name.l0] at H
     by_cases c10:x24_2 < (a0.size:Int);rotate_left
     ·rw [if_neg c10] at H
      have c10b0:=decide_eq_false c10
      clear c10
      obtain rfl:=Option.some.inj H
      go_wp2
      go_ret
      exact ⟨zb5,zb9⟩
     rw [if_pos c10] at H
     have c10b0:=decide_eq_true c10
     clear c10
     by_cases c11:0 ≤ x24_2
     ·rw [if_pos c11] at H
      have c11b0:=decide_eq_true c11
      clear c11
      by_cases c12:x24_2 < (a0.size:Int)
      ·rw [if_pos c12] at H
       have c12b0:=decide_eq_true c12
       clear c12
       by_cases c14:(bt a0 x24_2) < 97
       ·rw [if_pos c14] at H
        have c14b0:=decide_eq_true c14
        clear c14
        by_cases c15:(bt a0 x24_2) < 48
        ·rw [if_pos c15] at H
         have c15b0:=decide_eq_true c15
         clear c15
         by_cases c16:(bt a0 x24_2)=45;rotate_left
         ·rw [if_neg c16] at H
          have c16b0:=beq_eq_false_iff_ne.mpr c16
          have c16b1:=bne_iff_ne.mpr c16
          obtain rfl:=Option.some.inj H
          have p13:0 ≤ (x24_2:Int):=of_decide_eq_true zb3
          have q13:x24_2 < (a0.size:Int):=of_decide_eq_true zb3
          have hx13:=bt_at a0 x24_2
          replace p13:=eq_true p13
          replace q13:=eq_true q13
          go_wp2
          go_ret
          exact ⟨zb5,zb9⟩
         rw [if_pos c16] at H
         have c16b0:=beq_iff_eq.mpr c16
         have c16b1:=bne_eq_false_iff_eq.mpr c16
         clear c16
         have H' := Aside0.mk H
         clear H
         have p13:0 ≤ (x24_2:Int):=of_decide_eq_true zb3
         have q13:x24_2 < (a0.size:Int):=of_decide_eq_true zb3
         have hx13:=bt_at a0 x24_2
         replace p13:=eq_true p13
         replace q13:=eq_true q13
         go_wp2
         go_roundg k2
         case measure=>have:=HJ1.out;have:=HK2.out;omega
         case rel=>exact ⟨(wrap64 (x24_2 + 1)),zb5,H',⟨zb153⟩,zb9⟩
        rw [if_neg c15] at H
        have c15b0:=decide_eq_false c15
        clear c15
        by_cases c17:(bt a0 x24_2) > 57;rotate_left
        ·rw [if_neg c17] at H
         have c17b0:decide (57 < (bt a0 x24_2))=false:=decide_eq_false c17
         clear c17
         have H' := Aside0.mk H
         clear H
         have p13:0 ≤ (x24_2:Int):=of_decide_eq_true zb3
         have q13:x24_2 < (a0.size:Int):=of_decide_eq_true zb3
         have hx13:=bt_at a0 x24_2
         replace p13:=eq_true p13
         replace q13:=eq_true q13
         go_wp2
         go_roundg k2
         case measure=>have:=HJ1.out;have:=HK2.out;omega
         case rel=>exact ⟨(wrap64 (x24_2 + 1)),zb5,H',⟨zb153⟩,zb9⟩
        rw [if_pos c17] at H
        have c17b0:decide (57 < (bt a0 x24_2))=true:=decide_eq_true c17
        clear c17
        by_cases c18:(bt a0 x24_2)=45
        ·rw [if_pos c18] at H
         have c18b0:=beq_iff_eq.mpr c18
         have c18b1:=bne_eq_false_iff_eq.mpr c18
         clear c18
         have H' := Aside0.mk H
         clear H
         have p13:0 ≤ (x24_2:Int):=of_decide_eq_true zb3
         have q13:x24_2 < (a0.size:Int):=of_decide_eq_true zb3
         have hx13:=bt_at a0 x24_2
         replace p13:=eq_true p13
         replace q13:=eq_true q13
         go_wp2
         go_roundg k2
         case measure=>have:=HJ1.out;have:=HK2.out;omega
         case rel=>exact ⟨(wrap64 (x24_2 + 1)),zb5,H',⟨zb153⟩,zb9⟩
        ·rw [if_neg c18] at H
         have c18b0:=beq_eq_false_iff_ne.mpr c18
         have c18b1:=bne_iff_ne.mpr c18
         obtain rfl:=Option.some.inj H
         have p13:0 ≤ (x24_2:Int):=of_decide_eq_true zb3
         have q13:x24_2 < (a0.size:Int):=of_decide_eq_true zb3
         have hx13:=bt_at a0 x24_2
         replace p13:=eq_true p13
         replace q13:=eq_true q13
         go_wp2
         go_ret
         exact ⟨zb5,zb9⟩
       rw [if_neg c14] at H
       have c14b0:=decide_eq_false c14
       clear c14
       by_cases c19:(bt a0 x24_2) > 122;rotate_left
       ·rw [if_neg c19] at H
        have c19b0:decide (122 < (bt a0 x24_2))=false:=decide_eq_false c19
        clear c19
        have H' := Aside0.mk H
        clear H
        have p13:0 ≤ (x24_2:Int):=of_decide_eq_true zb3
        have q13:x24_2 < (a0.size:Int):=of_decide_eq_true zb3
        have hx13:=bt_at a0 x24_2
        replace p13:=eq_true p13
        replace q13:=eq_true q13
        go_wp2
        go_roundg k2
        case measure=>have:=HJ1.out;have:=HK2.out;omega
        case rel=>exact ⟨(wrap64 (x24_2 + 1)),zb5,H',⟨zb153⟩,zb9⟩
       rw [if_pos c19] at H
       have c19b0:decide (122 < (bt a0 x24_2))=true:=decide_eq_true c19
       clear c19
       by_cases c20:(bt a0 x24_2) < 48
       ·rw [if_pos c20] at H
        have c20b0:=decide_eq_true c20
        clear c20
        by_cases c21:(bt a0 x24_2)=45;rotate_left
        ·rw [if_neg c21] at H
         have c21b0:=beq_eq_false_iff_ne.mpr c21
         have c21b1:=bne_iff_ne.mpr c21
         obtain rfl:=Option.some.inj H
         have p13:0 ≤ (x24_2:Int):=of_decide_eq_true zb3
         have q13:x24_2 < (a0.size:Int):=of_decide_eq_true zb3
         have hx13:=bt_at a0 x24_2
         replace p13:=eq_true p13
         replace q13:=eq_true q13
         go_wp2
         go_ret
         exact ⟨zb5,zb9⟩
        rw [if_pos c21] at H
        have c21b0:=beq_iff_eq.mpr c21
        have c21b1:=bne_eq_false_iff_eq.mpr c21
        clear c21
        have H' := Aside0.mk H
        clear H
        have p13:0 ≤ (x24_2:Int):=of_decide_eq_true zb3
        have q13:x24_2 < (a0.size:Int):=of_decide_eq_true zb3
        have hx13:=bt_at a0 x24_2
        replace p13:=eq_true p13
        replace q13:=eq_true q13
        go_wp2
        go_roundg k2
        case measure=>have:=HJ1.out;have:=HK2.out;omega
        case rel=>exact ⟨(wrap64 (x24_2 + 1)),zb5,H',⟨zb153⟩,zb9⟩
       rw [if_neg c20] at H
       have c20b0:=decide_eq_false c20
       clear c20
       by_cases c22:(bt a0 x24_2) > 57
       ·rw [if_pos c22] at H
        have c22b0:decide (57 < (bt a0 x24_2))=true:=decide_eq_true c22
        clear c22
        by_cases c23:(bt a0 x24_2)=45;rotate_left
        ·rw [if_neg c23] at H
         have c23b0:=beq_eq_false_iff_ne.mpr c23
         have c23b1:=bne_iff_ne.mpr c23
         obtain rfl:=Option.some.inj H
         have p13:0 ≤ (x24_2:Int):=of_decide_eq_true zb3
         have q13:x24_2 < (a0.size:Int):=of_decide_eq_true zb3
         have hx13:=bt_at a0 x24_2
         replace p13:=eq_true p13
         replace q13:=eq_true q13
         go_wp2
         go_ret
         exact ⟨zb5,zb9⟩
        rw [if_pos c23] at H
        have c23b0:=beq_iff_eq.mpr c23
        have c23b1:=bne_eq_false_iff_eq.mpr c23
        clear c23
        have H' := Aside0.mk H
        clear H
        have p13:0 ≤ (x24_2:Int):=of_decide_eq_true zb3
        have q13:x24_2 < (a0.size:Int):=of_decide_eq_true zb3
        have hx13:=bt_at a0 x24_2
        replace p13:=eq_true p13
        replace q13:=eq_true q13
        go_wp2
        go_roundg k2
        case measure=>have:=HJ1.out;have:=HK2.out;omega
        case rel=>exact ⟨(wrap64 (x24_2 + 1)),zb5,H',⟨zb153⟩,zb9⟩
       ·rw [if_neg c22] at H
        have c22b0:decide (57 < (bt a0 x24_2))=false:=decide_eq_false c22
        clear c22
        have H' := Aside0.mk H
        clear H
        have p13:0 ≤ (x24_2:Int):=of_decide_eq_true zb3
        have q13:x24_2 < (a0.size:Int):=of_decide_eq_true zb3
        have hx13:=bt_at a0 x24_2
        replace p13:=eq_true p13
        replace q13:=eq_true q13
        go_wp2
        go_roundg k2
        case measure=>have:=HJ1.out;have:=HK2.out;omega
        case rel=>exact ⟨(wrap64 (x24_2 + 1)),zb5,H',⟨zb153⟩,zb9⟩
      ·rw [if_neg c12] at H
       exact absurd H zb44
     ·rw [if_neg c11] at H
      exact absurd H zb44
def conf_up.f (k:Nat) (a0_0:ByteArray) (l0_1:List ByteArray):Option Bool:=(table_Name.f k a0_0).bind fun b=>if b=true then (anyO (fun a=>conf_up_1.f a) l0_1).bind fun c=>some (!c) else some false
set_option maxHeartbeats 8000000 in
set_option maxRecDepth 100000 in
theorem conf_up.calls (k:Nat) (a0_0:ByteArray) (A0_1:Option Addr) (c0_1:Nat) (l0_1:List ByteArray) (r:Bool) (w:World) (hr0_1:Kd.C Kd.string w A0_1 l0_1.length l0_1) (hc0_1:l0_1.length ≤ c0_1) (h:conf_up.f k a0_0 l0_1=some r) :
 Calls Tryz.prog 98 #[.agg #[.string a0_0,.slice A0_1 l0_1.length c0_1]] w fun e w' => e = .returned (.bool r)∧Below w.heap.size w w' := by
 have hu:=Tryz.underlying83
 have HR:=Aside0.mk hr0_1
 have HC:=Aside0.mk hc0_1
 have EG:=Aside0.mk (enters_of Tryz.func148 zb7 rfl : ∀ args w,(callFunc 148 args).run Tryz.prog w = .ok (.enter 148 args) w)
 unfold conf_up.f at h
 clear hr0_1 hc0_1
 obtain ⟨b,hb,h⟩:=Option.bind_eq_some_iff.1 h
 have HN:=Aside0.mk hb
 clear hb
 cases b
 ·rw [if_neg zb44] at h
  injection h with h
  subst h
  go_enter Tryz.func98,Tryz.ntmps98
  go_wp2_with (first
   | ((with_reducible refine gate_dst (N:=1) rfl ?_);refine box_event ?hg (N:=1) ?hd (cs:=#[.string a0_0,.slice A0_1 l0_1.length c0_1]) (t:=83) ?hr ?_;(case hd=>rfl);(case hg=>rfl);(case hr=>first|(go_simp;done)|(go_simp;rfl));intro X hX w1 hBX hbX;have BX1:=Aside0.mk hBX;have L1:=Aside0.mk hbX;clear hBX hbX hX;have q0:w1.cell? ⟨X,0,none⟩=some (.string a0_0):=(blk_cell BX1.out 0).trans rfl;have q1:w1.cell? ⟨X,1,none⟩=some (.slice A0_1 l0_1.length c0_1):=(blk_cell BX1.out 1).trans rfl)
   | (go_at_call 147;(with_reducible refine (table_Name.calls k a0_0 _ _ HN.out).mono ?_);rintro e w2 ⟨rfl,hb2⟩;have BX2:=Aside0.mk (blk_below BX1.out hb2.below);have L2:=Aside0.mk (below_step L1.out hb2.below);clear q0 q1 hb2;have q0:w2.cell? ⟨X,0,none⟩=some (.string a0_0):=(blk_cell BX2.out 0).trans rfl;have q1:w2.cell? ⟨X,1,none⟩=some (.slice A0_1 l0_1.length c0_1):=(blk_cell BX2.out 1).trans rfl))
  go_ret
  exact ⟨zb46,L2.out⟩
 rw [if_pos rfl] at h
 obtain ⟨c,hc,h⟩:=Option.bind_eq_some_iff.1 h
 injection h with h
 subst h
 have HA:=Aside0.mk hc
 clear hc
 go_enter Tryz.func98,Tryz.ntmps98
 go_wp2_with (first
  | ((with_reducible refine gate_dst (N:=1) rfl ?_);refine box_event ?hg (N:=1) ?hd (cs:=#[.string a0_0,.slice A0_1 l0_1.length c0_1]) (t:=83) ?hr ?_;(case hd=>rfl);(case hg=>rfl);(case hr=>first|(go_simp;done)|(go_simp;rfl));intro X hX w1 hBX hbX;have BX1:=Aside0.mk hBX;have L1:=Aside0.mk hbX;clear hBX hbX hX;have q0:w1.cell? ⟨X,0,none⟩=some (.string a0_0):=(blk_cell BX1.out 0).trans rfl;have q1:w1.cell? ⟨X,1,none⟩=some (.slice A0_1 l0_1.length c0_1):=(blk_cell BX1.out 1).trans rfl)
  | (go_at_call 147;(with_reducible refine (table_Name.calls k a0_0 _ _ HN.out).mono ?_);rintro e w2 ⟨rfl,hb2⟩;have BX2:=Aside0.mk (blk_below BX1.out hb2.below);have L2:=Aside0.mk (below_step L1.out hb2.below);clear q0 q1 hb2;have q0:w2.cell? ⟨X,0,none⟩=some (.string a0_0):=(blk_cell BX2.out 0).trans rfl;have q1:w2.cell? ⟨X,1,none⟩=some (.slice A0_1 l0_1.length c0_1):=(blk_cell BX2.out 1).trans rfl)
  | (go_at_call 86;(refine (slices_ContainsFunc_string_string.callsOf (fun a=>conf_up_1.f a) 148 #[] EG.out A0_1 c0_1 l0_1 _ _ (Kd.C_below HR.out L2.out) HC.out (fun W x b _ hq=>(by show Calls Tryz.prog 148 #[.string x] W _;exact (conf_up_1.calls x b W hq).mono (fun _ _ z=>⟨z.1,z.2.below⟩))) HA.out).mono ?_);rintro e w3 ⟨rfl,hb3⟩;have L3:=Aside0.mk (below_step L2.out hb3)))
 go_ret
 exact ⟨zb46,L3.out⟩
/-- Does a test take all of them,one behind the other? -/
def allO {α:Type} (q:α → Option Bool):List α → Option Bool
 | []=>some true
 | x :: r=>(q x).bind fun b=>if b=true then allO q r else some false
def conf_right.e (l0_0:List (S83)) (l0_1:List (S85)) (l0_2:List (S36)) (l0_3:List ByteArray) (a0_4:Int) (a0_5:Int) (a0_6:Int) (a0_7:Int):Option Bool:=(conf_numbers.f l0_0 l0_1 l0_2 l0_3 a0_4 a0_5 a0_6 a0_7).bind fun ns=>(anyO (fun x=>conf_right_1.f x.f0 x.f1 x.f2 x.f3) ns).bind fun c=>some (!c)
def conf_right.f (k:Nat) (l0_0:List (S83)) (l0_1:List (S85)) (l0_2:List (S36)) (l0_3:List ByteArray) (a0_4:Int) (a0_5:Int) (a0_6:Int) (a0_7:Int):Option Bool:=(allO (fun u=>conf_up.f k u.f0 u.f1) l0_0).bind fun b=>if b=true then ((allO (fun r=>(conf_path.f r.f0).bind fun b=>if b=true then conf_path.f r.f2 else some false) l0_1).bind fun b=>if b=true then ((allO (fun f=>conf_set.f f.f0 f.f1) l0_2).bind fun b=>if b=true then ((allO (fun s=>conf_drop.f s) l0_3).bind fun b=>if b=true then conf_right.e l0_0 l0_1 l0_2 l0_3 a0_4 a0_5 a0_6 a0_7 else some false) else some false) else some false) else some false
set_option maxHeartbeats 8000000 in
set_option maxRecDepth 100000 in
theorem conf_right.calls (k:Nat) (A0_0:Option Addr) (c0_0:Nat) (l0_0:List (S83)) (A0_1:Option Addr) (c0_1:Nat) (l0_1:List (S85)) (A0_2:Option Addr) (c0_2:Nat) (l0_2:List (S36)) (A0_3:Option Addr) (c0_3:Nat) (l0_3:List ByteArray) (a0_4:Int) (a0_5:Int) (a0_6:Int) (a0_7:Int) (r:Bool) (w:World) (hr0_0:Kd.C k83 w A0_0 l0_0.length l0_0) (hc0_0:l0_0.length ≤ c0_0) (hr0_1:Kd.C k85 w A0_1 l0_1.length l0_1) (hc0_1:l0_1.length ≤ c0_1) (hr0_2:Kd.C k36 w A0_2 l0_2.length l0_2) (hc0_2:l0_2.length ≤ c0_2) (hr0_3:Kd.C Kd.string w A0_3 l0_3.length l0_3) (hc0_3:l0_3.length ≤ c0_3) (h:conf_right.f k l0_0 l0_1 l0_2 l0_3 a0_4 a0_5 a0_6 a0_7=some r) :
 Calls Tryz.prog 57 #[.agg #[.slice A0_0 l0_0.length c0_0,.slice A0_1 l0_1.length c0_1,.slice A0_2 l0_2.length c0_2,.slice A0_3 l0_3.length c0_3,.int .i64 a0_4,.int .i64 a0_5,.int .i64 a0_6,.int .i64 a0_7]] w fun e w' => e = .returned (.bool r)∧Below w.heap.size w w' := by
 have hu:=Tryz.underlying46
 have hu1:=Tryz.underlying83
 have hu2:=Tryz.underlying85
 have hu3:=Tryz.underlying36
 have HR0:=Aside0.mk hr0_0
 have HR1:=Aside0.mk hr0_1
 have HR2:=Aside0.mk hr0_2
 have HR3:=Aside0.mk hr0_3
 have HC0:=Aside0.mk hc0_0
 have HC1:=Aside0.mk hc0_1
 have HC2:=Aside0.mk hc0_2
 have HC3:=Aside0.mk hc0_3
 clear hr0_0 hr0_1 hr0_2 hr0_3 hc0_0 hc0_1 hc0_2 hc0_3
 have EG:=Aside0.mk (enters_of Tryz.func104 zb7 rfl : ∀ args w,(callFunc 104 args).run Tryz.prog w = .ok (.enter 104 args) w)
 unfold conf_right.f at h
 obtain ⟨b0,hb0,h⟩:=Option.bind_eq_some_iff.1 h
 have HA:=Aside0.mk hb0
 have HR:=Aside0.mk h
 clear hb0 h
 go_enter Tryz.func57,Tryz.ntmps57
 go_wp2_with (first
  | ((with_reducible refine gate_dst (N:=1) rfl ?_);refine box_event ?hg (N:=1) ?hd (cs:=#[.slice A0_0 l0_0.length c0_0,.slice A0_1 l0_1.length c0_1,.slice A0_2 l0_2.length c0_2,.slice A0_3 l0_3.length c0_3,.int .i64 a0_4,.int .i64 a0_5,.int .i64 a0_6,.int .i64 a0_7]) (t:=46) ?hr ?_;(case hd=>rfl);(case hg=>rfl);(case hr=>first|(go_simp;done)|(go_simp;rfl));intro X hX w1 hBX hbX;have BX1:=Aside0.mk hBX;have L1:=Aside0.mk hbX;clear hBX hbX hX;have q0:w1.cell? ⟨X,0,none⟩=some (.slice A0_0 l0_0.length c0_0):=(blk_cell BX1.out 0).trans rfl;have q1:w1.cell? ⟨X,1,none⟩=some (.slice A0_1 l0_1.length c0_1):=(blk_cell BX1.out 1).trans rfl;have q2:w1.cell? ⟨X,2,none⟩=some (.slice A0_2 l0_2.length c0_2):=(blk_cell BX1.out 2).trans rfl;have q3:w1.cell? ⟨X,3,none⟩=some (.slice A0_3 l0_3.length c0_3):=(blk_cell BX1.out 3).trans rfl;have q4:w1.cell? ⟨X,4,none⟩=some (.int .i64 a0_4):=(blk_cell BX1.out 4).trans rfl;have q5:w1.cell? ⟨X,5,none⟩=some (.int .i64 a0_5):=(blk_cell BX1.out 5).trans rfl;have q6:w1.cell? ⟨X,6,none⟩=some (.int .i64 a0_6):=(blk_cell BX1.out 6).trans rfl;have q7:w1.cell? ⟨X,7,none⟩=some (.int .i64 a0_7):=(blk_cell BX1.out 7).trans rfl))
 clear q0 q1 q2 q3 q4 q5 q6 q7
 go_loopg [14] l0_0.length (fun kq v wr => ∃ (x:Int),v = .int .i64 x∧Aside0 (0 ≤ x∧x ≤ l0_0.length∧(l0_0.length:Int) - x ≤ kq)∧Aside0 (Below w.heap.size w wr)∧Aside0 (wr.heap[X]? = some (.cells #[.slice A0_0 l0_0.length c0_0,.slice A0_1 l0_1.length c0_1,.slice A0_2 l0_2.length c0_2,.slice A0_3 l0_3.length c0_3,.int .i64 a0_4,.int .i64 a0_5,.int .i64 a0_6,.int .i64 a0_7] 46 (0,0)))∧Aside0 (allO (fun u=>conf_up.f k u.f0 u.f1) (l0_0.drop x.toNat)=some b0))
 case atStart=>exact ⟨0,rfl,⟨zb17⟩,L1,BX1,HA⟩
 case round =>
  obtain ⟨x,rfl,HX,L2,BX2,HH⟩:=hrel
  clear HA L1 BX1
  by_cases c4:x < (l0_0.length:Int)
  ·have c4b0:=decide_eq_true c4
   have hx:=HH.out
   have hlt:x.toNat < l0_0.length:=by have:=HX.out;omega
   rw [List.drop_eq_getElem_cons hlt,allO] at hx
   obtain ⟨b,hb,hx⟩:=Option.bind_eq_some_iff.1 hx
   have hrd:rd_T83 l0_0 x=l0_0[x.toNat]:=by unfold rd_T83;rw [List.getD_eq_getElem?_getD,List.getElem?_eq_getElem hlt];rfl
   obtain ⟨ad,A1,c1,he,h0,h1,lc1,hC1⟩:=at_T83 HR0.out x HX.out.1 c4
   replace h0:=(L2.out.cell (World.block_lt_of_cell? w _ h0)).trans h0
   replace h1:=(L2.out.cell (World.block_lt_of_cell? w _ h1)).trans h1
   rw [← hrd] at hb
   obtain ⟨y,hy⟩ : ∃ y,rd_T83 l0_0 x=y:=⟨_,rfl⟩
   rw [hy] at hb h0 h1 lc1 hC1
   have m0:(wr.alloc (.cells #[.string y.f0,.slice A1 y.f1.length c1] 83 (0,0))).cell? ⟨wr.heap.size,0,none⟩=some (.string y.f0):=(blk_cell (blk_new wr _) 0).trans rfl
   have m1:(wr.alloc (.cells #[.string y.f0,.slice A1 y.f1.length c1] 83 (0,0))).cell? ⟨wr.heap.size,1,none⟩=some (.slice A1 y.f1.length c1):=(blk_cell (blk_new wr _) 1).trans rfl
   have KC1:=Aside0.mk hC1
   have KL1:=Aside0.mk lc1
   have BX3:=Aside0.mk (blk_alloc BX2.out (.cells #[.string y.f0,.slice A1 y.f1.length c1] 83 (0,0)))
   have L3:=Aside0.mk (below_alloc L2.out (.cells #[.string y.f0,.slice A1 y.f1.length c1] 83 (0,0)))
   have p8:(0 ≤ x)=True:=eq_true HX.out.1
   have q8:(x < (l0_0.length:Int))=True:=eq_true c4
   have HN:=Aside0.mk hx
   clear hx HH c4
   subst he
   have HQ:=Aside0.mk hb
   clear hb hrd hy lc1 hC1
   cases b
   ·go_wp2_with (first
     | (go_at_call 98;(with_reducible refine (conf_up.calls k y.f0 A1 c1 y.f1 _ _ (Kd.C_alloc (Kd.C_below KC1.out L2.out) _) KL1.out HQ.out).mono ?_);rintro e w4 ⟨rfl,hb4⟩;have BX4:=Aside0.mk (blk_below BX3.out hb4);have L4:=Aside0.mk (below_step L3.out hb4)))
    go_ret
    have hx:=HN.out
    simp only [Bool.false_eq_true,if_false,Option.some.injEq] at hx
    have hr:=HR.out
    rw [← hx,if_neg zb44] at hr
    injection hr with hr
    subst hr
    exact ⟨zb46,L4.out⟩
   go_wp2_with (first
    | (go_at_call 98;(with_reducible refine (conf_up.calls k y.f0 A1 c1 y.f1 _ _ (Kd.C_alloc (Kd.C_below KC1.out L2.out) _) KL1.out HQ.out).mono ?_);rintro e w4 ⟨rfl,hb4⟩;have BX4:=Aside0.mk (blk_below BX3.out hb4);have L4:=Aside0.mk (below_step L3.out hb4)))
   go_roundg (gk - 1)
   case measure=>have:=HX.out;have:=of_eq_true q8;omega
   case rel =>
    have hx:=HN.out
    simp only [if_true] at hx
    have hx8:=HX.out
    have hq8:=of_eq_true q8
    have hw:wrap64 (x + 1)=x + 1:=by have:=HR0.out.2.1;unfold wrap64;omega
    refine ⟨wrap64 (x + 1),zb46,⟨by rw [hw];omega⟩,L4,BX4,⟨?_⟩⟩
    rw [hw,show (x + 1).toNat=x.toNat + 1 by omega]
    exact hx
  have c4b0:=decide_eq_false c4
  have hx:=HH.out
  rw [List.drop_of_length_le zb150,allO] at hx
  injection hx with hx
  have hr:=HR.out
  rw [← hx,if_pos rfl] at hr
  clear HR HH hx c4 HX
  have L1:=L2
  have BX1:=BX2
  have q0:wr.cell? ⟨X,0,none⟩=some (.slice A0_0 l0_0.length c0_0):=(blk_cell BX2.out 0).trans rfl
  have q1:wr.cell? ⟨X,1,none⟩=some (.slice A0_1 l0_1.length c0_1):=(blk_cell BX2.out 1).trans rfl
  have q2:wr.cell? ⟨X,2,none⟩=some (.slice A0_2 l0_2.length c0_2):=(blk_cell BX2.out 2).trans rfl
  have q3:wr.cell? ⟨X,3,none⟩=some (.slice A0_3 l0_3.length c0_3):=(blk_cell BX2.out 3).trans rfl
  have q4:wr.cell? ⟨X,4,none⟩=some (.int .i64 a0_4):=(blk_cell BX2.out 4).trans rfl
  have q5:wr.cell? ⟨X,5,none⟩=some (.int .i64 a0_5):=(blk_cell BX2.out 5).trans rfl
  have q6:wr.cell? ⟨X,6,none⟩=some (.int .i64 a0_6):=(blk_cell BX2.out 6).trans rfl
  have q7:wr.cell? ⟨X,7,none⟩=some (.int .i64 a0_7):=(blk_cell BX2.out 7).trans rfl
  obtain ⟨b1,hb1,hr⟩:=Option.bind_eq_some_iff.1 hr
  have HA:=Aside0.mk hb1
  have HR:=Aside0.mk hr
  clear hb1 hr
  go_wp2
  clear q0 q1 q2 q3 q4 q5 q6 q7 L2 BX2
  go_loopg [25] l0_1.length (fun kq v wr => ∃ (x:Int),v = .int .i64 x∧Aside0 (0 ≤ x∧x ≤ l0_1.length∧(l0_1.length:Int) - x ≤ kq)∧Aside0 (Below w.heap.size w wr)∧Aside0 (wr.heap[X]? = some (.cells #[.slice A0_0 l0_0.length c0_0,.slice A0_1 l0_1.length c0_1,.slice A0_2 l0_2.length c0_2,.slice A0_3 l0_3.length c0_3,.int .i64 a0_4,.int .i64 a0_5,.int .i64 a0_6,.int .i64 a0_7] 46 (0,0)))∧Aside0 (allO (fun r=>(conf_path.f r.f0).bind fun b=>if b=true then conf_path.f r.f2 else some false) (l0_1.drop x.toNat)=some b1))
  case atStart=>exact ⟨0,rfl,⟨zb17⟩,L1,BX1,HA⟩
  case round =>
   obtain ⟨x,rfl,HX,L2,BX2,HH⟩:=hrel
   clear HA L1 BX1
   by_cases c4:x < (l0_1.length:Int)
   ·have c4b0:=decide_eq_true c4
    have hx:=HH.out
    have hlt:x.toNat < l0_1.length:=by have:=HX.out;omega
    rw [List.drop_eq_getElem_cons hlt,allO] at hx
    obtain ⟨b,hb,hx⟩:=Option.bind_eq_some_iff.1 hx
    have hrd:rd_T85 l0_1 x=l0_1[x.toNat]:=by unfold rd_T85;rw [List.getD_eq_getElem?_getD,List.getElem?_eq_getElem hlt];rfl
    obtain ⟨ad,he,h0,h1,h2⟩:=at_T85 HR1.out x HX.out.1 c4
    replace h0:=(L2.out.cell (World.block_lt_of_cell? w _ h0)).trans h0
    replace h1:=(L2.out.cell (World.block_lt_of_cell? w _ h1)).trans h1
    replace h2:=(L2.out.cell (World.block_lt_of_cell? w _ h2)).trans h2
    rw [← hrd] at hb
    obtain ⟨y,hy⟩ : ∃ y,rd_T85 l0_1 x=y:=⟨_,rfl⟩
    rw [hy] at hb h0 h1 h2
    have m0:(wr.alloc (.cells #[.string y.f0,.string y.f1,.string y.f2] 85 (0,0))).cell? ⟨wr.heap.size,0,none⟩=some (.string y.f0):=(blk_cell (blk_new wr _) 0).trans rfl
    have m1:(wr.alloc (.cells #[.string y.f0,.string y.f1,.string y.f2] 85 (0,0))).cell? ⟨wr.heap.size,1,none⟩=some (.string y.f1):=(blk_cell (blk_new wr _) 1).trans rfl
    have m2:(wr.alloc (.cells #[.string y.f0,.string y.f1,.string y.f2] 85 (0,0))).cell? ⟨wr.heap.size,2,none⟩=some (.string y.f2):=(blk_cell (blk_new wr _) 2).trans rfl
    have BX3:=Aside0.mk (blk_alloc BX2.out (.cells #[.string y.f0,.string y.f1,.string y.f2] 85 (0,0)))
    have L3:=Aside0.mk (below_alloc L2.out (.cells #[.string y.f0,.string y.f1,.string y.f2] 85 (0,0)))
    have p8:(0 ≤ x)=True:=eq_true HX.out.1
    have q8:(x < (l0_1.length:Int))=True:=eq_true c4
    have HN:=Aside0.mk hx
    clear hx HH c4
    subst he
    obtain ⟨b1,hq1,hq2⟩:=Option.bind_eq_some_iff.1 hb
    have HQ:=Aside0.mk hq1
    cases b1
    ·rw [if_neg zb44] at hq2
     injection hq2 with hq2
     subst hq2
     clear hq1 hb hrd hy
     go_wp2_with (first
      | (go_at_call 99;(with_reducible refine (conf_path.calls y.f0 _ _ HQ.out).mono ?_);rintro e w4 ⟨rfl,hb4⟩;have BX4:=Aside0.mk (blk_below BX3.out hb4.below);have L4:=Aside0.mk (below_step L3.out hb4.below);clear m0 m1 m2;have m2:w4.cell? ⟨wr.heap.size,2,none⟩=some (.string y.f2):=(blk_cell (blk_below (blk_new wr (.cells #[.string y.f0,.string y.f1,.string y.f2] 85 (0,0))) hb4.below) 2).trans rfl;clear HQ))
     go_ret
     have hx:=HN.out
     simp only [Bool.false_eq_true,if_false,Option.some.injEq] at hx
     have hr:=HR.out
     rw [← hx,if_neg zb44] at hr
     injection hr with hr
     subst hr
     exact ⟨zb46,L4.out⟩
    rw [if_pos rfl] at hq2
    have HQ2:=Aside0.mk hq2
    clear hq1 hq2 hb hrd hy
    cases b
    ·go_wp2_with (first
      | (go_at_call 99;(with_reducible refine (conf_path.calls y.f0 _ _ HQ.out).mono ?_);rintro e w4 ⟨rfl,hb4⟩;have BX4:=Aside0.mk (blk_below BX3.out hb4.below);have L4:=Aside0.mk (below_step L3.out hb4.below);clear m0 m1 m2;have m2:w4.cell? ⟨wr.heap.size,2,none⟩=some (.string y.f2):=(blk_cell (blk_below (blk_new wr (.cells #[.string y.f0,.string y.f1,.string y.f2] 85 (0,0))) hb4.below) 2).trans rfl;clear HQ)
      | (go_at_call 99;(with_reducible refine (conf_path.calls y.f2 _ _ HQ2.out).mono ?_);rintro e w5 ⟨rfl,hb5⟩;have BX5:=Aside0.mk (blk_below BX4.out hb5.below);have L5:=Aside0.mk (below_step L4.out hb5.below)))
     go_ret
     have hx:=HN.out
     simp only [Bool.false_eq_true,if_false,Option.some.injEq] at hx
     have hr:=HR.out
     rw [← hx,if_neg zb44] at hr
     injection hr with hr
     subst hr
     exact ⟨zb46,L5.out⟩
    go_wp2_with (first
     | (go_at_call 99;(with_reducible refine (conf_path.calls y.f0 _ _ HQ.out).mono ?_);rintro e w4 ⟨rfl,hb4⟩;have BX4:=Aside0.mk (blk_below BX3.out hb4.below);have L4:=Aside0.mk (below_step L3.out hb4.below);clear m0 m1 m2;have m2:w4.cell? ⟨wr.heap.size,2,none⟩=some (.string y.f2):=(blk_cell (blk_below (blk_new wr (.cells #[.string y.f0,.string y.f1,.string y.f2] 85 (0,0))) hb4.below) 2).trans rfl;clear HQ)
     | (go_at_call 99;(with_reducible refine (conf_path.calls y.f2 _ _ HQ2.out).mono ?_);rintro e w5 ⟨rfl,hb5⟩;have BX5:=Aside0.mk (blk_below BX4.out hb5.below);have L5:=Aside0.mk (below_step L4.out hb5.below)))
    go_roundg (gk - 1)
    case measure=>have:=HX.out;have:=of_eq_true q8;omega
    case rel =>
     have hx:=HN.out
     simp only [if_true] at hx
     have hx8:=HX.out
     have hq8:=of_eq_true q8
     have hw:wrap64 (x + 1)=x + 1:=by have:=HR1.out.2.1;unfold wrap64;omega
     refine ⟨wrap64 (x + 1),zb46,⟨by rw [hw];omega⟩,L5,BX5,⟨?_⟩⟩
     rw [hw,show (x + 1).toNat=x.toNat + 1 by omega]
     exact hx
   have c4b0:=decide_eq_false c4
   have hx:=HH.out
   rw [List.drop_of_length_le zb150,allO] at hx
   injection hx with hx
   have hr:=HR.out
   rw [← hx,if_pos rfl] at hr
   clear HR HH hx c4 HX
   have L1:=L2
   have BX1:=BX2
   have q0:wr.cell? ⟨X,0,none⟩=some (.slice A0_0 l0_0.length c0_0):=(blk_cell BX2.out 0).trans rfl
   have q1:wr.cell? ⟨X,1,none⟩=some (.slice A0_1 l0_1.length c0_1):=(blk_cell BX2.out 1).trans rfl
   have q2:wr.cell? ⟨X,2,none⟩=some (.slice A0_2 l0_2.length c0_2):=(blk_cell BX2.out 2).trans rfl
   have q3:wr.cell? ⟨X,3,none⟩=some (.slice A0_3 l0_3.length c0_3):=(blk_cell BX2.out 3).trans rfl
   have q4:wr.cell? ⟨X,4,none⟩=some (.int .i64 a0_4):=(blk_cell BX2.out 4).trans rfl
   have q5:wr.cell? ⟨X,5,none⟩=some (.int .i64 a0_5):=(blk_cell BX2.out 5).trans rfl
   have q6:wr.cell? ⟨X,6,none⟩=some (.int .i64 a0_6):=(blk_cell BX2.out 6).trans rfl
   have q7:wr.cell? ⟨X,7,none⟩=some (.int .i64 a0_7):=(blk_cell BX2.out 7).trans rfl
   obtain ⟨b2,hb2,hr⟩:=Option.bind_eq_some_iff.1 hr
   have HA:=Aside0.mk hb2
   have HR:=Aside0.mk hr
   clear hb2 hr
   go_wp2
   clear q0 q1 q2 q3 q4 q5 q6 q7 L2 BX2
   go_loopg [43] l0_2.length (fun kq v wr => ∃ (x:Int),v = .int .i64 x∧Aside0 (0 ≤ x∧x ≤ l0_2.length∧(l0_2.length:Int) - x ≤ kq)∧Aside0 (Below w.heap.size w wr)∧Aside0 (wr.heap[X]? = some (.cells #[.slice A0_0 l0_0.length c0_0,.slice A0_1 l0_1.length c0_1,.slice A0_2 l0_2.length c0_2,.slice A0_3 l0_3.length c0_3,.int .i64 a0_4,.int .i64 a0_5,.int .i64 a0_6,.int .i64 a0_7] 46 (0,0)))∧Aside0 (allO (fun f=>conf_set.f f.f0 f.f1) (l0_2.drop x.toNat)=some b2))
   case atStart=>exact ⟨0,rfl,⟨zb17⟩,L1,BX1,HA⟩
   case round =>
    obtain ⟨x,rfl,HX,L2,BX2,HH⟩:=hrel
    clear HA L1 BX1
    by_cases c4:x < (l0_2.length:Int)
    ·have c4b0:=decide_eq_true c4
     have hx:=HH.out
     have hlt:x.toNat < l0_2.length:=by have:=HX.out;omega
     rw [List.drop_eq_getElem_cons hlt,allO] at hx
     obtain ⟨b,hb,hx⟩:=Option.bind_eq_some_iff.1 hx
     have hrd:rd_T36 l0_2 x=l0_2[x.toNat]:=by unfold rd_T36;rw [List.getD_eq_getElem?_getD,List.getElem?_eq_getElem hlt];rfl
     obtain ⟨ad,he,h0,h1⟩:=at_T36 HR2.out x HX.out.1 c4
     replace h0:=(L2.out.cell (World.block_lt_of_cell? w _ h0)).trans h0
     replace h1:=(L2.out.cell (World.block_lt_of_cell? w _ h1)).trans h1
     rw [← hrd] at hb
     obtain ⟨y,hy⟩ : ∃ y,rd_T36 l0_2 x=y:=⟨_,rfl⟩
     rw [hy] at hb h0 h1
     have m0:(wr.alloc (.cells #[.string y.f0,.string y.f1] 36 (0,0))).cell? ⟨wr.heap.size,0,none⟩=some (.string y.f0):=(blk_cell (blk_new wr _) 0).trans rfl
     have m1:(wr.alloc (.cells #[.string y.f0,.string y.f1] 36 (0,0))).cell? ⟨wr.heap.size,1,none⟩=some (.string y.f1):=(blk_cell (blk_new wr _) 1).trans rfl
     have BX3:=Aside0.mk (blk_alloc BX2.out (.cells #[.string y.f0,.string y.f1] 36 (0,0)))
     have L3:=Aside0.mk (below_alloc L2.out (.cells #[.string y.f0,.string y.f1] 36 (0,0)))
     have p8:(0 ≤ x)=True:=eq_true HX.out.1
     have q8:(x < (l0_2.length:Int))=True:=eq_true c4
     have HN:=Aside0.mk hx
     clear hx HH c4
     subst he
     have HQ:=Aside0.mk hb
     clear hb hrd hy
     cases b
     ·go_wp2_with (first
       | (go_at_call 100;(with_reducible refine (conf_set.calls y.f0 y.f1 _ _ HQ.out).mono ?_);rintro e w4 ⟨rfl,hb4⟩;have BX4:=Aside0.mk (blk_below BX3.out hb4);have L4:=Aside0.mk (below_step L3.out hb4)))
      go_ret
      have hx:=HN.out
      simp only [Bool.false_eq_true,if_false,Option.some.injEq] at hx
      have hr:=HR.out
      rw [← hx,if_neg zb44] at hr
      injection hr with hr
      subst hr
      exact ⟨zb46,L4.out⟩
     go_wp2_with (first
      | (go_at_call 100;(with_reducible refine (conf_set.calls y.f0 y.f1 _ _ HQ.out).mono ?_);rintro e w4 ⟨rfl,hb4⟩;have BX4:=Aside0.mk (blk_below BX3.out hb4);have L4:=Aside0.mk (below_step L3.out hb4)))
     go_roundg (gk - 1)
     case measure=>have:=HX.out;have:=of_eq_true q8;omega
     case rel =>
      have hx:=HN.out
      simp only [if_true] at hx
      have hx8:=HX.out
      have hq8:=of_eq_true q8
      have hw:wrap64 (x + 1)=x + 1:=by have:=HR2.out.2.1;unfold wrap64;omega
      refine ⟨wrap64 (x + 1),zb46,⟨by rw [hw];omega⟩,L4,BX4,⟨?_⟩⟩
      rw [hw,show (x + 1).toNat=x.toNat + 1 by omega]
      exact hx
    have c4b0:=decide_eq_false c4
    have hx:=HH.out
    rw [List.drop_of_length_le zb150,allO] at hx
    injection hx with hx
    have hr:=HR.out
    rw [← hx,if_pos rfl] at hr
    clear HR HH hx c4 HX
    have L1:=L2
    have BX1:=BX2
    have q0:wr.cell? ⟨X,0,none⟩=some (.slice A0_0 l0_0.length c0_0):=(blk_cell BX2.out 0).trans rfl
    have q1:wr.cell? ⟨X,1,none⟩=some (.slice A0_1 l0_1.length c0_1):=(blk_cell BX2.out 1).trans rfl
    have q2:wr.cell? ⟨X,2,none⟩=some (.slice A0_2 l0_2.length c0_2):=(blk_cell BX2.out 2).trans rfl
    have q3:wr.cell? ⟨X,3,none⟩=some (.slice A0_3 l0_3.length c0_3):=(blk_cell BX2.out 3).trans rfl
    have q4:wr.cell? ⟨X,4,none⟩=some (.int .i64 a0_4):=(blk_cell BX2.out 4).trans rfl
    have q5:wr.cell? ⟨X,5,none⟩=some (.int .i64 a0_5):=(blk_cell BX2.out 5).trans rfl
    have q6:wr.cell? ⟨X,6,none⟩=some (.int .i64 a0_6):=(blk_cell BX2.out 6).trans rfl
    have q7:wr.cell? ⟨X,7,none⟩=some (.int .i64 a0_7):=(blk_cell BX2.out 7).trans rfl
    obtain ⟨b3,hb3,hr⟩:=Option.bind_eq_some_iff.1 hr
    have HA:=Aside0.mk hb3
    have HR:=Aside0.mk hr
    clear hb3 hr
    go_wp2
    clear q0 q1 q2 q3 q4 q5 q6 q7 L2 BX2
    go_loopg [54] l0_3.length (fun kq v wr => ∃ (x:Int),v = .int .i64 x∧Aside0 (0 ≤ x∧x ≤ l0_3.length∧(l0_3.length:Int) - x ≤ kq)∧Aside0 (Below w.heap.size w wr)∧Aside0 (wr.heap[X]? = some (.cells #[.slice A0_0 l0_0.length c0_0,.slice A0_1 l0_1.length c0_1,.slice A0_2 l0_2.length c0_2,.slice A0_3 l0_3.length c0_3,.int .i64 a0_4,.int .i64 a0_5,.int .i64 a0_6,.int .i64 a0_7] 46 (0,0)))∧Aside0 (allO (fun s=>conf_drop.f s) (l0_3.drop x.toNat)=some b3))
    case atStart=>exact ⟨0,rfl,⟨zb17⟩,L1,BX1,HA⟩
    case round =>
     obtain ⟨x,rfl,HX,L2,BX2,HH⟩:=hrel
     clear HA L1 BX1
     by_cases c4:x < (l0_3.length:Int);rotate_left
     ·have c4b0:=decide_eq_false c4
      have hx:=HH.out
      rw [List.drop_of_length_le zb150,allO] at hx
      injection hx with hx
      have hr:=HR.out
      rw [← hx,if_pos rfl] at hr
      clear HR HH hx c4 HX
      have L1:=L2
      have BX1:=BX2
      have q0:wr.cell? ⟨X,0,none⟩=some (.slice A0_0 l0_0.length c0_0):=(blk_cell BX2.out 0).trans rfl
      have q1:wr.cell? ⟨X,1,none⟩=some (.slice A0_1 l0_1.length c0_1):=(blk_cell BX2.out 1).trans rfl
      have q2:wr.cell? ⟨X,2,none⟩=some (.slice A0_2 l0_2.length c0_2):=(blk_cell BX2.out 2).trans rfl
      have q3:wr.cell? ⟨X,3,none⟩=some (.slice A0_3 l0_3.length c0_3):=(blk_cell BX2.out 3).trans rfl
      have q4:wr.cell? ⟨X,4,none⟩=some (.int .i64 a0_4):=(blk_cell BX2.out 4).trans rfl
      have q5:wr.cell? ⟨X,5,none⟩=some (.int .i64 a0_5):=(blk_cell BX2.out 5).trans rfl
      have q6:wr.cell? ⟨X,6,none⟩=some (.int .i64 a0_6):=(blk_cell BX2.out 6).trans rfl
      have q7:wr.cell? ⟨X,7,none⟩=some (.int .i64 a0_7):=(blk_cell BX2.out 7).trans rfl
      unfold conf_right.e at hr
      obtain ⟨ns,hns,hr⟩:=Option.bind_eq_some_iff.1 hr
      obtain ⟨c,hc,hr⟩:=Option.bind_eq_some_iff.1 hr
      injection hr with hr
      subst hr
      have HNS:=Aside0.mk hns
      have HAN:=Aside0.mk hc
      clear hns hc
      go_wp2_with (first
       | (go_at_call 103;(with_reducible refine (conf_numbers.calls A0_0 c0_0 l0_0 A0_1 c0_1 l0_1 A0_2 c0_2 l0_2 A0_3 c0_3 l0_3 a0_4 a0_5 a0_6 a0_7 ns _ (Kd.C_below HR0.out L1.out) HC0.out (Kd.C_below HR1.out L1.out) HC1.out (Kd.C_below HR2.out L1.out) HC2.out (Kd.C_below HR3.out L1.out) HC3.out HNS.out).mono ?_);rintro e w5 ⟨v0,rfl,hR,hb5⟩;obtain ⟨An,cn,rfl⟩:=Kd.R_slice hR;have SN:=Aside0.mk hR;have L5:=Aside0.mk (below_step L1.out hb5);clear hR hb5)
       | (go_at_call 102;(refine (slices_ContainsFunc_number.callsOf (fun x=>conf_right_1.f x.f0 x.f1 x.f2 x.f3) 104 #[] EG.out An cn ns _ _ (Kd.R_reads' SN.out).2.2 (Kd.R_reads' SN.out).2.1 (fun W x b _ hq=>(by show Calls Tryz.prog 104 #[.agg #[.string x.f0,.int .i64 x.f1,.int .i64 x.f2,.int .i64 x.f3]] W _;exact conf_right_1.calls x.f0 x.f1 x.f2 x.f3 b W hq)) HAN.out).mono ?_);rintro e w6 ⟨rfl,hb6⟩;have L6:=Aside0.mk (below_step L5.out hb6)))
      go_ret
      exact ⟨zb46,L6.out⟩
     have c4b0:=decide_eq_true c4
     have hx:=HH.out
     have hlt:x.toNat < l0_3.length:=by have:=HX.out;omega
     rw [List.drop_eq_getElem_cons hlt,allO] at hx
     obtain ⟨b,hb,hx⟩:=Option.bind_eq_some_iff.1 hx
     have hrd:rdOf ByteArray.empty l0_3 x=l0_3[x.toNat]:=by simp [rdOf,List.getD_eq_getElem?_getD,List.getElem?_eq_getElem hlt]
     obtain ⟨ad,he,h0⟩:=Kd.at_string HR3.out x HX.out.1 c4
     replace h0:=(L2.out.cell (World.block_lt_of_cell? w _ h0)).trans h0
     rw [← hrd] at hb
     obtain ⟨y,hy⟩ : ∃ y,rdOf ByteArray.empty l0_3 x=y:=⟨_,rfl⟩
     rw [hy] at hb h0
     have BX3:=BX2
     have L3:=L2
     have p8:(0 ≤ x)=True:=eq_true HX.out.1
     have q8:(x < (l0_3.length:Int))=True:=eq_true c4
     have HN:=Aside0.mk hx
     clear hx HH c4
     subst he
     have HQ:=Aside0.mk hb
     clear hb hrd hy
     cases b
     ·go_wp2_with (first
       | (go_at_call 101;(with_reducible refine (conf_drop.calls y _ _ HQ.out).mono ?_);rintro e w4 ⟨rfl,hb4⟩;have BX4:=Aside0.mk (blk_below BX3.out hb4);have L4:=Aside0.mk (below_step L3.out hb4)))
      go_ret
      have hx:=HN.out
      simp only [Bool.false_eq_true,if_false,Option.some.injEq] at hx
      have hr:=HR.out
      rw [← hx,if_neg zb44] at hr
      injection hr with hr
      subst hr
      exact ⟨zb46,L4.out⟩
     ·go_wp2_with (first
       | (go_at_call 101;(with_reducible refine (conf_drop.calls y _ _ HQ.out).mono ?_);rintro e w4 ⟨rfl,hb4⟩;have BX4:=Aside0.mk (blk_below BX3.out hb4);have L4:=Aside0.mk (below_step L3.out hb4)))
      go_roundg (gk - 1)
      case measure=>have:=HX.out;have:=of_eq_true q8;omega
      case rel =>
       have hx:=HN.out
       simp only [if_true] at hx
       have hx8:=HX.out
       have hq8:=of_eq_true q8
       have hw:wrap64 (x + 1)=x + 1:=by have:=HR3.out.2.1;unfold wrap64;omega
       refine ⟨wrap64 (x + 1),zb46,⟨by rw [hw];omega⟩,L4,BX4,⟨?_⟩⟩
       rw [hw,show (x + 1).toNat=x.toNat + 1 by omega]
       exact hx
/-- The errors that are told behind the parts. -/
def conf_Check.e (l0_0:List (S83)) (l0_1:List (S85)):Int:=if dcount (l0_0.map (·.f0)) < l0_0.length then 72 else if dcount (l0_1.map (·.f0)) < l0_1.length then 72 else if (l0_1.any fun r => !hasB (l0_0.map (·.f0)) r.f1)=true then 71 else 0
def conf_Check.f (k:Nat) (l0_0:List (S83)) (l0_1:List (S85)) (l0_2:List (S36)) (l0_3:List ByteArray) (a0_4:Int) (a0_5:Int) (a0_6:Int) (a0_7:Int):Option Int:=if l0_0.length ≤ 140737488355328∧l0_1.length ≤ 140737488355328∧(∀ u ∈ l0_0,u.f0.size ≤ 140737488355328)∧(∀ r ∈ l0_1,r.f0.size ≤ 140737488355328∧r.f1.size ≤ 140737488355328) then
 (conf_many.f l0_0 l0_1 l0_2 l0_3 a0_4 a0_5 a0_6 a0_7).bind fun m=>if m=true then some 3 else (conf_right.f k l0_0 l0_1 l0_2 l0_3 a0_4 a0_5 a0_6 a0_7).bind fun b=>if b=true then some (conf_Check.e l0_0 l0_1) else some 1
 else none
theorem zero_bool (w:World):(zeroValue 4).run Tryz.prog w = .ok (.bool false) w:=by kernel_rfl
set_option maxHeartbeats 8000000 in
set_option maxRecDepth 100000 in
theorem conf_Check.calls (k:Nat) (A0_0:Option Addr) (c0_0:Nat) (l0_0:List (S83)) (A0_1:Option Addr) (c0_1:Nat) (l0_1:List (S85)) (A0_2:Option Addr) (c0_2:Nat) (l0_2:List (S36)) (A0_3:Option Addr) (c0_3:Nat) (l0_3:List ByteArray) (a0_4:Int) (a0_5:Int) (a0_6:Int) (a0_7:Int) (r:Int) (w:World) (hr0_0:Kd.C k83 w A0_0 l0_0.length l0_0) (hc0_0:l0_0.length ≤ c0_0) (hr0_1:Kd.C k85 w A0_1 l0_1.length l0_1) (hc0_1:l0_1.length ≤ c0_1) (hr0_2:Kd.C k36 w A0_2 l0_2.length l0_2) (hc0_2:l0_2.length ≤ c0_2) (hr0_3:Kd.C Kd.string w A0_3 l0_3.length l0_3) (hc0_3:l0_3.length ≤ c0_3) (h:conf_Check.f k l0_0 l0_1 l0_2 l0_3 a0_4 a0_5 a0_6 a0_7=some r) :
 Calls Tryz.prog 29 #[.agg #[.slice A0_0 l0_0.length c0_0,.slice A0_1 l0_1.length c0_1,.slice A0_2 l0_2.length c0_2,.slice A0_3 l0_3.length c0_3,.int .i64 a0_4,.int .i64 a0_5,.int .i64 a0_6,.int .i64 a0_7]] w fun e w' => e = .returned (.int .i64 r)∧Below w.heap.size w w' := by
 have hu:=Tryz.underlying46
 have hu1:=Tryz.underlying83
 have hu2:=Tryz.underlying85
 have hu4:=Tryz.underlying52
 have hmm := @run_makeMap Tryz.prog
 have HR0:=Aside0.mk hr0_0
 have HR1:=Aside0.mk hr0_1
 have HR2:=Aside0.mk hr0_2
 have HR3:=Aside0.mk hr0_3
 have HC0:=Aside0.mk hc0_0
 have HC1:=Aside0.mk hc0_1
 have HC2:=Aside0.mk hc0_2
 have HC3:=Aside0.mk hc0_3
 clear hr0_0 hr0_1 hr0_2 hr0_3 hc0_0 hc0_1 hc0_2 hc0_3
 unfold conf_Check.f at h
 by_cases hz:l0_0.length ≤ 140737488355328∧l0_1.length ≤ 140737488355328∧(∀ u ∈ l0_0,u.f0.size ≤ 140737488355328)∧(∀ r ∈ l0_1,r.f0.size ≤ 140737488355328∧r.f1.size ≤ 140737488355328);rotate_left
 ·rw [if_neg hz] at h
  cases h
 rw [if_pos hz] at h
 have HZ:=Aside0.mk hz
 have HH:=Aside0.mk h
 clear hz h
 go_enter Tryz.func29,Tryz.ntmps29
 go_wp2_with (first
  | ((with_reducible refine gate_dst (N:=1) rfl ?_);refine box_event ?hg (N:=1) ?hd (cs:=#[.slice A0_0 l0_0.length c0_0,.slice A0_1 l0_1.length c0_1,.slice A0_2 l0_2.length c0_2,.slice A0_3 l0_3.length c0_3,.int .i64 a0_4,.int .i64 a0_5,.int .i64 a0_6,.int .i64 a0_7]) (t:=46) ?hr ?_;(case hd=>rfl);(case hg=>rfl);(case hr=>first|(go_simp;done)|(go_simp;rfl));intro X hX w1 hBX hbX;have BX1:=Aside0.mk hBX;have L1:=Aside0.mk hbX;clear hBX hbX hX;have BX2:=Aside0.mk (blk_alloc (blk_alloc BX1.out (.map #[] 0)) (.map #[] 0));have q0:((w1.alloc (.map #[] 0)).alloc (.map #[] 0)).cell? ⟨X,0,none⟩=some (.slice A0_0 l0_0.length c0_0):=(blk_cell BX2.out 0).trans rfl;have q1:((w1.alloc (.map #[] 0)).alloc (.map #[] 0)).cell? ⟨X,1,none⟩=some (.slice A0_1 l0_1.length c0_1):=(blk_cell BX2.out 1).trans rfl;have q2:((w1.alloc (.map #[] 0)).alloc (.map #[] 0)).cell? ⟨X,2,none⟩=some (.slice A0_2 l0_2.length c0_2):=(blk_cell BX2.out 2).trans rfl;have q3:((w1.alloc (.map #[] 0)).alloc (.map #[] 0)).cell? ⟨X,3,none⟩=some (.slice A0_3 l0_3.length c0_3):=(blk_cell BX2.out 3).trans rfl;have q4:((w1.alloc (.map #[] 0)).alloc (.map #[] 0)).cell? ⟨X,4,none⟩=some (.int .i64 a0_4):=(blk_cell BX2.out 4).trans rfl;have q5:((w1.alloc (.map #[] 0)).alloc (.map #[] 0)).cell? ⟨X,5,none⟩=some (.int .i64 a0_5):=(blk_cell BX2.out 5).trans rfl;have q6:((w1.alloc (.map #[] 0)).alloc (.map #[] 0)).cell? ⟨X,6,none⟩=some (.int .i64 a0_6):=(blk_cell BX2.out 6).trans rfl;have q7:((w1.alloc (.map #[] 0)).alloc (.map #[] 0)).cell? ⟨X,7,none⟩=some (.int .i64 a0_7):=(blk_cell BX2.out 7).trans rfl))
 have XM:=Aside0.mk (show X < w1.heap.size∧w.heap.size ≤ w1.heap.size from ⟨blk_lt BX1.out,L1.out.size⟩)
 have L2:=Aside0.mk (below_alloc (below_alloc L1.out (.map #[] 0)) (.map #[] 0))
 have SA:=Aside0.mk (((SetB.make (P:=Tryz.prog) (K:=9) (E:=4) w1).alloc (.map #[] 0)):SetB Tryz.prog 9 4 ((w1.alloc (.map #[] 0)).alloc (.map #[] 0)) w1.heap.size 0 [])
 have SC:=Aside0.mk (show SetB Tryz.prog 9 4 ((w1.alloc (.map #[] 0)).alloc (.map #[] 0)) (w1.heap.size + 1) 0 [] from by have z:=SetB.make (P:=Tryz.prog) (K:=9) (E:=4) (w1.alloc (.map #[] 0));rw [show (w1.alloc (.map #[] 0)).heap.size=w1.heap.size + 1 from Array.size_push ..] at z;exact z)
 clear q0 q1 q2 q3 q4 q5 q6 q7
 go_loopg [15] l0_0.length (fun kq v wr => ∃ (x:Int),v = .int .i64 x∧Aside0 (0 ≤ x∧x ≤ l0_0.length∧(l0_0.length:Int) - x ≤ kq)∧Aside0 (Below w.heap.size w wr)∧Aside0 (wr.heap[X]? = some (.cells #[.slice A0_0 l0_0.length c0_0,.slice A0_1 l0_1.length c0_1,.slice A0_2 l0_2.length c0_2,.slice A0_3 l0_3.length c0_3,.int .i64 a0_4,.int .i64 a0_5,.int .i64 a0_6,.int .i64 a0_7] 46 (0,0)))∧Aside0 (SetB Tryz.prog 9 4 wr w1.heap.size x.toNat ((l0_0.map (·.f0)).take x.toNat))∧Aside0 (SetB Tryz.prog 9 4 wr (w1.heap.size + 1) 0 []))
 case atStart=>exact ⟨0,rfl,⟨zb17⟩,L2,BX2,SA,SC⟩
 case round =>
  obtain ⟨x,rfl,HX,L3,BX3,SA3,SC3⟩:=hrel
  clear SA SC L1 L2 BX1 BX2
  by_cases c4:x < (l0_0.length:Int)
  ·have c4b0:=decide_eq_true c4
   have hlt:x.toNat < l0_0.length:=by have:=HX.out;omega
   have hrd:rd_T83 l0_0 x=l0_0[x.toNat]:=by unfold rd_T83;rw [List.getD_eq_getElem?_getD,List.getElem?_eq_getElem hlt];rfl
   obtain ⟨ad,A1,c1,he,h0,h1,lc1,hC1⟩:=at_T83 HR0.out x HX.out.1 c4
   replace h0:=(L3.out.cell (World.block_lt_of_cell? w _ h0)).trans h0
   replace h1:=(L3.out.cell (World.block_lt_of_cell? w _ h1)).trans h1
   obtain ⟨y,hy⟩ : ∃ y,rd_T83 l0_0 x=y:=⟨_,rfl⟩
   have hmem:y ∈ l0_0:=by rw [← hy,hrd];exact List.getElem_mem hlt
   have htk:(l0_0.map (·.f0)).take (x.toNat + 1)=(l0_0.map (·.f0)).take x.toNat ++ [y.f0]:=by rw [List.take_succ_eq_append_getElem (by rw [List.length_map];exact hlt),List.getElem_map,← hrd,hy]
   rw [hy] at h0 h1 lc1 hC1
   have m0:(wr.alloc (.cells #[.string y.f0,.slice A1 y.f1.length c1] 83 (0,0))).cell? ⟨wr.heap.size,0,none⟩=some (.string y.f0):=(blk_cell (blk_new wr _) 0).trans rfl
   have m1:(wr.alloc (.cells #[.string y.f0,.slice A1 y.f1.length c1] 83 (0,0))).cell? ⟨wr.heap.size,1,none⟩=some (.slice A1 y.f1.length c1):=(blk_cell (blk_new wr _) 1).trans rfl
   have BX4:=Aside0.mk (blk_alloc BX3.out (.cells #[.string y.f0,.slice A1 y.f1.length c1] 83 (0,0)))
   have L4:=Aside0.mk (below_alloc L3.out (.cells #[.string y.f0,.slice A1 y.f1.length c1] 83 (0,0)))
   have SA4:=Aside0.mk (SA3.out.alloc (.cells #[.string y.f0,.slice A1 y.f1.length c1] 83 (0,0)))
   have SC4:=Aside0.mk (SC3.out.alloc (.cells #[.string y.f0,.slice A1 y.f1.length c1] 83 (0,0)))
   have BY4:=Aside0.mk (blk_new wr (.cells #[.string y.f0,.slice A1 y.f1.length c1] 83 (0,0)))
   have p8:(0 ≤ x)=True:=eq_true HX.out.1
   have q8:(x < (l0_0.length:Int))=True:=eq_true c4
   have HT:=Aside0.mk htk
   have HM:=Aside0.mk hmem
   clear hlt hrd hy htk hmem c4 lc1 hC1
   subst he
   go_wp2_with (first
    | (at_mapUpdate;refine wpList_mapUpdate_own _ rfl _ _ _ 52 rfl 9 4 (Go.Maps.string_keyed Tryz.underlying9) Tryz.underlying52 _ w1.heap.size x.toNat _ rfl SA4.out (by have:=HX.out;have:=HZ.out.1;unfold maxLen;omega) _ _ _ rfl rfl (Go.WideMaps.keyOf_string_mk Tryz.underlying9 (by have:=HZ.out.2.2.1 y HM.out;unfold maxLen;omega)) _ [] (plainElem_bool Tryz.underlying4 true) ?_;intro w5 hown5 hgrow5;have SA5:=Aside0.mk (SetB.put hown5);have SC5:=Aside0.mk (SC4.out.grown hgrow5 zb17);have L5:=Aside0.mk (L4.out.grown hgrow5 L4.out.size (fun j hj=>by injection hj with hj;have:=XM.out;omega));have BX5:=Aside0.mk ((hgrow5.block X (blk_lt BX4.out) (fun e=>by injection e with e;have:=XM.out;omega)).trans BX4.out)))
   go_roundg (gk - 1)
   case measure=>have:=HX.out;have:=of_eq_true q8;omega
   case rel =>
    have hx8:=HX.out
    have hq8:=of_eq_true q8
    have hw:wrap64 (x + 1)=x + 1:=by have:=HR0.out.2.1;unfold wrap64;omega
    have hw2:(wrap64 (x + 1)).toNat=x.toNat + 1:=by rw [hw];omega
    exact ⟨wrap64 (x + 1),zb46,⟨by rw [hw];omega⟩,L5,BX5,⟨by rw [hw2,HT.out];exact SA5.out⟩,SC5⟩
  have c4b0:=decide_eq_false c4
  have hxe:x.toNat=l0_0.length:=by have:=HX.out;omega
  have SA:=Aside0.mk (show SetB Tryz.prog 9 4 wr w1.heap.size l0_0.length (l0_0.map (·.f0)) from by have z:=SA3.out;rw [hxe,List.take_of_length_le (by rw [List.length_map];omega)] at z;exact z)
  have SC:=SC3
  have L2:=L3
  have BX2:=BX3
  clear SA3 SC3 HX c4 hxe L3 BX3
  have q0:wr.cell? ⟨X,0,none⟩=some (.slice A0_0 l0_0.length c0_0):=(blk_cell BX2.out 0).trans rfl
  have q1:wr.cell? ⟨X,1,none⟩=some (.slice A0_1 l0_1.length c0_1):=(blk_cell BX2.out 1).trans rfl
  have q2:wr.cell? ⟨X,2,none⟩=some (.slice A0_2 l0_2.length c0_2):=(blk_cell BX2.out 2).trans rfl
  have q3:wr.cell? ⟨X,3,none⟩=some (.slice A0_3 l0_3.length c0_3):=(blk_cell BX2.out 3).trans rfl
  have q4:wr.cell? ⟨X,4,none⟩=some (.int .i64 a0_4):=(blk_cell BX2.out 4).trans rfl
  have q5:wr.cell? ⟨X,5,none⟩=some (.int .i64 a0_5):=(blk_cell BX2.out 5).trans rfl
  have q6:wr.cell? ⟨X,6,none⟩=some (.int .i64 a0_6):=(blk_cell BX2.out 6).trans rfl
  have q7:wr.cell? ⟨X,7,none⟩=some (.int .i64 a0_7):=(blk_cell BX2.out 7).trans rfl
  go_wp2
  clear q0 q1 q2 q3 q4 q5 q6 q7
  go_loopg [26,7] l0_1.length (fun kq v v7 wr => ∃ (x:Int),v = .int .i64 x∧Aside0 (0 ≤ x∧x ≤ l0_1.length∧(l0_1.length:Int) - x ≤ kq)∧Aside0 (Below w.heap.size w wr)∧Aside0 (wr.heap[X]? = some (.cells #[.slice A0_0 l0_0.length c0_0,.slice A0_1 l0_1.length c0_1,.slice A0_2 l0_2.length c0_2,.slice A0_3 l0_3.length c0_3,.int .i64 a0_4,.int .i64 a0_5,.int .i64 a0_6,.int .i64 a0_7] 46 (0,0)))∧v7 = .bool ((l0_1.take x.toNat).any fun r => !hasB (l0_0.map (·.f0)) r.f1)∧Aside0 (SetB Tryz.prog 9 4 wr w1.heap.size l0_0.length (l0_0.map (·.f0)))∧Aside0 (SetB Tryz.prog 9 4 wr (w1.heap.size + 1) x.toNat ((l0_1.map (·.f0)).take x.toNat)))
  case atStart=>exact ⟨0,rfl,⟨zb17⟩,L2,BX2,rfl,SA,SC⟩
  case round =>
   obtain ⟨x,rfl,HX,L3,BX3,rfl,SA3,SC3⟩:=hrel
   clear SA SC L2 BX2
   by_cases c4:x < (l0_1.length:Int)
   ·have c4b0:=decide_eq_true c4
    have hlt:x.toNat < l0_1.length:=by have:=HX.out;omega
    have hrd:rd_T85 l0_1 x=l0_1[x.toNat]:=by unfold rd_T85;rw [List.getD_eq_getElem?_getD,List.getElem?_eq_getElem hlt];rfl
    obtain ⟨ad,he,h0,h1,h2⟩:=at_T85 HR1.out x HX.out.1 c4
    replace h0:=(L3.out.cell (World.block_lt_of_cell? w _ h0)).trans h0
    replace h1:=(L3.out.cell (World.block_lt_of_cell? w _ h1)).trans h1
    replace h2:=(L3.out.cell (World.block_lt_of_cell? w _ h2)).trans h2
    obtain ⟨y,hy⟩ : ∃ y,rd_T85 l0_1 x=y:=⟨_,rfl⟩
    have hmem:y ∈ l0_1:=by rw [← hy,hrd];exact List.getElem_mem hlt
    have htk:(l0_1.map (·.f0)).take (x.toNat + 1)=(l0_1.map (·.f0)).take x.toNat ++ [y.f0]:=by rw [List.take_succ_eq_append_getElem (by rw [List.length_map];exact hlt),List.getElem_map,← hrd,hy]
    rw [hy] at h0 h1 h2
    have m0:(wr.alloc (.cells #[.string y.f0,.string y.f1,.string y.f2] 85 (0,0))).cell? ⟨wr.heap.size,0,none⟩=some (.string y.f0):=(blk_cell (blk_new wr _) 0).trans rfl
    have m1:(wr.alloc (.cells #[.string y.f0,.string y.f1,.string y.f2] 85 (0,0))).cell? ⟨wr.heap.size,1,none⟩=some (.string y.f1):=(blk_cell (blk_new wr _) 1).trans rfl
    have m2:(wr.alloc (.cells #[.string y.f0,.string y.f1,.string y.f2] 85 (0,0))).cell? ⟨wr.heap.size,2,none⟩=some (.string y.f2):=(blk_cell (blk_new wr _) 2).trans rfl
    have BX4:=Aside0.mk (blk_alloc BX3.out (.cells #[.string y.f0,.string y.f1,.string y.f2] 85 (0,0)))
    have L4:=Aside0.mk (below_alloc L3.out (.cells #[.string y.f0,.string y.f1,.string y.f2] 85 (0,0)))
    have SA4:=Aside0.mk (SA3.out.alloc (.cells #[.string y.f0,.string y.f1,.string y.f2] 85 (0,0)))
    have SC4:=Aside0.mk (SC3.out.alloc (.cells #[.string y.f0,.string y.f1,.string y.f2] 85 (0,0)))
    have BY4:=Aside0.mk (blk_new wr (.cells #[.string y.f0,.string y.f1,.string y.f2] 85 (0,0)))
    have htk2:l0_1.take (x.toNat + 1)=l0_1.take x.toNat ++ [y]:=by rw [List.take_succ_eq_append_getElem hlt,← hrd,hy]
    have HT2:=Aside0.mk htk2
    clear htk2
    have p8:(0 ≤ x)=True:=eq_true HX.out.1
    have q8:(x < (l0_1.length:Int))=True:=eq_true c4
    have HT:=Aside0.mk htk
    have HM:=Aside0.mk hmem
    clear hlt hrd hy htk hmem c4
    subst he
    have HL:=Aside0.mk (show ((l0_1.take (x.toNat + 1)).any fun r => !hasB (l0_0.map (·.f0)) r.f1)=(((l0_1.take x.toNat).any fun r => !hasB (l0_0.map (·.f0)) r.f1) || !hasB (l0_0.map (·.f0)) y.f1) from by rw [HT2.out,List.any_append];simp)
    obtain ⟨lb,hlb⟩ : ∃ lb,lb=((l0_1.take x.toNat).any fun r => !hasB (l0_0.map (·.f0)) r.f1):=⟨_,rfl⟩
    obtain ⟨hb,hhb⟩ : ∃ hb,hb=hasB (l0_0.map (·.f0)) y.f1:=⟨_,rfl⟩
    rw [← hlb] at HL ⊢
    rw [← hhb] at HL
    have HHB:=Aside0.mk hhb
    clear hlb hhb
    cases lb <;> cases hb
    all_goals
     go_wp2_with (first
      | (at_mapUpdate;refine wpList_mapUpdate_own _ rfl _ _ _ 52 rfl 9 4 (Go.Maps.string_keyed Tryz.underlying9) Tryz.underlying52 _ (w1.heap.size + 1) x.toNat _ rfl SC4.out (by have:=HX.out;have:=HZ.out.2.1;unfold maxLen;omega) _ _ _ rfl rfl (Go.WideMaps.keyOf_string_mk Tryz.underlying9 (by have:=(HZ.out.2.2.2 y HM.out).1;unfold maxLen;omega)) _ [] (plainElem_bool Tryz.underlying4 true) ?_;intro w5 hown5 hgrow5;have SC5:=Aside0.mk (SetB.put hown5);have SA5:=Aside0.mk (SA4.out.grown hgrow5 zb17);have L5:=Aside0.mk (L4.out.grown hgrow5 L4.out.size (fun j hj=>by injection hj with hj;have:=XM.out;omega));have BX5:=Aside0.mk ((hgrow5.block X (blk_lt BX4.out) (fun e=>by injection e with e;have:=XM.out;omega)).trans BX4.out);have lk:=SA5.out.look Tryz.underlying52 Tryz.underlying9 Tryz.underlying4 (zero_bool w5) y.f1 (by have:=HZ.out.2.2.2 y HM.out;unfold maxLen;omega);rw [← HHB.out] at lk;have BY5:=(hgrow5.block wr.heap.size (blk_lt BY4.out) (fun e=>by injection e with e;have:=SC3.out.lt;omega)).trans BY4.out;clear m0 m1 m2;have m1:w5.cell? ⟨wr.heap.size,1,none⟩=some (.string y.f1):=(blk_cell BY5 1).trans rfl))
     go_roundg (gk - 1)
     case measure=>have:=HX.out;have:=of_eq_true q8;omega
     case rel =>
      have hx8:=HX.out
      have hq8:=of_eq_true q8
      have hw:wrap64 (x + 1)=x + 1:=by have:=HR1.out.2.1;unfold wrap64;omega
      have hw2:(wrap64 (x + 1)).toNat=x.toNat + 1:=by rw [hw];omega
      exact ⟨wrap64 (x + 1),zb46,⟨by rw [hw];omega⟩,L5,BX5,(by rw [hw2,HL.out];rfl),SA5,⟨by rw [hw2,HT.out];exact SC5.out⟩⟩
   have c4b0:=decide_eq_false c4
   have hxe:x.toNat=l0_1.length:=by have:=HX.out;omega
   have SC:=Aside0.mk (show SetB Tryz.prog 9 4 wr (w1.heap.size + 1) l0_1.length (l0_1.map (·.f0)) from by have z:=SC3.out;rw [hxe,List.take_of_length_le (by rw [List.length_map];omega)] at z;exact z)
   obtain ⟨lb,hlb⟩ : ∃ lb,lb=((l0_1.take x.toNat).any fun r => !hasB (l0_0.map (·.f0)) r.f1):=⟨_,rfl⟩
   have HL:=Aside0.mk (show (l0_1.any fun r => !hasB (l0_0.map (·.f0)) r.f1)=lb from by rw [hlb,hxe,List.take_of_length_le zb17])
   rw [← hlb]
   have SA:=SA3
   have L2:=L3
   have BX2:=BX3
   clear SA3 SC3 HX c4 hxe L3 BX3 hlb
   have h:=HH.out
   clear HH
   obtain ⟨m,hm,h⟩:=Option.bind_eq_some_iff.1 h
   have HM:=Aside0.mk hm
   clear hm
   have q0:wr.cell? ⟨X,0,none⟩=some (.slice A0_0 l0_0.length c0_0):=(blk_cell BX2.out 0).trans rfl
   have q1:wr.cell? ⟨X,1,none⟩=some (.slice A0_1 l0_1.length c0_1):=(blk_cell BX2.out 1).trans rfl
   have q2:wr.cell? ⟨X,2,none⟩=some (.slice A0_2 l0_2.length c0_2):=(blk_cell BX2.out 2).trans rfl
   have q3:wr.cell? ⟨X,3,none⟩=some (.slice A0_3 l0_3.length c0_3):=(blk_cell BX2.out 3).trans rfl
   have q4:wr.cell? ⟨X,4,none⟩=some (.int .i64 a0_4):=(blk_cell BX2.out 4).trans rfl
   have q5:wr.cell? ⟨X,5,none⟩=some (.int .i64 a0_5):=(blk_cell BX2.out 5).trans rfl
   have q6:wr.cell? ⟨X,6,none⟩=some (.int .i64 a0_6):=(blk_cell BX2.out 6).trans rfl
   have q7:wr.cell? ⟨X,7,none⟩=some (.int .i64 a0_7):=(blk_cell BX2.out 7).trans rfl
   cases m
   ·rw [if_neg zb44] at h
    obtain ⟨b,hb,h⟩:=Option.bind_eq_some_iff.1 h
    have HRI:=Aside0.mk hb
    clear hb
    cases b
    ·rw [if_neg zb44] at h
     injection h with h
     subst h
     go_wp2_with (first
      | (go_at_call 56;(with_reducible refine (conf_many.calls A0_0 c0_0 l0_0 A0_1 c0_1 l0_1 A0_2 c0_2 l0_2 A0_3 c0_3 l0_3 a0_4 a0_5 a0_6 a0_7 _ _ (Kd.C_below HR0.out L2.out) HC0.out (Kd.C_below HR1.out L2.out) HC1.out (Kd.C_below HR2.out L2.out) HC2.out (Kd.C_below HR3.out L2.out) HC3.out HM.out).mono ?_);rintro e w6 ⟨rfl,hb6⟩;have L6:=Aside0.mk (below_step L2.out hb6);have BX6:=Aside0.mk (blk_below BX2.out hb6);have SA6:=Aside0.mk (SA.out.below hb6);have SC6:=Aside0.mk (SC.out.below hb6);clear q0 q1 q2 q3 q4 q5 q6 q7;clear hb6;have q0:w6.cell? ⟨X,0,none⟩=some (.slice A0_0 l0_0.length c0_0):=(blk_cell BX6.out 0).trans rfl;have q1:w6.cell? ⟨X,1,none⟩=some (.slice A0_1 l0_1.length c0_1):=(blk_cell BX6.out 1).trans rfl;have q2:w6.cell? ⟨X,2,none⟩=some (.slice A0_2 l0_2.length c0_2):=(blk_cell BX6.out 2).trans rfl;have q3:w6.cell? ⟨X,3,none⟩=some (.slice A0_3 l0_3.length c0_3):=(blk_cell BX6.out 3).trans rfl;have q4:w6.cell? ⟨X,4,none⟩=some (.int .i64 a0_4):=(blk_cell BX6.out 4).trans rfl;have q5:w6.cell? ⟨X,5,none⟩=some (.int .i64 a0_5):=(blk_cell BX6.out 5).trans rfl;have q6:w6.cell? ⟨X,6,none⟩=some (.int .i64 a0_6):=(blk_cell BX6.out 6).trans rfl;have q7:w6.cell? ⟨X,7,none⟩=some (.int .i64 a0_7):=(blk_cell BX6.out 7).trans rfl)
      | (go_at_call 57;(with_reducible refine (conf_right.calls k A0_0 c0_0 l0_0 A0_1 c0_1 l0_1 A0_2 c0_2 l0_2 A0_3 c0_3 l0_3 a0_4 a0_5 a0_6 a0_7 _ _ (Kd.C_below HR0.out L6.out) HC0.out (Kd.C_below HR1.out L6.out) HC1.out (Kd.C_below HR2.out L6.out) HC2.out (Kd.C_below HR3.out L6.out) HC3.out HRI.out).mono ?_);rintro e w7 ⟨rfl,hb7⟩;have L7:=Aside0.mk (below_step L6.out hb7);have BX7:=Aside0.mk (blk_below BX6.out hb7);have la:=(SA6.out.below hb7).len Tryz.underlying52 3;have lc:=(SC6.out.below hb7).len Tryz.underlying52 3;clear q0 q1 q2 q3 q4 q5 q6 q7;clear hb7;have q0:w7.cell? ⟨X,0,none⟩=some (.slice A0_0 l0_0.length c0_0):=(blk_cell BX7.out 0).trans rfl;have q1:w7.cell? ⟨X,1,none⟩=some (.slice A0_1 l0_1.length c0_1):=(blk_cell BX7.out 1).trans rfl;have q2:w7.cell? ⟨X,2,none⟩=some (.slice A0_2 l0_2.length c0_2):=(blk_cell BX7.out 2).trans rfl;have q3:w7.cell? ⟨X,3,none⟩=some (.slice A0_3 l0_3.length c0_3):=(blk_cell BX7.out 3).trans rfl;have q4:w7.cell? ⟨X,4,none⟩=some (.int .i64 a0_4):=(blk_cell BX7.out 4).trans rfl;have q5:w7.cell? ⟨X,5,none⟩=some (.int .i64 a0_5):=(blk_cell BX7.out 5).trans rfl;have q6:w7.cell? ⟨X,6,none⟩=some (.int .i64 a0_6):=(blk_cell BX7.out 6).trans rfl;have q7:w7.cell? ⟨X,7,none⟩=some (.int .i64 a0_7):=(blk_cell BX7.out 7).trans rfl))
     go_ret
     exact ⟨zb46,L7.out⟩
    rw [if_pos rfl] at h
    injection h with h
    unfold conf_Check.e at h
    rw [HL.out] at h
    by_cases d1:dcount (l0_0.map (·.f0)) < l0_0.length
    ·rw [if_pos d1] at h
     subst h
     have e1:decide ((dcount (l0_0.map (·.f0)):Int) < (l0_0.length:Int))=true:=decide_eq_true zb17
     have e2:decide (dcount (l0_0.map (·.f0)) < l0_0.length)=true:=decide_eq_true zb17
     have e3:((dcount (l0_0.map (·.f0)):Int) < (l0_0.length:Int))=True:=eq_true zb17
     have e4:(dcount (l0_0.map (·.f0)) < l0_0.length)=True:=eq_true zb17
     clear d1
     go_wp2_with (first
      | (go_at_call 56;(with_reducible refine (conf_many.calls A0_0 c0_0 l0_0 A0_1 c0_1 l0_1 A0_2 c0_2 l0_2 A0_3 c0_3 l0_3 a0_4 a0_5 a0_6 a0_7 _ _ (Kd.C_below HR0.out L2.out) HC0.out (Kd.C_below HR1.out L2.out) HC1.out (Kd.C_below HR2.out L2.out) HC2.out (Kd.C_below HR3.out L2.out) HC3.out HM.out).mono ?_);rintro e w6 ⟨rfl,hb6⟩;have L6:=Aside0.mk (below_step L2.out hb6);have BX6:=Aside0.mk (blk_below BX2.out hb6);have SA6:=Aside0.mk (SA.out.below hb6);have SC6:=Aside0.mk (SC.out.below hb6);clear q0 q1 q2 q3 q4 q5 q6 q7;clear hb6;have q0:w6.cell? ⟨X,0,none⟩=some (.slice A0_0 l0_0.length c0_0):=(blk_cell BX6.out 0).trans rfl;have q1:w6.cell? ⟨X,1,none⟩=some (.slice A0_1 l0_1.length c0_1):=(blk_cell BX6.out 1).trans rfl;have q2:w6.cell? ⟨X,2,none⟩=some (.slice A0_2 l0_2.length c0_2):=(blk_cell BX6.out 2).trans rfl;have q3:w6.cell? ⟨X,3,none⟩=some (.slice A0_3 l0_3.length c0_3):=(blk_cell BX6.out 3).trans rfl;have q4:w6.cell? ⟨X,4,none⟩=some (.int .i64 a0_4):=(blk_cell BX6.out 4).trans rfl;have q5:w6.cell? ⟨X,5,none⟩=some (.int .i64 a0_5):=(blk_cell BX6.out 5).trans rfl;have q6:w6.cell? ⟨X,6,none⟩=some (.int .i64 a0_6):=(blk_cell BX6.out 6).trans rfl;have q7:w6.cell? ⟨X,7,none⟩=some (.int .i64 a0_7):=(blk_cell BX6.out 7).trans rfl)
      | (go_at_call 57;(with_reducible refine (conf_right.calls k A0_0 c0_0 l0_0 A0_1 c0_1 l0_1 A0_2 c0_2 l0_2 A0_3 c0_3 l0_3 a0_4 a0_5 a0_6 a0_7 _ _ (Kd.C_below HR0.out L6.out) HC0.out (Kd.C_below HR1.out L6.out) HC1.out (Kd.C_below HR2.out L6.out) HC2.out (Kd.C_below HR3.out L6.out) HC3.out HRI.out).mono ?_);rintro e w7 ⟨rfl,hb7⟩;have L7:=Aside0.mk (below_step L6.out hb7);have BX7:=Aside0.mk (blk_below BX6.out hb7);have la:=(SA6.out.below hb7).len Tryz.underlying52 3;have lc:=(SC6.out.below hb7).len Tryz.underlying52 3;clear q0 q1 q2 q3 q4 q5 q6 q7;clear hb7;have q0:w7.cell? ⟨X,0,none⟩=some (.slice A0_0 l0_0.length c0_0):=(blk_cell BX7.out 0).trans rfl;have q1:w7.cell? ⟨X,1,none⟩=some (.slice A0_1 l0_1.length c0_1):=(blk_cell BX7.out 1).trans rfl;have q2:w7.cell? ⟨X,2,none⟩=some (.slice A0_2 l0_2.length c0_2):=(blk_cell BX7.out 2).trans rfl;have q3:w7.cell? ⟨X,3,none⟩=some (.slice A0_3 l0_3.length c0_3):=(blk_cell BX7.out 3).trans rfl;have q4:w7.cell? ⟨X,4,none⟩=some (.int .i64 a0_4):=(blk_cell BX7.out 4).trans rfl;have q5:w7.cell? ⟨X,5,none⟩=some (.int .i64 a0_5):=(blk_cell BX7.out 5).trans rfl;have q6:w7.cell? ⟨X,6,none⟩=some (.int .i64 a0_6):=(blk_cell BX7.out 6).trans rfl;have q7:w7.cell? ⟨X,7,none⟩=some (.int .i64 a0_7):=(blk_cell BX7.out 7).trans rfl))
     go_ret
     exact ⟨zb46,L7.out⟩
    rw [if_neg d1] at h
    have e1:decide ((dcount (l0_0.map (·.f0)):Int) < (l0_0.length:Int))=false:=decide_eq_false zb17
    have e2:decide (dcount (l0_0.map (·.f0)) < l0_0.length)=false:=decide_eq_false zb17
    have e3:((dcount (l0_0.map (·.f0)):Int) < (l0_0.length:Int))=False:=eq_false zb17
    have e4:(dcount (l0_0.map (·.f0)) < l0_0.length)=False:=eq_false zb17
    clear d1
    by_cases d2:dcount (l0_1.map (·.f0)) < l0_1.length
    ·rw [if_pos d2] at h
     subst h
     have f1:decide ((dcount (l0_1.map (·.f0)):Int) < (l0_1.length:Int))=true:=decide_eq_true zb17
     have f2:decide (dcount (l0_1.map (·.f0)) < l0_1.length)=true:=decide_eq_true zb17
     have f3:((dcount (l0_1.map (·.f0)):Int) < (l0_1.length:Int))=True:=eq_true zb17
     have f4:(dcount (l0_1.map (·.f0)) < l0_1.length)=True:=eq_true zb17
     clear d2
     go_wp2_with (first
      | (go_at_call 56;(with_reducible refine (conf_many.calls A0_0 c0_0 l0_0 A0_1 c0_1 l0_1 A0_2 c0_2 l0_2 A0_3 c0_3 l0_3 a0_4 a0_5 a0_6 a0_7 _ _ (Kd.C_below HR0.out L2.out) HC0.out (Kd.C_below HR1.out L2.out) HC1.out (Kd.C_below HR2.out L2.out) HC2.out (Kd.C_below HR3.out L2.out) HC3.out HM.out).mono ?_);rintro e w6 ⟨rfl,hb6⟩;have L6:=Aside0.mk (below_step L2.out hb6);have BX6:=Aside0.mk (blk_below BX2.out hb6);have SA6:=Aside0.mk (SA.out.below hb6);have SC6:=Aside0.mk (SC.out.below hb6);clear q0 q1 q2 q3 q4 q5 q6 q7;clear hb6;have q0:w6.cell? ⟨X,0,none⟩=some (.slice A0_0 l0_0.length c0_0):=(blk_cell BX6.out 0).trans rfl;have q1:w6.cell? ⟨X,1,none⟩=some (.slice A0_1 l0_1.length c0_1):=(blk_cell BX6.out 1).trans rfl;have q2:w6.cell? ⟨X,2,none⟩=some (.slice A0_2 l0_2.length c0_2):=(blk_cell BX6.out 2).trans rfl;have q3:w6.cell? ⟨X,3,none⟩=some (.slice A0_3 l0_3.length c0_3):=(blk_cell BX6.out 3).trans rfl;have q4:w6.cell? ⟨X,4,none⟩=some (.int .i64 a0_4):=(blk_cell BX6.out 4).trans rfl;have q5:w6.cell? ⟨X,5,none⟩=some (.int .i64 a0_5):=(blk_cell BX6.out 5).trans rfl;have q6:w6.cell? ⟨X,6,none⟩=some (.int .i64 a0_6):=(blk_cell BX6.out 6).trans rfl;have q7:w6.cell? ⟨X,7,none⟩=some (.int .i64 a0_7):=(blk_cell BX6.out 7).trans rfl)
      | (go_at_call 57;(with_reducible refine (conf_right.calls k A0_0 c0_0 l0_0 A0_1 c0_1 l0_1 A0_2 c0_2 l0_2 A0_3 c0_3 l0_3 a0_4 a0_5 a0_6 a0_7 _ _ (Kd.C_below HR0.out L6.out) HC0.out (Kd.C_below HR1.out L6.out) HC1.out (Kd.C_below HR2.out L6.out) HC2.out (Kd.C_below HR3.out L6.out) HC3.out HRI.out).mono ?_);rintro e w7 ⟨rfl,hb7⟩;have L7:=Aside0.mk (below_step L6.out hb7);have BX7:=Aside0.mk (blk_below BX6.out hb7);have la:=(SA6.out.below hb7).len Tryz.underlying52 3;have lc:=(SC6.out.below hb7).len Tryz.underlying52 3;clear q0 q1 q2 q3 q4 q5 q6 q7;clear hb7;have q0:w7.cell? ⟨X,0,none⟩=some (.slice A0_0 l0_0.length c0_0):=(blk_cell BX7.out 0).trans rfl;have q1:w7.cell? ⟨X,1,none⟩=some (.slice A0_1 l0_1.length c0_1):=(blk_cell BX7.out 1).trans rfl;have q2:w7.cell? ⟨X,2,none⟩=some (.slice A0_2 l0_2.length c0_2):=(blk_cell BX7.out 2).trans rfl;have q3:w7.cell? ⟨X,3,none⟩=some (.slice A0_3 l0_3.length c0_3):=(blk_cell BX7.out 3).trans rfl;have q4:w7.cell? ⟨X,4,none⟩=some (.int .i64 a0_4):=(blk_cell BX7.out 4).trans rfl;have q5:w7.cell? ⟨X,5,none⟩=some (.int .i64 a0_5):=(blk_cell BX7.out 5).trans rfl;have q6:w7.cell? ⟨X,6,none⟩=some (.int .i64 a0_6):=(blk_cell BX7.out 6).trans rfl;have q7:w7.cell? ⟨X,7,none⟩=some (.int .i64 a0_7):=(blk_cell BX7.out 7).trans rfl))
     go_ret
     exact ⟨zb46,L7.out⟩
    rw [if_neg d2] at h
    have f1:decide ((dcount (l0_1.map (·.f0)):Int) < (l0_1.length:Int))=false:=decide_eq_false zb17
    have f2:decide (dcount (l0_1.map (·.f0)) < l0_1.length)=false:=decide_eq_false zb17
    have f3:((dcount (l0_1.map (·.f0)):Int) < (l0_1.length:Int))=False:=eq_false zb17
    have f4:(dcount (l0_1.map (·.f0)) < l0_1.length)=False:=eq_false zb17
    clear d2
    cases lb
    ·rw [if_neg zb44] at h
     subst h
     go_wp2_with (first
      | (go_at_call 56;(with_reducible refine (conf_many.calls A0_0 c0_0 l0_0 A0_1 c0_1 l0_1 A0_2 c0_2 l0_2 A0_3 c0_3 l0_3 a0_4 a0_5 a0_6 a0_7 _ _ (Kd.C_below HR0.out L2.out) HC0.out (Kd.C_below HR1.out L2.out) HC1.out (Kd.C_below HR2.out L2.out) HC2.out (Kd.C_below HR3.out L2.out) HC3.out HM.out).mono ?_);rintro e w6 ⟨rfl,hb6⟩;have L6:=Aside0.mk (below_step L2.out hb6);have BX6:=Aside0.mk (blk_below BX2.out hb6);have SA6:=Aside0.mk (SA.out.below hb6);have SC6:=Aside0.mk (SC.out.below hb6);clear q0 q1 q2 q3 q4 q5 q6 q7;clear hb6;have q0:w6.cell? ⟨X,0,none⟩=some (.slice A0_0 l0_0.length c0_0):=(blk_cell BX6.out 0).trans rfl;have q1:w6.cell? ⟨X,1,none⟩=some (.slice A0_1 l0_1.length c0_1):=(blk_cell BX6.out 1).trans rfl;have q2:w6.cell? ⟨X,2,none⟩=some (.slice A0_2 l0_2.length c0_2):=(blk_cell BX6.out 2).trans rfl;have q3:w6.cell? ⟨X,3,none⟩=some (.slice A0_3 l0_3.length c0_3):=(blk_cell BX6.out 3).trans rfl;have q4:w6.cell? ⟨X,4,none⟩=some (.int .i64 a0_4):=(blk_cell BX6.out 4).trans rfl;have q5:w6.cell? ⟨X,5,none⟩=some (.int .i64 a0_5):=(blk_cell BX6.out 5).trans rfl;have q6:w6.cell? ⟨X,6,none⟩=some (.int .i64 a0_6):=(blk_cell BX6.out 6).trans rfl;have q7:w6.cell? ⟨X,7,none⟩=some (.int .i64 a0_7):=(blk_cell BX6.out 7).trans rfl)
      | (go_at_call 57;(with_reducible refine (conf_right.calls k A0_0 c0_0 l0_0 A0_1 c0_1 l0_1 A0_2 c0_2 l0_2 A0_3 c0_3 l0_3 a0_4 a0_5 a0_6 a0_7 _ _ (Kd.C_below HR0.out L6.out) HC0.out (Kd.C_below HR1.out L6.out) HC1.out (Kd.C_below HR2.out L6.out) HC2.out (Kd.C_below HR3.out L6.out) HC3.out HRI.out).mono ?_);rintro e w7 ⟨rfl,hb7⟩;have L7:=Aside0.mk (below_step L6.out hb7);have BX7:=Aside0.mk (blk_below BX6.out hb7);have la:=(SA6.out.below hb7).len Tryz.underlying52 3;have lc:=(SC6.out.below hb7).len Tryz.underlying52 3;clear q0 q1 q2 q3 q4 q5 q6 q7;clear hb7;have q0:w7.cell? ⟨X,0,none⟩=some (.slice A0_0 l0_0.length c0_0):=(blk_cell BX7.out 0).trans rfl;have q1:w7.cell? ⟨X,1,none⟩=some (.slice A0_1 l0_1.length c0_1):=(blk_cell BX7.out 1).trans rfl;have q2:w7.cell? ⟨X,2,none⟩=some (.slice A0_2 l0_2.length c0_2):=(blk_cell BX7.out 2).trans rfl;have q3:w7.cell? ⟨X,3,none⟩=some (.slice A0_3 l0_3.length c0_3):=(blk_cell BX7.out 3).trans rfl;have q4:w7.cell? ⟨X,4,none⟩=some (.int .i64 a0_4):=(blk_cell BX7.out 4).trans rfl;have q5:w7.cell? ⟨X,5,none⟩=some (.int .i64 a0_5):=(blk_cell BX7.out 5).trans rfl;have q6:w7.cell? ⟨X,6,none⟩=some (.int .i64 a0_6):=(blk_cell BX7.out 6).trans rfl;have q7:w7.cell? ⟨X,7,none⟩=some (.int .i64 a0_7):=(blk_cell BX7.out 7).trans rfl))
     go_ret
     exact ⟨zb46,L7.out⟩
    rw [if_pos rfl] at h
    subst h
    go_wp2_with (first
     | (go_at_call 56;(with_reducible refine (conf_many.calls A0_0 c0_0 l0_0 A0_1 c0_1 l0_1 A0_2 c0_2 l0_2 A0_3 c0_3 l0_3 a0_4 a0_5 a0_6 a0_7 _ _ (Kd.C_below HR0.out L2.out) HC0.out (Kd.C_below HR1.out L2.out) HC1.out (Kd.C_below HR2.out L2.out) HC2.out (Kd.C_below HR3.out L2.out) HC3.out HM.out).mono ?_);rintro e w6 ⟨rfl,hb6⟩;have L6:=Aside0.mk (below_step L2.out hb6);have BX6:=Aside0.mk (blk_below BX2.out hb6);have SA6:=Aside0.mk (SA.out.below hb6);have SC6:=Aside0.mk (SC.out.below hb6);clear q0 q1 q2 q3 q4 q5 q6 q7;clear hb6;have q0:w6.cell? ⟨X,0,none⟩=some (.slice A0_0 l0_0.length c0_0):=(blk_cell BX6.out 0).trans rfl;have q1:w6.cell? ⟨X,1,none⟩=some (.slice A0_1 l0_1.length c0_1):=(blk_cell BX6.out 1).trans rfl;have q2:w6.cell? ⟨X,2,none⟩=some (.slice A0_2 l0_2.length c0_2):=(blk_cell BX6.out 2).trans rfl;have q3:w6.cell? ⟨X,3,none⟩=some (.slice A0_3 l0_3.length c0_3):=(blk_cell BX6.out 3).trans rfl;have q4:w6.cell? ⟨X,4,none⟩=some (.int .i64 a0_4):=(blk_cell BX6.out 4).trans rfl;have q5:w6.cell? ⟨X,5,none⟩=some (.int .i64 a0_5):=(blk_cell BX6.out 5).trans rfl;have q6:w6.cell? ⟨X,6,none⟩=some (.int .i64 a0_6):=(blk_cell BX6.out 6).trans rfl;have q7:w6.cell? ⟨X,7,none⟩=some (.int .i64 a0_7):=(blk_cell BX6.out 7).trans rfl)
     | (go_at_call 57;(with_reducible refine (conf_right.calls k A0_0 c0_0 l0_0 A0_1 c0_1 l0_1 A0_2 c0_2 l0_2 A0_3 c0_3 l0_3 a0_4 a0_5 a0_6 a0_7 _ _ (Kd.C_below HR0.out L6.out) HC0.out (Kd.C_below HR1.out L6.out) HC1.out (Kd.C_below HR2.out L6.out) HC2.out (Kd.C_below HR3.out L6.out) HC3.out HRI.out).mono ?_);rintro e w7 ⟨rfl,hb7⟩;have L7:=Aside0.mk (below_step L6.out hb7);have BX7:=Aside0.mk (blk_below BX6.out hb7);have la:=(SA6.out.below hb7).len Tryz.underlying52 3;have lc:=(SC6.out.below hb7).len Tryz.underlying52 3;clear q0 q1 q2 q3 q4 q5 q6 q7;clear hb7;have q0:w7.cell? ⟨X,0,none⟩=some (.slice A0_0 l0_0.length c0_0):=(blk_cell BX7.out 0).trans rfl;have q1:w7.cell? ⟨X,1,none⟩=some (.slice A0_1 l0_1.length c0_1):=(blk_cell BX7.out 1).trans rfl;have q2:w7.cell? ⟨X,2,none⟩=some (.slice A0_2 l0_2.length c0_2):=(blk_cell BX7.out 2).trans rfl;have q3:w7.cell? ⟨X,3,none⟩=some (.slice A0_3 l0_3.length c0_3):=(blk_cell BX7.out 3).trans rfl;have q4:w7.cell? ⟨X,4,none⟩=some (.int .i64 a0_4):=(blk_cell BX7.out 4).trans rfl;have q5:w7.cell? ⟨X,5,none⟩=some (.int .i64 a0_5):=(blk_cell BX7.out 5).trans rfl;have q6:w7.cell? ⟨X,6,none⟩=some (.int .i64 a0_6):=(blk_cell BX7.out 6).trans rfl;have q7:w7.cell? ⟨X,7,none⟩=some (.int .i64 a0_7):=(blk_cell BX7.out 7).trans rfl))
    go_ret
    exact ⟨zb46,L7.out⟩
   rw [if_pos rfl] at h
   injection h with h
   subst h
   go_wp2_with (first
    | (go_at_call 56;(with_reducible refine (conf_many.calls A0_0 c0_0 l0_0 A0_1 c0_1 l0_1 A0_2 c0_2 l0_2 A0_3 c0_3 l0_3 a0_4 a0_5 a0_6 a0_7 _ _ (Kd.C_below HR0.out L2.out) HC0.out (Kd.C_below HR1.out L2.out) HC1.out (Kd.C_below HR2.out L2.out) HC2.out (Kd.C_below HR3.out L2.out) HC3.out HM.out).mono ?_);rintro e w6 ⟨rfl,hb6⟩;have L6:=Aside0.mk (below_step L2.out hb6);have BX6:=Aside0.mk (blk_below BX2.out hb6);have SA6:=Aside0.mk (SA.out.below hb6);have SC6:=Aside0.mk (SC.out.below hb6);clear q0 q1 q2 q3 q4 q5 q6 q7;clear hb6;have q0:w6.cell? ⟨X,0,none⟩=some (.slice A0_0 l0_0.length c0_0):=(blk_cell BX6.out 0).trans rfl;have q1:w6.cell? ⟨X,1,none⟩=some (.slice A0_1 l0_1.length c0_1):=(blk_cell BX6.out 1).trans rfl;have q2:w6.cell? ⟨X,2,none⟩=some (.slice A0_2 l0_2.length c0_2):=(blk_cell BX6.out 2).trans rfl;have q3:w6.cell? ⟨X,3,none⟩=some (.slice A0_3 l0_3.length c0_3):=(blk_cell BX6.out 3).trans rfl;have q4:w6.cell? ⟨X,4,none⟩=some (.int .i64 a0_4):=(blk_cell BX6.out 4).trans rfl;have q5:w6.cell? ⟨X,5,none⟩=some (.int .i64 a0_5):=(blk_cell BX6.out 5).trans rfl;have q6:w6.cell? ⟨X,6,none⟩=some (.int .i64 a0_6):=(blk_cell BX6.out 6).trans rfl;have q7:w6.cell? ⟨X,7,none⟩=some (.int .i64 a0_7):=(blk_cell BX6.out 7).trans rfl))
   go_ret
   exact ⟨zb46,L6.out⟩
def sign_Same.f (a0:ByteArray) (a1:ByteArray):Option (Bool):=if (a0.size:Int)=(a1.size:Int) then ((sign_Fold.f a0).bind fun t169=>((sign_Fold.f a1).bind fun t170=>(some (t169.toList == t170.toList)))) else (some false)
set_option maxHeartbeats 8000000 in
set_option maxRecDepth 100000 in
theorem sign_Same.calls (a0:ByteArray) (a1:ByteArray) (r:Bool) (w:World) (h:sign_Same.f a0 a1=some r) :
 Calls Tryz.prog 89 #[.string a0,.string a1] w fun e w' => e = .returned (.bool r)∧Below w.heap.size w w' := by
 have HB:=Aside0.mk (Below.refl w.heap.size w)
 unfold sign_Same.f at h
 have H:=h
 clear h
 by_cases c3:(a0.size:Int)=(a1.size:Int);rotate_left
 ·rw [if_neg c3] at H
  have c3b0:=beq_eq_false_iff_ne.mpr c3
  have c3b1:=bne_iff_ne.mpr c3
  have c3b2:(a0.size == a1.size)=false:=by first|simpa using c3|(simp at c3 ⊢;omega)
  obtain rfl:=Option.some.inj H
  go_enter Tryz.func89,Tryz.ntmps89
  go_wp2
  go_ret
  exact ⟨zb2,zb0⟩
 rw [if_pos c3] at H
 have c3b0:=beq_iff_eq.mpr c3
 have c3b1:=bne_eq_false_iff_eq.mpr c3
 have c3b2:(a0.size == a1.size)=true:=by first|simpa using c3|(simp at c3 ⊢;omega)
 clear c3
 replace H:=Option.bind_eq_some_iff.mp H
 obtain ⟨t169,A40,H⟩:=H
 try dsimp only at H
 have A4:=Aside0.mk A40
 clear A40
 replace H:=Option.bind_eq_some_iff.mp H
 obtain ⟨t170,A50,H⟩:=H
 try dsimp only at H
 have A5:=Aside0.mk A50
 clear A50
 obtain rfl:=Option.some.inj H
 go_enter Tryz.func89,Tryz.ntmps89
 go_wp2_with (first|(go_at_call 64;(with_reducible refine (sign_Fold.calls a0 t169 _ A4.out).mono ?_);rintro e w6 ⟨rfl,hb⟩;(try clear A4);replace HB:=Aside0.mk (below_step zb0 hb);(try clear hb))|(go_at_call 64;(with_reducible refine (sign_Fold.calls a1 t170 _ A5.out).mono ?_);rintro e w7 ⟨rfl,hb⟩;(try clear A5);replace HB:=Aside0.mk (below_step zb0 hb);(try clear hb)))
 go_ret
 exact ⟨zb2,zb0⟩
def field_Get.l0:Nat → ByteArray → List ByteArray → List (S36) → Int → Int → Option (List ByteArray)
 | 0,_,_,_,_,_=>none
 | k + 1,x1,x5,x8,x9,x10=>if x10 < x9 then (if 0 ≤ x10 then (if x10 < (x8.length:Int) then ((sign_Same.f ((rd_T36 x8 x10).f0) x1).bind fun t197=>(if t197=true then (if x5.length < 8796093022208 then (field_Get.l0 k x1 (x5 ++ [(rd_T36 x8 x10).f1]) x8 x9 (wrap64 (x10 + 1))) else (none)) else (field_Get.l0 k x1 x5 x8 x9 (wrap64 (x10 + 1))))) else (none)) else (none)) else (some x5)
def field_Get.f (k:Nat) (l0:List (S36)) (a1:ByteArray):Option (List ByteArray):=field_Get.l0 k a1 ([]:List ByteArray) l0 (l0.length:Int) 0
set_option maxHeartbeats 8000000 in
set_option maxRecDepth 100000 in
theorem field_Get.calls (k:Nat) (A0:Option Addr) (c0:Nat) (l0:List (S36)) (a1:ByteArray) (r:List ByteArray) (w:World) (hr0:Kd.C k36 w A0 l0.length l0) (hc0:l0.length ≤ c0) (h:field_Get.f k l0 a1=some r) :
 Calls Tryz.prog 50 #[.slice A0 l0.length c0,.string a1] w fun e w' => ∃ v0_:Value,e = .returned (v0_)∧Kd.R Kd.string 9 w' w.heap.size (fun _=>True) v0_ r∧Below w.heap.size w w' := by
 have hu36:=Tryz.underlying36
 have HR0:=Aside0.mk hr0
 have HC0:=Aside0.mk hc0
 clear hr0 hc0
 have HB:=Aside0.mk (Below.refl w.heap.size w)
 unfold field_Get.f at h
 have H:=h
 clear h
 have H' := Aside0.mk H
 clear H
 go_enter Tryz.func50,Tryz.ntmps50
 go_wp2
 go_loopg [5,10] k (fun kq v5 v10 w' => ∃ (x5_1:List ByteArray) (x10_1:Int),v10 = .int .i64 x10_1∧Aside0 (field_Get.l0 kq a1 x5_1 l0 (l0.length:Int) x10_1=some r)∧Aside0 (kq ≤ k)∧Aside0 (Kd.R Kd.string 9 w' w.heap.size (fun _=>True) v5 x5_1)∧Aside0 (Below w.heap.size w w'))
 case atStart=>exact ⟨(([]:List ByteArray)),(0),zb5,H',⟨Nat.le_refl _⟩,⟨zb12⟩,⟨zb0⟩⟩
 case round =>
  clear H'
  try clear p2
  obtain ⟨x5_1,x10_1,rfl,HA,HK1,HO_5,HB⟩:=hrel
  cases gk with
  | zero=>exact absurd HA.out (by simp [field_Get.l0])
  | succ k1 =>
   have H:=HA.out
   clear HA
   simp only [field_Get.l0] at H
   by_cases c3:x10_1 < (l0.length:Int);rotate_left
   ·rw [if_neg c3] at H
    have c3b0:=decide_eq_false c3
    clear c3
    obtain rfl:=Option.some.inj H
    go_wp2
    go_ret
    exact ⟨_,zb2,zb76,zb0⟩
   rw [if_pos c3] at H
   have c3b0:=decide_eq_true c3
   clear c3
   by_cases c4:0 ≤ x10_1
   ·rw [if_pos c4] at H
    have c4b0:=decide_eq_true c4
    clear c4
    by_cases c5:x10_1 < (l0.length:Int)
    ·rw [if_pos c5] at H
     have c5b0:=decide_eq_true c5
     clear c5
     replace H:=Option.bind_eq_some_iff.mp H
     obtain ⟨t197,A60,H⟩:=H
     try dsimp only at H
     have A6:=Aside0.mk A60
     clear A60
     by_cases c7:t197=true;rotate_left
     ·replace c7:=Bool.eq_false_iff.mpr c7
      subst c7
      rw [if_neg (show ¬ (false=true) by decide)] at H
      have H' := Aside0.mk H
      clear H
      have p195:0 ≤ (x10_1:Int):=of_decide_eq_true zb3
      have q195:x10_1 < (l0.length:Int):=of_decide_eq_true zb3
      obtain ⟨ad195,e195,hx195_0,hx195_1⟩:=at_T36 HR0.out x10_1 p195 q195
      cases e195
      replace hx195_0:=(HB.out.cell (World.block_lt_of_cell? w _ hx195_0)).trans hx195_0
      replace hx195_1:=(HB.out.cell (World.block_lt_of_cell? w _ hx195_1)).trans hx195_1
      replace p195:=eq_true p195
      replace q195:=eq_true q195
      go_wp2_with (first|((with_reducible refine gate_dst (N:=7) rfl ?_);refine box_event rfl (N:=7) rfl (cs:=#[.string (⟨#[]⟩:ByteArray),.string (⟨#[]⟩:ByteArray)]) (t:=36) zS ?_;intro gb196 hg w14 hbox hb;replace HO_5:=Aside0.mk (Kd.R_below zb76 hb);have BK196:=Aside0.mk (hbox);have GW196:=zG hg zb0;have GE196:=GW196;replace HB:=Aside0.mk (below_step zb0 hb);clear hb hbox hg;obtain ⟨hcz15_0,hcz15_1,hfz15_0,hfz15_1⟩:=zq2 BK196.out)|((with_reducible refine gate_callee (f:=89) rfl ?_);refine goesL_ (some 17) rfl rfl Tryz.func89 zb7 rfl #[.string ((rd_T36 l0 x10_1).f0),.string a1] rfl zb1 ?_;(with_reducible refine (sign_Same.calls ((rd_T36 l0 x10_1).f0) a1 false _ A6.out).mono ?_);rintro e w16 ⟨rfl,hb⟩;(try clear A6);refine ⟨_,rfl,?_⟩;replace HO_5:=Aside0.mk (Kd.R_below zb87 hb);replace BK196:=Aside0.mk (blk_below (g:=gb196) (o:=.cells #[.string ((rd_T36 l0 x10_1).f0),.string ((rd_T36 l0 x10_1).f1)] 36 (0,0)) zb59 hb);replace HB:=Aside0.mk (below_step zb65 hb);(try clear hb)))
      go_roundg k1
      case measure=>have:=HK1.out;omega
      case rel=>exact ⟨(x5_1),(wrap64 (x10_1 + 1)),zb5,H',⟨zb135⟩,⟨zb76⟩,⟨zb65⟩⟩
     subst c7
     rw [if_pos rfl] at H
     by_cases c8:x5_1.length < 8796093022208
     ·rw [if_pos c8] at H
      have LMc8:=Aside0.mk c8
      clear c8
      obtain ⟨y198,hy198⟩ : ∃ y_:List ByteArray,y_=(x5_1 ++ [(rd_T36 l0 x10_1).f1]):=⟨_,rfl⟩
      replace H:(field_Get.l0 k1 a1 y198 l0 (l0.length:Int) (wrap64 (x10_1 + 1)))=some r:=by first|(rw [hy198];with_reducible exact H)|(have H2_:=(Option.bind_some _ _).symm.trans H;rw [hy198];with_reducible exact H2_)|(have H2_:=(Option.bind_some _ _).symm.trans H;with_reducible exact H2_)|with_reducible exact H|(rw [hy198];exact H)|exact H
      have Ny198:=Aside0.mk hy198
      clear hy198
      have H' := Aside0.mk H
      clear H
      have p195:0 ≤ (x10_1:Int):=of_decide_eq_true zb3
      have q195:x10_1 < (l0.length:Int):=of_decide_eq_true zb3
      obtain ⟨ad195,e195,hx195_0,hx195_1⟩:=at_T36 HR0.out x10_1 p195 q195
      cases e195
      replace hx195_0:=(HB.out.cell (World.block_lt_of_cell? w _ hx195_0)).trans hx195_0
      replace hx195_1:=(HB.out.cell (World.block_lt_of_cell? w _ hx195_1)).trans hx195_1
      replace p195:=eq_true p195
      replace q195:=eq_true q195
      go_wp2_with (first|((with_reducible refine gate_dst (N:=7) rfl ?_);refine box_event rfl (N:=7) rfl (cs:=#[.string (⟨#[]⟩:ByteArray),.string (⟨#[]⟩:ByteArray)]) (t:=36) zS ?_;intro gb196 hg w9 hbox hb;replace HO_5:=Aside0.mk (Kd.R_below zb76 hb);have BK196:=Aside0.mk (hbox);have GW196:=zG hg zb0;have GE196:=GW196;replace HB:=Aside0.mk (below_step zb0 hb);clear hb hbox hg;obtain ⟨hcz10_0,hcz10_1,hfz10_0,hfz10_1⟩:=zq2 BK196.out)|((with_reducible refine gate_callee (f:=89) rfl ?_);refine goesL_ (some 17) rfl rfl Tryz.func89 zb7 rfl #[.string ((rd_T36 l0 x10_1).f0),.string a1] rfl zb1 ?_;(with_reducible refine (sign_Same.calls ((rd_T36 l0 x10_1).f0) a1 true _ A6.out).mono ?_);rintro e w11 ⟨rfl,hb⟩;(try clear A6);refine ⟨_,rfl,?_⟩;replace HO_5:=Aside0.mk (Kd.R_below zb87 hb);replace BK196:=Aside0.mk (blk_below (g:=gb196) (o:=.cells #[.string ((rd_T36 l0 x10_1).f0),.string ((rd_T36 l0 x10_1).f1)] 36 (0,0)) zb59 hb);replace HB:=Aside0.mk (below_step zb65 hb);(try clear hb);obtain ⟨hcz12_0,hcz12_1,hfz12_0,hfz12_1⟩:=zq2 BK196.out)|((with_reducible refine gate_builtin (b:=.append) (xs:=#[.tmp 18,.tmp 21]) rfl ?_);at_builtin;refine Kd.R_append Kd.string (w0:=w) w.heap.size rfl (.tmp 18) (.tmp 21) 34 9 (.string ⟨#[]⟩) 16 rfl Tryz.underlying34 info9 rfl zb47 zb17 u5 x5_1 ((rd_T36 l0 x10_1).f1) [.string ((rd_T36 l0 x10_1).f1)] (fun _=>True) (fun _=>False) rfl rfl ?aP (fun _ hk=>hk.elim) ?aF ?aO ?aB ?aS ?aL ?_;(case aP=>exact rfl);(case aB=>exact zb65);(case aF=>exact (fun _ _=>trivial));(case aO=>exact zb76);(case aS=>exact (below_size zb65));(case aL=>have:=LMc8.out;omega);intro v199 w13 ho hb hg hat;rw [← Ny198.out] at ho;replace BK196:=Aside0.mk (blk_grown (g:=gb196) (o:=.cells #[.string ((rd_T36 l0 x10_1).f0),.string ((rd_T36 l0 x10_1).f1)] 36 (0,0)) (by (with_reducible repeat (first|refine blk_drewN ?_ _|refine blk_drew ?_|refine blk_alloc ?_ _));exact BK196.out) hg (Kd.R_ne HO_5.out BK196.out zb47));replace HB:=Aside0.mk (hb);have HO200:=Aside0.mk (ho);clear ho hb hg hat))
      go_roundg k1
      case measure=>have:=HK1.out;omega
      case rel=>exact ⟨(y198),(wrap64 (x10_1 + 1)),zb5,H',⟨zb135⟩,⟨by (with_reducible repeat (first|apply Kd.R_alloc|apply Kd.R_drewN|apply Kd.R_drew));exact HO200.out⟩,⟨zb65⟩⟩
     ·rw [if_neg c8] at H
      exact absurd H zb44
    ·rw [if_neg c5] at H
     exact absurd H zb44
   ·rw [if_neg c4] at H
    exact absurd H zb44
def strings_LastIndexByte.f (a0:ByteArray) (a1:Int):Option Int:=if a0.size < 4611686018427387904 then some (Lib.lastIndexByte a0 a1) else none
theorem strings_LastIndexByte.calls (a0:ByteArray) (a1:Int) (r:Int) (w:World) (h:strings_LastIndexByte.f a0 a1=some r) :
 Calls Tryz.prog 90 #[.string a0,.int .u8 a1] w fun e w' => e = .returned (.int .i64 r)∧Drawn0 w w' := by
 unfold strings_LastIndexByte.f at h
 split at h
 ·rename_i hs
  obtain rfl:=Option.some.inj h
  refine (Tryz.strings_LastIndexByte a0 a1 hs w).mono ?_
  rintro e w' ⟨rfl,rfl⟩
  exact ⟨rfl,Drawn0.refl _⟩
 cases h
/-- A host's byte. -/
def hostC (c:Int):Bool:=decide ((48 ≤ c∧c ≤ 57) ∨ (97 ≤ c∧c ≤ 122) ∨ c=45 ∨ c=46)
/-- Does a text end in a port? -/
def hostPort (t:ByteArray):Bool:=decide (0 ≤ Lib.lastIndexByte t 58) && (Lib.trimS (t.extract (Lib.lastIndexByte t 58 + 1).toNat t.size).data.toList [48,49,50,51,52,53,54,55,56,57]).isEmpty
/-- The text without its port. -/
def hostCut (t:ByteArray):ByteArray:=if hostPort t=true then t.extract 0 (Lib.lastIndexByte t 58).toNat else t
def hostEnd (u:ByteArray):ByteArray × Bool:=if u.size=0 ∨ 64 < u.size then ((⟨#[]⟩:ByteArray),false) else if (bytesOf u).all hostC=true then (u,true) else ((⟨#[]⟩:ByteArray),false)
def line_Host.f (a0:ByteArray):Option (ByteArray × Bool) :=
 if a0.size ≤ 140737488355328 then some (hostEnd (hostCut (strOfNums ((bytesOf a0).map foldC)))) else none
theorem host_rune (s:ByteArray) (pos:Nat) (h:pos < s.size) (r:Nat) (hr:(Utf8.decode s pos).1=r) :
 (hostC (r:Int)=true → (Utf8.decode s pos).2=1∧bt s (pos:Int)=(r:Int))∧(hostC (r:Int)=false → hostC (bt s (pos:Int))=false)∧r ≤ 2147483647:=by
 subst hr
 have hb:bt s (pos:Int)=((s[pos]'h).toNat:Int):=by unfold bt;rw [dif_pos (by rw [Int.toNat_natCast];exact h)];rfl
 refine ⟨?_,?_,decode_le s pos⟩
 ·intro ht
  by_cases ha:(s[pos]'h).toNat < 128
  ·rw [decode_ascii s pos h ha,hb];exact ⟨rfl,rfl⟩
  have:=decode_high s pos h (by omega)
  unfold hostC at ht
  have:=of_decide_eq_true ht
  omega
 intro hf
 by_cases ha:(s[pos]'h).toNat < 128
 ·rw [decode_ascii s pos h ha] at hf;rw [hb];exact hf
 rw [hb]
 unfold hostC
 exact decide_eq_false (by omega)
theorem host_class (c:Int):(48 ≤ c∧c ≤ 57) ∨ (97 ≤ c∧c ≤ 122) ∨ c=45 ∨ c=46 ∨ (c < 48∧c ≠ 45∧c ≠ 46) ∨ (57 < c∧c < 97) ∨ 122 < c:=by omega
theorem lastIdx_lt (s:ByteArray) (c:Int):Lib.lastIndexByte s c < (s.size:Int) ∧ -1 ≤ Lib.lastIndexByte s c:=by
 rcases Lib.lastIndexByte_spec s c with ⟨h,_⟩|⟨i,hi,h,_⟩ <;> rw [h] <;> omega
theorem host_isEmpty (s:ByteArray):s.toList.isEmpty=decide (s.size=0):=by
 have h1:s.toList=s.data.toList:=by simp [ByteArray.toList_eq]
 rw [h1,Bool.eq_iff_iff,List.isEmpty_iff,decide_eq_true_eq,← data_length]
 exact List.length_eq_zero_iff.symm
theorem host_drop (p:Int → Bool) (s:ByteArray) (x:Nat) (h:x < s.size):((bytesOf s).drop x).all p=(p (bt s x) && ((bytesOf s).drop (x + 1)).all p):=by
 have:=bytes_drop_all p s x (by omega) (by omega)
 rwa [Int.toNat_natCast] at this
set_option maxHeartbeats 8000000 in
set_option maxRecDepth 100000 in
theorem line_Host.calls (a0:ByteArray) (r1:ByteArray) (r2:Bool) (w:World) (h:line_Host.f a0=some (r1,r2)) :
 Calls Tryz.prog 51 #[.string a0] w fun e w' => e = .returned (.tuple #[.string r1,.bool r2])∧Below w.heap.size w w' := by
 unfold line_Host.f at h
 by_cases h0:a0.size ≤ 140737488355328;rotate_left
 ·rw [if_neg h0] at h
  cases h
 rw [if_pos h0] at h
 have H:=Aside0.mk (Option.some.inj h)
 clear h
 have HF:=Aside0.mk (show sign_Fold.f a0=some (strOfNums ((bytesOf a0).map foldC)) from if_pos h0)
 have hz:(strOfNums ((bytesOf a0).map foldC)).size=a0.size:=by rw [strOfNums_size,List.length_map,bytesOf_length]
 obtain ⟨t,ht⟩ : ∃ t,t=strOfNums ((bytesOf a0).map foldC):=⟨_,rfl⟩
 rw [← ht] at H HF hz
 have hts:t.size ≤ 140737488355328:=by omega
 clear ht hz h0
 have HL:=Aside0.mk (show strings_LastIndexByte.f t 58=some (Lib.lastIndexByte t 58) from if_pos zb17)
 obtain ⟨h1,h2⟩:=lastIdx_lt t 58
 obtain ⟨u,hu⟩ : ∃ u,u=hostCut t:=⟨_,rfl⟩
 rw [← hu] at H
 unfold hostCut hostPort at hu
 obtain ⟨i,hi⟩ : ∃ i,i=Lib.lastIndexByte t 58:=⟨_,rfl⟩
 rw [← hi] at HL h1 h2 hu
 clear hi
 have HU:=Aside0.mk hu
 clear hu
 have hw:wrap64 (i + 1)=i + 1:=by unfold wrap64;omega
 have HW:=Aside0.mk hw
 clear hw
 go_enter Tryz.func51,Tryz.ntmps51
 go_wp2_with fail
 go_at_call 64
 refine (sign_Fold.calls a0 t _ HF.out).mono ?_
 rintro e w1 ⟨rfl,hb⟩
 have HB:=Aside0.mk hb
 clear hb
 go_wp2_with fail
 go_at_call 90
 refine (strings_LastIndexByte.calls t 58 _ _ HL.out).mono ?_
 rintro e w2 ⟨rfl,nd,rfl⟩
 by_cases c0:0 ≤ i
 case' pos =>
  have c1:decide (i ≥ 0)=true:=decide_eq_true c0
  have c2:=decide_eq_true c0
  have p1:0 ≤ i + 1:=by omega
  have p2:i + 1 ≤ (t.size:Int):=by omega
  have hw:=HW.out
  obtain ⟨q,hq⟩ : ∃ q,q=t.extract (i + 1).toNat t.size:=⟨_,rfl⟩
  have hqs:q.size ≤ t.size:=by rw [hq,ByteArray.size_extract];omega
  have HTR:=Aside0.mk (show strings_Trim.f q (⟨#[48,49,50,51,52,53,54,55,56,57]⟩:ByteArray)=some ⟨(Lib.trimS q.data.toList [48,49,50,51,52,53,54,55,56,57]).toArray⟩ from if_pos ⟨zb17,zb47,zb47⟩)
  have HQ:=Aside0.mk hq
  clear hqs
  have hu:=HU.out
  rw [decide_eq_true c0,← hq,Bool.true_and] at hu
  clear HU
  obtain ⟨x,hx⟩ : ∃ x,x=Lib.trimS q.data.toList [48,49,50,51,52,53,54,55,56,57]:=⟨_,rfl⟩
  rw [← hx] at HTR hu
  clear hx
  have HU:=Aside0.mk hu
  clear hu
  have hqq:=hq.symm
  clear hq
  go_wp2_with fail
  go_at_call 91
  refine (strings_Trim.calls q _ _ _ HTR.out).mono ?_
  rintro e w2 ⟨rfl,hb⟩
  have HB2:=Aside0.mk (below_step (by repeat (first|exact HB.out|apply below_alloc|apply pw_below_drewN)) hb)
  clear HB hb hqq
  have HB:=HB2
  clear HB2
  cases hxe:x.isEmpty
  case' false =>
   have hu:=HU.out
   rw [hxe,if_neg zb44] at hu
   subst hu
   clear HU
  case' true =>
   have hu:=(HU.out).trans (if_pos hxe)
   have huu:=hu.symm
   clear hu HU
 case' neg =>
  have c1:decide (i ≥ 0)=false:=decide_eq_false c0
  have c2:=decide_eq_false c0
  have hu:=HU.out
  rw [decide_eq_false c0,Bool.false_and,if_neg zb44] at hu
  subst hu
  clear HU
  obtain ⟨w2,hw2⟩ : ∃ w2,w1.drewN nd=w2:=⟨_,rfl⟩
  have HB2:Aside0 (Below w.heap.size w w2):=⟨by rw [← hw2];exact pw_below_drewN HB.out nd⟩
  rw [hw2]
  clear HB hw2
  have HB:=HB2
  clear HB2
 all_goals
  by_cases e0:u.size=0 ∨ 64 < u.size
  ·have HE:=H.out
   unfold hostEnd at HE
   rw [if_pos e0] at HE
   obtain ⟨rfl,rfl⟩:=Prod.mk.inj HE
   clear HE H
   by_cases e1:u.size=0
   ·have z1:u.toList=[]:=List.isEmpty_iff.1 (by rw [host_isEmpty,decide_eq_true e1])
    clear e0 e1
    go_wp2_with fail
    go_ret2
    exact ⟨rfl,HB.out⟩
   have z1:u.toList.isEmpty=false:=by rw [host_isEmpty,decide_eq_false e1]
   have z2:(u.toList=[])=False:=eq_false (fun e=>by rw [e] at z1;cases z1)
   have z3:(64 < (u.size:Int))=True:=eq_true zb17
   clear e0 e1
   go_wp2_with fail
   go_ret2
   exact ⟨rfl,HB.out⟩
  have z1:u.toList.isEmpty=false:=by rw [host_isEmpty];exact decide_eq_false zb17
  have z2:(u.toList=[])=False:=eq_false (fun e=>by rw [e] at z1;cases z1)
  have z3:(64 < (u.size:Int))=False:=eq_false zb17
  have z4:decide (64 < (u.size:Int))=false:=decide_eq_false zb17
  have z5:u.size ≤ 64:=by omega
  have HE:=H.out
  unfold hostEnd at HE
  rw [if_neg e0] at HE
  have HE2:=Aside0.mk HE
  clear HE H e0
  go_wp2_with fail
  go_loopw [6] (fun _ wr => ∃ pos:Nat,wr=w2.iter u pos∧Aside0 ((bytesOf u).all hostC=((bytesOf u).drop pos).all hostC∧pos ≤ u.size)) (fun _ wr=>u.size - wr.iterPos w2.heap.size)
  case atStart=>exact ⟨0,rfl,⟨by rw [List.drop_zero],zb17⟩⟩
  case round =>
   obtain ⟨pos,rfl,HP⟩:=hrel
   by_cases hp:pos < u.size;rotate_left
   ·have hnx : ∀ ty,(Instr.next (.pointer (some ⟨w2.heap.size,0,none⟩)) true ty).run Tryz.prog (w2.iter u pos) = .ok (.tuple #[.bool false]) (w2.iter u pos):=fun ty=>run_next_end w2 u pos ty hp
    have HE:=HE2.out
    rw [HP.out.1,List.drop_of_length_le (by rw [bytesOf_length];omega)] at HE
    rw [if_pos (show ([]:List Int).all hostC=true from rfl)] at HE
    obtain ⟨rfl,rfl⟩:=Prod.mk.inj HE
    clear HE HE2 hp
    go_wp2_with fail
    go_ret2
    exact ⟨rfl,HB.out.alloc (HB.out.size) _⟩
   obtain ⟨r,hr⟩ : ∃ r,(Utf8.decode u pos).1=r:=⟨_,rfl⟩
   obtain ⟨wd,hwd⟩ : ∃ wd,(Utf8.decode u pos).2=wd:=⟨_,rfl⟩
   have hnx : ∀ ty,(Instr.next (.pointer (some ⟨w2.heap.size,0,none⟩)) true ty).run Tryz.prog (w2.iter u pos) = .ok (.tuple #[.bool true,.int .i64 pos,.int .i32 r]) (w2.iter u (pos + wd)):=fun ty=>by rw [run_next_any w2 u pos ty hp,hr,hwd]
   obtain ⟨f1,f2,f3⟩:=host_rune u pos hp r hr
   rw [hwd] at f1
   have hall:=host_drop hostC u pos hp
   have F:=Aside0.mk (And.intro f1 (And.intro f2 (And.intro hall (And.intro hp HP.out))))
   clear f1 f2 hall hr hwd hp HP
   rcases host_class (r:Int) with c|c|c|c|c|c|c
   ·have d0:decide ((r:Int) < 48)=false:=decide_eq_false zb17
    have d1:decide ((r:Int) > 57)=false:=decide_eq_false zb17
    have d2:decide ((r:Int) < 97)=true:=decide_eq_true zb17
    have d3:decide ((r:Int) > 122)=false:=decide_eq_false zb17
    have d4:((r:Int) == 45)=false:=by rw [beq_eq_false_iff_ne];omega
    have n4:((r:Int) != 45)=true:=by unfold bne;rw [d4];rfl
    have d5:((r:Int) == 46)=false:=by rw [beq_eq_false_iff_ne];omega
    have n5:((r:Int) != 46)=true:=by unfold bne;rw [d5];rfl
    have hc:hostC (r:Int)=true:=decide_eq_true zb17
    have G:=F.out
    obtain ⟨g1,g2⟩:=G.1 hc
    rw [G.2.2.1,g2,hc,Bool.true_and] at G
    subst g1
    have G2:=Aside0.mk G
    clear F G g2 hc c f3
    go_wp2_with fail
    go_roundw
    case rel=>exact ⟨pos + 1,rfl,⟨by rw [G2.out.2.2.2.2.1,G2.out.2.2.1],by have:=G2.out.2.2.2.1;omega⟩⟩
    case measure=>have:=G2.out.2.2.2.1;simp;omega
   ·have d0:decide ((r:Int) < 48)=false:=decide_eq_false zb17
    have d1:decide ((r:Int) > 57)=true:=decide_eq_true zb17
    have d2:decide ((r:Int) < 97)=false:=decide_eq_false zb17
    have d3:decide ((r:Int) > 122)=false:=decide_eq_false zb17
    have d4:((r:Int) == 45)=false:=by rw [beq_eq_false_iff_ne];omega
    have n4:((r:Int) != 45)=true:=by unfold bne;rw [d4];rfl
    have d5:((r:Int) == 46)=false:=by rw [beq_eq_false_iff_ne];omega
    have n5:((r:Int) != 46)=true:=by unfold bne;rw [d5];rfl
    have hc:hostC (r:Int)=true:=decide_eq_true zb17
    have G:=F.out
    obtain ⟨g1,g2⟩:=G.1 hc
    rw [G.2.2.1,g2,hc,Bool.true_and] at G
    subst g1
    have G2:=Aside0.mk G
    clear F G g2 hc c f3
    go_wp2_with fail
    go_roundw
    case rel=>exact ⟨pos + 1,rfl,⟨by rw [G2.out.2.2.2.2.1,G2.out.2.2.1],by have:=G2.out.2.2.2.1;omega⟩⟩
    case measure=>have:=G2.out.2.2.2.1;simp;omega
   ·have d0:decide ((r:Int) < 48)=true:=decide_eq_true zb17
    have d1:decide ((r:Int) > 57)=false:=decide_eq_false zb17
    have d2:decide ((r:Int) < 97)=true:=decide_eq_true zb17
    have d3:decide ((r:Int) > 122)=false:=decide_eq_false zb17
    have d4:((r:Int) == 45)=true:=by rw [beq_iff_eq];omega
    have n4:((r:Int) != 45)=false:=by unfold bne;rw [d4];rfl
    have d5:((r:Int) == 46)=false:=by rw [beq_eq_false_iff_ne];omega
    have n5:((r:Int) != 46)=true:=by unfold bne;rw [d5];rfl
    have hc:hostC (r:Int)=true:=decide_eq_true zb17
    have G:=F.out
    obtain ⟨g1,g2⟩:=G.1 hc
    rw [G.2.2.1,g2,hc,Bool.true_and] at G
    subst g1
    have G2:=Aside0.mk G
    clear F G g2 hc c f3
    go_wp2_with fail
    go_roundw
    case rel=>exact ⟨pos + 1,rfl,⟨by rw [G2.out.2.2.2.2.1,G2.out.2.2.1],by have:=G2.out.2.2.2.1;omega⟩⟩
    case measure=>have:=G2.out.2.2.2.1;simp;omega
   ·have d0:decide ((r:Int) < 48)=true:=decide_eq_true zb17
    have d1:decide ((r:Int) > 57)=false:=decide_eq_false zb17
    have d2:decide ((r:Int) < 97)=true:=decide_eq_true zb17
    have d3:decide ((r:Int) > 122)=false:=decide_eq_false zb17
    have d4:((r:Int) == 45)=false:=by rw [beq_eq_false_iff_ne];omega
    have n4:((r:Int) != 45)=true:=by unfold bne;rw [d4];rfl
    have d5:((r:Int) == 46)=true:=by rw [beq_iff_eq];omega
    have n5:((r:Int) != 46)=false:=by unfold bne;rw [d5];rfl
    have hc:hostC (r:Int)=true:=decide_eq_true zb17
    have G:=F.out
    obtain ⟨g1,g2⟩:=G.1 hc
    rw [G.2.2.1,g2,hc,Bool.true_and] at G
    subst g1
    have G2:=Aside0.mk G
    clear F G g2 hc c f3
    go_wp2_with fail
    go_roundw
    case rel=>exact ⟨pos + 1,rfl,⟨by rw [G2.out.2.2.2.2.1,G2.out.2.2.1],by have:=G2.out.2.2.2.1;omega⟩⟩
    case measure=>have:=G2.out.2.2.2.1;simp;omega
   ·have d0:decide ((r:Int) < 48)=true:=decide_eq_true zb17
    have d1:decide ((r:Int) > 57)=false:=decide_eq_false zb17
    have d2:decide ((r:Int) < 97)=true:=decide_eq_true zb17
    have d3:decide ((r:Int) > 122)=false:=decide_eq_false zb17
    have d4:((r:Int) == 45)=false:=by rw [beq_eq_false_iff_ne];omega
    have n4:((r:Int) != 45)=true:=by unfold bne;rw [d4];rfl
    have d5:((r:Int) == 46)=false:=by rw [beq_eq_false_iff_ne];omega
    have n5:((r:Int) != 46)=true:=by unfold bne;rw [d5];rfl
    have hc:hostC (r:Int)=false:=decide_eq_false zb17
    have G:=F.out
    have g1:=G.2.1 hc
    have HE:=HE2.out
    rw [G.2.2.2.2.1,G.2.2.1,g1,Bool.false_and,if_neg zb44] at HE
    obtain ⟨rfl,rfl⟩:=Prod.mk.inj HE
    clear HE HE2 F G g1 hc c f3
    go_wp2_with fail
    go_ret2
    exact ⟨rfl,HB.out.alloc (HB.out.size) _⟩
   ·have d0:decide ((r:Int) < 48)=false:=decide_eq_false zb17
    have d1:decide ((r:Int) > 57)=true:=decide_eq_true zb17
    have d2:decide ((r:Int) < 97)=true:=decide_eq_true zb17
    have d3:decide ((r:Int) > 122)=false:=decide_eq_false zb17
    have d4:((r:Int) == 45)=false:=by rw [beq_eq_false_iff_ne];omega
    have n4:((r:Int) != 45)=true:=by unfold bne;rw [d4];rfl
    have d5:((r:Int) == 46)=false:=by rw [beq_eq_false_iff_ne];omega
    have n5:((r:Int) != 46)=true:=by unfold bne;rw [d5];rfl
    have hc:hostC (r:Int)=false:=decide_eq_false zb17
    have G:=F.out
    have g1:=G.2.1 hc
    have HE:=HE2.out
    rw [G.2.2.2.2.1,G.2.2.1,g1,Bool.false_and,if_neg zb44] at HE
    obtain ⟨rfl,rfl⟩:=Prod.mk.inj HE
    clear HE HE2 F G g1 hc c f3
    go_wp2_with fail
    go_ret2
    exact ⟨rfl,HB.out.alloc (HB.out.size) _⟩
   have d0:decide ((r:Int) < 48)=false:=decide_eq_false zb17
   have d1:decide ((r:Int) > 57)=true:=decide_eq_true zb17
   have d2:decide ((r:Int) < 97)=false:=decide_eq_false zb17
   have d3:decide ((r:Int) > 122)=true:=decide_eq_true zb17
   have d4:((r:Int) == 45)=false:=by rw [beq_eq_false_iff_ne];omega
   have n4:((r:Int) != 45)=true:=by unfold bne;rw [d4];rfl
   have d5:((r:Int) == 46)=false:=by rw [beq_eq_false_iff_ne];omega
   have n5:((r:Int) != 46)=true:=by unfold bne;rw [d5];rfl
   have hc:hostC (r:Int)=false:=decide_eq_false zb17
   have G:=F.out
   have g1:=G.2.1 hc
   have HE:=HE2.out
   rw [G.2.2.2.2.1,G.2.2.1,g1,Bool.false_and,if_neg zb44] at HE
   obtain ⟨rfl,rfl⟩:=Prod.mk.inj HE
   clear HE HE2 F G g1 hc c f3
   go_wp2_with fail
   go_ret2
   exact ⟨rfl,HB.out.alloc (HB.out.size) _⟩
def http_Host.l0:Nat → List ByteArray → Int → Int → Option (ByteArray)
 | 0,_,_,_=>none
 | k + 1,x9,x10,x11=>if x11 < x10 then (if 0 ≤ x11 then (if x11 < (x9.length:Int) then ((line_Host.f (rdOf ByteArray.empty x9 x11)).bind fun bt303=>(some bt303.1)) else (none)) else (none)) else (some (⟨#[]⟩:ByteArray))
def http_Host.f (k:Nat) (a0_0:ByteArray) (a0_1:ByteArray) (a0_2:Int) (l0_3:List (S36)) (l0_4:List Int):Option (ByteArray):=(field_Get.f k l0_3 (⟨#[72,111,115,116]⟩:ByteArray)).bind fun t299=>(http_Host.l0 k t299 (t299.length:Int) 0)
set_option maxHeartbeats 8000000 in
set_option maxRecDepth 100000 in
theorem http_Host.calls (k:Nat) (a0_0:ByteArray) (a0_1:ByteArray) (a0_2:Int) (A0_3:Option Addr) (c0_3:Nat) (l0_3:List (S36)) (A0_4:Option Addr) (c0_4:Nat) (l0_4:List Int) (r:ByteArray) (w:World) (hr0_3:Kd.C k36 w A0_3 l0_3.length l0_3) (hc0_3:l0_3.length ≤ c0_3) (hr0_4:Kd.C (Kd.int .u8) w A0_4 l0_4.length l0_4) (hc0_4:l0_4.length ≤ c0_4) (h:http_Host.f k a0_0 a0_1 a0_2 l0_3 l0_4=some r) :
 Calls Tryz.prog 19 #[.agg #[.string a0_0,.string a0_1,.int .i64 a0_2,.slice A0_3 l0_3.length c0_3,.slice A0_4 l0_4.length c0_4]] w fun e w' => e = .returned (.string r)∧Below w.heap.size w w' := by
 have hu26:=Tryz.underlying26
 have HR0_3:=Aside0.mk hr0_3
 have HC0_3:=Aside0.mk hc0_3
 clear hr0_3 hc0_3
 have HR0_4:=Aside0.mk hr0_4
 have HC0_4:=Aside0.mk hc0_4
 clear hr0_4 hc0_4
 have HB:=Aside0.mk (Below.refl w.heap.size w)
 unfold http_Host.f at h
 have H:=h
 clear h
 replace H:=Option.bind_eq_some_iff.mp H
 obtain ⟨t299,A20,H⟩:=H
 try dsimp only at H
 have A2:=Aside0.mk A20
 clear A20
 have H' := Aside0.mk H
 clear H
 go_enter Tryz.func19,Tryz.ntmps19
 go_wp2_with (first|((with_reducible refine gate_dst (N:=1) rfl ?_);refine box_event rfl (N:=1) rfl (cs:=#[.string a0_0,.string a0_1,.int .i64 a0_2,.slice A0_3 l0_3.length c0_3,.slice A0_4 l0_4.length c0_4]) (t:=26) zS ?_;intro gb298 hg w3 hbox hb;have GW298:=zG hg zb0;have GE298:=GW298;have BK298:=Aside0.mk hbox;replace HB:=Aside0.mk (below_step zb0 hb);clear hb hbox hg;obtain ⟨hcz4_0,hcz4_1,hcz4_2,hcz4_3,hcz4_4,hfz4_0,hfz4_1,hfz4_2,hfz4_3,hfz4_4⟩:=zq5 BK298.out)|((with_reducible refine gate_callee (f:=50) rfl ?_);refine goesL_ (some 9) rfl rfl Tryz.func50 zb7 rfl #[.slice A0_3 l0_3.length c0_3,.string (⟨#[72,111,115,116]⟩:ByteArray)] rfl zb1 ?_;(with_reducible refine (field_Get.calls k _ _ l0_3 (⟨#[72,111,115,116]⟩:ByteArray) t299 _ ?side1 ?side2 A2.out).mono ?_);(case side1=>exact zb35);(case side2=>exact HC0_3.out);rintro e w5 ⟨v300,rfl,ho0,hb⟩;(try clear A2);refine ⟨_,rfl,?_⟩;have HO301:=Aside0.mk (Kd.R_lower ho0 (below_size zb66));replace BK298:=Aside0.mk (blk_below (g:=gb298) (o:=.cells #[.string a0_0,.string a0_1,.int .i64 a0_2,.slice A0_3 l0_3.length c0_3,.slice A0_4 l0_4.length c0_4] 26 (0,0)) zb121 hb);replace HB:=Aside0.mk (below_step zb66 hb);try clear hb ho0;obtain ⟨Ao6,co6,eo6⟩:=Kd.R_slice HO301.out;subst eo6))
 go_loopg [11] k (fun kq v11 w' => ∃ (x11_1:Int),v11 = .int .i64 x11_1∧Aside0 (http_Host.l0 kq t299 (t299.length:Int) x11_1=some r)∧Aside0 (kq ≤ k)∧Aside0 (Kd.R Kd.string 9 w' w.heap.size (fun _=>True) (.slice Ao6 t299.length co6) t299)∧Aside0 (w'.heap[gb298]? = some (.cells #[.string a0_0,.string a0_1,.int .i64 a0_2,(.slice A0_3 l0_3.length c0_3),(.slice A0_4 l0_4.length c0_4)] 26 (0,0)))∧Aside0 (Below w.heap.size w w'))
 case atStart=>exact ⟨(0),zb5,H',⟨Nat.le_refl _⟩,⟨by (with_reducible repeat (first|apply Kd.R_alloc|apply Kd.R_drewN|apply Kd.R_drew));exact HO301.out⟩,⟨zb121⟩,⟨zb66⟩⟩
 case round =>
  clear H'
  try clear c1
  try clear p2
  try clear c5
  try clear hcz4_0
  try clear hcz4_1
  try clear hcz4_2
  try clear hcz4_3
  try clear hcz4_4
  try clear hfz4_0
  try clear hfz4_1
  try clear hfz4_2
  try clear hfz4_3
  try clear hfz4_4
  obtain ⟨x11_1,rfl,HA,HK1,HO_9,BK298,HB⟩:=hrel
  cases gk with
  | zero=>exact absurd HA.out (by simp [http_Host.l0])
  | succ k1 =>
   have H:=HA.out
   clear HA
   simp only [http_Host.l0] at H
   by_cases c7:x11_1 < (t299.length:Int);rotate_left
   ·rw [if_neg c7] at H
    have c7b0:=decide_eq_false c7
    clear c7
    obtain rfl:=Option.some.inj H
    go_wp2
    go_ret
    exact ⟨zb2,zb66⟩
   rw [if_pos c7] at H
   have c7b0:=decide_eq_true c7
   clear c7
   by_cases c8:0 ≤ x11_1
   ·rw [if_pos c8] at H
    have c8b0:=decide_eq_true c8
    clear c8
    by_cases c9:x11_1 < (t299.length:Int)
    ·rw [if_pos c9] at H
     have c9b0:=decide_eq_true c9
     clear c9
     replace H:=Option.bind_eq_some_iff.mp H
     obtain ⟨⟨t303,t304⟩,A100,H⟩:=H
     try dsimp only at H
     have A10:=Aside0.mk A100
     clear A100
     obtain rfl:=Option.some.inj H
     have p302:0 ≤ (x11_1:Int):=of_decide_eq_true zb3
     have q302:x11_1 < (t299.length:Int):=of_decide_eq_true zb3
     obtain ⟨ad302,e302,hx302_0⟩:=Kd.at_string (Kd.R_reads' HO_9.out).2.2 x11_1 p302 q302
     cases e302
     replace p302:=eq_true p302
     replace q302:=eq_true q302
     go_wp2_with (first|((with_reducible refine gate_callee (f:=51) rfl ?_);refine goesL_ (some 17) rfl rfl Tryz.func51 zb7 rfl #[.string (rdOf ByteArray.empty t299 x11_1)] rfl zb1 ?_;(with_reducible refine (line_Host.calls (rdOf ByteArray.empty t299 x11_1) t303 t304 _ A10.out).mono ?_);rintro e w11 ⟨rfl,hb⟩;(try clear A10);refine ⟨_,rfl,?_⟩;replace HO_9:=Aside0.mk (Kd.R_below zb74 hb);replace BK298:=Aside0.mk (blk_below (g:=gb298) (o:=.cells #[.string a0_0,.string a0_1,.int .i64 a0_2,.slice A0_3 l0_3.length c0_3,.slice A0_4 l0_4.length c0_4] 26 (0,0)) zb121 hb);replace HB:=Aside0.mk (below_step zb66 hb);(try clear hb)))
     go_ret
     exact ⟨zb2,zb66⟩
    ·rw [if_neg c9] at H
     exact absurd H zb44
   ·rw [if_neg c8] at H
    exact absurd H zb44
def bytes_Clone.f (l0:List Int):Option (List Int):=if l0.length ≤ 140737488355328 then some l0 else none
set_option maxHeartbeats 4000000 in
set_option maxRecDepth 100000 in
theorem bytes_Clone.calls (A0:Option Addr) (c0:Nat) (l0:List Int) (r:List Int) (w:World) (hr0:Kd.C (Kd.int .u8) w A0 l0.length l0) (hc0:l0.length ≤ c0) (h:bytes_Clone.f l0=some r) :
 Calls Tryz.prog 62 #[.slice A0 l0.length c0] w fun e w' => ∃ v0_:Value,e = .returned (v0_)∧Kd.R (Kd.int .u8) 5 w' w.heap.size (fun _=>True) v0_ r∧Below w.heap.size w w' := by
 have hl:l0.length ≤ 140737488355328∧l0=r:=by
  unfold bytes_Clone.f at h
  split at h
  ·exact ⟨by assumption,by simpa using h⟩
  cases h
 obtain ⟨hl,rfl⟩:=hl
 clear h
 have HR:=Aside0.mk hr0
 cases A0 with
 | none =>
  have he:l0=[]:=by
   cases l0 with
   | nil=>rfl
   | cons x y=>obtain ⟨ad,e,_⟩:=hr0.2.2 zb44;cases e
  subst he
  clear HR hr0
  have hnil : ∀ W:World,(binOp .eql 22 (.slice none 0 c0) (.slice none 0 0)).run Tryz.prog W = .ok (.bool true) W:=fun W=>by
   simp only [binOp]
   simp [Op.equal,Op.maxDepth,Lib.run_equalIn_slice_nil W 9999 22 _ none 0 c0 0 0 Tryz.underlying22]
  go_enter Tryz.func62,Tryz.ntmps62
  go_wp2
  go_ret
  exact ⟨_,rfl,Kd.R_nil _ _ _ _ _,Below.refl _ _⟩
 | some ad =>
  have HL:=Aside0.mk hl
  have hnil : ∀ W:World,(binOp .eql 22 (.slice (some ad) l0.length c0) (.slice none 0 0)).run Tryz.prog W = .ok (.bool false) W:=fun W=>by
   simp only [binOp]
   simp [Op.equal,Op.maxDepth,Lib.run_equalIn_slice_nil W 9999 22 _ (some ad) l0.length c0 0 0 Tryz.underlying22]
  have HB:=Aside0.mk (Below.refl w.heap.size w)
  clear hr0 hl hc0
  go_enter Tryz.func62,Tryz.ntmps62
  go_wp2_with (first
   | ((with_reducible refine gate_dst (N:=5) rfl ?_);refine Kd.R_lit (Kd.int .u8) _ 5 ?hg (N:=5) ?hd (xs:=([]:List Int)) (inner:=[]) (ok:=fun _=>True) (okp:=fun _=>True) ?hr ?hp (fun _ hk=>hk) trivial (Below.refl _ _) (Nat.le_refl _) zb44 ?_;(case hd=>rfl);(case hg=>rfl);(case hr=>first|(go_simp;done)|(go_simp;rfl));(case hp=>exact (Reps.none _ _));intro v5 w2 ho3 hb hg_ hnew_;clear hg_ hnew_;have HO5:=Aside0.mk (Kd.R_lower ho3 (below_size zb0));have n1_:=Aside0.mk (below_step zb0 hb);clear HB;have HB:=n1_;clear n1_;clear hb ho3)
   | ((with_reducible refine gate_builtin (b:=.append) (xs:=#[.tmp 5,.tmp 6]) rfl ?_);at_builtin;refine Kd.R_append_rows (Kd.int .u8) (w0:=w) w.heap.size rfl (.tmp 5) (.tmp 6) 22 5 (.int .u8 0) 1 rfl Tryz.underlying22 info5 rfl zb47 zb17 v5 [] l0 _ _ _ (fun _=>True) (fun _=>False) rfl rfl ?aO ?aR (fun _ _ h=>h) (fun _ h=>h.elim) (fun _ _=>trivial) ?aB ?aS ?aL ?_;(case aO=>exact HO5.out);(case aR=>exact Kd.C_below HR.out HB.out);(case aB=>exact HB.out);(case aS=>exact HB.out.size);(case aL=>have:=HL.out;simp only [List.length_nil];omega);intro v3 w3 ho hb3 hg3 hat;have HO7:=Aside0.mk ho;have HB7:=Aside0.mk hb3;clear ho hb3 hg3 hat))
  go_ret
  exact ⟨_,zb46,HO7.out,HB7.out⟩
mutual
def line_Cut.l0:Nat → List Int → Int → List Int → Int → Int → Option (ByteArray × Int × Int)
 | 0,_,_,_,_,_=>none
 | k + 1,x0,x1,x9,x10,x11=>if x11 < x10 then (if 0 ≤ x11 then (if x11 < (x9.length:Int) then (if (rd x9 x11)=10 then (line_Cut.j1 k x0 x1 x11 (rd x9 x11) x9 x10 x11 true) else (if (rd x9 x11)=13 then (if (wrap64 (x11 + 1)) < (x0.length:Int) then (if 0 ≤ (wrap64 (x11 + 1)) then (line_Cut.j1 k x0 x1 x11 (rd x9 x11) x9 x10 x11 ((rd x0 (wrap64 (x11 + 1))) != 10)) else (none)) else (line_Cut.j1 k x0 x1 x11 (rd x9 x11) x9 x10 x11 false)) else (line_Cut.j1 k x0 x1 x11 (rd x9 x11) x9 x10 x11 false))) else (none)) else (none)) else (some ((⟨#[]⟩:ByteArray),0,0))
def line_Cut.j1:Nat → List Int → Int → Int → Int → List Int → Int → Int → Bool → Option (ByteArray × Int × Int)
 | 0,_,_,_,_,_,_,_,_=>none
 | k + 1,x0,x1,x7,x8,x9,x10,x11,x16=>if x16=true then (some ((⟨#[]⟩:ByteArray),0,20)) else (if x8=13 then (line_Cut.j2 k x0 x1 x7 x8 x9 x10 x11 ((wrap64 (x7 + 1)) == (x0.length:Int))) else (line_Cut.j2 k x0 x1 x7 x8 x9 x10 x11 false))
def line_Cut.j2:Nat → List Int → Int → Int → Int → List Int → Int → Int → Bool → Option (ByteArray × Int × Int)
 | 0,_,_,_,_,_,_,_,_=>none
 | k + 1,x0,x1,x7,x8,x9,x10,x11,x38=>if x38=true then (some ((⟨#[]⟩:ByteArray),0,0)) else (if x8=13 then (if 0 ≤ x7 then (if x7 ≤ (x0.length:Int) then (some (strOfNums (x0.take (x7:Int).toNat),wrap64 (x7 + 2),0)) else (none)) else (none)) else (if x7 ≥ (mx x1 0) then (some ((⟨#[]⟩:ByteArray),0,2)) else (line_Cut.l0 k x0 x1 x9 x10 (wrap64 (x11 + 1)))))
end
def line_Cut.f (k:Nat) (l0:List Int) (a1:Int):Option (ByteArray × Int × Int):=line_Cut.l0 k l0 a1 l0 (l0.length:Int) 0
set_option maxHeartbeats 8000000 in
set_option maxRecDepth 100000 in
theorem line_Cut.calls (k:Nat) (A0:Option Addr) (c0:Nat) (l0:List Int) (a1:Int) (r1:ByteArray) (r2:Int) (r3:Int) (w:World) (hr0:Kd.C (Kd.int .u8) w A0 l0.length l0) (hc0:l0.length ≤ c0) (h:line_Cut.f k l0 a1=some (r1,r2,r3)) :
 Calls Tryz.prog 108 #[.slice A0 l0.length c0,.int .i64 a1] w fun e w' => e = .returned (.tuple #[.string r1,.int .i64 r2,.int .i64 r3])∧Below w.heap.size w w' := by
 have HR0:=Aside0.mk hr0
 have HC0:=Aside0.mk hc0
 clear hr0 hc0
 have HB:=Aside0.mk (Below.refl w.heap.size w)
 unfold line_Cut.f at h
 have H:=h
 clear h
 have H' := Aside0.mk H
 clear H
 go_enter Tryz.func108,Tryz.ntmps108
 go_wp2
 go_loopg [11] k (fun kq v11 w' => ∃ (x11_1:Int),v11 = .int .i64 x11_1∧Aside0 (line_Cut.l0 kq l0 a1 l0 (l0.length:Int) x11_1=some (r1,r2,r3))∧Aside0 (kq ≤ k)∧Aside0 (Below w.heap.size w w'))
 case atStart=>exact ⟨(0),zb5,H',⟨Nat.le_refl _⟩,⟨zb0⟩⟩
 case round =>
  clear H'
  try clear c1
  try clear p2
  obtain ⟨x11_1,rfl,HA,HK1,HB⟩:=hrel
  cases gk with
  | zero=>exact absurd HA.out (by simp [line_Cut.l0])
  | succ k1 =>
   have H:=HA.out
   clear HA
   simp only [line_Cut.l0] at H
   by_cases c3:x11_1 < (l0.length:Int);rotate_left
   ·rw [if_neg c3] at H
    have c3b0:=decide_eq_false c3
    clear c3
    simp only [Option.some.injEq,Prod.mk.injEq] at H
    obtain ⟨rfl,rfl,rfl⟩:=H
    go_wp2
    go_ret3
    exact ⟨zb2,zb0⟩
   rw [if_pos c3] at H
   have c3b0:=decide_eq_true c3
   clear c3
   by_cases c4:0 ≤ x11_1
   ·rw [if_pos c4] at H
    have c4b0:=decide_eq_true c4
    clear c4
    by_cases c5:x11_1 < (l0.length:Int)
    ·rw [if_pos c5] at H
     have c5b0:=decide_eq_true c5
     clear c5
     have HC6:=Aside0.mk H
     clear H
     have p185:0 ≤ (x11_1:Int):=of_decide_eq_true zb3
     have q185:x11_1 < (l0.length:Int):=of_decide_eq_true zb3
     obtain ⟨ad185,e185,hx185_0⟩:=Kd.at_int HR0.out x11_1 p185 q185
     cases e185
     replace hx185_0:=(HB.out.cell (World.block_lt_of_cell? w _ hx185_0)).trans hx185_0
     replace p185:=eq_true p185
     replace q185:=eq_true q185
     go_upto_region 4 with (fail)
     go_cut [16] (fun v16 wc => ∃ (kq:Nat) (x16_5:Bool),v16 = .bool x16_5∧Aside0 (line_Cut.j1 kq l0 a1 x11_1 (rd l0 x11_1) l0 (l0.length:Int) x11_1 x16_5=some (r1,r2,r3))∧Aside0 (kq ≤ k1)∧Aside0 (Below w.heap.size w wc))
     case first =>
      have H:=HC6.out
      clear HC6
      by_cases c7:(rd l0 x11_1)=10
      ·rw [if_pos c7] at H
       have c7b0:=beq_iff_eq.mpr c7
       have c7b1:=bne_eq_false_iff_eq.mpr c7
       clear c7
       (first|rw [c7b0]|(simp only [i64_w,i32_w];rw [c7b0])|rw [c7b1]|skip)
       have H' := Aside0.mk H
       clear H
       go_wp2
       go_meet
       case rel=>exact ⟨_,(true),zb5,H',⟨zb104⟩,⟨zb0⟩⟩
      rw [if_neg c7] at H
      have c7b0:=beq_eq_false_iff_ne.mpr c7
      have c7b1:=bne_iff_ne.mpr c7
      (first|rw [c7b0]|(simp only [i64_w,i32_w];rw [c7b0])|rw [c7b1]|skip)
      by_cases c8:(rd l0 x11_1)=13;rotate_left
      ·rw [if_neg c8] at H
       have c8b0:=beq_eq_false_iff_ne.mpr c8
       have c8b1:=bne_iff_ne.mpr c8
       have H' := Aside0.mk H
       clear H
       go_wp2
       go_meet
       case rel=>exact ⟨_,(false),zb5,H',⟨zb104⟩,⟨zb0⟩⟩
      rw [if_pos c8] at H
      have c8b0:=beq_iff_eq.mpr c8
      have c8b1:=bne_eq_false_iff_eq.mpr c8
      clear c8
      by_cases c9:(wrap64 (x11_1 + 1)) < (l0.length:Int)
      ·rw [if_pos c9] at H
       have c9b0:=decide_eq_true c9
       clear c9
       obtain ⟨ji10,hji10⟩ : ∃ j_:Int,(wrap64 (x11_1 + 1))=j_:=⟨_,rfl⟩
       replace H:(if 0 ≤ (ji10) then (line_Cut.j1 k1 l0 a1 x11_1 (rd l0 x11_1) l0 (l0.length:Int) x11_1 ((rd l0 (ji10)) != 10)) else (none))=some (r1,r2,r3):=by first|(rw [hji10] at H;exact H)|(simp only [hji10] at H ⊢;exact H)
       (try rw [hji10] at c9b0)
       have hji10w:(IntKind.i64.wrap (x11_1 + 1))=ji10:=(i64_w _).trans hji10
       by_cases c11:0 ≤ (ji10);rotate_left
       ·rw [if_neg c11] at H
        exact absurd H zb44
       rw [if_pos c11] at H
       have c11b0:=decide_eq_true c11
       clear c11
       have H' := Aside0.mk H
       clear H
       have p186:0 ≤ ((ji10):Int):=of_decide_eq_true zb3
       have q186:(ji10) < (l0.length:Int):=of_decide_eq_true zb3
       obtain ⟨ad186,e186,hx186_0⟩:=Kd.at_int HR0.out (ji10) p186 q186
       obtain rfl:ad185=ad186:=(by injection e186)
       replace hx186_0:=(HB.out.cell (World.block_lt_of_cell? w _ hx186_0)).trans hx186_0
       replace p186:=eq_true p186
       replace q186:=eq_true q186
       go_wp2
       go_meet
       case rel=>exact ⟨_,(((rd l0 (ji10)) != 10)),(by first|rfl|(simp;done)|(simp only [← hji10] <;> (first|rfl|simp))|(simp [*];done)),H',⟨zb104⟩,⟨zb0⟩⟩
      ·rw [if_neg c9] at H
       have c9b0:=decide_eq_false c9
       clear c9
       have H' := Aside0.mk H
       clear H
       go_wp2
       go_meet
       case rel=>exact ⟨_,(false),zb5,H',⟨zb104⟩,⟨zb0⟩⟩
     case rest =>
      clear HC6
      try clear c1
      try clear p1
      try clear q1
      try clear hx1
      try clear p2
      try clear c3
      try clear c3b0
      try clear c4
      try clear c4b0
      try clear c5
      try clear c5b0
      try clear p6
      try clear c7
      try clear c7b0
      try clear c7b1
      try clear c8
      try clear c8b0
      try clear c8b1
      try clear c9
      try clear c9b0
      try clear c10
      try clear c11
      try clear c11b0
      try clear hx185_0
      try clear hx186_0
      try clear p185
      try clear p186
      try clear p2
      try clear q185
      try clear q186
      obtain ⟨kq,x16_5,rfl,HA,HJ5,HB⟩:=hcut
      cases kq with
      | zero=>exact absurd HA.out (by simp [line_Cut.j1])
      | succ kj5 =>
       have H:=HA.out
       clear HA
       simp only [line_Cut.j1] at H
       by_cases c12:x16_5=true
       ·subst c12
        rw [if_pos rfl] at H
        simp only [Option.some.injEq,Prod.mk.injEq] at H
        obtain ⟨rfl,rfl,rfl⟩:=H
        go_wp2
        go_ret3
        exact ⟨zb2,zb0⟩
       replace c12:=Bool.eq_false_iff.mpr c12
       subst c12
       rw [if_neg (show ¬ (false=true) by decide)] at H
       have HC13:=Aside0.mk H
       clear H
       go_upto_region 6 with (fail)
       go_cut [38] (fun v38 wc => ∃ (kq:Nat) (x38_12:Bool),v38 = .bool x38_12∧Aside0 (line_Cut.j2 kq l0 a1 x11_1 (rd l0 x11_1) l0 (l0.length:Int) x11_1 x38_12=some (r1,r2,r3))∧Aside0 (kq ≤ kj5)∧Aside0 (Below w.heap.size w wc))
       case first =>
        have H:=HC13.out
        clear HC13
        by_cases c14:(rd l0 x11_1)=13;rotate_left
        ·rw [if_neg c14] at H
         have c14b0:=beq_eq_false_iff_ne.mpr c14
         have c14b1:=bne_iff_ne.mpr c14
         (first|rw [c14b0]|(simp only [i64_w,i32_w];rw [c14b0])|rw [c14b1]|skip)
         have H' := Aside0.mk H
         clear H
         go_wp2
         go_meet
         case rel=>exact ⟨_,(false),zb5,H',⟨by have:=HK1.out;have:=HJ5.out;first|omega|exact Nat.le_refl _⟩,⟨zb0⟩⟩
        rw [if_pos c14] at H
        have c14b0:=beq_iff_eq.mpr c14
        have c14b1:=bne_eq_false_iff_eq.mpr c14
        clear c14
        (first|rw [c14b0]|(simp only [i64_w,i32_w];rw [c14b0])|rw [c14b1]|skip)
        have H' := Aside0.mk H
        clear H
        go_wp2
        go_meet
        case rel=>exact ⟨_,(((wrap64 (x11_1 + 1)) == (l0.length:Int))),zb5,H',⟨by have:=HK1.out;have:=HJ5.out;first|omega|exact Nat.le_refl _⟩,⟨zb0⟩⟩
       case rest =>
        clear HC13
        try clear c1
        try clear p1
        try clear q1
        try clear hx1
        try clear p2
        try clear c3
        try clear c3b0
        try clear c4
        try clear c4b0
        try clear c5
        try clear c5b0
        try clear p6
        try clear c7
        try clear c7b0
        try clear c7b1
        try clear c8
        try clear c8b0
        try clear c8b1
        try clear c9
        try clear c9b0
        try clear c10
        try clear c11
        try clear c11b0
        try clear c12
        try clear c14
        try clear c14b0
        try clear c14b1
        try clear hx185_0
        try clear hx186_0
        try clear p1
        try clear p185
        try clear p186
        try clear p2
        try clear p6
        try clear q1
        try clear q185
        try clear q186
        obtain ⟨kq,x38_12,rfl,HA,HJ12,HB⟩:=hcut
        cases kq with
        | zero=>exact absurd HA.out (by simp [line_Cut.j2])
        | succ kj12 =>
         have H:=HA.out
         clear HA
         simp only [line_Cut.j2] at H
         by_cases c15:x38_12=true
         ·subst c15
          rw [if_pos rfl] at H
          simp only [Option.some.injEq,Prod.mk.injEq] at H
          obtain ⟨rfl,rfl,rfl⟩:=H
          go_wp2
          go_ret3
          exact ⟨zb2,zb0⟩
         replace c15:=Bool.eq_false_iff.mpr c15
         subst c15
         rw [if_neg (show ¬ (false=true) by decide)] at H
         by_cases c16:(rd l0 x11_1)=13;rotate_left
         ·rw [if_neg c16] at H
          have c16b0:=beq_eq_false_iff_ne.mpr c16
          have c16b1:=bne_iff_ne.mpr c16
          obtain ⟨ji21,hji21⟩ : ∃ j_:Int,(mx a1 0)=j_:=⟨_,rfl⟩
          replace H:(if x11_1 ≥ (ji21) then (some ((⟨#[]⟩:ByteArray),0,2)) else (line_Cut.l0 kj12 l0 a1 l0 (l0.length:Int) (wrap64 (x11_1 + 1))))=some (r1,r2,r3):=by first|(rw [hji21] at H;exact H)|(simp only [hji21] at H ⊢;exact H)
          have hji21_:(if a1 < 0 then 0 else a1)=ji21:=hji21
          by_cases c22:x11_1 ≥ (ji21)
          ·rw [if_pos c22] at H
           have c22b0:decide ((ji21) ≤ x11_1)=true:=decide_eq_true c22
           clear c22
           simp only [Option.some.injEq,Prod.mk.injEq] at H
           obtain ⟨rfl,rfl,rfl⟩:=H
           go_wp2
           go_ret3
           exact ⟨by first|rfl|(simp [errW_none,errW_some] <;> rfl)|(simp only [← hji21];first|rfl|(simp [errW_none,errW_some] <;> rfl))|(simp [*,errW_none,errW_some] <;> rfl),zb0⟩
          rw [if_neg c22] at H
          have c22b0:decide ((ji21) ≤ x11_1)=false:=decide_eq_false c22
          clear c22
          have H' := Aside0.mk H
          clear H
          go_wp2
          go_roundg kj12
          case measure=>have:=HK1.out;have:=HJ5.out;have:=HJ12.out;omega
          case rel=>exact ⟨(wrap64 (x11_1 + 1)),zb5,H',⟨by have:=HK1.out;have:=HJ5.out;have:=HJ12.out;omega⟩,⟨zb0⟩⟩
         rw [if_pos c16] at H
         have c16b0:=beq_iff_eq.mpr c16
         have c16b1:=bne_eq_false_iff_eq.mpr c16
         clear c16
         by_cases c17:0 ≤ x11_1
         ·rw [if_pos c17] at H
          have c17b0:=eq_true c17
          have c17b1:=decide_eq_true c17
          clear c17
          by_cases c18:x11_1 ≤ (l0.length:Int)
          ·rw [if_pos c18] at H
           have c18b0:=eq_true c18
           have c18b1:=decide_eq_true c18
           clear c18
           simp only [Option.some.injEq,Prod.mk.injEq] at H
           obtain ⟨rfl,rfl,rfl⟩:=H
           obtain ⟨i019,hi019,_,hsz19,_⟩:=info_parts info5
           obtain ⟨hcut19,hA19,hC19⟩:=print_take_of (P:=Tryz.prog) (Value.int .u8) 0 22 5 .i64 Tryz.underlying22 hi019 hsz19 (some ad185) c0 l0 x11_1 (of_decide_eq_true zb3) (of_decide_eq_true zb3) HC0.out
           have HR187:=Aside0.mk (Kd.C_of_reads (h1:=fun _=>rfl) (hA19 _ (Kd.reads_of_C HR0.out)))
           have HC187:=Aside0.mk hC19
           clear hA19 hC19 hi019 hsz19
           have hcv20:=Kd.C_string (P:=Tryz.prog) (A:=(some ad185)) (c:=c0) Tryz.underlying22 Tryz.underlying5 Tryz.underlying9 (Kd.C_below HR187.out HB.out)
           have hlen20:(l0.take (x11_1:Int).toNat).length=(x11_1:Int).toNat:=by have q1_:(x11_1:Int) ≤ (l0.length:Int):=of_decide_eq_true zb3;have q2_:0 ≤ (x11_1:Int):=of_decide_eq_true zb3;rw [List.length_take];omega
           rw [hlen20] at hcv20
           clear hlen20
           go_wp2
           go_ret3
           exact ⟨zb2,zb0⟩
          ·rw [if_neg c18] at H
           exact absurd H zb44
         ·rw [if_neg c17] at H
          exact absurd H zb44
    ·rw [if_neg c5] at H
     exact absurd H zb44
   ·rw [if_neg c4] at H
    exact absurd H zb44
/-- The reader's block: its bytes,its place,and whether more are needed. -/
def Rdr (w:World) (g:Nat) (A:Option Addr) (n c:Nat) (p:Int) (m:Bool):Prop:=w.heap[g]? = some (.cells #[.slice A n c,.int .i64 p,.bool m] 150 (0,0))
theorem keep_set {w w1:World} {g:Nat} (h:KeepBut w w1 g none) (j:Nat) (u:Value):KeepBut w (w1.setCell ⟨g,j,none⟩ u) g none :=
 ⟨by simpa [World.setCell] using h.1,fun i hi hg hr=>(Below.heap_setCell w1 ⟨g,j,none⟩ u i hg).trans (h.2 i hi hg hr)⟩
theorem keep_trans {w w1 w2:World} {g:Nat} (h:KeepBut w w1 g none) (k:KeepBut w1 w2 g none):KeepBut w w2 g none :=
 ⟨Nat.le_trans h.1 k.1,fun i hi hg hr=>(k.2 i (Nat.lt_of_lt_of_le hi h.1) hg hr).trans (h.2 i hi hg hr)⟩
theorem keep_below {w w1:World} (g:Nat) (h:Below w.heap.size w w1):KeepBut w w1 g none:=⟨h.size,fun i hi _ _=>h.block i hi⟩
theorem below_less {w w1:World} {g:Nat} (hg:g ≤ w.heap.size) (h:Below w.heap.size w w1):Below g w w1:=⟨h.os,h.tape,h.output,h.size,fun b hb=>h.block b (Nat.lt_of_lt_of_le hb hg)⟩
theorem below_base {w w1:World} {b g:Nat} (hg:b ≤ g) (h:Below g w w1):Below b w w1:=⟨h.os,h.tape,h.output,h.size,fun i hi=>h.block i (Nat.lt_of_lt_of_le hi hg)⟩
/-- What a call of the reader's has turned: its own block alone;new blocks. -/
def Went (w w' : World) (g:Nat) (A:Option Addr) (n c:Nat) (p:Int) (m:Bool):Prop:=Rdr w' g A n c p m∧Below g w w' ∧ KeepBut w w' g none
theorem Went.step {w w1 w2:World} {g:Nat} {A:Option Addr} {n c:Nat} {p:Int} {m:Bool} (h:Went w w1 g A n c p m) (hb:Below w1.heap.size w1 w2):Went w w2 g A n c p m :=
 ⟨blk_below h.1 hb,h.2.1.trans (below_less (Nat.le_of_lt (blk_lt h.1)) hb),keep_trans h.2.2 (keep_below g hb)⟩
theorem Went.then_ {w w1 w2:World} {g:Nat} {A:Option Addr} {n c:Nat} {p q:Int} {m m2:Bool} (h:Went w w1 g A n c p m) (k:Went w1 w2 g A n c q m2):Went w w2 g A n c q m2 :=
 ⟨k.1,h.2.1.trans k.2.1,keep_trans h.2.2 k.2.2⟩
theorem Went.more {w w1:World} {g:Nat} {A:Option Addr} {n c:Nat} {p:Int} {m:Bool} (h:Went w w1 g A n c p m):w1.cell? ⟨g,2,none⟩=some (.bool m):=(blk_cell h.1 2).trans rfl
theorem Went.place {w w1:World} {g:Nat} {A:Option Addr} {n c:Nat} {p:Int} {m:Bool} (h:Went w w1 g A n c p m):w1.cell? ⟨g,1,none⟩=some (.int .i64 p):=(blk_cell h.1 1).trans rfl
theorem Went.bytes {w w1:World} {g:Nat} {A:Option Addr} {n c:Nat} {p:Int} {m:Bool} (h:Went w w1 g A n c p m):w1.cell? ⟨g,0,none⟩=some (.slice A n c):=(blk_cell h.1 0).trans rfl
/-- What line tells: the text,the error,the new place,whether more are needed. -/
def chunk_reader_line.f (k:Nat) (l:List Int) (p:Int):Option (ByteArray × Int × Int × Bool) :=
 if 0 ≤ p then (if p ≤ (l.length:Int) then ((line_Cut.f k (l.drop p.toNat) 256).bind fun c=>some (c.1,c.2.2,wrap64 (p + c.2.1),(decide (c.2.1=0) && decide (c.2.2=0)))) else none) else none
set_option maxHeartbeats 4000000 in
set_option maxRecDepth 100000 in
theorem chunk_reader_line.calls (k:Nat) (g:Nat) (A:Option Addr) (c:Nat) (l:List Int) (p:Int) (m:Bool) (s:ByteArray) (e q:Int) (m' : Bool) (w:World) (hr:Rdr w g A l.length c p m) (hC:Kd.C (Kd.int .u8) w A l.length l) (hc:l.length ≤ c) (h:chunk_reader_line.f k l p=some (s,e,q,m')) :
 Calls Tryz.prog 165 #[.pointer (some ⟨g,0,none⟩)] w fun E w' => E = .returned (.tuple #[.string s,.int .i64 e])∧Went w w' g A l.length c q m' := by
 unfold chunk_reader_line.f at h
 by_cases h0:0 ≤ p;rotate_left
 ·rw [if_neg h0] at h
  cases h
 rw [if_pos h0] at h
 by_cases h1:p ≤ (l.length:Int)
 ·rw [if_pos h1] at h
  obtain ⟨⟨s1,n,e1⟩,hcut,h⟩:=Option.bind_eq_some_iff.1 h
  simp only [Option.some.injEq,Prod.mk.injEq] at h
  obtain ⟨rfl,rfl,hq,hm⟩:=h
  have HQ:=Aside0.mk hq
  have HM:=Aside0.mk hm
  have HK:=Aside0.mk hcut
  clear hq hm hcut
  have hg:=blk_lt hr
  have hc0:w.cell? ⟨g,0,none⟩=some (.slice A l.length c):=(blk_cell hr 0).trans rfl
  have hc1:w.cell? ⟨g,1,none⟩=some (.int .i64 p):=(blk_cell hr 1).trans rfl
  obtain ⟨i011,hi011,_,hsz11,_⟩:=info_parts info5
  obtain ⟨A',hsl,hrd,hcc⟩:=print_drop_of (P:=Tryz.prog) (Value.int .u8) 0 22 5 .i64 Tryz.underlying22 hi011 hsz11 A c l p h0 h1 hc
  have HR:=Aside0.mk (Kd.C_of_reads (h1:=fun _=>rfl) (hrd _ (Kd.reads_of_C hC)))
  have HCC:=Aside0.mk hcc
  have HRR:=Aside0.mk hr
  clear hrd hcc hi011 hsz11 hr hC hc h0 h1
  go_enter Tryz.func165,Tryz.ntmps165
  go_wp2_with fail
  go_region_held3 (fun w' => w'.cell? ⟨g,0,none⟩=some (.slice A l.length c)∧w'.cell? ⟨g,1,none⟩=some (.int .i64 p))
   (first|go_keep)
   (first|(go_at_call 108;(try rw [← List.length_drop]);refine (line_Cut.calls k A' _ (l.drop p.toNat) 256 s1 n e1 _ (Kd.C_drew HR.out) HCC.out HK.out).mono ?_;rintro E w1 ⟨rfl,hb⟩;have k0:=pw_cell_below hb hc0;have k1:=pw_cell_below hb hc1))
  have R1:Rdr w1 g A l.length c p m:=blk_below (w:=w.drew) HRR.out hb
  have B1:Below g w w1:=⟨hb.os,hb.tape,hb.output,hb.size,fun b hb' => hb.block b (Nat.lt_trans hb' hg)⟩
  have K1:KeepBut w w1 g none:=⟨hb.size,fun i hi _ _=>hb.block i hi⟩
  have f1:=blk_frozen R1 1
  have f2:=blk_frozen R1 2
  have k2:w1.cell? ⟨g,2,none⟩=some (.bool m):=(blk_cell R1 2).trans rfl
  have R1' := Aside0.mk R1
  have B1' := Aside0.mk B1
  have K1' := Aside0.mk K1
  clear R1 B1 K1 h hb HR HCC HRR HK hsl hc0 hc1
  by_cases c0:n=0;rotate_left
  ·have d0:(n == 0)=false:=beq_eq_false_iff_ne.2 c0
   have hm:Aside0 (m' = false):=⟨by rw [← HM.out,decide_eq_false c0,Bool.false_and]⟩
   clear HM c0
   go_wp2
   go_ret2
   refine ⟨rfl,?_,(B1'.out.setCell (Nat.le_refl _) _).setCell (Nat.le_refl _) _,keep_set (keep_set K1'.out 1 _) 2 _⟩
   exact blk_put (blk_put R1'.out 1 _ rfl) 2 _ (by rw [hm.out,← HQ.out];rfl)
  have d0:(n == 0)=true:=beq_iff_eq.2 c0
  by_cases c1:e1=0
  ·have d1:(e1 == 0)=true:=beq_iff_eq.2 c1
   have hm:Aside0 (m' = true):=⟨by rw [← HM.out,decide_eq_true c0,decide_eq_true c1];rfl⟩
   clear HM c0 c1
   go_wp2
   go_ret2
   refine ⟨rfl,?_,(B1'.out.setCell (Nat.le_refl _) _).setCell (Nat.le_refl _) _,keep_set (keep_set K1'.out 1 _) 2 _⟩
   exact blk_put (blk_put R1'.out 1 _ rfl) 2 _ (by rw [hm.out,← HQ.out];rfl)
  ·have d1:(e1 == 0)=false:=beq_eq_false_iff_ne.2 c1
   have hm:Aside0 (m' = false):=⟨by rw [← HM.out,decide_eq_false c1,Bool.and_false]⟩
   clear HM c0 c1
   go_wp2
   go_ret2
   refine ⟨rfl,?_,(B1'.out.setCell (Nat.le_refl _) _).setCell (Nat.le_refl _) _,keep_set (keep_set K1'.out 1 _) 2 _⟩
   exact blk_put (blk_put R1'.out 1 _ rfl) 2 _ (by rw [hm.out,← HQ.out];rfl)
 ·rw [if_neg h1] at h
  cases h
/-- What data tells: the bytes,the error,the new place,whether more bytes are needed. -/
def dataOf (rest:List Int) (p n:Int) (m:Bool):List Int × Int × Int × Bool :=
 if n < (rest.length:Int) then
  (if rd rest n=13 then
   (if n + 1 < (rest.length:Int) then (if rd rest (n + 1)=10 then (rest.take n.toNat,0,wrap64 (p + (n + 2)),m) else ([],20,p,m)) else ([],0,p,true))
  else ([],20,p,m))
 else ([],0,p,true)
def chunk_reader_data.f (l:List Int) (p n:Int) (m:Bool):Option (List Int × Int × Int × Bool) :=
 if 0 ≤ p∧p ≤ (l.length:Int)∧0 ≤ n∧n ≤ 4611686018427387904 then some (dataOf (l.drop p.toNat) p n m) else none
/-- What data hands back: a piece of the bytes;and what it has turned. -/
def DataPost (w00 w:World) (g:Nat) (A:Option Addr) (n c:Nat) (r:List Int) (e q:Int) (m:Bool) (E:Ending) (w' : World):Prop := ∃ A2 c2,E = .returned (.tuple #[.slice A2 r.length c2,.int .i64 e])∧Kd.C (Kd.int .u8) w00 A2 r.length r∧r.length ≤ c2∧Went w w' g A n c q m
theorem data_none {w00 w w' : World} {g:Nat} {A:Option Addr} {n c:Nat} {e q:Int} {m:Bool} (h:Went w w' g A n c q m):DataPost w00 w g A n c [] e q m (.returned (.tuple #[.slice none 0 0,.int .i64 e])) w' := ⟨none,0,rfl,Kd.C_nil _ _,Nat.le_refl _,h⟩
theorem data_some {w00 w w' : World} {g:Nat} {A:Option Addr} {n c:Nat} {e q:Int} {m:Bool} {A2:Option Addr} {c2 j:Nat} {r:List Int} (h:Went w w' g A n c q m) (hj:r.length=j) (hC:Kd.C (Kd.int .u8) w00 A2 r.length r) (hc:r.length ≤ c2):DataPost w00 w g A n c r e q m (.returned (.tuple #[.slice A2 j c2,.int .i64 e])) w' := ⟨A2,c2,by rw [hj],hC,hc,h⟩
set_option maxHeartbeats 8000000 in
set_option maxRecDepth 100000 in
theorem chunk_reader_data.calls (g:Nat) (A:Option Addr) (c:Nat) (l:List Int) (p n:Int) (m:Bool) (r:List Int) (e q:Int) (m' : Bool) (w00 w:World) (hr:Rdr w g A l.length c p m) (hC:Kd.C (Kd.int .u8) w00 A l.length l) (hB0:Below w00.heap.size w00 w) (hg0:w00.heap.size ≤ g) (hc:l.length ≤ c) (h:chunk_reader_data.f l p n m=some (r,e,q,m')) :
 Calls Tryz.prog 123 #[.pointer (some ⟨g,0,none⟩),.int .i64 n] w (DataPost w00 w g A l.length c r e q m'):=by
 unfold chunk_reader_data.f at h
 by_cases hb:0 ≤ p∧p ≤ (l.length:Int)∧0 ≤ n∧n ≤ 4611686018427387904;rotate_left
 ·rw [if_neg hb] at h
  cases h
 rw [if_pos hb] at h
 obtain ⟨h0,h1,n0,n1⟩:=hb
 have H:=Aside0.mk (Option.some.inj h)
 clear h
 have hg:=blk_lt hr
 have hB00:=Aside0.mk hB0
 have hg00:=Aside0.mk hg0
 have hc0:w.cell? ⟨g,0,none⟩=some (.slice A l.length c):=(blk_cell hr 0).trans rfl
 have hc1:w.cell? ⟨g,1,none⟩=some (.int .i64 p):=(blk_cell hr 1).trans rfl
 have hc2:w.cell? ⟨g,2,none⟩=some (.bool m):=(blk_cell hr 2).trans rfl
 have f1:=blk_frozen hr 1
 have f2:=blk_frozen hr 2
 obtain ⟨i011,hi011,_,hsz11,_⟩:=info_parts info5
 obtain ⟨A',hsl,hrd,hcc⟩:=print_drop_of (P:=Tryz.prog) (Value.int .u8) 0 22 5 .i64 Tryz.underlying22 hi011 hsz11 A c l p h0 h1 hc
 have hCr:=Kd.C_of_reads (h1:=fun _=>rfl) (hrd _ (Kd.reads_of_C hC))
 obtain ⟨rest,hrest⟩ : ∃ rest,rest=l.drop p.toNat:=⟨_,rfl⟩
 rw [← hrest] at hsl hCr hcc H
 have hrl:rest.length=l.length - p.toNat:=by rw [hrest,List.length_drop]
 rw [hrl] at hsl
 obtain ⟨cc,hcc'⟩ : ∃ cc,cc=c - p.toNat:=⟨_,rfl⟩
 rw [← hcc'] at hsl hcc
 rw [← hrl] at hsl
 have HR:=Aside0.mk hCr
 have HCC:=Aside0.mk hcc
 have HRR:=Aside0.mk hr
 have HN:=Aside0.mk (And.intro n0 n1)
 clear hrd hCr hcc hsz11 hr hC hc hrest hrl hcc'
 have kc:=fun (w:World) (C:Array Value) (n c:Nat)=>Lib.run_convert_bytes_const (P:=Tryz.prog) w 22 5 C n c Tryz.underlying22 Tryz.underlying5
 clear hB0 hg0
 go_enter Tryz.func123,Tryz.ntmps123
 go_wp2_with fail
 go_quiet (fail)
 obtain ⟨w0,hw0⟩ : ∃ w0,w0=w.drewN nq:=⟨_,rfl⟩
 rw [← hw0]
 have hb0:Below w.heap.size w w0:=by rw [hw0];exact pw_below_drewN (Below.refl _ _) nq
 have W0:Went w w0 g A l.length c p m:=Went.step ⟨HRR.out,Below.refl _ _,keep_below g (Below.refl _ _)⟩ hb0
 have hz:w0.heap.size=w.heap.size:=by rw [hw0];simp
 have k1:=W0.place
 have k2:=W0.more
 have g1:=blk_frozen W0.1 1
 have g2:=blk_frozen W0.1 2
 have W0' := Aside0.mk W0
 have HB0:=Aside0.mk hb0
 clear W0 hc0 hc1 hc2 f1 f2 hw0 hb0 hz
 have W1:=Aside0.mk (W0'.out.step (below_alloc (Below.refl _ _) (.cells #[.int .u8 13,.int .u8 10] 5 (2,3))))
 have c13:(w0.alloc (.cells #[.int .u8 13,.int .u8 10] 5 (2,3))).cell? ⟨w0.heap.size,0,none⟩=some (.int .u8 13):=by rw [cell_of_row _ _ _ _ _ _ (blk_new _ _)];rfl
 have c10:(w0.alloc (.cells #[.int .u8 13,.int .u8 10] 5 (2,3))).cell? ⟨w0.heap.size,1,none⟩=some (.int .u8 10):=by rw [cell_of_row _ _ _ _ _ _ (blk_new _ _)];rfl
 have HC1:=Aside0.mk (Kd.C_below HR.out (hB00.out.trans (below_base hg00.out W1.out.2.1)))
 obtain ⟨w1,hw1⟩ : ∃ w1,w1=w0.alloc (.cells #[.int .u8 13,.int .u8 10] 5 (2,3)):=⟨_,rfl⟩
 rw [← hw1] at W1 c13 c10 HC1
 have hww:=hw1.symm
 clear hw1
 have hwn:wrap64 n=n:=by unfold wrap64;omega
 have hw1:wrap64 (n + 1)=n + 1:=by unfold wrap64;omega
 have hw2:wrap64 (n + 2)=n + 2:=by unfold wrap64;omega
 go_wp2_with fail
 go_loopw [7,8,21] (fun _ _ v wr => ∃ i:Int,v = .int .i64 i∧w1=wr∧Aside0 ((i=0 ∨ i=1 ∨ i=2)∧(i ≠ 0 → n < (rest.length:Int) → rd rest n=13)∧(i=2 → n + 1 < (rest.length:Int) → rd rest (n + 1)=10))) (fun _ _ v _=>(2 - intOf v).toNat)
 case atStart=>exact ⟨0,rfl,rfl,⟨zb17,fun h=>absurd rfl h,fun h=>by omega⟩⟩
 case round =>
  obtain ⟨i,rfl,rfl,HI⟩:=hrel
  obtain ⟨hi,_,_⟩:=HI.out
  rcases hi with rfl|rfl|rfl
  ·skip
   by_cases a0:n < (rest.length:Int);rotate_left
   ·have q1:(n < (rest.length:Int))=False:=eq_false a0
    have q2:decide (n < (rest.length:Int))=false:=decide_eq_false a0
    have HX:Aside0 (((1:Int)=0 ∨ (1:Int)=1 ∨ (1:Int)=2)∧((1:Int) ≠ 0 → n < (rest.length:Int) → rd rest n=13)∧((1:Int)=2 → n + 1 < (rest.length:Int) → rd rest (n + 1)=10)):=⟨⟨zb17,fun _ h=>absurd h a0,fun h=>by omega⟩⟩
    clear a0 HI
    go_wp2_with fail
    go_roundw
    case rel=>exact ⟨1,rfl,(by first|rfl|trivial),HX⟩
    case measure=>simp [intOf]
   obtain ⟨ad,e0,hx⟩:=Kd.at_int HC1.out n n0 a0
   subst e0
   have p1:(0 ≤ n)=True:=eq_true zb17
   have q1:(n < (rest.length:Int))=True:=eq_true a0
   have q2:decide (n < (rest.length:Int))=true:=decide_eq_true a0
   by_cases b1:rd rest n=13
   ·have d1:(rd rest n == 13)=true:=beq_iff_eq.2 b1
    have d2:(rd rest n != 13)=false:=bne_eq_false_iff_eq.2 b1
    have HI2:=Aside0.mk (And.intro b1 a0)
    have HI3:Aside0 ((1:Int)=0 ∨ (1:Int)=1 ∨ (1:Int)=2):=⟨zb17⟩
    have HX:Aside0 (((1:Int)=0 ∨ (1:Int)=1 ∨ (1:Int)=2)∧((1:Int) ≠ 0 → n < (rest.length:Int) → rd rest n=13)∧((1:Int)=2 → n + 1 < (rest.length:Int) → rd rest (n + 1)=10)):=⟨⟨zb17,fun _ _=>b1,fun h=>by omega⟩⟩
    clear b1 a0 HI HI2 HI3
    go_wp2_with fail
    go_roundw
    case rel=>exact ⟨1,rfl,(by first|rfl|trivial),HX⟩
    case measure=>simp [intOf]
   have d1:(rd rest n == 13)=false:=beq_eq_false_iff_ne.2 b1
   have d2:(rd rest n != 13)=true:=bne_iff_ne.2 b1
   have HD:Aside0 (dataOf rest p n m=([],20,p,m)):=⟨by unfold dataOf;rw [if_pos a0,if_neg b1]⟩
   rw [HD.out] at H
   have HE:=H.out
   simp only [Prod.mk.injEq] at HE
   obtain ⟨rfl,rfl,rfl,rfl⟩:=HE
   clear b1 a0 HI HD H
   go_wp2_with fail
   go_ret2
   exact data_none W1.out
  ·skip
   by_cases a0:n + 1 < (rest.length:Int);rotate_left
   ·have q1:(n + 1 < (rest.length:Int))=False:=eq_false a0
    have q2:decide (n + 1 < (rest.length:Int))=false:=decide_eq_false a0
    have HX:Aside0 (((2:Int)=0 ∨ (2:Int)=1 ∨ (2:Int)=2)∧((2:Int) ≠ 0 → n < (rest.length:Int) → rd rest n=13)∧((2:Int)=2 → n + 1 < (rest.length:Int) → rd rest (n + 1)=10)):=⟨⟨zb17,fun _ h=>HI.out.2.1 zb17 h,fun _ h=>absurd h a0⟩⟩
    clear a0 HI
    go_wp2_with fail
    go_roundw
    case rel=>exact ⟨2,rfl,(by first|rfl|trivial),HX⟩
    case measure=>simp [intOf]
   obtain ⟨ad,e0,hx⟩:=Kd.at_int HC1.out (n + 1) zb17 a0
   subst e0
   have p1:(0 ≤ n + 1)=True:=eq_true zb17
   have q1:(n + 1 < (rest.length:Int))=True:=eq_true a0
   have q2:decide (n + 1 < (rest.length:Int))=true:=decide_eq_true a0
   by_cases b1:rd rest (n + 1)=10
   ·have d1:(rd rest (n + 1) == 10)=true:=beq_iff_eq.2 b1
    have d2:(rd rest (n + 1) != 10)=false:=bne_eq_false_iff_eq.2 b1
    have HI2:=Aside0.mk (And.intro b1 a0)
    have HI3:Aside0 ((2:Int)=0 ∨ (2:Int)=1 ∨ (2:Int)=2):=⟨zb17⟩
    have HX:Aside0 (((2:Int)=0 ∨ (2:Int)=1 ∨ (2:Int)=2)∧((2:Int) ≠ 0 → n < (rest.length:Int) → rd rest n=13)∧((2:Int)=2 → n + 1 < (rest.length:Int) → rd rest (n + 1)=10)):=⟨⟨zb17,fun _ h=>HI.out.2.1 zb17 h,fun _ _=>b1⟩⟩
    clear b1 a0 HI HI2 HI3
    go_wp2_with fail
    go_roundw
    case rel=>exact ⟨2,rfl,(by first|rfl|trivial),HX⟩
    case measure=>simp [intOf]
   have d1:(rd rest (n + 1) == 10)=false:=beq_eq_false_iff_ne.2 b1
   have d2:(rd rest (n + 1) != 10)=true:=bne_iff_ne.2 b1
   have HD:Aside0 (dataOf rest p n m=([],20,p,m)):=⟨by unfold dataOf;rw [if_pos (by omega),if_pos (HI.out.2.1 (by omega) (by omega)),if_pos a0,if_neg b1]⟩
   rw [HD.out] at H
   have HE:=H.out
   simp only [Prod.mk.injEq] at HE
   obtain ⟨rfl,rfl,rfl,rfl⟩:=HE
   clear b1 a0 HI HD H
   go_wp2_with fail
   go_ret2
   exact data_none W1.out
  obtain ⟨_,i1,i2⟩:=HI.out
  have I1:=Aside0.mk (i1 zb17)
  have I2:=Aside0.mk (i2 rfl)
  clear i1 i2 HI
  by_cases a0:(rest.length:Int) < n + 2
  ·have q1:((rest.length:Int) < n + 2)=True:=eq_true a0
   have q2:decide ((rest.length:Int) < n + 2)=true:=decide_eq_true a0
   have HD:Aside0 (dataOf rest p n m=([],0,p,true)):=⟨by
    unfold dataOf
    by_cases e1:n < (rest.length:Int)
    ·rw [if_pos e1,if_pos (I1.out e1),if_neg zb17]
    rw [if_neg e1]⟩
   rw [HD.out] at H
   have HE:=H.out
   simp only [Prod.mk.injEq] at HE
   obtain ⟨rfl,rfl,rfl,rfl⟩:=HE
   clear a0 HD H I1 I2
   have k2' := W1.out.more
   have g2' := blk_frozen W1.out.1 2
   go_wp2_with fail
   go_ret2
   exact data_none ⟨blk_put W1.out.1 2 _ rfl,W1.out.2.1.setCell (Nat.le_refl _) _,keep_set W1.out.2.2 2 _⟩
  have q1:((rest.length:Int) < n + 2)=False:=eq_false a0
  have q2:decide ((rest.length:Int) < n + 2)=false:=decide_eq_false a0
  have q3:(n ≤ (rest.length:Int))=True:=eq_true zb17
  have HD:Aside0 (dataOf rest p n m=(rest.take n.toNat,0,wrap64 (p + (n + 2)),m)):=⟨by
   unfold dataOf
   rw [if_pos zb17,if_pos (I1.out zb17),if_pos zb17,if_pos (I2.out zb17)]⟩
  rw [HD.out] at H
  have HE:=H.out
  simp only [Prod.mk.injEq] at HE
  obtain ⟨rfl,rfl,rfl,rfl⟩:=HE
  have hnn:n.toNat ≤ rest.length:=by omega
  have q4:(n ≤ (cc:Int))=True:=eq_true (by have:=HCC.out;omega)
  have q5:(0 ≤ n)=True:=eq_true n0
  have HT:=Aside0.mk (Kd.C_of_reads (h1:=fun _=>rfl) ((Kd.reads_of_C (d:=(0:Int)) HR.out).take_ n.toNat hnn))
  have hlt:(rest.take n.toNat).length=n.toNat:=by rw [List.length_take];omega
  have HLT:=Aside0.mk hlt
  clear a0 HD H I1 I2 hnn hlt
  have k1' := W1.out.place
  have g1' := blk_frozen W1.out.1 1
  go_wp2_with fail
  go_ret2
  refine data_some (j:=n.toNat) ⟨?_,W1.out.2.1.setCell (Nat.le_refl _) _,keep_set W1.out.2.2 1 _⟩ HLT.out (by rw [HLT.out];exact HT.out) (by have:=HCC.out;have:=HLT.out;have h1:=HT.out.1;rw [List.length_take];omega)
  exact blk_put W1.out.1 1 _ rfl
end Go.Proofs.YtagffbblalldiaaGreatDoor.P
