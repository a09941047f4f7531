/- Each function below answers as its Lean twin says; plain lemmas; a row where its theorem stands. No further condition. (Laid by this repo's pack.py out of its texts and of the print's words.) -/
import Derived.Test.YtagffbblalldiaaGreatDoorZ920b1e89
import Derived.Shelf.Abstract
import Derived.Shelf.Strings.SlTrimAscii
namespace Go.Proofs.YtagffbblalldiaaGreatDoor.P
open Go.RowKit Go.Proofs.YtagffbblalldiaaGreatDoorW.PrintWords Go.Proofs.YtagffbblalldiaaGreatDoorW.PrintLast Go.Proofs.YtagffbblalldiaaGreatDoorW.PrintMore
attribute [local go_sem] max2_int min2_int max_two min_two max_three min_three max_four min_four
set_option linter.unusedVariables false
set_option linter.unusedSimpArgs false
/-- The place of the first that a test takes,from a place on: -1: none. -/
def idxO {α:Type} (q:α → Option Bool):List α → Int → Option Int
 | [],_=>some (-1)
 | x :: r,i=>(q x).bind fun b=>if b=true then some i else idxO q r (i + 1)
/-- Does a test take one of them? -/
def anyO {α:Type} (q:α → Option Bool):List α → Option Bool
 | []=>some false
 | x :: r=>(q x).bind fun b=>if b=true then some true else anyO q r
theorem idxO_any {α:Type} (q:α → Option Bool) : ∀ (xs:List α) (i:Int) (b:Bool),0 ≤ i → anyO q xs=some b → ∃ j,idxO q xs i=some j∧decide (0 ≤ j)=b
 | [],i,b,_,h=>⟨-1,rfl,by simp only [anyO,Option.some.injEq] at h;rw [← h];rfl⟩
 | x :: r,i,b,hi,h=>by
  simp only [anyO] at h
  obtain ⟨c,hc,h⟩:=Option.bind_eq_some_iff.1 h
  simp only [idxO,hc,Option.bind_some]
  cases c
  ·simp only [Bool.false_eq_true,if_false] at h ⊢
   exact idxO_any q r (i + 1) b (by omega) h
  simp only [if_true,Option.some.injEq] at h ⊢
  exact ⟨i,rfl,by rw [← h];exact decide_eq_true hi⟩
theorem sl_base {w w1:World} {b g:Nat} (hg:b ≤ g) (h:Below g w w1):Below b w w1:=⟨h.os,h.tape,h.output,h.size,fun i hi=>h.block i (Nat.lt_of_lt_of_le hi hg)⟩
/-- What is asked of a test that is handed over: its answer,in every later world. -/
def TestOf (g:Nat) (lb:Array Value) (enc:ByteArray → Value) (q:ByteArray → Option Bool) (w:World):Prop :=
 ∀ (W:World) (x:ByteArray) (b:Bool),Below w.heap.size w W → q x=some b → Calls Tryz.prog g (#[enc x] ++ lb) W fun e w' => e = .returned (.bool b)∧Below W.heap.size W w'
set_option maxHeartbeats 4000000 in
set_option maxRecDepth 100000 in
theorem slices_IndexFunc_string_string.callsOf (q:ByteArray → Option Bool) (g:Nat) (lb:Array Value) (eg : ∀ args w,(callFunc g args).run Tryz.prog w = .ok (.enter g args) w) (A0:Option Addr) (c0:Nat) (l0:List ByteArray) (r:Int) (w:World) (hr0:Kd.C Kd.string w A0 l0.length l0) (hc0:l0.length ≤ c0)
 (hq:TestOf g lb Value.string q w) (h:idxO q l0 0=some r) :
 Calls Tryz.prog 135 #[.slice A0 l0.length c0,.func (.func g) #[] lb] w fun e w' => e = .returned (.int .i64 r)∧Below w.heap.size w w' := by
 have HR:=Aside0.mk hr0
 have HQ:=Aside0.mk hq
 have H0:=Aside0.mk (show idxO q (l0.drop (0:Int).toNat) 0=some r from h)
 have HM:=Aside0.mk (show l0.length ≤ 9223372036854775807 from hr0.2.1)
 clear hr0 hq h
 go_enter Tryz.func135,Tryz.ntmps135
 go_wp2
 go_loopg [5,8] l0.length (fun kq _ v8 wr => ∃ (x8:Int),v8 = .int .i64 x8∧Aside0 (0 ≤ x8∧x8 ≤ l0.length∧(l0.length:Int) - x8 ≤ kq)∧Aside0 (Below w.heap.size w wr)∧Aside0 (idxO q (l0.drop x8.toNat) x8=some r))
 case atStart=>exact ⟨0,rfl,⟨zb18⟩,⟨Below.refl _ w⟩,H0⟩
 case round =>
  obtain ⟨x8,rfl,HX,BW,HH⟩:=hrel
  clear H0
  by_cases c4:x8 < (l0.length:Int);rotate_left
  ·have c4b0:=decide_eq_false c4
   have hx:=HH.out
   rw [List.drop_of_length_le zb85,idxO] at hx
   injection hx with hx
   clear c4
   go_wp2
   go_ret
   subst hx
   exact ⟨zb20,BW.out⟩
  have c4b0:=decide_eq_true c4
  have hx:=HH.out
  have hlt:x8.toNat < l0.length:=by have:=HX.out;omega
  rw [List.drop_eq_getElem_cons hlt,idxO] at hx
  obtain ⟨b,hb,hx⟩:=Option.bind_eq_some_iff.1 hx
  have hrd:rdOf ByteArray.empty l0 x8=l0[x8.toNat]:=by simp [rdOf,List.getD_eq_getElem?_getD,List.getElem?_eq_getElem hlt]
  have hcall:=HQ.out wr l0[x8.toNat] b BW.out hb
  rw [← hrd] at hcall
  obtain ⟨ad,he,hcell⟩:=Kd.at_string HR.out x8 HX.out.1 c4
  replace hcell:=(BW.out.cell (World.block_lt_of_cell? w _ hcell)).trans hcell
  obtain ⟨y,hy⟩ : ∃ y,rdOf ByteArray.empty l0 x8=y:=⟨_,rfl⟩
  rw [hy] at hcall hcell
  have HCALL:=Aside0.mk hcall
  have HN:=Aside0.mk hx
  have p8:(0 ≤ x8)=True:=eq_true HX.out.1
  have q8:(x8 < (l0.length:Int))=True:=eq_true c4
  clear hx hb hrd HH hy hcall c4
  subst he
  cases b with
  | true =>
   go_wp2_with (go_at_fn g;refine HCALL.out.mono ?_;rintro e w' ⟨rfl,hb'⟩)
   go_ret
   have hx:=HN.out
   simp only [if_true,Option.some.injEq] at hx
   subst hx
   exact ⟨zb20,BW.out.trans (sl_base (Below.size BW.out) hb')⟩
  | false =>
   go_wp2_with (go_at_fn g;refine HCALL.out.mono ?_;rintro e w' ⟨rfl,hb'⟩)
   go_roundg (gk - 1)
   case measure=>have:=HX.out;have:=of_eq_true q8;omega
   case rel =>
    have hx:=HN.out
    simp only [Bool.false_eq_true,if_false] at hx
    have hx8:=HX.out
    have hq8:=of_eq_true q8
    have hw:wrap64 (x8 + 1)=x8 + 1:=by have:=HM.out;unfold wrap64;omega
    refine ⟨wrap64 (x8 + 1),rfl,⟨zb92⟩,⟨BW.out.trans (sl_base (Below.size BW.out) hb')⟩,⟨?_⟩⟩
    rw [hw,show (x8 + 1).toNat=x8.toNat + 1 by omega]
    exact hx
/-- What is asked of a test of such structs that is handed over. -/
def TestOf_Up (g:Nat) (lb:Array Value) (q:S83 → Option Bool) (w:World):Prop :=
 ∀ (W:World) (x:S83) (b:Bool) (A1:Option Addr) (c1:Nat),Below w.heap.size w W → x.f1.length ≤ c1 → Kd.C Kd.string W A1 x.f1.length x.f1 → q x=some b → Calls Tryz.prog g (#[.agg #[.string x.f0,.slice A1 x.f1.length c1]] ++ lb) W fun e w' => e = .returned (.bool b)∧Below W.heap.size W w'
set_option maxHeartbeats 4000000 in
set_option maxRecDepth 100000 in
theorem slices_IndexFunc_Up.callsOf (q:S83 → Option Bool) (g:Nat) (lb:Array Value) (eg : ∀ args w,(callFunc g args).run Tryz.prog w = .ok (.enter g args) w) (A_:Option Addr) (c_:Nat) (l0:List (S83)) (r:Int) (w:World) (hr0:Kd.C k83 w A_ l0.length l0) (hc0:l0.length ≤ c_)
 (hq:TestOf_Up g lb q w) (h:idxO q l0 0=some r) :
 Calls Tryz.prog 146 #[.slice A_ l0.length c_,.func (.func g) #[] lb] w fun e w' => e = .returned (.int .i64 r)∧Below w.heap.size w w' := by
 have hu:=Tryz.underlying83
 have HR:=Aside0.mk hr0
 have HQ:=Aside0.mk hq
 have H0:=Aside0.mk (show idxO q (l0.drop (0:Int).toNat) 0=some r from h)
 have HM:=Aside0.mk (show l0.length ≤ 9223372036854775807 from hr0.2.1)
 clear hr0 hq h
 go_enter Tryz.func146,Tryz.ntmps146
 go_wp2
 go_loopg [5,8] l0.length (fun kq _ v8 wr => ∃ (x8:Int),v8 = .int .i64 x8∧Aside0 (0 ≤ x8∧x8 ≤ l0.length∧(l0.length:Int) - x8 ≤ kq)∧Aside0 (Below w.heap.size w wr)∧Aside0 (idxO q (l0.drop x8.toNat) x8=some r))
 case atStart=>exact ⟨0,rfl,⟨zb18⟩,⟨Below.refl _ w⟩,H0⟩
 case round =>
  obtain ⟨x8,rfl,HX,BW,HH⟩:=hrel
  clear H0
  by_cases c4:x8 < (l0.length:Int);rotate_left
  ·have c4b0:=decide_eq_false c4
   have hx:=HH.out
   rw [List.drop_of_length_le zb85,idxO] at hx
   injection hx with hx
   clear c4
   go_wp2
   go_ret
   subst hx
   exact ⟨zb20,BW.out⟩
  have c4b0:=decide_eq_true c4
  have hx:=HH.out
  have hlt:x8.toNat < l0.length:=by have:=HX.out;omega
  rw [List.drop_eq_getElem_cons hlt,idxO] at hx
  obtain ⟨b,hb,hx⟩:=Option.bind_eq_some_iff.1 hx
  have hrd:rd_T83 l0 x8=l0[x8.toNat]:=by unfold rd_T83;rw [List.getD_eq_getElem?_getD,List.getElem?_eq_getElem hlt];rfl
  obtain ⟨ad,A1,c1,he,h0,h1,lc1,hC1⟩:=at_T83 HR.out x8 HX.out.1 c4
  replace h0:=(BW.out.cell (World.block_lt_of_cell? w _ h0)).trans h0
  replace h1:=(BW.out.cell (World.block_lt_of_cell? w _ h1)).trans h1
  have hcall:=HQ.out wr l0[x8.toNat] b A1 c1 BW.out (by rw [← hrd];exact lc1) (by rw [← hrd];exact Kd.C_below hC1 BW.out) hb
  rw [← hrd] at hcall
  obtain ⟨y,hy⟩ : ∃ y,rd_T83 l0 x8=y:=⟨_,rfl⟩
  rw [hy] at hcall h0 h1
  have HCALL:=Aside0.mk hcall
  have HN:=Aside0.mk hx
  have p8:(0 ≤ x8)=True:=eq_true HX.out.1
  have q8:(x8 < (l0.length:Int))=True:=eq_true c4
  clear hx hb hrd HH hy hcall c4 lc1 hC1
  subst he
  cases b with
  | true =>
   go_wp2_with (go_at_fn g;refine HCALL.out.mono ?_;rintro e w' ⟨rfl,hb'⟩)
   go_ret
   have hx:=HN.out
   simp only [if_true,Option.some.injEq] at hx
   subst hx
   exact ⟨zb20,BW.out.trans (sl_base (Below.size BW.out) hb')⟩
  | false =>
   go_wp2_with (go_at_fn g;refine HCALL.out.mono ?_;rintro e w' ⟨rfl,hb'⟩)
   go_roundg (gk - 1)
   case measure=>have:=HX.out;have:=of_eq_true q8;omega
   case rel =>
    have hx:=HN.out
    simp only [Bool.false_eq_true,if_false] at hx
    have hx8:=HX.out
    have hq8:=of_eq_true q8
    have hw:wrap64 (x8 + 1)=x8 + 1:=by have:=HM.out;unfold wrap64;omega
    refine ⟨wrap64 (x8 + 1),rfl,⟨zb92⟩,⟨BW.out.trans (sl_base (Below.size BW.out) hb')⟩,⟨?_⟩⟩
    rw [hw,show (x8 + 1).toNat=x8.toNat + 1 by omega]
    exact hx
set_option maxHeartbeats 4000000 in
set_option maxRecDepth 100000 in
theorem slices_ContainsFunc_Up.callsOf (q:S83 → Option Bool) (g:Nat) (lb:Array Value) (eg : ∀ args w,(callFunc g args).run Tryz.prog w = .ok (.enter g args) w) (A_:Option Addr) (c_:Nat) (l0:List (S83)) (r:Bool) (w:World) (hr0:Kd.C k83 w A_ l0.length l0) (hc0:l0.length ≤ c_)
 (hq:TestOf_Up g lb q w) (h:anyO q l0=some r) :
 Calls Tryz.prog 96 #[.slice A_ l0.length c_,.func (.func g) #[] lb] w fun e w' => e = .returned (.bool r)∧Below w.heap.size w w' := by
 obtain ⟨j,hj,hb⟩:=idxO_any q l0 0 r zb18 h
 have HC:=Aside0.mk (slices_IndexFunc_Up.callsOf q g lb eg A_ c_ l0 j w hr0 hc0 hq hj)
 have HBB:=Aside0.mk hb
 clear hb hj h hq hr0 hc0 eg
 go_enter Tryz.func96,Tryz.ntmps96
 go_wp2_with (go_at_call 146;refine HC.out.mono ?_;rintro e w' ⟨rfl,hb'⟩)
 go_ret
 have e:=HBB.out
 subst e
 exact ⟨zb20,hb'⟩
def conf_many_1.f (a0_0:ByteArray) (l0_1:List ByteArray):Option (Bool):=if (l0_1.length:Int) < 1 then (some true) else (some (decide ((l0_1.length:Int) > 8)))
set_option maxHeartbeats 8000000 in
set_option maxRecDepth 100000 in
theorem conf_many_1.calls (a0_0:ByteArray) (A0_1:Option Addr) (c0_1:Nat) (l0_1:List ByteArray) (r:Bool) (w:World) (hr0_1:Kd.C Kd.string w A0_1 l0_1.length l0_1) (hc0_1:l0_1.length ≤ c0_1) (h:conf_many_1.f a0_0 l0_1=some r) :
 Calls Tryz.prog 97 #[.agg #[.string a0_0,.slice A0_1 l0_1.length c0_1]] w fun e w' => e = .returned (.bool r)∧Below w.heap.size w w' := by
 have hu83:=Tryz.underlying83
 have HR0_1:=Aside0.mk hr0_1
 have HC0_1:=Aside0.mk hc0_1
 clear hr0_1 hc0_1
 have HB:=Aside0.mk (Below.refl w.heap.size w)
 unfold conf_many_1.f at h
 have H:=h
 clear h
 by_cases c2:(l0_1.length:Int) < 1
 ·rw [if_pos c2] at H
  have c2b0:=decide_eq_true c2
  have c2b1:decide (l0_1.length < 1)=true:=decide_eq_true zb18
  clear c2
  obtain rfl:=Option.some.inj H
  go_enter Tryz.func97,Tryz.ntmps97
  go_wp2_with (first|((with_reducible refine gate_dst (N:=1) rfl ?_);(try (refine gate_guard zb41 ?_;dsimp only));refine box_event rfl (N:=1) rfl (cs:=#[.string a0_0,.slice A0_1 l0_1.length c0_1]) (t:=83) zS ?_;intro gb171 hg w3 hbox hb;have GW171:=zG hg zb0;have GE171:=GW171;have BK171:=Aside0.mk hbox;replace HB:=Aside0.mk (below_step zb0 hb);clear hb hbox hg;obtain ⟨hcz4_0,hcz4_1,hfz4_0,hfz4_1⟩:=zq2 BK171.out))
  go_ret
  exact ⟨zb2,zb77⟩
 rw [if_neg c2] at H
 have c2b0:=decide_eq_false c2
 have c2b1:decide (l0_1.length < 1)=false:=decide_eq_false zb18
 clear c2
 obtain rfl:=Option.some.inj H
 go_enter Tryz.func97,Tryz.ntmps97
 go_wp2_with (first|((with_reducible refine gate_dst (N:=1) rfl ?_);(try (refine gate_guard zb41 ?_;dsimp only));refine box_event rfl (N:=1) rfl (cs:=#[.string a0_0,.slice A0_1 l0_1.length c0_1]) (t:=83) zS ?_;intro gb171 hg w5 hbox hb;have GW171:=zG hg zb0;have GE171:=GW171;have BK171:=Aside0.mk hbox;replace HB:=Aside0.mk (below_step zb0 hb);clear hb hbox hg;obtain ⟨hcz6_0,hcz6_1,hfz6_0,hfz6_1⟩:=zq2 BK171.out))
 go_ret
 exact ⟨zb2,zb77⟩
def conf_many.f (l0_0:List (S83)) (l0_1:List (S85)) (l0_2:List (S36)) (l0_3:List ByteArray) (a0_4:Int) (a0_5:Int) (a0_6:Int) (a0_7:Int):Option Bool:=(anyO (fun u=>conf_many_1.f u.f0 u.f1) l0_0).bind fun b=>if b=true then some true else if (l0_0.length:Int) > 16 then some true else if (l0_1.length:Int) > 32 then some true else if (l0_2.length:Int) > 16 then some true else some (decide ((l0_3.length:Int) > 16))
set_option maxHeartbeats 8000000 in
set_option maxRecDepth 100000 in
theorem conf_many.calls (A0_0:Option Addr) (c0_0:Nat) (l0_0:List (S83)) (A0_1:Option Addr) (c0_1:Nat) (l0_1:List (S85)) (A0_2:Option Addr) (c0_2:Nat) (l0_2:List (S36)) (A0_3:Option Addr) (c0_3:Nat) (l0_3:List ByteArray) (a0_4:Int) (a0_5:Int) (a0_6:Int) (a0_7:Int) (r:Bool) (w:World) (hr0_0:Kd.C k83 w A0_0 l0_0.length l0_0) (hc0_0:l0_0.length ≤ c0_0) (hr0_1:Kd.C k85 w A0_1 l0_1.length l0_1) (hc0_1:l0_1.length ≤ c0_1) (hr0_2:Kd.C k36 w A0_2 l0_2.length l0_2) (hc0_2:l0_2.length ≤ c0_2) (hr0_3:Kd.C Kd.string w A0_3 l0_3.length l0_3) (hc0_3:l0_3.length ≤ c0_3) (h:conf_many.f l0_0 l0_1 l0_2 l0_3 a0_4 a0_5 a0_6 a0_7=some r) :
 Calls Tryz.prog 56 #[.agg #[.slice A0_0 l0_0.length c0_0,.slice A0_1 l0_1.length c0_1,.slice A0_2 l0_2.length c0_2,.slice A0_3 l0_3.length c0_3,.int .i64 a0_4,.int .i64 a0_5,.int .i64 a0_6,.int .i64 a0_7]] w fun e w' => e = .returned (.bool r)∧Below w.heap.size w w' := by
 have hu:=Tryz.underlying46
 have HR0:=Aside0.mk hr0_0
 have HR1:=Aside0.mk hr0_1
 have HR2:=Aside0.mk hr0_2
 have HR3:=Aside0.mk hr0_3
 have HC0:=Aside0.mk hc0_0
 have HC1:=Aside0.mk hc0_1
 have HC2:=Aside0.mk hc0_2
 have HC3:=Aside0.mk hc0_3
 clear hr0_0 hr0_1 hr0_2 hr0_3 hc0_0 hc0_1 hc0_2 hc0_3
 have EG:=Aside0.mk (enters_of Tryz.func97 zb10 rfl : ∀ args w,(callFunc 97 args).run Tryz.prog w = .ok (.enter 97 args) w)
 unfold conf_many.f at h
 obtain ⟨b,hb,h⟩:=Option.bind_eq_some_iff.1 h
 have HA:=Aside0.mk hb
 clear hb
 cases b
 ·rw [if_neg zb33] at h
  by_cases k0:(l0_0.length:Int) > 16
  ·rw [if_pos k0] at h
   injection h with h
   subst h
   have d01:decide (16 < (l0_0.length:Int))=true:=decide_eq_true zb18
   have d02:decide (16 < l0_0.length)=true:=decide_eq_true zb18
   have d03:(16 < (l0_0.length:Int))=True:=eq_true zb18
   have d04:(16 < l0_0.length)=True:=eq_true zb18
   clear k0
   go_enter Tryz.func56,Tryz.ntmps56
   go_wp2_with (first
    | ((with_reducible refine gate_dst (N:=1) rfl ?_);refine box_event ?hg (N:=1) ?hd (cs:=#[.slice A0_0 l0_0.length c0_0,.slice A0_1 l0_1.length c0_1,.slice A0_2 l0_2.length c0_2,.slice A0_3 l0_3.length c0_3,.int .i64 a0_4,.int .i64 a0_5,.int .i64 a0_6,.int .i64 a0_7]) (t:=46) ?hr ?_;(case hd=>rfl);(case hg=>rfl);(case hr=>first|(go_simp;done)|(go_simp;rfl));intro X hX w1 hBX hbX;have BX1:=Aside0.mk hBX;have L1:=Aside0.mk hbX;clear hBX hbX hX;have q0:w1.cell? ⟨X,0,none⟩=some (.slice A0_0 l0_0.length c0_0):=(blk_cell BX1.out 0).trans rfl;have q1:w1.cell? ⟨X,1,none⟩=some (.slice A0_1 l0_1.length c0_1):=(blk_cell BX1.out 1).trans rfl;have q2:w1.cell? ⟨X,2,none⟩=some (.slice A0_2 l0_2.length c0_2):=(blk_cell BX1.out 2).trans rfl;have q3:w1.cell? ⟨X,3,none⟩=some (.slice A0_3 l0_3.length c0_3):=(blk_cell BX1.out 3).trans rfl;have q4:w1.cell? ⟨X,4,none⟩=some (.int .i64 a0_4):=(blk_cell BX1.out 4).trans rfl;have q5:w1.cell? ⟨X,5,none⟩=some (.int .i64 a0_5):=(blk_cell BX1.out 5).trans rfl;have q6:w1.cell? ⟨X,6,none⟩=some (.int .i64 a0_6):=(blk_cell BX1.out 6).trans rfl;have q7:w1.cell? ⟨X,7,none⟩=some (.int .i64 a0_7):=(blk_cell BX1.out 7).trans rfl)
    | (go_at_call 96;(refine (slices_ContainsFunc_Up.callsOf (fun u=>conf_many_1.f u.f0 u.f1) 97 #[] EG.out A0_0 c0_0 l0_0 _ _ (Kd.C_below HR0.out L1.out) HC0.out (fun W x b A c _ hl hr hq=> zb50) HA.out).mono ?_);rintro e w2 ⟨rfl,hb2⟩;have BX2:=Aside0.mk (blk_below BX1.out hb2);have L2:=Aside0.mk (below_step L1.out hb2);clear q0 q1 q2 q3 q4 q5 q6 q7;clear hb2;have q0:w2.cell? ⟨X,0,none⟩=some (.slice A0_0 l0_0.length c0_0):=(blk_cell BX2.out 0).trans rfl;have q1:w2.cell? ⟨X,1,none⟩=some (.slice A0_1 l0_1.length c0_1):=(blk_cell BX2.out 1).trans rfl;have q2:w2.cell? ⟨X,2,none⟩=some (.slice A0_2 l0_2.length c0_2):=(blk_cell BX2.out 2).trans rfl;have q3:w2.cell? ⟨X,3,none⟩=some (.slice A0_3 l0_3.length c0_3):=(blk_cell BX2.out 3).trans rfl;have q4:w2.cell? ⟨X,4,none⟩=some (.int .i64 a0_4):=(blk_cell BX2.out 4).trans rfl;have q5:w2.cell? ⟨X,5,none⟩=some (.int .i64 a0_5):=(blk_cell BX2.out 5).trans rfl;have q6:w2.cell? ⟨X,6,none⟩=some (.int .i64 a0_6):=(blk_cell BX2.out 6).trans rfl;have q7:w2.cell? ⟨X,7,none⟩=some (.int .i64 a0_7):=(blk_cell BX2.out 7).trans rfl))
   go_ret
   exact ⟨zb20,L2.out⟩
  rw [if_neg k0] at h
  have d01:decide (16 < (l0_0.length:Int))=false:=decide_eq_false zb18
  have d02:decide (16 < l0_0.length)=false:=decide_eq_false zb18
  have d03:(16 < (l0_0.length:Int))=False:=eq_false zb18
  have d04:(16 < l0_0.length)=False:=eq_false zb18
  clear k0
  by_cases k1:(l0_1.length:Int) > 32
  ·rw [if_pos k1] at h
   injection h with h
   subst h
   have d11:decide (32 < (l0_1.length:Int))=true:=decide_eq_true zb18
   have d12:decide (32 < l0_1.length)=true:=decide_eq_true zb18
   have d13:(32 < (l0_1.length:Int))=True:=eq_true zb18
   have d14:(32 < l0_1.length)=True:=eq_true zb18
   clear k1
   go_enter Tryz.func56,Tryz.ntmps56
   go_wp2_with (first
    | ((with_reducible refine gate_dst (N:=1) rfl ?_);refine box_event ?hg (N:=1) ?hd (cs:=#[.slice A0_0 l0_0.length c0_0,.slice A0_1 l0_1.length c0_1,.slice A0_2 l0_2.length c0_2,.slice A0_3 l0_3.length c0_3,.int .i64 a0_4,.int .i64 a0_5,.int .i64 a0_6,.int .i64 a0_7]) (t:=46) ?hr ?_;(case hd=>rfl);(case hg=>rfl);(case hr=>first|(go_simp;done)|(go_simp;rfl));intro X hX w1 hBX hbX;have BX1:=Aside0.mk hBX;have L1:=Aside0.mk hbX;clear hBX hbX hX;have q0:w1.cell? ⟨X,0,none⟩=some (.slice A0_0 l0_0.length c0_0):=(blk_cell BX1.out 0).trans rfl;have q1:w1.cell? ⟨X,1,none⟩=some (.slice A0_1 l0_1.length c0_1):=(blk_cell BX1.out 1).trans rfl;have q2:w1.cell? ⟨X,2,none⟩=some (.slice A0_2 l0_2.length c0_2):=(blk_cell BX1.out 2).trans rfl;have q3:w1.cell? ⟨X,3,none⟩=some (.slice A0_3 l0_3.length c0_3):=(blk_cell BX1.out 3).trans rfl;have q4:w1.cell? ⟨X,4,none⟩=some (.int .i64 a0_4):=(blk_cell BX1.out 4).trans rfl;have q5:w1.cell? ⟨X,5,none⟩=some (.int .i64 a0_5):=(blk_cell BX1.out 5).trans rfl;have q6:w1.cell? ⟨X,6,none⟩=some (.int .i64 a0_6):=(blk_cell BX1.out 6).trans rfl;have q7:w1.cell? ⟨X,7,none⟩=some (.int .i64 a0_7):=(blk_cell BX1.out 7).trans rfl)
    | (go_at_call 96;(refine (slices_ContainsFunc_Up.callsOf (fun u=>conf_many_1.f u.f0 u.f1) 97 #[] EG.out A0_0 c0_0 l0_0 _ _ (Kd.C_below HR0.out L1.out) HC0.out (fun W x b A c _ hl hr hq=> zb50) HA.out).mono ?_);rintro e w2 ⟨rfl,hb2⟩;have BX2:=Aside0.mk (blk_below BX1.out hb2);have L2:=Aside0.mk (below_step L1.out hb2);clear q0 q1 q2 q3 q4 q5 q6 q7;clear hb2;have q0:w2.cell? ⟨X,0,none⟩=some (.slice A0_0 l0_0.length c0_0):=(blk_cell BX2.out 0).trans rfl;have q1:w2.cell? ⟨X,1,none⟩=some (.slice A0_1 l0_1.length c0_1):=(blk_cell BX2.out 1).trans rfl;have q2:w2.cell? ⟨X,2,none⟩=some (.slice A0_2 l0_2.length c0_2):=(blk_cell BX2.out 2).trans rfl;have q3:w2.cell? ⟨X,3,none⟩=some (.slice A0_3 l0_3.length c0_3):=(blk_cell BX2.out 3).trans rfl;have q4:w2.cell? ⟨X,4,none⟩=some (.int .i64 a0_4):=(blk_cell BX2.out 4).trans rfl;have q5:w2.cell? ⟨X,5,none⟩=some (.int .i64 a0_5):=(blk_cell BX2.out 5).trans rfl;have q6:w2.cell? ⟨X,6,none⟩=some (.int .i64 a0_6):=(blk_cell BX2.out 6).trans rfl;have q7:w2.cell? ⟨X,7,none⟩=some (.int .i64 a0_7):=(blk_cell BX2.out 7).trans rfl))
   go_ret
   exact ⟨zb20,L2.out⟩
  rw [if_neg k1] at h
  have d11:decide (32 < (l0_1.length:Int))=false:=decide_eq_false zb18
  have d12:decide (32 < l0_1.length)=false:=decide_eq_false zb18
  have d13:(32 < (l0_1.length:Int))=False:=eq_false zb18
  have d14:(32 < l0_1.length)=False:=eq_false zb18
  clear k1
  by_cases k2:(l0_2.length:Int) > 16
  ·rw [if_pos k2] at h
   injection h with h
   subst h
   have d21:decide (16 < (l0_2.length:Int))=true:=decide_eq_true zb18
   have d22:decide (16 < l0_2.length)=true:=decide_eq_true zb18
   have d23:(16 < (l0_2.length:Int))=True:=eq_true zb18
   have d24:(16 < l0_2.length)=True:=eq_true zb18
   clear k2
   go_enter Tryz.func56,Tryz.ntmps56
   go_wp2_with (first
    | ((with_reducible refine gate_dst (N:=1) rfl ?_);refine box_event ?hg (N:=1) ?hd (cs:=#[.slice A0_0 l0_0.length c0_0,.slice A0_1 l0_1.length c0_1,.slice A0_2 l0_2.length c0_2,.slice A0_3 l0_3.length c0_3,.int .i64 a0_4,.int .i64 a0_5,.int .i64 a0_6,.int .i64 a0_7]) (t:=46) ?hr ?_;(case hd=>rfl);(case hg=>rfl);(case hr=>first|(go_simp;done)|(go_simp;rfl));intro X hX w1 hBX hbX;have BX1:=Aside0.mk hBX;have L1:=Aside0.mk hbX;clear hBX hbX hX;have q0:w1.cell? ⟨X,0,none⟩=some (.slice A0_0 l0_0.length c0_0):=(blk_cell BX1.out 0).trans rfl;have q1:w1.cell? ⟨X,1,none⟩=some (.slice A0_1 l0_1.length c0_1):=(blk_cell BX1.out 1).trans rfl;have q2:w1.cell? ⟨X,2,none⟩=some (.slice A0_2 l0_2.length c0_2):=(blk_cell BX1.out 2).trans rfl;have q3:w1.cell? ⟨X,3,none⟩=some (.slice A0_3 l0_3.length c0_3):=(blk_cell BX1.out 3).trans rfl;have q4:w1.cell? ⟨X,4,none⟩=some (.int .i64 a0_4):=(blk_cell BX1.out 4).trans rfl;have q5:w1.cell? ⟨X,5,none⟩=some (.int .i64 a0_5):=(blk_cell BX1.out 5).trans rfl;have q6:w1.cell? ⟨X,6,none⟩=some (.int .i64 a0_6):=(blk_cell BX1.out 6).trans rfl;have q7:w1.cell? ⟨X,7,none⟩=some (.int .i64 a0_7):=(blk_cell BX1.out 7).trans rfl)
    | (go_at_call 96;(refine (slices_ContainsFunc_Up.callsOf (fun u=>conf_many_1.f u.f0 u.f1) 97 #[] EG.out A0_0 c0_0 l0_0 _ _ (Kd.C_below HR0.out L1.out) HC0.out (fun W x b A c _ hl hr hq=> zb50) HA.out).mono ?_);rintro e w2 ⟨rfl,hb2⟩;have BX2:=Aside0.mk (blk_below BX1.out hb2);have L2:=Aside0.mk (below_step L1.out hb2);clear q0 q1 q2 q3 q4 q5 q6 q7;clear hb2;have q0:w2.cell? ⟨X,0,none⟩=some (.slice A0_0 l0_0.length c0_0):=(blk_cell BX2.out 0).trans rfl;have q1:w2.cell? ⟨X,1,none⟩=some (.slice A0_1 l0_1.length c0_1):=(blk_cell BX2.out 1).trans rfl;have q2:w2.cell? ⟨X,2,none⟩=some (.slice A0_2 l0_2.length c0_2):=(blk_cell BX2.out 2).trans rfl;have q3:w2.cell? ⟨X,3,none⟩=some (.slice A0_3 l0_3.length c0_3):=(blk_cell BX2.out 3).trans rfl;have q4:w2.cell? ⟨X,4,none⟩=some (.int .i64 a0_4):=(blk_cell BX2.out 4).trans rfl;have q5:w2.cell? ⟨X,5,none⟩=some (.int .i64 a0_5):=(blk_cell BX2.out 5).trans rfl;have q6:w2.cell? ⟨X,6,none⟩=some (.int .i64 a0_6):=(blk_cell BX2.out 6).trans rfl;have q7:w2.cell? ⟨X,7,none⟩=some (.int .i64 a0_7):=(blk_cell BX2.out 7).trans rfl))
   go_ret
   exact ⟨zb20,L2.out⟩
  rw [if_neg k2] at h
  have d21:decide (16 < (l0_2.length:Int))=false:=decide_eq_false zb18
  have d22:decide (16 < l0_2.length)=false:=decide_eq_false zb18
  have d23:(16 < (l0_2.length:Int))=False:=eq_false zb18
  have d24:(16 < l0_2.length)=False:=eq_false zb18
  clear k2
  injection h with h
  subst h
  go_enter Tryz.func56,Tryz.ntmps56
  go_wp2_with (first
   | ((with_reducible refine gate_dst (N:=1) rfl ?_);refine box_event ?hg (N:=1) ?hd (cs:=#[.slice A0_0 l0_0.length c0_0,.slice A0_1 l0_1.length c0_1,.slice A0_2 l0_2.length c0_2,.slice A0_3 l0_3.length c0_3,.int .i64 a0_4,.int .i64 a0_5,.int .i64 a0_6,.int .i64 a0_7]) (t:=46) ?hr ?_;(case hd=>rfl);(case hg=>rfl);(case hr=>first|(go_simp;done)|(go_simp;rfl));intro X hX w1 hBX hbX;have BX1:=Aside0.mk hBX;have L1:=Aside0.mk hbX;clear hBX hbX hX;have q0:w1.cell? ⟨X,0,none⟩=some (.slice A0_0 l0_0.length c0_0):=(blk_cell BX1.out 0).trans rfl;have q1:w1.cell? ⟨X,1,none⟩=some (.slice A0_1 l0_1.length c0_1):=(blk_cell BX1.out 1).trans rfl;have q2:w1.cell? ⟨X,2,none⟩=some (.slice A0_2 l0_2.length c0_2):=(blk_cell BX1.out 2).trans rfl;have q3:w1.cell? ⟨X,3,none⟩=some (.slice A0_3 l0_3.length c0_3):=(blk_cell BX1.out 3).trans rfl;have q4:w1.cell? ⟨X,4,none⟩=some (.int .i64 a0_4):=(blk_cell BX1.out 4).trans rfl;have q5:w1.cell? ⟨X,5,none⟩=some (.int .i64 a0_5):=(blk_cell BX1.out 5).trans rfl;have q6:w1.cell? ⟨X,6,none⟩=some (.int .i64 a0_6):=(blk_cell BX1.out 6).trans rfl;have q7:w1.cell? ⟨X,7,none⟩=some (.int .i64 a0_7):=(blk_cell BX1.out 7).trans rfl)
   | (go_at_call 96;(refine (slices_ContainsFunc_Up.callsOf (fun u=>conf_many_1.f u.f0 u.f1) 97 #[] EG.out A0_0 c0_0 l0_0 _ _ (Kd.C_below HR0.out L1.out) HC0.out (fun W x b A c _ hl hr hq=> zb50) HA.out).mono ?_);rintro e w2 ⟨rfl,hb2⟩;have BX2:=Aside0.mk (blk_below BX1.out hb2);have L2:=Aside0.mk (below_step L1.out hb2);clear q0 q1 q2 q3 q4 q5 q6 q7;clear hb2;have q0:w2.cell? ⟨X,0,none⟩=some (.slice A0_0 l0_0.length c0_0):=(blk_cell BX2.out 0).trans rfl;have q1:w2.cell? ⟨X,1,none⟩=some (.slice A0_1 l0_1.length c0_1):=(blk_cell BX2.out 1).trans rfl;have q2:w2.cell? ⟨X,2,none⟩=some (.slice A0_2 l0_2.length c0_2):=(blk_cell BX2.out 2).trans rfl;have q3:w2.cell? ⟨X,3,none⟩=some (.slice A0_3 l0_3.length c0_3):=(blk_cell BX2.out 3).trans rfl;have q4:w2.cell? ⟨X,4,none⟩=some (.int .i64 a0_4):=(blk_cell BX2.out 4).trans rfl;have q5:w2.cell? ⟨X,5,none⟩=some (.int .i64 a0_5):=(blk_cell BX2.out 5).trans rfl;have q6:w2.cell? ⟨X,6,none⟩=some (.int .i64 a0_6):=(blk_cell BX2.out 6).trans rfl;have q7:w2.cell? ⟨X,7,none⟩=some (.int .i64 a0_7):=(blk_cell BX2.out 7).trans rfl))
  go_ret
  exact ⟨zb20,L2.out⟩
 rw [if_pos rfl] at h
 injection h with h
 subst h
 go_enter Tryz.func56,Tryz.ntmps56
 go_wp2_with (first
  | ((with_reducible refine gate_dst (N:=1) rfl ?_);refine box_event ?hg (N:=1) ?hd (cs:=#[.slice A0_0 l0_0.length c0_0,.slice A0_1 l0_1.length c0_1,.slice A0_2 l0_2.length c0_2,.slice A0_3 l0_3.length c0_3,.int .i64 a0_4,.int .i64 a0_5,.int .i64 a0_6,.int .i64 a0_7]) (t:=46) ?hr ?_;(case hd=>rfl);(case hg=>rfl);(case hr=>first|(go_simp;done)|(go_simp;rfl));intro X hX w1 hBX hbX;have BX1:=Aside0.mk hBX;have L1:=Aside0.mk hbX;clear hBX hbX hX;have q0:w1.cell? ⟨X,0,none⟩=some (.slice A0_0 l0_0.length c0_0):=(blk_cell BX1.out 0).trans rfl;have q1:w1.cell? ⟨X,1,none⟩=some (.slice A0_1 l0_1.length c0_1):=(blk_cell BX1.out 1).trans rfl;have q2:w1.cell? ⟨X,2,none⟩=some (.slice A0_2 l0_2.length c0_2):=(blk_cell BX1.out 2).trans rfl;have q3:w1.cell? ⟨X,3,none⟩=some (.slice A0_3 l0_3.length c0_3):=(blk_cell BX1.out 3).trans rfl;have q4:w1.cell? ⟨X,4,none⟩=some (.int .i64 a0_4):=(blk_cell BX1.out 4).trans rfl;have q5:w1.cell? ⟨X,5,none⟩=some (.int .i64 a0_5):=(blk_cell BX1.out 5).trans rfl;have q6:w1.cell? ⟨X,6,none⟩=some (.int .i64 a0_6):=(blk_cell BX1.out 6).trans rfl;have q7:w1.cell? ⟨X,7,none⟩=some (.int .i64 a0_7):=(blk_cell BX1.out 7).trans rfl)
  | (go_at_call 96;(refine (slices_ContainsFunc_Up.callsOf (fun u=>conf_many_1.f u.f0 u.f1) 97 #[] EG.out A0_0 c0_0 l0_0 _ _ (Kd.C_below HR0.out L1.out) HC0.out (fun W x b A c _ hl hr hq=> zb50) HA.out).mono ?_);rintro e w2 ⟨rfl,hb2⟩;have BX2:=Aside0.mk (blk_below BX1.out hb2);have L2:=Aside0.mk (below_step L1.out hb2);clear q0 q1 q2 q3 q4 q5 q6 q7;clear hb2;have q0:w2.cell? ⟨X,0,none⟩=some (.slice A0_0 l0_0.length c0_0):=(blk_cell BX2.out 0).trans rfl;have q1:w2.cell? ⟨X,1,none⟩=some (.slice A0_1 l0_1.length c0_1):=(blk_cell BX2.out 1).trans rfl;have q2:w2.cell? ⟨X,2,none⟩=some (.slice A0_2 l0_2.length c0_2):=(blk_cell BX2.out 2).trans rfl;have q3:w2.cell? ⟨X,3,none⟩=some (.slice A0_3 l0_3.length c0_3):=(blk_cell BX2.out 3).trans rfl;have q4:w2.cell? ⟨X,4,none⟩=some (.int .i64 a0_4):=(blk_cell BX2.out 4).trans rfl;have q5:w2.cell? ⟨X,5,none⟩=some (.int .i64 a0_5):=(blk_cell BX2.out 5).trans rfl;have q6:w2.cell? ⟨X,6,none⟩=some (.int .i64 a0_6):=(blk_cell BX2.out 6).trans rfl;have q7:w2.cell? ⟨X,7,none⟩=some (.int .i64 a0_7):=(blk_cell BX2.out 7).trans rfl))
 go_ret
 exact ⟨zb20,L2.out⟩
def foldC (c:Int):Int:=if 65 ≤ c∧c ≤ 90 then c + 32 else c
def sign_Fold.f (a0:ByteArray):Option ByteArray:=if a0.size ≤ 140737488355328 then some (strOfNums ((bytesOf a0).map foldC)) else none
theorem fold_step (l:List Int) (x:Int) (h0:0 ≤ x) (h:x < (l.length:Int)) :
 ((l.take x.toNat).map foldC ++ l.drop x.toNat).set x.toNat (foldC (rd l x))=(l.take (x + 1).toNat).map foldC ++ l.drop (x + 1).toNat:=by
 obtain ⟨n,rfl⟩:=Int.eq_ofNat_of_zero_le h0
 have hl:n < l.length:=by omega
 have e:((n:Int) + 1).toNat=n + 1:=by omega
 have hm:((l.take n).map foldC).length=n:=by rw [List.length_map,List.length_take];omega
 have hr:rd l n=l[n]:=by simp [rd,List.getD_eq_getElem?_getD,List.getElem?_eq_getElem hl]
 rw [e,Int.toNat_natCast,List.set_append_right _ _ (by omega),hm,Nat.sub_self,List.drop_eq_getElem_cons hl,List.set_cons_zero,List.take_succ_eq_append_getElem hl,List.map_append,hr]
 simp only [List.map_cons,List.map_nil,List.append_assoc,List.cons_append,List.nil_append]
theorem fold_same (l:List Int) (x:Int) (h0:0 ≤ x) (h:x < (l.length:Int)) (hs:foldC (rd l x)=rd l x) :
 (l.take x.toNat).map foldC ++ l.drop x.toNat=(l.take (x + 1).toNat).map foldC ++ l.drop (x + 1).toNat:=by
 obtain ⟨n,rfl⟩:=Int.eq_ofNat_of_zero_le h0
 have hl:n < l.length:=by omega
 have e:((n:Int) + 1).toNat=n + 1:=by omega
 have hr:rd l n=l[n]:=by simp [rd,List.getD_eq_getElem?_getD,List.getElem?_eq_getElem hl]
 rw [hr] at hs
 rw [e,Int.toNat_natCast,List.drop_eq_getElem_cons hl,List.take_succ_eq_append_getElem hl,List.map_append]
 simp only [List.map_cons,List.map_nil,List.append_assoc,List.cons_append,List.nil_append,hs]
theorem fold_at (l:List Int) (x:Int) (h0:0 ≤ x) (h:x < (l.length:Int)):rd ((l.take x.toNat).map foldC ++ l.drop x.toNat) x=rd l x:=by
 have hl:x.toNat < l.length:=by omega
 have hm:((l.take x.toNat).map foldC).length=x.toNat:=by simp;omega
 unfold rd
 rw [List.getD_eq_getElem?_getD,List.getD_eq_getElem?_getD,List.getElem?_append_right (by omega),hm]
 simp
theorem fold_len (l:List Int) (x:Int):((l.take x.toNat).map foldC ++ l.drop x.toNat).length=l.length:=by
 simp;omega
set_option maxHeartbeats 2000000 in
theorem sign_Fold.calls (a0:ByteArray) (r:ByteArray) (w:World) (h:sign_Fold.f a0=some r) :
 Calls Tryz.prog 64 #[.string a0] w fun e w' => e = .returned (.string r)∧Below w.heap.size w w' := by
 unfold sign_Fold.f at h
 by_cases h0:a0.size ≤ 140737488355328;rotate_left
 ·rw [if_neg h0] at h
  cases h
 rw [if_pos h0] at h
 obtain rfl:=Option.some.inj h
 clear h
 have kb:=fun W=>print_bytes (P:=Tryz.prog) 9 22 5 Tryz.underlying9 Tryz.underlying22 Tryz.underlying5 a0 W
 go_enter Tryz.func64,Tryz.ntmps64
 go_wp2
 go_loopw [4,5,10] (fun _ _ v wr => ∃ x:Int,v = .int .i64 x∧Aside0 (0 ≤ x∧x ≤ a0.size)∧Aside0 (MRow wr w.heap.size 5 (((bytesOf a0).take x.toNat).map foldC ++ (bytesOf a0).drop x.toNat))∧Aside0 (Below w.heap.size w wr)) (fun _ _ v _=>a0.size - (intOf v).toNat)
 case atStart=>exact ⟨0,rfl,⟨zb18,zb18⟩,⟨by simpa using MRow.bytes w 5 a0⟩,⟨bytes_below (Below.refl _ _) (Nat.le_refl _) _ _⟩⟩
 case round =>
  obtain ⟨x,rfl,HX,HM,HB⟩:=hrel
  have hlen:(((bytesOf a0).take x.toNat).map foldC ++ (bytesOf a0).drop x.toNat).length=a0.size:=(fold_len _ _).trans (bytesOf_length a0)
  by_cases hlt:x < (a0.size:Int);rotate_left
  ·have he:x=(a0.size:Int):=by have:=HX.out;omega
   have hR:=HM.out.reads (by rw [hlen];omega)
   rw [hlen] at hR
   have hcv:=string_of_reads (P:=Tryz.prog) (src:=22) (dst:=9) (c:=grownCap w a0.size 0 5) Tryz.underlying22 Tryz.underlying5 Tryz.underlying9 hR
   rw [show ((bytesOf a0).take x.toNat).map foldC ++ (bytesOf a0).drop x.toNat=(bytesOf a0).map foldC by rw [List.take_of_length_le (by rw [bytesOf_length];omega),List.drop_of_length_le (by rw [bytesOf_length];omega),List.append_nil]] at hcv
   have q2:decide (x < (a0.size:Int))=false:=decide_eq_false hlt
   have HLN:=Aside0.mk hlen
   clear hlt he hlen hR
   go_wp2
   go_ret
   exact ⟨rfl,HB.out⟩
  have hlb:x < ((bytesOf a0).length:Int):=by rw [bytesOf_length];exact hlt
  have hc:=HM.out.cell x HX.out.1 (by rw [hlen];exact hlt)
  have hf:=HM.out.free x HX.out.1 (by rw [hlen];exact hlt)
  rw [fold_at _ x HX.out.1 hlb,rd_bytesOf] at hc
  have hst:=fold_step (bytesOf a0) x HX.out.1 hlb
  have hsm:=fold_same (bytesOf a0) x HX.out.1 hlb
  rw [rd_bytesOf] at hst hsm
  have hr:=bt_range a0 x
  have HR:=Aside0.mk hr
  obtain ⟨c,hcv⟩ : ∃ c,c=bt a0 x:=⟨_,rfl⟩
  rw [← hcv] at hc hst hsm hr
  have p1:(0 ≤ x)=True:=eq_true HX.out.1
  have q1:(x < (a0.size:Int))=True:=eq_true hlt
  have q2:decide (x < (a0.size:Int))=true:=decide_eq_true hlt
  have HLT:=Aside0.mk hlt
  have HST:=Aside0.mk hst
  have HSM:=Aside0.mk hsm
  have HRR:=Aside0.mk hr
  have HLN:=Aside0.mk hlen
  have HCV:=Aside0.mk hcv
  clear hlt hlb hst hsm hr hlen hcv
  have hw:Aside0 (wrap64 (x + 1)=x + 1):=⟨by have:=HX.out;unfold wrap64;omega⟩
  by_cases c1:65 ≤ c
  ·have c1b:decide (c ≥ 65)=true:=decide_eq_true c1
   have c1c:=decide_eq_true c1
   by_cases c2:c ≤ 90
   ·have c2b:=decide_eq_true c2
    have HC1:=Aside0.mk (And.intro c1 c2)
    go_wp2
    refine ⟨⟨x + 1,by rw [hw.out],⟨zb85,by have:=HLT.out;omega⟩,⟨?_⟩,⟨HB.out.setCell (Nat.le_refl _) _⟩⟩,?_⟩
    ·rw [← HST.out]
     have hv:foldC c=c + 97 - 65:=by unfold foldC;rw [if_pos HC1.out];omega
     rw [hv]
     exact HM.out.set x _
    have:=HX.out;have:=HLT.out;rw [hw.out];simp [intOf];omega
   ·have c2b:=decide_eq_false c2
    go_wp2
    refine ⟨⟨x + 1,by rw [hw.out],⟨zb85,by have:=HLT.out;omega⟩,⟨?_⟩,HB⟩,?_⟩
    ·rw [← HSM.out (if_neg zb18)];exact HM.out
    ·have:=HX.out;have:=HLT.out;rw [hw.out];simp [intOf];omega
  ·have c1b:decide (c ≥ 65)=false:=decide_eq_false c1
   have c1c:=decide_eq_false c1
   go_wp2
   refine ⟨⟨x + 1,by rw [hw.out],⟨zb85,by have:=HLT.out;omega⟩,⟨?_⟩,HB⟩,?_⟩
   ·rw [← HSM.out (if_neg zb18)];exact HM.out
   ·have:=HX.out;have:=HLT.out;rw [hw.out];simp [intOf];omega
def conf_Kept.f (a0:ByteArray):Option (Bool):=(sign_Fold.f a0).bind fun t704=>(if t704.toList=([104,111,115,116]:List UInt8) then (some true) else (if t704.toList=([99,111,110,116,101,110,116,45,108,101,110,103,116,104]:List UInt8) then (some true) else (if t704.toList=([116,114,97,110,115,102,101,114,45,101,110,99,111,100,105,110,103]:List UInt8) then (some true) else (if t704.toList=([99,111,110,110,101,99,116,105,111,110]:List UInt8) then (some true) else (if t704.toList=([107,101,101,112,45,97,108,105,118,101]:List UInt8) then (some true) else (if t704.toList=([112,114,111,120,121,45,99,111,110,110,101,99,116,105,111,110]:List UInt8) then (some true) else (if t704.toList=([116,101]:List UInt8) then (some true) else (if t704.toList=([116,114,97,105,108,101,114]:List UInt8) then (some true) else (if t704.toList=([117,112,103,114,97,100,101]:List UInt8) then (some true) else (if t704.toList=([101,120,112,101,99,116]:List UInt8) then (some true) else (if t704.toList=([118,105,97]:List UInt8) then (some true) else (some false))))))))))))
set_option maxHeartbeats 8000000 in
set_option maxRecDepth 100000 in
theorem conf_Kept.calls (a0:ByteArray) (r:Bool) (w:World) (h:conf_Kept.f a0=some r) :
 Calls Tryz.prog 33 #[.string a0] w fun e w' => e = .returned (.bool r)∧Below w.heap.size w w' := by
 have HB:=Aside0.mk (Below.refl w.heap.size w)
 unfold conf_Kept.f at h
 have H:=h
 clear h
 replace H:=Option.bind_eq_some_iff.mp H
 obtain ⟨t26,A20,H⟩:=H
 try dsimp only at H
 have A2:=Aside0.mk A20
 clear A20
 by_cases c3:t26.toList=([104,111,115,116]:List UInt8)
 ·rw [if_pos c3] at H
  have c3b0:=beq_iff_eq.mpr c3
  have c3b1:=bne_eq_false_iff_eq.mpr c3
  clear c3
  obtain rfl:=Option.some.inj H
  go_enter Tryz.func33,Tryz.ntmps33
  go_wp2_with (first|((with_reducible refine gate_callee (f:=64) rfl ?_);refine goesL_ (some 4) rfl rfl Tryz.func64 zb10 rfl #[.string a0] rfl zb1 ?_;(with_reducible refine (sign_Fold.calls a0 t26 _ A2.out).mono ?_);rintro e w4 ⟨rfl,hb⟩;(try clear A2);refine ⟨_,rfl,?_⟩;replace HB:=Aside0.mk (below_step zb0 hb);(try clear hb)))
  go_ret
  exact ⟨zb2,zb0⟩
 rw [if_neg c3] at H
 have c3b0:=beq_eq_false_iff_ne.mpr c3
 have c3b1:=bne_iff_ne.mpr c3
 by_cases c5:t26.toList=([99,111,110,116,101,110,116,45,108,101,110,103,116,104]:List UInt8)
 ·rw [if_pos c5] at H
  have c5b0:=beq_iff_eq.mpr c5
  have c5b1:=bne_eq_false_iff_eq.mpr c5
  clear c5
  obtain rfl:=Option.some.inj H
  go_enter Tryz.func33,Tryz.ntmps33
  go_wp2_with (first|((with_reducible refine gate_callee (f:=64) rfl ?_);refine goesL_ (some 4) rfl rfl Tryz.func64 zb10 rfl #[.string a0] rfl zb1 ?_;(with_reducible refine (sign_Fold.calls a0 t26 _ A2.out).mono ?_);rintro e w6 ⟨rfl,hb⟩;(try clear A2);refine ⟨_,rfl,?_⟩;replace HB:=Aside0.mk (below_step zb0 hb);(try clear hb)))
  go_ret
  exact ⟨zb2,zb0⟩
 rw [if_neg c5] at H
 have c5b0:=beq_eq_false_iff_ne.mpr c5
 have c5b1:=bne_iff_ne.mpr c5
 by_cases c7:t26.toList=([116,114,97,110,115,102,101,114,45,101,110,99,111,100,105,110,103]:List UInt8)
 ·rw [if_pos c7] at H
  have c7b0:=beq_iff_eq.mpr c7
  have c7b1:=bne_eq_false_iff_eq.mpr c7
  clear c7
  obtain rfl:=Option.some.inj H
  go_enter Tryz.func33,Tryz.ntmps33
  go_wp2_with (first|((with_reducible refine gate_callee (f:=64) rfl ?_);refine goesL_ (some 4) rfl rfl Tryz.func64 zb10 rfl #[.string a0] rfl zb1 ?_;(with_reducible refine (sign_Fold.calls a0 t26 _ A2.out).mono ?_);rintro e w8 ⟨rfl,hb⟩;(try clear A2);refine ⟨_,rfl,?_⟩;replace HB:=Aside0.mk (below_step zb0 hb);(try clear hb)))
  go_ret
  exact ⟨zb2,zb0⟩
 rw [if_neg c7] at H
 have c7b0:=beq_eq_false_iff_ne.mpr c7
 have c7b1:=bne_iff_ne.mpr c7
 by_cases c9:t26.toList=([99,111,110,110,101,99,116,105,111,110]:List UInt8)
 ·rw [if_pos c9] at H
  have c9b0:=beq_iff_eq.mpr c9
  have c9b1:=bne_eq_false_iff_eq.mpr c9
  clear c9
  obtain rfl:=Option.some.inj H
  go_enter Tryz.func33,Tryz.ntmps33
  go_wp2_with (first|((with_reducible refine gate_callee (f:=64) rfl ?_);refine goesL_ (some 4) rfl rfl Tryz.func64 zb10 rfl #[.string a0] rfl zb1 ?_;(with_reducible refine (sign_Fold.calls a0 t26 _ A2.out).mono ?_);rintro e w10 ⟨rfl,hb⟩;(try clear A2);refine ⟨_,rfl,?_⟩;replace HB:=Aside0.mk (below_step zb0 hb);(try clear hb)))
  go_ret
  exact ⟨zb2,zb0⟩
 rw [if_neg c9] at H
 have c9b0:=beq_eq_false_iff_ne.mpr c9
 have c9b1:=bne_iff_ne.mpr c9
 by_cases c11:t26.toList=([107,101,101,112,45,97,108,105,118,101]:List UInt8)
 ·rw [if_pos c11] at H
  have c11b0:=beq_iff_eq.mpr c11
  have c11b1:=bne_eq_false_iff_eq.mpr c11
  clear c11
  obtain rfl:=Option.some.inj H
  go_enter Tryz.func33,Tryz.ntmps33
  go_wp2_with (first|((with_reducible refine gate_callee (f:=64) rfl ?_);refine goesL_ (some 4) rfl rfl Tryz.func64 zb10 rfl #[.string a0] rfl zb1 ?_;(with_reducible refine (sign_Fold.calls a0 t26 _ A2.out).mono ?_);rintro e w12 ⟨rfl,hb⟩;(try clear A2);refine ⟨_,rfl,?_⟩;replace HB:=Aside0.mk (below_step zb0 hb);(try clear hb)))
  go_ret
  exact ⟨zb2,zb0⟩
 rw [if_neg c11] at H
 have c11b0:=beq_eq_false_iff_ne.mpr c11
 have c11b1:=bne_iff_ne.mpr c11
 by_cases c13:t26.toList=([112,114,111,120,121,45,99,111,110,110,101,99,116,105,111,110]:List UInt8)
 ·rw [if_pos c13] at H
  have c13b0:=beq_iff_eq.mpr c13
  have c13b1:=bne_eq_false_iff_eq.mpr c13
  clear c13
  obtain rfl:=Option.some.inj H
  go_enter Tryz.func33,Tryz.ntmps33
  go_wp2_with (first|((with_reducible refine gate_callee (f:=64) rfl ?_);refine goesL_ (some 4) rfl rfl Tryz.func64 zb10 rfl #[.string a0] rfl zb1 ?_;(with_reducible refine (sign_Fold.calls a0 t26 _ A2.out).mono ?_);rintro e w14 ⟨rfl,hb⟩;(try clear A2);refine ⟨_,rfl,?_⟩;replace HB:=Aside0.mk (below_step zb0 hb);(try clear hb)))
  go_ret
  exact ⟨zb2,zb0⟩
 rw [if_neg c13] at H
 have c13b0:=beq_eq_false_iff_ne.mpr c13
 have c13b1:=bne_iff_ne.mpr c13
 by_cases c15:t26.toList=([116,101]:List UInt8)
 ·rw [if_pos c15] at H
  have c15b0:=beq_iff_eq.mpr c15
  have c15b1:=bne_eq_false_iff_eq.mpr c15
  clear c15
  obtain rfl:=Option.some.inj H
  go_enter Tryz.func33,Tryz.ntmps33
  go_wp2_with (first|((with_reducible refine gate_callee (f:=64) rfl ?_);refine goesL_ (some 4) rfl rfl Tryz.func64 zb10 rfl #[.string a0] rfl zb1 ?_;(with_reducible refine (sign_Fold.calls a0 t26 _ A2.out).mono ?_);rintro e w16 ⟨rfl,hb⟩;(try clear A2);refine ⟨_,rfl,?_⟩;replace HB:=Aside0.mk (below_step zb0 hb);(try clear hb)))
  go_ret
  exact ⟨zb2,zb0⟩
 rw [if_neg c15] at H
 have c15b0:=beq_eq_false_iff_ne.mpr c15
 have c15b1:=bne_iff_ne.mpr c15
 by_cases c17:t26.toList=([116,114,97,105,108,101,114]:List UInt8)
 ·rw [if_pos c17] at H
  have c17b0:=beq_iff_eq.mpr c17
  have c17b1:=bne_eq_false_iff_eq.mpr c17
  clear c17
  obtain rfl:=Option.some.inj H
  go_enter Tryz.func33,Tryz.ntmps33
  go_wp2_with (first|((with_reducible refine gate_callee (f:=64) rfl ?_);refine goesL_ (some 4) rfl rfl Tryz.func64 zb10 rfl #[.string a0] rfl zb1 ?_;(with_reducible refine (sign_Fold.calls a0 t26 _ A2.out).mono ?_);rintro e w18 ⟨rfl,hb⟩;(try clear A2);refine ⟨_,rfl,?_⟩;replace HB:=Aside0.mk (below_step zb0 hb);(try clear hb)))
  go_ret
  exact ⟨zb2,zb0⟩
 rw [if_neg c17] at H
 have c17b0:=beq_eq_false_iff_ne.mpr c17
 have c17b1:=bne_iff_ne.mpr c17
 by_cases c19:t26.toList=([117,112,103,114,97,100,101]:List UInt8)
 ·rw [if_pos c19] at H
  have c19b0:=beq_iff_eq.mpr c19
  have c19b1:=bne_eq_false_iff_eq.mpr c19
  clear c19
  obtain rfl:=Option.some.inj H
  go_enter Tryz.func33,Tryz.ntmps33
  go_wp2_with (first|((with_reducible refine gate_callee (f:=64) rfl ?_);refine goesL_ (some 4) rfl rfl Tryz.func64 zb10 rfl #[.string a0] rfl zb1 ?_;(with_reducible refine (sign_Fold.calls a0 t26 _ A2.out).mono ?_);rintro e w20 ⟨rfl,hb⟩;(try clear A2);refine ⟨_,rfl,?_⟩;replace HB:=Aside0.mk (below_step zb0 hb);(try clear hb)))
  go_ret
  exact ⟨zb2,zb0⟩
 rw [if_neg c19] at H
 have c19b0:=beq_eq_false_iff_ne.mpr c19
 have c19b1:=bne_iff_ne.mpr c19
 by_cases c21:t26.toList=([101,120,112,101,99,116]:List UInt8)
 ·rw [if_pos c21] at H
  have c21b0:=beq_iff_eq.mpr c21
  have c21b1:=bne_eq_false_iff_eq.mpr c21
  clear c21
  obtain rfl:=Option.some.inj H
  go_enter Tryz.func33,Tryz.ntmps33
  go_wp2_with (first|((with_reducible refine gate_callee (f:=64) rfl ?_);refine goesL_ (some 4) rfl rfl Tryz.func64 zb10 rfl #[.string a0] rfl zb1 ?_;(with_reducible refine (sign_Fold.calls a0 t26 _ A2.out).mono ?_);rintro e w22 ⟨rfl,hb⟩;(try clear A2);refine ⟨_,rfl,?_⟩;replace HB:=Aside0.mk (below_step zb0 hb);(try clear hb)))
  go_ret
  exact ⟨zb2,zb0⟩
 rw [if_neg c21] at H
 have c21b0:=beq_eq_false_iff_ne.mpr c21
 have c21b1:=bne_iff_ne.mpr c21
 by_cases c23:t26.toList=([118,105,97]:List UInt8);rotate_left
 ·rw [if_neg c23] at H
  have c23b0:=beq_eq_false_iff_ne.mpr c23
  have c23b1:=bne_iff_ne.mpr c23
  obtain rfl:=Option.some.inj H
  go_enter Tryz.func33,Tryz.ntmps33
  go_wp2_with (first|((with_reducible refine gate_callee (f:=64) rfl ?_);refine goesL_ (some 4) rfl rfl Tryz.func64 zb10 rfl #[.string a0] rfl zb1 ?_;(with_reducible refine (sign_Fold.calls a0 t26 _ A2.out).mono ?_);rintro e w25 ⟨rfl,hb⟩;(try clear A2);refine ⟨_,rfl,?_⟩;replace HB:=Aside0.mk (below_step zb0 hb);(try clear hb)))
  go_ret
  exact ⟨zb2,zb0⟩
 rw [if_pos c23] at H
 have c23b0:=beq_iff_eq.mpr c23
 have c23b1:=bne_eq_false_iff_eq.mpr c23
 clear c23
 obtain rfl:=Option.some.inj H
 go_enter Tryz.func33,Tryz.ntmps33
 go_wp2_with (first|((with_reducible refine gate_callee (f:=64) rfl ?_);refine goesL_ (some 4) rfl rfl Tryz.func64 zb10 rfl #[.string a0] rfl zb1 ?_;(with_reducible refine (sign_Fold.calls a0 t26 _ A2.out).mono ?_);rintro e w24 ⟨rfl,hb⟩;(try clear A2);refine ⟨_,rfl,?_⟩;replace HB:=Aside0.mk (below_step zb0 hb);(try clear hb)))
 go_ret
 exact ⟨zb2,zb0⟩
def sign_alnum.f (a0:Int):Option (Bool):=if a0 ≥ 97 then (if a0 ≤ 122 then (some true) else (if a0 ≥ 65 then (if a0 ≤ 90 then (some true) else (if a0 ≥ 48 then (some (decide (a0 ≤ 57))) else (some false))) else (if a0 ≥ 48 then (some (decide (a0 ≤ 57))) else (some false)))) else (if a0 ≥ 65 then (if a0 ≤ 90 then (some true) else (if a0 ≥ 48 then (some (decide (a0 ≤ 57))) else (some false))) else (if a0 ≥ 48 then (some (decide (a0 ≤ 57))) else (some false)))
set_option maxHeartbeats 8000000 in
set_option maxRecDepth 100000 in
theorem sign_alnum.calls (a0:Int) (r:Bool) (w:World) (h:sign_alnum.f a0=some r) :
 Calls Tryz.prog 162 #[.int .u8 a0] w fun e w' => e = .returned (.bool r)∧Drawn0 w w' := by
 unfold sign_alnum.f at h
 have H:=h
 clear h
 by_cases c2:a0 ≥ 97;rotate_left
 ·rw [if_neg c2] at H
  have c2b0:decide (97 ≤ a0)=false:=decide_eq_false c2
  clear c2
  by_cases c8:a0 ≥ 65;rotate_left
  ·rw [if_neg c8] at H
   have c8b0:decide (65 ≤ a0)=false:=decide_eq_false c8
   clear c8
   by_cases c11:a0 ≥ 48
   ·rw [if_pos c11] at H
    have c11b0:decide (48 ≤ a0)=true:=decide_eq_true c11
    clear c11
    obtain rfl:=Option.some.inj H
    go_enter Tryz.func162,Tryz.ntmps162
    go_wp2
    go_ret
    exact ⟨zb4,zb8⟩
   rw [if_neg c11] at H
   have c11b0:decide (48 ≤ a0)=false:=decide_eq_false c11
   clear c11
   obtain rfl:=Option.some.inj H
   go_enter Tryz.func162,Tryz.ntmps162
   go_wp2
   go_ret
   exact ⟨zb4,zb8⟩
  rw [if_pos c8] at H
  have c8b0:decide (65 ≤ a0)=true:=decide_eq_true c8
  clear c8
  by_cases c9:a0 ≤ 90
  ·rw [if_pos c9] at H
   have c9b0:=decide_eq_true c9
   clear c9
   obtain rfl:=Option.some.inj H
   go_enter Tryz.func162,Tryz.ntmps162
   go_wp2
   go_ret
   exact ⟨zb4,zb8⟩
  rw [if_neg c9] at H
  have c9b0:=decide_eq_false c9
  clear c9
  by_cases c10:a0 ≥ 48
  ·rw [if_pos c10] at H
   have c10b0:decide (48 ≤ a0)=true:=decide_eq_true c10
   clear c10
   obtain rfl:=Option.some.inj H
   go_enter Tryz.func162,Tryz.ntmps162
   go_wp2
   go_ret
   exact ⟨zb4,zb8⟩
  rw [if_neg c10] at H
  have c10b0:decide (48 ≤ a0)=false:=decide_eq_false c10
  clear c10
  obtain rfl:=Option.some.inj H
  go_enter Tryz.func162,Tryz.ntmps162
  go_wp2
  go_ret
  exact ⟨zb4,zb8⟩
 rw [if_pos c2] at H
 have c2b0:decide (97 ≤ a0)=true:=decide_eq_true c2
 clear c2
 by_cases c3:a0 ≤ 122
 ·rw [if_pos c3] at H
  have c3b0:=decide_eq_true c3
  clear c3
  obtain rfl:=Option.some.inj H
  go_enter Tryz.func162,Tryz.ntmps162
  go_wp2
  go_ret
  exact ⟨zb4,zb8⟩
 ·rw [if_neg c3] at H
  have c3b0:=decide_eq_false c3
  clear c3
  by_cases c4:a0 ≥ 65
  ·rw [if_pos c4] at H
   have c4b0:decide (65 ≤ a0)=true:=decide_eq_true c4
   clear c4
   by_cases c5:a0 ≤ 90
   ·rw [if_pos c5] at H
    have c5b0:=decide_eq_true c5
    clear c5
    obtain rfl:=Option.some.inj H
    go_enter Tryz.func162,Tryz.ntmps162
    go_wp2
    go_ret
    exact ⟨zb4,zb8⟩
   ·rw [if_neg c5] at H
    have c5b0:=decide_eq_false c5
    clear c5
    by_cases c6:a0 ≥ 48
    ·rw [if_pos c6] at H
     have c6b0:decide (48 ≤ a0)=true:=decide_eq_true c6
     clear c6
     obtain rfl:=Option.some.inj H
     go_enter Tryz.func162,Tryz.ntmps162
     go_wp2
     go_ret
     exact ⟨zb4,zb8⟩
    ·rw [if_neg c6] at H
     have c6b0:decide (48 ≤ a0)=false:=decide_eq_false c6
     clear c6
     obtain rfl:=Option.some.inj H
     go_enter Tryz.func162,Tryz.ntmps162
     go_wp2
     go_ret
     exact ⟨zb4,zb8⟩
  ·rw [if_neg c4] at H
   have c4b0:decide (65 ≤ a0)=false:=decide_eq_false c4
   clear c4
   by_cases c7:a0 ≥ 48
   ·rw [if_pos c7] at H
    have c7b0:decide (48 ≤ a0)=true:=decide_eq_true c7
    clear c7
    obtain rfl:=Option.some.inj H
    go_enter Tryz.func162,Tryz.ntmps162
    go_wp2
    go_ret
    exact ⟨zb4,zb8⟩
   ·rw [if_neg c7] at H
    have c7b0:decide (48 ≤ a0)=false:=decide_eq_false c7
    clear c7
    obtain rfl:=Option.some.inj H
    go_enter Tryz.func162,Tryz.ntmps162
    go_wp2
    go_ret
    exact ⟨zb4,zb8⟩
def strings_IndexByte.f (a0:ByteArray) (a1:Int):Option Int:=some (Lib.indexByte a0.data.toList a1.toNat.toUInt8)
theorem strings_IndexByte.calls (a0:ByteArray) (a1:Int) (r:Int) (w:World) (h:strings_IndexByte.f a0 a1=some r) :
 Calls Tryz.prog 163 #[.string a0,.int .u8 a1] w fun e w' => e = .returned (.int .i64 r)∧Drawn0 w w' := by
 obtain rfl:=Option.some.inj h
 refine (Tryz.strings_IndexByte a0 a1 w).mono ?_
 rintro e w' ⟨rfl,rfl⟩
 exact ⟨rfl,Drawn0.refl _⟩
def sign_Token_1.f (a0:Int):Option (Bool):=(sign_alnum.f a0).bind fun t174=>(if t174=true then (some true) else ((strings_IndexByte.f (⟨#[33,35,36,37,38,39,42,43,45,46,94,95,96,124,126]⟩:ByteArray) a0).bind fun t175=>(some (decide (t175 ≥ 0)))))
set_option maxHeartbeats 8000000 in
set_option maxRecDepth 100000 in
theorem sign_Token_1.calls (a0:Int) (r:Bool) (w:World) (h:sign_Token_1.f a0=some r) :
 Calls Tryz.prog 161 #[.int .u8 a0] w fun e w' => e = .returned (.bool r)∧Drawn0 w w' := by
 unfold sign_Token_1.f at h
 have H:=h
 clear h
 replace H:=Option.bind_eq_some_iff.mp H
 obtain ⟨t174,A20,H⟩:=H
 try dsimp only at H
 have A2:=Aside0.mk A20
 clear A20
 by_cases c3:t174=true
 ·subst c3
  rw [if_pos rfl] at H
  obtain rfl:=Option.some.inj H
  go_enter Tryz.func161,Tryz.ntmps161
  go_wp2_with (first|((with_reducible refine gate_callee (f:=162) rfl ?_);refine goesL_ (some 4) rfl rfl Tryz.func162 zb10 rfl #[.int .u8 a0] rfl zb1 ?_;(with_reducible refine (sign_alnum.calls a0 true _ A2.out).mono ?_);rintro e w' ⟨rfl,⟨nd,rfl⟩⟩;(try clear A2);refine ⟨_,rfl,?_⟩))
  go_ret
  exact ⟨zb4,zb8⟩
 replace c3:=Bool.eq_false_iff.mpr c3
 subst c3
 rw [if_neg (show ¬ (false=true) by decide)] at H
 replace H:=Option.bind_eq_some_iff.mp H
 obtain ⟨t175,A40,H⟩:=H
 try dsimp only at H
 have A4:=Aside0.mk A40
 clear A40
 obtain rfl:=Option.some.inj H
 go_enter Tryz.func161,Tryz.ntmps161
 go_wp2_with (first|((with_reducible refine gate_callee (f:=162) rfl ?_);refine goesL_ (some 4) rfl rfl Tryz.func162 zb10 rfl #[.int .u8 a0] rfl zb1 ?_;(with_reducible refine (sign_alnum.calls a0 false _ A2.out).mono ?_);rintro e w' ⟨rfl,⟨nd,rfl⟩⟩;(try clear A2);refine ⟨_,rfl,?_⟩)|(go_at_call 163;(with_reducible refine (strings_IndexByte.calls (⟨#[33,35,36,37,38,39,42,43,45,46,94,95,96,124,126]⟩:ByteArray) a0 t175 _ A4.out).mono ?_);rintro e w' ⟨rfl,⟨nd,rfl⟩⟩;(try clear A4)))
 go_ret
 exact ⟨zb4,zb8⟩
/-- all,at any function value that tells p of every byte. -/
theorem sign_all.callsOf (K:Nat) (p:Int → Bool) (hK : ∀ args w,(callFunc K args).run Tryz.prog w = .ok (.enter K args) w)
 (hp : ∀ c w,0 ≤ c → c ≤ 255 → Calls Tryz.prog K #[.int .u8 c] w fun e w' => e = .returned (.bool (p c))∧Drawn0 w w')
 (a0:ByteArray) (h0:a0.size ≤ 140737488355328) (w:World) :
 Calls Tryz.prog 158 #[.string a0,.func (.func K) #[] #[]] w fun e w' => e = .returned (.bool ((bytesOf a0).all p))∧Drawn0 w w' := by
 go_enter Tryz.func158,Tryz.ntmps158
 go_wp2
 go_loopw [8] (fun v wr => ∃ x:Int,v = .int .i64 x∧Aside0 (0 ≤ x∧x ≤ a0.size)∧Aside0 ((bytesOf a0).all p=((bytesOf a0).drop x.toNat).all p)∧Drawn0 w wr) (fun v _=>a0.size - (intOf v).toNat)
 case atStart=>exact ⟨0,rfl,⟨zb18,zb18⟩,⟨zb33⟩,Drawn0.refl _⟩
 case round =>
  obtain ⟨x,rfl,HX,HA,⟨m,rfl⟩⟩:=hrel
  by_cases hlt:x < (a0.size:Int);rotate_left
  ·have HE:=Aside0.mk (HA.out)
   clear HA
   have hge:=Aside0.mk hlt
   have q2:decide (x < (a0.size:Int))=false:=decide_eq_false hlt
   clear hlt
   go_wp2
   go_ret
   exact ⟨by have:=hge.out;have:=HX.out;rw [HE.out,List.drop_of_length_le (by rw [bytesOf_length];omega)];rfl,zb8⟩
  have hx:=bt_at a0 x
  have hr:=bt_range a0 x
  have HR:=Aside0.mk hr
  clear hr
  have HN:=Aside0.mk (bytes_drop_all p a0 x HX.out.1 hlt)
  have p1:(0 ≤ x)=True:=eq_true HX.out.1
  have q1:(x < (a0.size:Int))=True:=eq_true hlt
  have q2:decide (x < (a0.size:Int))=true:=decide_eq_true hlt
  have hlt' := Aside0.mk hlt
  clear hlt
  cases hpc:p (bt a0 x)
  ·have HN' := HN.out
   rw [hpc] at HN'
   have HE:=Aside0.mk (HA.out.trans HN')
   clear HN' HN HA
   go_wp2_with ((with_reducible refine (hp (bt a0 x) _ HR.out.1 HR.out.2).mono ?_);rintro e w' ⟨rfl,⟨nd,rfl⟩⟩;rw [hpc])
   go_ret
   exact ⟨by rw [HE.out];rfl,zb8⟩
  have HN' := HN.out
  rw [hpc] at HN'
  have HE:=Aside0.mk (HA.out.trans HN')
  clear HN' HN HA
  go_wp2_with ((with_reducible refine (hp (bt a0 x) _ HR.out.1 HR.out.2).mono ?_);rintro e w' ⟨rfl,⟨nd,rfl⟩⟩;rw [hpc])
  go_roundw
  case rel =>
   have hw:wrap64 (x + 1)=x + 1:=by have:=HX.out;unfold wrap64;omega
   exact ⟨x + 1,by rw [hw],⟨zb85,by have:=hlt'.out;omega⟩,⟨by have:=HX.out;rw [HE.out,show (x + 1).toNat=x.toNat + 1 by omega];simp⟩,zb8⟩
  case measure =>
   have hw:wrap64 (x + 1)=x + 1:=by have:=HX.out;unfold wrap64;omega
   have:=HX.out
   have:=hlt'.out
   simp [intOf,hw]
   omega
def sign_Token.f (a0:ByteArray):Option Bool:=if a0.size ≤ 140737488355328 then some (!a0.toList.isEmpty && (bytesOf a0).all fun c=>(sign_Token_1.f c).getD false) else none
theorem sign_Token_1.tells (c:Int) : ∃ b,sign_Token_1.f c=some b:=by
 unfold sign_Token_1.f sign_alnum.f strings_IndexByte.f
 repeat' split
 all_goals first|exact ⟨_,rfl⟩|(simp only [Option.bind_some];split <;> exact ⟨_,rfl⟩)
theorem sign_Token_1.any (c:Int) (w:World):Calls Tryz.prog 161 #[.int .u8 c] w fun e w' => e = .returned (.bool ((sign_Token_1.f c).getD false))∧Drawn0 w w' := by
 obtain ⟨b,hb⟩:=sign_Token_1.tells c
 have:=sign_Token_1.calls c b w hb
 rw [hb]
 exact this
theorem sign_Token.calls (a0:ByteArray) (r:Bool) (w:World) (h:sign_Token.f a0=some r) :
 Calls Tryz.prog 117 #[.string a0] w fun e w' => e = .returned (.bool r)∧Drawn0 w w' := by
 unfold sign_Token.f at h
 by_cases h0:a0.size ≤ 140737488355328;rotate_left
 ·rw [if_neg h0] at h
  cases h
 rw [if_pos h0] at h
 obtain rfl:=Option.some.inj h
 clear h
 have he : ∀ args w,(callFunc 161 args).run Tryz.prog w = .ok (.enter 161 args) w:=fun args w=>enters_ Tryz.func161 zb10 rfl args w
 have HC:=Aside0.mk (fun w' => sign_all.callsOf 161 (fun c=>(sign_Token_1.f c).getD false) he (fun c w _ _=>sign_Token_1.any c w) a0 h0 w')
 clear he h0
 go_enter Tryz.func117,Tryz.ntmps117
 go_wp2_with (go_at_call 158;(with_reducible refine (HC.out _).mono ?_);rintro e w' ⟨rfl,⟨nd,rfl⟩⟩)
 all_goals
  go_ret
  exact ⟨by first|rfl|(simp [*];done),zb8⟩
def conf_drop.f (a0:ByteArray):Option (Bool):=(sign_Token.f a0).bind fun t808=>(if t808=true then (if (a0.size:Int) ≤ 100 then ((conf_Kept.f a0).bind fun t809=>(some (!t809))) else (some false)) else (some false))
set_option maxHeartbeats 8000000 in
set_option maxRecDepth 100000 in
theorem conf_drop.calls (a0:ByteArray) (r:Bool) (w:World) (h:conf_drop.f a0=some r) :
 Calls Tryz.prog 101 #[.string a0] w fun e w' => e = .returned (.bool r)∧Below w.heap.size w w' := by
 have HB:=Aside0.mk (Below.refl w.heap.size w)
 unfold conf_drop.f at h
 have H:=h
 clear h
 replace H:=Option.bind_eq_some_iff.mp H
 obtain ⟨t808,A20,H⟩:=H
 try dsimp only at H
 have A2:=Aside0.mk A20
 clear A20
 by_cases c3:t808=true;rotate_left
 ·replace c3:=Bool.eq_false_iff.mpr c3
  subst c3
  rw [if_neg (show ¬ (false=true) by decide)] at H
  obtain rfl:=Option.some.inj H
  go_enter Tryz.func101,Tryz.ntmps101
  go_wp2_with (first|((with_reducible refine gate_callee (f:=117) rfl ?_);refine goesL_ (some 4) rfl rfl Tryz.func117 zb10 rfl #[.string a0] rfl zb1 ?_;(with_reducible refine (sign_Token.calls a0 false _ A2.out).mono ?_);rintro e w' ⟨rfl,⟨nd,rfl⟩⟩;(try clear A2);refine ⟨_,rfl,?_⟩))
  go_ret
  exact ⟨zb2,zb0⟩
 subst c3
 rw [if_pos rfl] at H
 by_cases c4:(a0.size:Int) ≤ 100;rotate_left
 ·rw [if_neg c4] at H
  have c4b0:=decide_eq_false c4
  have c4b1:decide (a0.size ≤ 100)=false:=decide_eq_false zb18
  clear c4
  obtain rfl:=Option.some.inj H
  go_enter Tryz.func101,Tryz.ntmps101
  go_wp2_with (first|((with_reducible refine gate_callee (f:=117) rfl ?_);refine goesL_ (some 4) rfl rfl Tryz.func117 zb10 rfl #[.string a0] rfl zb1 ?_;(with_reducible refine (sign_Token.calls a0 true _ A2.out).mono ?_);rintro e w' ⟨rfl,⟨nd,rfl⟩⟩;(try clear A2);refine ⟨_,rfl,?_⟩))
  go_ret
  exact ⟨zb2,zb0⟩
 rw [if_pos c4] at H
 have c4b0:=decide_eq_true c4
 have c4b1:decide (a0.size ≤ 100)=true:=decide_eq_true zb18
 clear c4
 replace H:=Option.bind_eq_some_iff.mp H
 obtain ⟨t809,A50,H⟩:=H
 try dsimp only at H
 have A5:=Aside0.mk A50
 clear A50
 obtain rfl:=Option.some.inj H
 go_enter Tryz.func101,Tryz.ntmps101
 go_wp2_with (first|((with_reducible refine gate_callee (f:=117) rfl ?_);refine goesL_ (some 4) rfl rfl Tryz.func117 zb10 rfl #[.string a0] rfl zb1 ?_;(with_reducible refine (sign_Token.calls a0 true _ A2.out).mono ?_);rintro e w' ⟨rfl,⟨nd,rfl⟩⟩;(try clear A2);refine ⟨_,rfl,?_⟩)|(go_at_call 33;(with_reducible refine (conf_Kept.calls a0 t809 _ A5.out).mono ?_);rintro e w6 ⟨rfl,hb⟩;(try clear A5);replace HB:=Aside0.mk (below_step zb0 hb);(try clear hb)))
 go_ret
 exact ⟨zb2,zb0⟩
/-- What is asked of a test of such structs that is handed over. -/
def TestOf_number (g:Nat) (lb:Array Value) (q:S131 → Option Bool) (w:World):Prop :=
 ∀ (W:World) (x:S131) (b:Bool),Below w.heap.size w W → q x=some b → Calls Tryz.prog g (#[.agg #[.string x.f0,.int .i64 x.f1,.int .i64 x.f2,.int .i64 x.f3]] ++ lb) W fun e w' => e = .returned (.bool b)∧Below W.heap.size W w'
set_option maxHeartbeats 4000000 in
set_option maxRecDepth 100000 in
theorem slices_IndexFunc_number.callsOf (q:S131 → Option Bool) (g:Nat) (lb:Array Value) (eg : ∀ args w,(callFunc g args).run Tryz.prog w = .ok (.enter g args) w) (A_:Option Addr) (c_:Nat) (l0:List (S131)) (r:Int) (w:World) (hr0:Kd.C k131 w A_ l0.length l0) (hc0:l0.length ≤ c_)
 (hq:TestOf_number g lb q w) (h:idxO q l0 0=some r) :
 Calls Tryz.prog 151 #[.slice A_ l0.length c_,.func (.func g) #[] lb] w fun e w' => e = .returned (.int .i64 r)∧Below w.heap.size w w' := by
 have hu:=Tryz.underlying131
 have HR:=Aside0.mk hr0
 have HQ:=Aside0.mk hq
 have H0:=Aside0.mk (show idxO q (l0.drop (0:Int).toNat) 0=some r from h)
 have HM:=Aside0.mk (show l0.length ≤ 9223372036854775807 from hr0.2.1)
 clear hr0 hq h
 go_enter Tryz.func151,Tryz.ntmps151
 go_wp2
 go_loopg [5,8] l0.length (fun kq _ v8 wr => ∃ (x8:Int),v8 = .int .i64 x8∧Aside0 (0 ≤ x8∧x8 ≤ l0.length∧(l0.length:Int) - x8 ≤ kq)∧Aside0 (Below w.heap.size w wr)∧Aside0 (idxO q (l0.drop x8.toNat) x8=some r))
 case atStart=>exact ⟨0,rfl,⟨zb18⟩,⟨Below.refl _ w⟩,H0⟩
 case round =>
  obtain ⟨x8,rfl,HX,BW,HH⟩:=hrel
  clear H0
  by_cases c4:x8 < (l0.length:Int);rotate_left
  ·have c4b0:=decide_eq_false c4
   have hx:=HH.out
   rw [List.drop_of_length_le zb85,idxO] at hx
   injection hx with hx
   clear c4
   go_wp2
   go_ret
   subst hx
   exact ⟨zb20,BW.out⟩
  have c4b0:=decide_eq_true c4
  have hx:=HH.out
  have hlt:x8.toNat < l0.length:=by have:=HX.out;omega
  rw [List.drop_eq_getElem_cons hlt,idxO] at hx
  obtain ⟨b,hb,hx⟩:=Option.bind_eq_some_iff.1 hx
  have hrd:rd_T131 l0 x8=l0[x8.toNat]:=by unfold rd_T131;rw [List.getD_eq_getElem?_getD,List.getElem?_eq_getElem hlt];rfl
  obtain ⟨ad,he,h0,h1,h2,h3⟩:=at_T131 HR.out x8 HX.out.1 c4
  replace h0:=(BW.out.cell (World.block_lt_of_cell? w _ h0)).trans h0
  replace h1:=(BW.out.cell (World.block_lt_of_cell? w _ h1)).trans h1
  replace h2:=(BW.out.cell (World.block_lt_of_cell? w _ h2)).trans h2
  replace h3:=(BW.out.cell (World.block_lt_of_cell? w _ h3)).trans h3
  have hcall:=HQ.out wr l0[x8.toNat] b BW.out hb
  rw [← hrd] at hcall
  obtain ⟨y,hy⟩ : ∃ y,rd_T131 l0 x8=y:=⟨_,rfl⟩
  rw [hy] at hcall h0 h1 h2 h3
  have HCALL:=Aside0.mk hcall
  have HN:=Aside0.mk hx
  have p8:(0 ≤ x8)=True:=eq_true HX.out.1
  have q8:(x8 < (l0.length:Int))=True:=eq_true c4
  clear hx hb hrd HH hy hcall c4
  subst he
  cases b with
  | true =>
   go_wp2_with (go_at_fn g;refine HCALL.out.mono ?_;rintro e w' ⟨rfl,hb'⟩)
   go_ret
   have hx:=HN.out
   simp only [if_true,Option.some.injEq] at hx
   subst hx
   exact ⟨zb20,BW.out.trans (sl_base (Below.size BW.out) hb')⟩
  | false =>
   go_wp2_with (go_at_fn g;refine HCALL.out.mono ?_;rintro e w' ⟨rfl,hb'⟩)
   go_roundg (gk - 1)
   case measure=>have:=HX.out;have:=of_eq_true q8;omega
   case rel =>
    have hx:=HN.out
    simp only [Bool.false_eq_true,if_false] at hx
    have hx8:=HX.out
    have hq8:=of_eq_true q8
    have hw:wrap64 (x8 + 1)=x8 + 1:=by have:=HM.out;unfold wrap64;omega
    refine ⟨wrap64 (x8 + 1),rfl,⟨zb92⟩,⟨BW.out.trans (sl_base (Below.size BW.out) hb')⟩,⟨?_⟩⟩
    rw [hw,show (x8 + 1).toNat=x8.toNat + 1 by omega]
    exact hx
set_option maxHeartbeats 4000000 in
set_option maxRecDepth 100000 in
theorem slices_ContainsFunc_number.callsOf (q:S131 → Option Bool) (g:Nat) (lb:Array Value) (eg : ∀ args w,(callFunc g args).run Tryz.prog w = .ok (.enter g args) w) (A_:Option Addr) (c_:Nat) (l0:List (S131)) (r:Bool) (w:World) (hr0:Kd.C k131 w A_ l0.length l0) (hc0:l0.length ≤ c_)
 (hq:TestOf_number g lb q w) (h:anyO q l0=some r) :
 Calls Tryz.prog 102 #[.slice A_ l0.length c_,.func (.func g) #[] lb] w fun e w' => e = .returned (.bool r)∧Below w.heap.size w w' := by
 obtain ⟨j,hj,hb⟩:=idxO_any q l0 0 r zb18 h
 have HC:=Aside0.mk (slices_IndexFunc_number.callsOf q g lb eg A_ c_ l0 j w hr0 hc0 hq hj)
 have HBB:=Aside0.mk hb
 clear hb hj h hq hr0 hc0 eg
 go_enter Tryz.func102,Tryz.ntmps102
 go_wp2_with (go_at_call 151;refine HC.out.mono ?_;rintro e w' ⟨rfl,hb'⟩)
 go_ret
 have e:=HBB.out
 subst e
 exact ⟨zb20,hb'⟩
def conf_numbers.f (l0_0:List (S83)) (l0_1:List (S85)) (l0_2:List (S36)) (l0_3:List ByteArray) (a0_4:Int) (a0_5:Int) (a0_6:Int) (a0_7:Int):Option ((List (S131))):=some (([(⟨(⟨#[116,111,116,97,108]⟩:ByteArray),a0_4,1,1048576⟩:S131),(⟨(⟨#[116,114,105,101,115]⟩:ByteArray),a0_5,0,3⟩:S131),(⟨(⟨#[102,97,105,108,115]⟩:ByteArray),a0_6,1,100⟩:S131),(⟨(⟨#[99,111,111,108]⟩:ByteArray),a0_7,0,1048576⟩:S131)]:List (S131)))
set_option maxHeartbeats 8000000 in
set_option maxRecDepth 100000 in
theorem conf_numbers.calls (A0_0:Option Addr) (c0_0:Nat) (l0_0:List (S83)) (A0_1:Option Addr) (c0_1:Nat) (l0_1:List (S85)) (A0_2:Option Addr) (c0_2:Nat) (l0_2:List (S36)) (A0_3:Option Addr) (c0_3:Nat) (l0_3:List ByteArray) (a0_4:Int) (a0_5:Int) (a0_6:Int) (a0_7:Int) (r:List (S131)) (w:World) (hr0_0:Kd.C k83 w A0_0 l0_0.length l0_0) (hc0_0:l0_0.length ≤ c0_0) (hr0_1:Kd.C k85 w A0_1 l0_1.length l0_1) (hc0_1:l0_1.length ≤ c0_1) (hr0_2:Kd.C k36 w A0_2 l0_2.length l0_2) (hc0_2:l0_2.length ≤ c0_2) (hr0_3:Kd.C Kd.string w A0_3 l0_3.length l0_3) (hc0_3:l0_3.length ≤ c0_3) (h:conf_numbers.f l0_0 l0_1 l0_2 l0_3 a0_4 a0_5 a0_6 a0_7=some r) :
 Calls Tryz.prog 103 #[.agg #[.slice A0_0 l0_0.length c0_0,.slice A0_1 l0_1.length c0_1,.slice A0_2 l0_2.length c0_2,.slice A0_3 l0_3.length c0_3,.int .i64 a0_4,.int .i64 a0_5,.int .i64 a0_6,.int .i64 a0_7]] w fun e w' => ∃ v0_:Value,e = .returned (v0_)∧Kd.R k131 131 w' w.heap.size (fun _=>True) v0_ r∧Below w.heap.size w w' := by
 have hu46:=Tryz.underlying46
 have hu131:=Tryz.underlying131
 have HR0_0:=Aside0.mk hr0_0
 have HC0_0:=Aside0.mk hc0_0
 clear hr0_0 hc0_0
 have HR0_1:=Aside0.mk hr0_1
 have HC0_1:=Aside0.mk hc0_1
 clear hr0_1 hc0_1
 have HR0_2:=Aside0.mk hr0_2
 have HC0_2:=Aside0.mk hc0_2
 clear hr0_2 hc0_2
 have HR0_3:=Aside0.mk hr0_3
 have HC0_3:=Aside0.mk hc0_3
 clear hr0_3 hc0_3
 have HB:=Aside0.mk (Below.refl w.heap.size w)
 unfold conf_numbers.f at h
 have H:=h
 clear h
 obtain ⟨y811,hy811⟩ : ∃ y_:List (S131),y_=(([(⟨(⟨#[116,111,116,97,108]⟩:ByteArray),a0_4,1,1048576⟩:S131),(⟨(⟨#[116,114,105,101,115]⟩:ByteArray),a0_5,0,3⟩:S131),(⟨(⟨#[102,97,105,108,115]⟩:ByteArray),a0_6,1,100⟩:S131),(⟨(⟨#[99,111,111,108]⟩:ByteArray),a0_7,0,1048576⟩:S131)]:List (S131))):=⟨_,rfl⟩
 replace H:(some y811)=some r:=by first|(rw [hy811];with_reducible exact H)|(have H2_:=(Option.bind_some _ _).symm.trans H;rw [hy811];with_reducible exact H2_)|(have H2_:=(Option.bind_some _ _).symm.trans H;with_reducible exact H2_)|with_reducible exact H|(rw [hy811];exact H)|exact H
 have Ny811:=Aside0.mk hy811
 clear hy811
 obtain rfl:=Option.some.inj H
 go_enter Tryz.func103,Tryz.ntmps103
 go_wp2_with (first|((with_reducible refine gate_dst (N:=1) rfl ?_);refine box_event rfl (N:=1) rfl (cs:=#[.slice A0_0 l0_0.length c0_0,.slice A0_1 l0_1.length c0_1,.slice A0_2 l0_2.length c0_2,.slice A0_3 l0_3.length c0_3,.int .i64 a0_4,.int .i64 a0_5,.int .i64 a0_6,.int .i64 a0_7]) (t:=46) zS ?_;intro gb810 hg w2 hbox hb;have GW810:=zG hg zb0;have GE810:=GW810;have BK810:=Aside0.mk hbox;replace HB:=Aside0.mk (below_step zb0 hb);clear hb hbox hg;have hcz3_0:w2.cell? ⟨gb810,0,none⟩=some (.slice A0_0 l0_0.length c0_0):=(blk_cell BK810.out 0).trans rfl;have hcz3_1:w2.cell? ⟨gb810,1,none⟩=some (.slice A0_1 l0_1.length c0_1):=(blk_cell BK810.out 1).trans rfl;have hcz3_2:w2.cell? ⟨gb810,2,none⟩=some (.slice A0_2 l0_2.length c0_2):=(blk_cell BK810.out 2).trans rfl;have hcz3_3:w2.cell? ⟨gb810,3,none⟩=some (.slice A0_3 l0_3.length c0_3):=(blk_cell BK810.out 3).trans rfl;have hcz3_4:w2.cell? ⟨gb810,4,none⟩=some (.int .i64 a0_4):=(blk_cell BK810.out 4).trans rfl;have hcz3_5:w2.cell? ⟨gb810,5,none⟩=some (.int .i64 a0_5):=(blk_cell BK810.out 5).trans rfl;have hcz3_6:w2.cell? ⟨gb810,6,none⟩=some (.int .i64 a0_6):=(blk_cell BK810.out 6).trans rfl;have hcz3_7:w2.cell? ⟨gb810,7,none⟩=some (.int .i64 a0_7):=(blk_cell BK810.out 7).trans rfl;have hfz3_0:=blk_frozen BK810.out 0;have hfz3_1:=blk_frozen BK810.out 1;have hfz3_2:=blk_frozen BK810.out 2;have hfz3_3:=blk_frozen BK810.out 3;have hfz3_4:=blk_frozen BK810.out 4;have hfz3_5:=blk_frozen BK810.out 5;have hfz3_6:=blk_frozen BK810.out 6;have hfz3_7:=blk_frozen BK810.out 7)|((with_reducible refine gate_dst (N:=15) rfl ?_);refine Kd.R_lit k131 _ 131 ?hg (N:=15) ?hd (xs:=([(⟨(⟨#[116,111,116,97,108]⟩:ByteArray),a0_4,1,1048576⟩:S131),(⟨(⟨#[116,114,105,101,115]⟩:ByteArray),a0_5,0,3⟩:S131),(⟨(⟨#[102,97,105,108,115]⟩:ByteArray),a0_6,1,100⟩:S131),(⟨(⟨#[99,111,111,108]⟩:ByteArray),a0_7,0,1048576⟩:S131)]:List (S131))) (inner:=[.string (⟨#[116,111,116,97,108]⟩:ByteArray),.int .i64 a0_4,.int .i64 1,.int .i64 1048576,.string (⟨#[116,114,105,101,115]⟩:ByteArray),.int .i64 a0_5,.int .i64 0,.int .i64 3,.string (⟨#[102,97,105,108,115]⟩:ByteArray),.int .i64 a0_6,.int .i64 1,.int .i64 100,.string (⟨#[99,111,111,108]⟩:ByteArray),.int .i64 a0_7,.int .i64 0,.int .i64 1048576]) (ok:=fun _=>True) (okp:=fun _=>True) ?hr ?hp (fun _ hk=>hk) trivial (Below.refl _ _) (Nat.le_refl _) zb33 ?_;(case hd=>rfl);(case hg=>rfl);(case hr=>first|(go_simp;done)|(go_simp;rfl));(case hp=>exact (Reps.c4 (show Kd.M k131 _ _ _ (⟨(⟨#[116,111,116,97,108]⟩:ByteArray),a0_4,1,1048576⟩:S131) [.string (⟨#[116,111,116,97,108]⟩:ByteArray),.int .i64 a0_4,.int .i64 1,.int .i64 1048576] from (k131_mkM _ _ _ (⟨(⟨#[116,111,116,97,108]⟩:ByteArray),a0_4,1,1048576⟩:S131) )) (Reps.c4 (show Kd.M k131 _ _ _ (⟨(⟨#[116,114,105,101,115]⟩:ByteArray),a0_5,0,3⟩:S131) [.string (⟨#[116,114,105,101,115]⟩:ByteArray),.int .i64 a0_5,.int .i64 0,.int .i64 3] from (k131_mkM _ _ _ (⟨(⟨#[116,114,105,101,115]⟩:ByteArray),a0_5,0,3⟩:S131) )) (Reps.c4 (show Kd.M k131 _ _ _ (⟨(⟨#[102,97,105,108,115]⟩:ByteArray),a0_6,1,100⟩:S131) [.string (⟨#[102,97,105,108,115]⟩:ByteArray),.int .i64 a0_6,.int .i64 1,.int .i64 100] from (k131_mkM _ _ _ (⟨(⟨#[102,97,105,108,115]⟩:ByteArray),a0_6,1,100⟩:S131) )) (Reps.c4 (show Kd.M k131 _ _ _ (⟨(⟨#[99,111,111,108]⟩:ByteArray),a0_7,0,1048576⟩:S131) [.string (⟨#[99,111,111,108]⟩:ByteArray),.int .i64 a0_7,.int .i64 0,.int .i64 1048576] from (k131_mkM _ _ _ (⟨(⟨#[99,111,111,108]⟩:ByteArray),a0_7,0,1048576⟩:S131) )) (Reps.none _ _))))));intro v812 w4 ho5 hb hg_ hnew_;clear hg_ hnew_;(first|rw [← Ny811.out] at ho5|(simp only [Int.reduceToNat] at ho5;rw [← Ny811.out] at ho5));have HO813:=Aside0.mk (Kd.R_lower ho5 (below_size zb64));replace BK810:=Aside0.mk (blk_below (g:=gb810) (o:=.cells #[.slice A0_0 l0_0.length c0_0,.slice A0_1 l0_1.length c0_1,.slice A0_2 l0_2.length c0_2,.slice A0_3 l0_3.length c0_3,.int .i64 a0_4,.int .i64 a0_5,.int .i64 a0_6,.int .i64 a0_7] 46 (0,0)) (by (with_reducible repeat (first|refine blk_drewN ?_ _|refine blk_drew ?_|refine blk_alloc ?_ _));exact BK810.out) hb);replace HB:=Aside0.mk (below_step zb64 hb);clear hb ho5))
 go_ret
 exact ⟨_,zb2,by (with_reducible repeat (first|apply Kd.R_alloc|apply Kd.R_drewN|apply Kd.R_drew));exact HO813.out,zb64⟩
def sign_Target_1.f (a0:Int):Option (Bool):=if a0 ≥ 33 then (some (decide (a0 ≤ 126))) else (some false)
set_option maxHeartbeats 8000000 in
set_option maxRecDepth 100000 in
theorem sign_Target_1.calls (a0:Int) (r:Bool) (w:World) (h:sign_Target_1.f a0=some r) :
 Calls Tryz.prog 181 #[.int .u8 a0] w fun e w' => e = .returned (.bool r)∧Drawn0 w w' := by
 unfold sign_Target_1.f at h
 have H:=h
 clear h
 by_cases c2:a0 ≥ 33
 ·rw [if_pos c2] at H
  have c2b0:decide (33 ≤ a0)=true:=decide_eq_true c2
  clear c2
  obtain rfl:=Option.some.inj H
  go_enter Tryz.func181,Tryz.ntmps181
  go_wp2
  go_ret
  exact ⟨zb4,zb8⟩
 rw [if_neg c2] at H
 have c2b0:decide (33 ≤ a0)=false:=decide_eq_false c2
 clear c2
 obtain rfl:=Option.some.inj H
 go_enter Tryz.func181,Tryz.ntmps181
 go_wp2
 go_ret
 exact ⟨zb4,zb8⟩
def sign_Target.f (a0:ByteArray):Option Bool:=if a0.size ≤ 140737488355328 then some (!a0.toList.isEmpty && (bytesOf a0).all fun c=>(sign_Target_1.f c).getD false) else none
theorem sign_Target_1.tells (c:Int) : ∃ b,sign_Target_1.f c=some b:=by
 unfold sign_Target_1.f
 repeat' split
 all_goals exact ⟨_,rfl⟩
theorem sign_Target_1.any (c:Int) (w:World):Calls Tryz.prog 181 #[.int .u8 c] w fun e w' => e = .returned (.bool ((sign_Target_1.f c).getD false))∧Drawn0 w w' := by
 obtain ⟨b,hb⟩:=sign_Target_1.tells c
 have:=sign_Target_1.calls c b w hb
 rw [hb]
 exact this
theorem sign_Target.calls (a0:ByteArray) (r:Bool) (w:World) (h:sign_Target.f a0=some r) :
 Calls Tryz.prog 149 #[.string a0] w fun e w' => e = .returned (.bool r)∧Drawn0 w w' := by
 unfold sign_Target.f at h
 by_cases h0:a0.size ≤ 140737488355328;rotate_left
 ·rw [if_neg h0] at h
  cases h
 rw [if_pos h0] at h
 obtain rfl:=Option.some.inj h
 clear h
 have he : ∀ args w,(callFunc 181 args).run Tryz.prog w = .ok (.enter 181 args) w:=fun args w=>enters_ Tryz.func181 zb10 rfl args w
 have HC:=Aside0.mk (fun w' => sign_all.callsOf 181 (fun c=>(sign_Target_1.f c).getD false) he (fun c w _ _=>sign_Target_1.any c w) a0 h0 w')
 clear he h0
 go_enter Tryz.func149,Tryz.ntmps149
 go_wp2_with (go_at_call 158;(with_reducible refine (HC.out _).mono ?_);rintro e w' ⟨rfl,⟨nd,rfl⟩⟩)
 all_goals
  go_ret
  exact ⟨by first|rfl|(simp [*];done),zb8⟩
def conf_path.f (a0:ByteArray):Option (Bool):=(sign_Target.f a0).bind fun t801=>(if t801=true then (if 0 < (a0.size:Int) then (if (bt a0 0)=47 then (some (decide ((a0.size:Int) ≤ 100))) else (some false)) else (none)) else (some false))
set_option maxHeartbeats 8000000 in
set_option maxRecDepth 100000 in
theorem conf_path.calls (a0:ByteArray) (r:Bool) (w:World) (h:conf_path.f a0=some r) :
 Calls Tryz.prog 99 #[.string a0] w fun e w' => e = .returned (.bool r)∧Drawn0 w w' := by
 unfold conf_path.f at h
 have H:=h
 clear h
 replace H:=Option.bind_eq_some_iff.mp H
 obtain ⟨t801,A20,H⟩:=H
 try dsimp only at H
 have A2:=Aside0.mk A20
 clear A20
 by_cases c3:t801=true;rotate_left
 ·replace c3:=Bool.eq_false_iff.mpr c3
  subst c3
  rw [if_neg (show ¬ (false=true) by decide)] at H
  obtain rfl:=Option.some.inj H
  go_enter Tryz.func99,Tryz.ntmps99
  go_wp2_with (first|((with_reducible refine gate_callee (f:=149) rfl ?_);refine goesL_ (some 4) rfl rfl Tryz.func149 zb10 rfl #[.string a0] rfl zb1 ?_;(with_reducible refine (sign_Target.calls a0 false _ A2.out).mono ?_);rintro e w' ⟨rfl,⟨nd,rfl⟩⟩;(try clear A2);refine ⟨_,rfl,?_⟩))
  go_ret
  exact ⟨zb4,zb8⟩
 subst c3
 rw [if_pos rfl] at H
 by_cases c4:0 < (a0.size:Int)
 ·rw [if_pos c4] at H
  have c4b0:=decide_eq_true c4
  have c4b1:decide (0 < a0.size)=true:=decide_eq_true zb18
  clear c4
  by_cases c6:(bt a0 0)=47;rotate_left
  ·rw [if_neg c6] at H
   have c6b0:=beq_eq_false_iff_ne.mpr c6
   have c6b1:=bne_iff_ne.mpr c6
   obtain rfl:=Option.some.inj H
   go_enter Tryz.func99,Tryz.ntmps99
   go_wp2_with (first|((with_reducible refine gate_callee (f:=149) rfl ?_);refine goesL_ (some 4) rfl rfl Tryz.func149 zb10 rfl #[.string a0] rfl zb1 ?_;(with_reducible refine (sign_Target.calls a0 true _ A2.out).mono ?_);rintro e w' ⟨rfl,⟨nd,rfl⟩⟩;(try clear A2);refine ⟨_,rfl,?_⟩;have p5:0 ≤ (0:Int):=zb18;have q5:0 < a0.size:=zb56;have hx5 : ∀ h:0 < a0.size,((a0[0]'h).toNat:Int)=bt a0 0:=bt_at a0 0;clear p5;have qi5:(0 < (a0.size:Int))=True:=eq_true (of_decide_eq_true zb5);replace q5:=eq_true q5))
   go_ret
   exact ⟨zb4,zb8⟩
  rw [if_pos c6] at H
  have c6b0:=beq_iff_eq.mpr c6
  have c6b1:=bne_eq_false_iff_eq.mpr c6
  clear c6
  obtain rfl:=Option.some.inj H
  go_enter Tryz.func99,Tryz.ntmps99
  go_wp2_with (first|((with_reducible refine gate_callee (f:=149) rfl ?_);refine goesL_ (some 4) rfl rfl Tryz.func149 zb10 rfl #[.string a0] rfl zb1 ?_;(with_reducible refine (sign_Target.calls a0 true _ A2.out).mono ?_);rintro e w' ⟨rfl,⟨nd,rfl⟩⟩;(try clear A2);refine ⟨_,rfl,?_⟩;have p5:0 ≤ (0:Int):=zb18;have q5:0 < a0.size:=zb56;have hx5 : ∀ h:0 < a0.size,((a0[0]'h).toNat:Int)=bt a0 0:=bt_at a0 0;clear p5;have qi5:(0 < (a0.size:Int))=True:=eq_true (of_decide_eq_true zb5);replace q5:=eq_true q5))
  go_ret
  exact ⟨zb4,zb8⟩
 ·rw [if_neg c4] at H
  exact absurd H zb33
def conf_right_1.f (a0_0:ByteArray) (a0_1:Int) (a0_2:Int) (a0_3:Int):Option (Bool):=if a0_1 < a0_2 then (some true) else (some (decide (a0_1 > a0_3)))
set_option maxHeartbeats 8000000 in
set_option maxRecDepth 100000 in
theorem conf_right_1.calls (a0_0:ByteArray) (a0_1:Int) (a0_2:Int) (a0_3:Int) (r:Bool) (w:World) (h:conf_right_1.f a0_0 a0_1 a0_2 a0_3=some r) :
 Calls Tryz.prog 104 #[.agg #[.string a0_0,.int .i64 a0_1,.int .i64 a0_2,.int .i64 a0_3]] w fun e w' => e = .returned (.bool r)∧Below w.heap.size w w' := by
 have hu131:=Tryz.underlying131
 have HB:=Aside0.mk (Below.refl w.heap.size w)
 unfold conf_right_1.f at h
 have H:=h
 clear h
 by_cases c2:a0_1 < a0_2
 ·rw [if_pos c2] at H
  have c2b0:=decide_eq_true c2
  clear c2
  obtain rfl:=Option.some.inj H
  go_enter Tryz.func104,Tryz.ntmps104
  go_wp2_with (first|((with_reducible refine gate_dst (N:=1) rfl ?_);refine box_event rfl (N:=1) rfl (cs:=#[.string a0_0,.int .i64 a0_1,.int .i64 a0_2,.int .i64 a0_3]) (t:=131) zS ?_;intro gb172 hg w3 hbox hb;have GW172:=zG hg zb0;have GE172:=GW172;have BK172:=Aside0.mk hbox;replace HB:=Aside0.mk (below_step zb0 hb);clear hb hbox hg;have hcz4_0:w3.cell? ⟨gb172,0,none⟩=some (.string a0_0):=(blk_cell BK172.out 0).trans rfl;have hcz4_1:w3.cell? ⟨gb172,1,none⟩=some (.int .i64 a0_1):=(blk_cell BK172.out 1).trans rfl;have hcz4_2:w3.cell? ⟨gb172,2,none⟩=some (.int .i64 a0_2):=(blk_cell BK172.out 2).trans rfl;have hcz4_3:w3.cell? ⟨gb172,3,none⟩=some (.int .i64 a0_3):=(blk_cell BK172.out 3).trans rfl;have hfz4_0:=blk_frozen BK172.out 0;have hfz4_1:=blk_frozen BK172.out 1;have hfz4_2:=blk_frozen BK172.out 2;have hfz4_3:=blk_frozen BK172.out 3))
  go_ret
  exact ⟨zb2,zb78⟩
 rw [if_neg c2] at H
 have c2b0:=decide_eq_false c2
 clear c2
 obtain rfl:=Option.some.inj H
 go_enter Tryz.func104,Tryz.ntmps104
 go_wp2_with (first|((with_reducible refine gate_dst (N:=1) rfl ?_);refine box_event rfl (N:=1) rfl (cs:=#[.string a0_0,.int .i64 a0_1,.int .i64 a0_2,.int .i64 a0_3]) (t:=131) zS ?_;intro gb172 hg w5 hbox hb;have GW172:=zG hg zb0;have GE172:=GW172;have BK172:=Aside0.mk hbox;replace HB:=Aside0.mk (below_step zb0 hb);clear hb hbox hg;have hcz6_0:w5.cell? ⟨gb172,0,none⟩=some (.string a0_0):=(blk_cell BK172.out 0).trans rfl;have hcz6_1:w5.cell? ⟨gb172,1,none⟩=some (.int .i64 a0_1):=(blk_cell BK172.out 1).trans rfl;have hcz6_2:w5.cell? ⟨gb172,2,none⟩=some (.int .i64 a0_2):=(blk_cell BK172.out 2).trans rfl;have hcz6_3:w5.cell? ⟨gb172,3,none⟩=some (.int .i64 a0_3):=(blk_cell BK172.out 3).trans rfl;have hfz6_0:=blk_frozen BK172.out 0;have hfz6_1:=blk_frozen BK172.out 1;have hfz6_2:=blk_frozen BK172.out 2;have hfz6_3:=blk_frozen BK172.out 3))
 go_ret
 exact ⟨zb2,zb78⟩
/-- What is asked of a test of such structs that is handed over. -/
def TestOf_Field (g:Nat) (lb:Array Value) (q:S36 → Option Bool) (w:World):Prop :=
 ∀ (W:World) (x:S36) (b:Bool),Below w.heap.size w W → q x=some b → Calls Tryz.prog g (#[.agg #[.string x.f0,.string x.f1]] ++ lb) W fun e w' => e = .returned (.bool b)∧Below W.heap.size W w'
set_option maxHeartbeats 4000000 in
set_option maxRecDepth 100000 in
theorem slices_IndexFunc_Field.callsOf (q:S36 → Option Bool) (g:Nat) (lb:Array Value) (eg : ∀ args w,(callFunc g args).run Tryz.prog w = .ok (.enter g args) w) (A_:Option Addr) (c_:Nat) (l0:List (S36)) (r:Int) (w:World) (hr0:Kd.C k36 w A_ l0.length l0) (hc0:l0.length ≤ c_)
 (hq:TestOf_Field g lb q w) (h:idxO q l0 0=some r) :
 Calls Tryz.prog 198 #[.slice A_ l0.length c_,.func (.func g) #[] lb] w fun e w' => e = .returned (.int .i64 r)∧Below w.heap.size w w' := by
 have hu:=Tryz.underlying36
 have HR:=Aside0.mk hr0
 have HQ:=Aside0.mk hq
 have H0:=Aside0.mk (show idxO q (l0.drop (0:Int).toNat) 0=some r from h)
 have HM:=Aside0.mk (show l0.length ≤ 9223372036854775807 from hr0.2.1)
 clear hr0 hq h
 go_enter Tryz.func198,Tryz.ntmps198
 go_wp2
 go_loopg [5,8] l0.length (fun kq _ v8 wr => ∃ (x8:Int),v8 = .int .i64 x8∧Aside0 (0 ≤ x8∧x8 ≤ l0.length∧(l0.length:Int) - x8 ≤ kq)∧Aside0 (Below w.heap.size w wr)∧Aside0 (idxO q (l0.drop x8.toNat) x8=some r))
 case atStart=>exact ⟨0,rfl,⟨zb18⟩,⟨Below.refl _ w⟩,H0⟩
 case round =>
  obtain ⟨x8,rfl,HX,BW,HH⟩:=hrel
  clear H0
  by_cases c4:x8 < (l0.length:Int);rotate_left
  ·have c4b0:=decide_eq_false c4
   have hx:=HH.out
   rw [List.drop_of_length_le zb85,idxO] at hx
   injection hx with hx
   clear c4
   go_wp2
   go_ret
   subst hx
   exact ⟨zb20,BW.out⟩
  have c4b0:=decide_eq_true c4
  have hx:=HH.out
  have hlt:x8.toNat < l0.length:=by have:=HX.out;omega
  rw [List.drop_eq_getElem_cons hlt,idxO] at hx
  obtain ⟨b,hb,hx⟩:=Option.bind_eq_some_iff.1 hx
  have hrd:rd_T36 l0 x8=l0[x8.toNat]:=by unfold rd_T36;rw [List.getD_eq_getElem?_getD,List.getElem?_eq_getElem hlt];rfl
  obtain ⟨ad,he,h0,h1⟩:=at_T36 HR.out x8 HX.out.1 c4
  replace h0:=(BW.out.cell (World.block_lt_of_cell? w _ h0)).trans h0
  replace h1:=(BW.out.cell (World.block_lt_of_cell? w _ h1)).trans h1
  have hcall:=HQ.out wr l0[x8.toNat] b BW.out hb
  rw [← hrd] at hcall
  obtain ⟨y,hy⟩ : ∃ y,rd_T36 l0 x8=y:=⟨_,rfl⟩
  rw [hy] at hcall h0 h1
  have HCALL:=Aside0.mk hcall
  have HN:=Aside0.mk hx
  have p8:(0 ≤ x8)=True:=eq_true HX.out.1
  have q8:(x8 < (l0.length:Int))=True:=eq_true c4
  clear hx hb hrd HH hy hcall c4
  subst he
  cases b with
  | true =>
   go_wp2_with (go_at_fn g;refine HCALL.out.mono ?_;rintro e w' ⟨rfl,hb'⟩)
   go_ret
   have hx:=HN.out
   simp only [if_true,Option.some.injEq] at hx
   subst hx
   exact ⟨zb20,BW.out.trans (sl_base (Below.size BW.out) hb')⟩
  | false =>
   go_wp2_with (go_at_fn g;refine HCALL.out.mono ?_;rintro e w' ⟨rfl,hb'⟩)
   go_roundg (gk - 1)
   case measure=>have:=HX.out;have:=of_eq_true q8;omega
   case rel =>
    have hx:=HN.out
    simp only [Bool.false_eq_true,if_false] at hx
    have hx8:=HX.out
    have hq8:=of_eq_true q8
    have hw:wrap64 (x8 + 1)=x8 + 1:=by have:=HM.out;unfold wrap64;omega
    refine ⟨wrap64 (x8 + 1),rfl,⟨zb92⟩,⟨BW.out.trans (sl_base (Below.size BW.out) hb')⟩,⟨?_⟩⟩
    rw [hw,show (x8 + 1).toNat=x8.toNat + 1 by omega]
    exact hx
set_option maxHeartbeats 4000000 in
set_option maxRecDepth 100000 in
theorem slices_ContainsFunc_Field.callsOf (q:S36 → Option Bool) (g:Nat) (lb:Array Value) (eg : ∀ args w,(callFunc g args).run Tryz.prog w = .ok (.enter g args) w) (A_:Option Addr) (c_:Nat) (l0:List (S36)) (r:Bool) (w:World) (hr0:Kd.C k36 w A_ l0.length l0) (hc0:l0.length ≤ c_)
 (hq:TestOf_Field g lb q w) (h:anyO q l0=some r) :
 Calls Tryz.prog 182 #[.slice A_ l0.length c_,.func (.func g) #[] lb] w fun e w' => e = .returned (.bool r)∧Below w.heap.size w w' := by
 obtain ⟨j,hj,hb⟩:=idxO_any q l0 0 r zb18 h
 have HC:=Aside0.mk (slices_IndexFunc_Field.callsOf q g lb eg A_ c_ l0 j w hr0 hc0 hq hj)
 have HBB:=Aside0.mk hb
 clear hb hj h hq hr0 hc0 eg
 go_enter Tryz.func182,Tryz.ntmps182
 go_wp2_with (go_at_call 198;refine HC.out.mono ?_;rintro e w' ⟨rfl,hb'⟩)
 go_ret
 have e:=HBB.out
 subst e
 exact ⟨zb20,hb'⟩
/-- At a cutset of ASCII bytes. -/
def strings_Trim.f (a0 a1:ByteArray):Option ByteArray :=
 if a0.size ≤ 9223372036854775807∧a1.size < 4294967281∧a1.data.toList.all (fun b=>decide (b.toNat < 128))=true then some ⟨(Lib.trimS a0.data.toList a1.data.toList).toArray⟩ else none
theorem strings_Trim.calls (a0 a1:ByteArray) (r:ByteArray) (w:World) (h:strings_Trim.f a0 a1=some r) :
 Calls Tryz.prog 91 #[.string a0,.string a1] w fun e w' => e = .returned (.string r)∧Below w.heap.size w w' := by
 unfold strings_Trim.f at h
 split at h
 ·rename_i hc
  obtain rfl:=Option.some.inj h
  exact Go.Proofs.Any.strings_Trim_laid Tryz.lays160 zb10 a0 a1 w hc.1 hc.2.1 (Go.Proofs.ascii_of_all hc.2.2)
 cases h
def sign_Trim.f (a0:ByteArray):Option (ByteArray):=(strings_Trim.f a0 (⟨#[32,9]⟩:ByteArray)).bind fun t178=>(some t178)
set_option maxHeartbeats 8000000 in
set_option maxRecDepth 100000 in
theorem sign_Trim.calls (a0:ByteArray) (r:ByteArray) (w:World) (h:sign_Trim.f a0=some r) :
 Calls Tryz.prog 153 #[.string a0] w fun e w' => e = .returned (.string r)∧Below w.heap.size w w' := by
 have HB:=Aside0.mk (Below.refl w.heap.size w)
 unfold sign_Trim.f at h
 have H:=h
 clear h
 replace H:=Option.bind_eq_some_iff.mp H
 obtain ⟨t178,A20,H⟩:=H
 try dsimp only at H
 have A2:=Aside0.mk A20
 clear A20
 obtain rfl:=Option.some.inj H
 go_enter Tryz.func153,Tryz.ntmps153
 go_wp2_with (first|((with_reducible refine gate_callee (f:=91) rfl ?_);refine goesL_ (some 4) rfl rfl Tryz.func91 zb10 rfl #[.string a0,.string (⟨#[32,9]⟩:ByteArray)] rfl zb1 ?_;(with_reducible refine (strings_Trim.calls a0 (⟨#[32,9]⟩:ByteArray) t178 _ A2.out).mono ?_);rintro e w3 ⟨rfl,hb⟩;(try clear A2);refine ⟨_,rfl,?_⟩;replace HB:=Aside0.mk (below_step zb0 hb);(try clear hb)))
 go_ret
 exact ⟨zb2,zb0⟩
def sign_Value_1.f (a0:Int):Option (Bool):=if a0 ≥ 32 then (if a0=127 then (some (a0 == 9)) else (some true)) else (some (a0 == 9))
set_option maxHeartbeats 8000000 in
set_option maxRecDepth 100000 in
theorem sign_Value_1.calls (a0:Int) (r:Bool) (w:World) (h:sign_Value_1.f a0=some r) :
 Calls Tryz.prog 159 #[.int .u8 a0] w fun e w' => e = .returned (.bool r)∧Drawn0 w w' := by
 unfold sign_Value_1.f at h
 have H:=h
 clear h
 by_cases c2:a0 ≥ 32;rotate_left
 ·rw [if_neg c2] at H
  have c2b0:decide (32 ≤ a0)=false:=decide_eq_false c2
  clear c2
  obtain rfl:=Option.some.inj H
  go_enter Tryz.func159,Tryz.ntmps159
  go_wp2
  go_ret
  exact ⟨zb4,zb8⟩
 rw [if_pos c2] at H
 have c2b0:decide (32 ≤ a0)=true:=decide_eq_true c2
 clear c2
 by_cases c3:a0=127
 ·rw [if_pos c3] at H
  have c3b0:=beq_iff_eq.mpr c3
  have c3b1:=bne_eq_false_iff_eq.mpr c3
  clear c3
  obtain rfl:=Option.some.inj H
  go_enter Tryz.func159,Tryz.ntmps159
  go_wp2
  go_ret
  exact ⟨zb4,zb8⟩
 ·rw [if_neg c3] at H
  have c3b0:=beq_eq_false_iff_ne.mpr c3
  have c3b1:=bne_iff_ne.mpr c3
  obtain rfl:=Option.some.inj H
  go_enter Tryz.func159,Tryz.ntmps159
  go_wp2
  go_ret
  exact ⟨zb4,zb8⟩
def sign_Value.f (a0:ByteArray):Option Bool:=if a0.size ≤ 140737488355328 then some ((bytesOf a0).all fun c=>(sign_Value_1.f c).getD false) else none
theorem sign_Value_1.tells (c:Int) : ∃ b,sign_Value_1.f c=some b:=by
 unfold sign_Value_1.f
 repeat' split
 all_goals exact ⟨_,rfl⟩
theorem sign_Value_1.any (c:Int) (w:World):Calls Tryz.prog 159 #[.int .u8 c] w fun e w' => e = .returned (.bool ((sign_Value_1.f c).getD false))∧Drawn0 w w' := by
 obtain ⟨b,hb⟩:=sign_Value_1.tells c
 have:=sign_Value_1.calls c b w hb
 rw [hb]
 exact this
theorem sign_Value.calls (a0:ByteArray) (r:Bool) (w:World) (h:sign_Value.f a0=some r) :
 Calls Tryz.prog 114 #[.string a0] w fun e w' => e = .returned (.bool r)∧Drawn0 w w' := by
 unfold sign_Value.f at h
 by_cases h0:a0.size ≤ 140737488355328;rotate_left
 ·rw [if_neg h0] at h
  cases h
 rw [if_pos h0] at h
 obtain rfl:=Option.some.inj h
 clear h
 have he : ∀ args w,(callFunc 159 args).run Tryz.prog w = .ok (.enter 159 args) w:=fun args w=>enters_ Tryz.func159 zb10 rfl args w
 have HC:=Aside0.mk (fun w' => sign_all.callsOf 159 (fun c=>(sign_Value_1.f c).getD false) he (fun c w _ _=>sign_Value_1.any c w) a0 h0 w')
 clear he h0
 go_enter Tryz.func114,Tryz.ntmps114
 go_wp2_with (go_at_call 158;(with_reducible refine (HC.out _).mono ?_);rintro e w' ⟨rfl,⟨nd,rfl⟩⟩)
 go_ret
 exact ⟨rfl,zb8⟩
def field_right.f (a0_0:ByteArray) (a0_1:ByteArray):Option (Bool):=if (a0_0.size:Int) ≤ 100 then ((sign_Token.f a0_0).bind fun t180=>(if t180=true then (if (a0_1.size:Int) ≤ 1000 then ((sign_Value.f a0_1).bind fun t181=>(if t181=true then ((sign_Trim.f a0_1).bind fun t182=>(some (t182.toList == a0_1.toList))) else (some false))) else (some false)) else (some false))) else (some false)
def field_right.T1:Bool × List (List Nat × List Nat):=(true,[([],[]),([0],[0]),([1],[1]),([2],[2]),([3],[3]),([4],[4]),([5,4],[4,5]),([6,4,4],[4,6]),([4,7],[4,7]),([8,7],[8]),([9],[9]),([10,9],[9,10]),([11,9],[9,11]),([12,9],[9,12]),([9,13],[9,13]),([14,9],[14]),([15],[15]),([16,15],[15,16]),([17,15,15],[15,17]),([15,18],[15,18]),([19,18],[19]),([20],[20]),([21,20],[20,21]),([22,20,20],[20,22]),([20],[20]),([24,20],[20,24]),([23,25,20],[20,23,25]),([20,26],[20,26]),([27,23,0,1,2,3,4,5,6,7,8,9,10,11,12,13,14,15,16,17,18,19,20,21,22,23,24,25,26,27],[27])])
def field_right.B1:List Nat:=[0,1,3,7,15,31,63,127,255,511,1023,2047,4095,8191,16383,32767,65535,131071,262143,524287,1048575,2097151,4194303,8388607,2097151,18874367,67108863,134217727,268435455]
theorem field_right.tab1:rtab .any (opsOf Tryz.f154 1)=field_right.T1:=by kernel_rfl
theorem field_right.bits1:waitsOk field_right.T1.2 field_right.B1=true:=by kernel_rfl
set_option maxHeartbeats 8000000 in
set_option maxRecDepth 100000 in
theorem field_right.calls (a0_0:ByteArray) (a0_1:ByteArray) (r:Bool) (w:World) (h:field_right.f a0_0 a0_1=some r) :
 Calls Tryz.prog 154 #[.agg #[.string a0_0,.string a0_1]] w fun e w' => e = .returned (.bool r)∧Below w.heap.size w w' := by
 have hu36:=Tryz.underlying36
 have HB:=Aside0.mk (Below.refl w.heap.size w)
 unfold field_right.f at h
 have H:=h
 clear h
 by_cases c2:(a0_0.size:Int) ≤ 100;rotate_left
 ·rw [if_neg c2] at H
  have c2b0:=decide_eq_false c2
  have c2b1:decide (a0_0.size ≤ 100)=false:=decide_eq_false zb18
  clear c2
  obtain rfl:=Option.some.inj H
  go_enter Tryz.func154,Tryz.ntmps154
  try go_wp2_with (first|((with_reducible refine gate_dst (N:=1) rfl ?_);(try (refine gate_guard zb41 ?_;dsimp only));refine box_event rfl (N:=1) rfl (cs:=#[.string a0_0,.string a0_1]) (t:=36) zS ?_;intro gb20 hg w18 hbox hb;have GW20:=zG hg zb0;have GE20:=GW20;have BK20:=Aside0.mk hbox;replace HB:=Aside0.mk (below_step zb0 hb);clear hb hbox hg))
  replace BK20:=Aside0.mk (blk_drew BK20.out)
  replace HB:=Aside0.mk (below_drew1 HB.out)
  refine start_ (n:=29) (S:=fun w' => w'.cell? ⟨gb20,0,none⟩=some (.string a0_0)∧w'.cell? ⟨gb20,1,none⟩=some (.string a0_1)) (ds:=[]) (zl 29 0) zb10 rfl rfl ⟨(blk_cell BK20.out 0).trans rfl,(blk_cell BK20.out 1).trans rfl⟩ (fun hHeld=>?_);refine with_tabW field_right.tab1 field_right.bits1 (fun HT_ HW_=>?_)
  generalize w18.drew=w19 at BK20 HB hHeld ⊢
  refine zpu 0 (N:=some 3) (zl 29 1) HT_.out rfl rfl ?_
  refine take_ (i:=1) (N:=some 4) (v:=?_) (a' := ?_) (zl 29 3) rfl rfl (take_ofW HT_.out HW_.out zb10) (fun _ _ _ h=>h) (Or.inl ⟨zb41,?_⟩) hHeld ?_ ?_
  rotate_left
  ·rintro w' ⟨s0,s1⟩;go_simp;with_reducible rfl
  rotate_left
  ·simp only [Act.put,zqA,zqB,zqC,i64_w,i32_w];rfl
  refine zpu 2 (N:=some 5) (zl 29 7) HT_.out rfl rfl ?_
  refine zpu 3 (N:=some 6) (zl 29 15) HT_.out rfl rfl ?_
  refine zpu 4 (N:=some 7) (zl 29 31) HT_.out rfl rfl ?_
  refine pure_ (i:=5) (N:=some 8) (v:=undef) (a' := ?_) (zl 29 63) rfl rfl (any_of HT_.out zb10) (fun _ _ _ h=>h) (Or.inr ⟨zb41,rfl⟩) ?_ ?_
  rotate_left
  ·simp only [Act.put,zqA,zqB,zqC,i64_w,i32_w];rfl
  refine pure_ (i:=6) (N:=some 9) (v:=undef) (a' := ?_) (zl 29 127) rfl rfl (any_of HT_.out zb10) (fun _ _ _ h=>h) (Or.inr ⟨zb41,rfl⟩) ?_ ?_
  rotate_left
  ·simp only [Act.put,zqA,zqB,zqC,i64_w,i32_w];rfl
  refine pure_ (i:=7) (N:=some 10) (v:=undef) (a' := ?_) (zl 29 255) rfl rfl (any_of HT_.out zb10) (fun _ _ _ h=>h) (Or.inr ⟨zb41,rfl⟩) ?_ ?_
  rotate_left
  ·simp only [Act.put,zqA,zqB,zqC,i64_w,i32_w];rfl
  refine zpu 8 (N:=some 11) (zl 29 511) HT_.out rfl rfl ?_
  refine zpu 9 (N:=some 12) (zl 29 1023) HT_.out rfl rfl ?_
  refine pure_ (i:=10) (N:=some 13) (v:=undef) (a' := ?_) (zl 29 2047) rfl rfl (any_of HT_.out zb10) (fun _ _ _ h=>h) (Or.inr ⟨zb41,rfl⟩) ?_ ?_
  rotate_left
  ·simp only [Act.put,zqA,zqB,zqC,i64_w,i32_w];rfl
  refine pure_ (i:=11) (N:=some 14) (v:=undef) (a' := ?_) (zl 29 4095) rfl rfl (any_of HT_.out zb10) (fun _ _ _ h=>h) (Or.inr ⟨zb41,rfl⟩) ?_ ?_
  rotate_left
  ·simp only [Act.put,zqA,zqB,zqC,i64_w,i32_w];rfl
  refine pure_ (i:=12) (N:=some 15) (v:=undef) (a' := ?_) (zl 29 8191) rfl rfl (any_of HT_.out zb10) (fun _ _ _ h=>h) (Or.inr ⟨zb41,rfl⟩) ?_ ?_
  rotate_left
  ·simp only [Act.put,zqA,zqB,zqC,i64_w,i32_w];rfl
  refine pure_ (i:=13) (N:=some 16) (v:=undef) (a' := ?_) (zl 29 16383) rfl rfl (any_of HT_.out zb10) (fun _ _ _ h=>h) (Or.inr ⟨zb41,rfl⟩) ?_ ?_
  rotate_left
  ·simp only [Act.put,zqA,zqB,zqC,i64_w,i32_w];rfl
  refine zpu 14 (N:=some 17) (zl 29 32767) HT_.out rfl rfl ?_
  refine zpu 15 (N:=some 18) (zl 29 65535) HT_.out rfl rfl ?_
  refine pure_ (i:=16) (N:=some 19) (v:=undef) (a' := ?_) (zl 29 131071) rfl rfl (any_of HT_.out zb10) (fun _ _ _ h=>h) (Or.inr ⟨zb41,rfl⟩) ?_ ?_
  rotate_left
  ·simp only [Act.put,zqA,zqB,zqC,i64_w,i32_w];rfl
  refine pure_ (i:=17) (N:=some 20) (v:=undef) (a' := ?_) (zl 29 262143) rfl rfl (any_of HT_.out zb10) (fun _ _ _ h=>h) (Or.inr ⟨zb41,rfl⟩) ?_ ?_
  rotate_left
  ·simp only [Act.put,zqA,zqB,zqC,i64_w,i32_w];rfl
  refine pure_ (i:=18) (N:=some 21) (v:=undef) (a' := ?_) (zl 29 524287) rfl rfl (any_of HT_.out zb10) (fun _ _ _ h=>h) (Or.inr ⟨zb41,rfl⟩) ?_ ?_
  rotate_left
  ·simp only [Act.put,zqA,zqB,zqC,i64_w,i32_w];rfl
  refine zpu 19 (N:=some 22) (zl 29 1048575) HT_.out rfl rfl ?_
  refine zpu 20 (N:=some 23) (zl 29 2097151) HT_.out rfl rfl ?_
  refine pure_ (i:=21) (N:=some 24) (v:=undef) (a' := ?_) (zl 29 4194303) rfl rfl (any_of HT_.out zb10) (fun _ _ _ h=>h) (Or.inr ⟨zb41,rfl⟩) ?_ ?_
  rotate_left
  ·simp only [Act.put,zqA,zqB,zqC,i64_w,i32_w];rfl
  refine pure_ (i:=22) (N:=some 25) (v:=undef) (a' := ?_) (zl 29 8388607) rfl rfl (any_of HT_.out zb10) (fun _ _ _ h=>h) (Or.inr ⟨zb41,rfl⟩) ?_ ?_
  rotate_left
  ·simp only [Act.put,zqA,zqB,zqC,i64_w,i32_w];rfl
  refine pure_ (i:=23) (N:=some 26) (v:=undef) (a' := ?_) (zl 29 16777215) rfl rfl (any_of HT_.out zb10) (fun _ _ _ h=>h) (Or.inr ⟨zb41,rfl⟩) ?_ ?_
  rotate_left
  ·simp only [Act.put,zqA,zqB,zqC,i64_w,i32_w];rfl
  refine pure_ (i:=24) (N:=some 27) (v:=undef) (a' := ?_) (zl 29 33554431) rfl rfl (any_of HT_.out zb10) (fun _ _ _ h=>h) (Or.inr ⟨zb41,rfl⟩) ?_ ?_
  rotate_left
  ·simp only [Act.put,zqA,zqB,zqC,i64_w,i32_w];rfl
  refine pure_ (i:=25) (N:=some 28) (v:=undef) (a' := ?_) (zl 29 67108863) rfl rfl (any_of HT_.out zb10) (fun _ _ _ h=>h) (Or.inr ⟨zb41,rfl⟩) ?_ ?_
  rotate_left
  ·simp only [Act.put,zqA,zqB,zqC,i64_w,i32_w];rfl
  refine pure_ (i:=26) (N:=some 29) (v:=undef) (a' := ?_) (zl 29 134217727) rfl rfl (any_of HT_.out zb10) (fun _ _ _ h=>h) (Or.inr ⟨zb41,rfl⟩) ?_ ?_
  rotate_left
  ·simp only [Act.put,zqA,zqB,zqC,i64_w,i32_w];rfl
  refine zpu 27 (N:=some 30) (zl 29 268435455) HT_.out rfl rfl ?_
  refine zpu 28 (N:=some 2) (zl 29 536870911) HT_.out rfl rfl ?_
  refine done_ (done_of HT_.out zb10) ?_
  try go_wp2
  go_ret
  exact ⟨zb2,zb35⟩
 rw [if_pos c2] at H
 have c2b0:=decide_eq_true c2
 have c2b1:decide (a0_0.size ≤ 100)=true:=decide_eq_true zb18
 clear c2
 replace H:=Option.bind_eq_some_iff.mp H
 obtain ⟨t23,A30,H⟩:=H
 try dsimp only at H
 have A3:=Aside0.mk A30
 clear A30
 by_cases c4:t23=true;rotate_left
 ·replace c4:=Bool.eq_false_iff.mpr c4
  subst c4
  rw [if_neg (show ¬ (false=true) by decide)] at H
  obtain rfl:=Option.some.inj H
  go_enter Tryz.func154,Tryz.ntmps154
  try go_wp2_with (first|((with_reducible refine gate_dst (N:=1) rfl ?_);(try (refine gate_guard zb41 ?_;dsimp only));refine box_event rfl (N:=1) rfl (cs:=#[.string a0_0,.string a0_1]) (t:=36) zS ?_;intro gb20 hg w16 hbox hb;have GW20:=zG hg zb0;have GE20:=GW20;have BK20:=Aside0.mk hbox;replace HB:=Aside0.mk (below_step zb0 hb);clear hb hbox hg))
  replace BK20:=Aside0.mk (blk_drew BK20.out)
  replace HB:=Aside0.mk (below_drew1 HB.out)
  refine start_ (n:=29) (S:=fun w' => w'.cell? ⟨gb20,0,none⟩=some (.string a0_0)∧w'.cell? ⟨gb20,1,none⟩=some (.string a0_1)) (ds:=[]) (zl 29 0) zb10 rfl rfl ⟨(blk_cell BK20.out 0).trans rfl,(blk_cell BK20.out 1).trans rfl⟩ (fun hHeld=>?_);refine with_tabW field_right.tab1 field_right.bits1 (fun HT_ HW_=>?_)
  generalize w16.drew=w17 at BK20 HB hHeld ⊢
  refine zpu 0 (N:=some 3) (zl 29 1) HT_.out rfl rfl ?_
  refine take_ (i:=1) (N:=some 4) (v:=?_) (a' := ?_) (zl 29 3) rfl rfl (take_ofW HT_.out HW_.out zb10) (fun _ _ _ h=>h) (Or.inl ⟨zb41,?_⟩) hHeld ?_ ?_
  rotate_left
  ·rintro w' ⟨s0,s1⟩;go_simp;with_reducible rfl
  rotate_left
  ·simp only [Act.put,zqA,zqB,zqC,i64_w,i32_w];rfl
  refine zpu 2 (N:=some 5) (zl 29 7) HT_.out rfl rfl ?_
  refine zpu 3 (N:=some 6) (zl 29 15) HT_.out rfl rfl ?_
  refine zpu 4 (N:=some 7) (zl 29 31) HT_.out rfl rfl ?_
  refine zpu 5 (N:=some 8) (zl 29 63) HT_.out rfl rfl ?_
  refine take_ (i:=6) (N:=some 9) (v:=?_) (a' := ?_) (zl 29 127) rfl rfl (take_ofW HT_.out HW_.out zb10) (fun _ _ _ h=>h) (Or.inl ⟨zb41,?_⟩) hHeld ?_ ?_
  rotate_left
  ·rintro w' ⟨s0,s1⟩;go_simp;with_reducible rfl
  rotate_left
  ·simp only [Act.put,zqA,zqB,zqC,i64_w,i32_w];rfl
  refine one_ (i:=7) (N:=some 10) (zl 29 255) rfl rfl (one_of HT_.out zb10) zb27 (fun K hK=>?_)
  refine goes_ Tryz.func117 zb10 rfl #[.string a0_0] zb41 rfl rfl zb1 ?_
  with_reducible refine (sign_Token.calls a0_0 false _ A3.out).mono ?_
  rintro e w' ⟨rfl,⟨nd,rfl⟩⟩
  refine ⟨_,rfl,?_⟩
  refine hK.out _ _ ⟨(blk_cell BK20.out 0).trans rfl,(blk_cell BK20.out 1).trans rfl⟩ (fun hHeld=>?_)
  clear hK K
  refine norm_ (a' := ?_) ?_ ?_
  rotate_left
  ·show Act.put _ (some 10) _=_
   simp only [Act.put,zqA,zqB,zqC,i64_w,i32_w]
   rfl
  refine zpu 8 (N:=some 11) (zl 29 511) HT_.out rfl rfl ?_
  refine zpu 9 (N:=some 12) (zl 29 1023) HT_.out rfl rfl ?_
  refine pure_ (i:=10) (N:=some 13) (v:=undef) (a' := ?_) (zl 29 2047) rfl rfl (any_of HT_.out zb10) (fun _ _ _ h=>h) (Or.inr ⟨zb41,rfl⟩) ?_ ?_
  rotate_left
  ·simp only [Act.put,zqA,zqB,zqC,i64_w,i32_w];rfl
  refine pure_ (i:=11) (N:=some 14) (v:=undef) (a' := ?_) (zl 29 4095) rfl rfl (any_of HT_.out zb10) (fun _ _ _ h=>h) (Or.inr ⟨zb41,rfl⟩) ?_ ?_
  rotate_left
  ·simp only [Act.put,zqA,zqB,zqC,i64_w,i32_w];rfl
  refine pure_ (i:=12) (N:=some 15) (v:=undef) (a' := ?_) (zl 29 8191) rfl rfl (any_of HT_.out zb10) (fun _ _ _ h=>h) (Or.inr ⟨zb41,rfl⟩) ?_ ?_
  rotate_left
  ·simp only [Act.put,zqA,zqB,zqC,i64_w,i32_w];rfl
  refine pure_ (i:=13) (N:=some 16) (v:=undef) (a' := ?_) (zl 29 16383) rfl rfl (any_of HT_.out zb10) (fun _ _ _ h=>h) (Or.inr ⟨zb41,rfl⟩) ?_ ?_
  rotate_left
  ·simp only [Act.put,zqA,zqB,zqC,i64_w,i32_w];rfl
  refine zpu 14 (N:=some 17) (zl 29 32767) HT_.out rfl rfl ?_
  refine zpu 15 (N:=some 18) (zl 29 65535) HT_.out rfl rfl ?_
  refine pure_ (i:=16) (N:=some 19) (v:=undef) (a' := ?_) (zl 29 131071) rfl rfl (any_of HT_.out zb10) (fun _ _ _ h=>h) (Or.inr ⟨zb41,rfl⟩) ?_ ?_
  rotate_left
  ·simp only [Act.put,zqA,zqB,zqC,i64_w,i32_w];rfl
  refine pure_ (i:=17) (N:=some 20) (v:=undef) (a' := ?_) (zl 29 262143) rfl rfl (any_of HT_.out zb10) (fun _ _ _ h=>h) (Or.inr ⟨zb41,rfl⟩) ?_ ?_
  rotate_left
  ·simp only [Act.put,zqA,zqB,zqC,i64_w,i32_w];rfl
  refine pure_ (i:=18) (N:=some 21) (v:=undef) (a' := ?_) (zl 29 524287) rfl rfl (any_of HT_.out zb10) (fun _ _ _ h=>h) (Or.inr ⟨zb41,rfl⟩) ?_ ?_
  rotate_left
  ·simp only [Act.put,zqA,zqB,zqC,i64_w,i32_w];rfl
  refine zpu 19 (N:=some 22) (zl 29 1048575) HT_.out rfl rfl ?_
  refine zpu 20 (N:=some 23) (zl 29 2097151) HT_.out rfl rfl ?_
  refine pure_ (i:=21) (N:=some 24) (v:=undef) (a' := ?_) (zl 29 4194303) rfl rfl (any_of HT_.out zb10) (fun _ _ _ h=>h) (Or.inr ⟨zb41,rfl⟩) ?_ ?_
  rotate_left
  ·simp only [Act.put,zqA,zqB,zqC,i64_w,i32_w];rfl
  refine pure_ (i:=22) (N:=some 25) (v:=undef) (a' := ?_) (zl 29 8388607) rfl rfl (any_of HT_.out zb10) (fun _ _ _ h=>h) (Or.inr ⟨zb41,rfl⟩) ?_ ?_
  rotate_left
  ·simp only [Act.put,zqA,zqB,zqC,i64_w,i32_w];rfl
  refine pure_ (i:=23) (N:=some 26) (v:=undef) (a' := ?_) (zl 29 16777215) rfl rfl (any_of HT_.out zb10) (fun _ _ _ h=>h) (Or.inr ⟨zb41,rfl⟩) ?_ ?_
  rotate_left
  ·simp only [Act.put,zqA,zqB,zqC,i64_w,i32_w];rfl
  refine pure_ (i:=24) (N:=some 27) (v:=undef) (a' := ?_) (zl 29 33554431) rfl rfl (any_of HT_.out zb10) (fun _ _ _ h=>h) (Or.inr ⟨zb41,rfl⟩) ?_ ?_
  rotate_left
  ·simp only [Act.put,zqA,zqB,zqC,i64_w,i32_w];rfl
  refine pure_ (i:=25) (N:=some 28) (v:=undef) (a' := ?_) (zl 29 67108863) rfl rfl (any_of HT_.out zb10) (fun _ _ _ h=>h) (Or.inr ⟨zb41,rfl⟩) ?_ ?_
  rotate_left
  ·simp only [Act.put,zqA,zqB,zqC,i64_w,i32_w];rfl
  refine pure_ (i:=26) (N:=some 29) (v:=undef) (a' := ?_) (zl 29 134217727) rfl rfl (any_of HT_.out zb10) (fun _ _ _ h=>h) (Or.inr ⟨zb41,rfl⟩) ?_ ?_
  rotate_left
  ·simp only [Act.put,zqA,zqB,zqC,i64_w,i32_w];rfl
  refine zpu 27 (N:=some 30) (zl 29 268435455) HT_.out rfl rfl ?_
  refine zpu 28 (N:=some 2) (zl 29 536870911) HT_.out rfl rfl ?_
  refine done_ (done_of HT_.out zb10) ?_
  try go_wp2
  go_ret
  exact ⟨zb2,zb35⟩
 subst c4
 rw [if_pos rfl] at H
 by_cases c5:(a0_1.size:Int) ≤ 1000
 ·rw [if_pos c5] at H
  have c5b0:=decide_eq_true c5
  have c5b1:decide (a0_1.size ≤ 1000)=true:=decide_eq_true zb18
  clear c5
  replace H:=Option.bind_eq_some_iff.mp H
  obtain ⟨t22,A60,H⟩:=H
  try dsimp only at H
  have A6:=Aside0.mk A60
  clear A60
  by_cases c7:t22=true;rotate_left
  ·replace c7:=Bool.eq_false_iff.mpr c7
   subst c7
   rw [if_neg (show ¬ (false=true) by decide)] at H
   obtain rfl:=Option.some.inj H
   go_enter Tryz.func154,Tryz.ntmps154
   try go_wp2_with (first|((with_reducible refine gate_dst (N:=1) rfl ?_);(try (refine gate_guard zb41 ?_;dsimp only));refine box_event rfl (N:=1) rfl (cs:=#[.string a0_0,.string a0_1]) (t:=36) zS ?_;intro gb20 hg w12 hbox hb;have GW20:=zG hg zb0;have GE20:=GW20;have BK20:=Aside0.mk hbox;replace HB:=Aside0.mk (below_step zb0 hb);clear hb hbox hg))
   replace BK20:=Aside0.mk (blk_drew BK20.out)
   replace HB:=Aside0.mk (below_drew1 HB.out)
   refine start_ (n:=29) (S:=fun w' => w'.cell? ⟨gb20,0,none⟩=some (.string a0_0)∧w'.cell? ⟨gb20,1,none⟩=some (.string a0_1)) (ds:=[]) (zl 29 0) zb10 rfl rfl ⟨(blk_cell BK20.out 0).trans rfl,(blk_cell BK20.out 1).trans rfl⟩ (fun hHeld=>?_);refine with_tabW field_right.tab1 field_right.bits1 (fun HT_ HW_=>?_)
   generalize w12.drew=w13 at BK20 HB hHeld ⊢
   refine zpu 0 (N:=some 3) (zl 29 1) HT_.out rfl rfl ?_
   refine take_ (i:=1) (N:=some 4) (v:=?_) (a' := ?_) (zl 29 3) rfl rfl (take_ofW HT_.out HW_.out zb10) (fun _ _ _ h=>h) (Or.inl ⟨zb41,?_⟩) hHeld ?_ ?_
   rotate_left
   ·rintro w' ⟨s0,s1⟩;go_simp;with_reducible rfl
   rotate_left
   ·simp only [Act.put,zqA,zqB,zqC,i64_w,i32_w];rfl
   refine zpu 2 (N:=some 5) (zl 29 7) HT_.out rfl rfl ?_
   refine zpu 3 (N:=some 6) (zl 29 15) HT_.out rfl rfl ?_
   refine zpu 4 (N:=some 7) (zl 29 31) HT_.out rfl rfl ?_
   refine zpu 5 (N:=some 8) (zl 29 63) HT_.out rfl rfl ?_
   refine take_ (i:=6) (N:=some 9) (v:=?_) (a' := ?_) (zl 29 127) rfl rfl (take_ofW HT_.out HW_.out zb10) (fun _ _ _ h=>h) (Or.inl ⟨zb41,?_⟩) hHeld ?_ ?_
   rotate_left
   ·rintro w' ⟨s0,s1⟩;go_simp;with_reducible rfl
   rotate_left
   ·simp only [Act.put,zqA,zqB,zqC,i64_w,i32_w];rfl
   refine one_ (i:=7) (N:=some 10) (zl 29 255) rfl rfl (one_of HT_.out zb10) zb27 (fun K hK=>?_)
   refine goes_ Tryz.func117 zb10 rfl #[.string a0_0] zb41 rfl rfl zb1 ?_
   with_reducible refine (sign_Token.calls a0_0 true _ A3.out).mono ?_
   rintro e w' ⟨rfl,⟨nd,rfl⟩⟩
   refine ⟨_,rfl,?_⟩
   refine hK.out _ _ ⟨(blk_cell BK20.out 0).trans rfl,(blk_cell BK20.out 1).trans rfl⟩ (fun hHeld=>?_)
   clear hK K
   refine norm_ (a' := ?_) ?_ ?_
   rotate_left
   ·show Act.put _ (some 10) _=_
    simp only [Act.put,zqA,zqB,zqC,i64_w,i32_w]
    rfl
   refine zpu 8 (N:=some 11) (zl 29 511) HT_.out rfl rfl ?_
   refine zpu 9 (N:=some 12) (zl 29 1023) HT_.out rfl rfl ?_
   refine zpu 10 (N:=some 13) (zl 29 2047) HT_.out rfl rfl ?_
   refine take_ (i:=11) (N:=some 14) (v:=?_) (a' := ?_) (zl 29 4095) rfl rfl (take_ofW HT_.out HW_.out zb10) (fun _ _ _ h=>h) (Or.inl ⟨zb41,?_⟩) hHeld ?_ ?_
   rotate_left
   ·rintro w' ⟨s0,s1⟩;go_simp;with_reducible rfl
   rotate_left
   ·simp only [Act.put,zqA,zqB,zqC,i64_w,i32_w];rfl
   refine zpu 12 (N:=some 15) (zl 29 8191) HT_.out rfl rfl ?_
   refine zpu 13 (N:=some 16) (zl 29 16383) HT_.out rfl rfl ?_
   refine zpu 14 (N:=some 17) (zl 29 32767) HT_.out rfl rfl ?_
   refine zpu 15 (N:=some 18) (zl 29 65535) HT_.out rfl rfl ?_
   refine zpu 16 (N:=some 19) (zl 29 131071) HT_.out rfl rfl ?_
   refine take_ (i:=17) (N:=some 20) (v:=?_) (a' := ?_) (zl 29 262143) rfl rfl (take_ofW HT_.out HW_.out zb10) (fun _ _ _ h=>h) (Or.inl ⟨zb41,?_⟩) hHeld ?_ ?_
   rotate_left
   ·rintro w' ⟨s0,s1⟩;go_simp;with_reducible rfl
   rotate_left
   ·simp only [Act.put,zqA,zqB,zqC,i64_w,i32_w];rfl
   refine one_ (i:=18) (N:=some 21) (zl 29 524287) rfl rfl (one_of HT_.out zb10) zb27 (fun K hK=>?_)
   refine goes_ Tryz.func114 zb10 rfl #[.string a0_1] zb41 rfl rfl zb1 ?_
   with_reducible refine (sign_Value.calls a0_1 false _ A6.out).mono ?_
   rintro e w' ⟨rfl,⟨nd,rfl⟩⟩
   refine ⟨_,rfl,?_⟩
   refine hK.out _ _ ⟨(blk_cell BK20.out 0).trans rfl,(blk_cell BK20.out 1).trans rfl⟩ (fun hHeld=>?_)
   clear hK K
   refine norm_ (a' := ?_) ?_ ?_
   rotate_left
   ·show Act.put _ (some 21) _=_
    simp only [Act.put,zqA,zqB,zqC,i64_w,i32_w]
    rfl
   refine zpu 19 (N:=some 22) (zl 29 1048575) HT_.out rfl rfl ?_
   refine zpu 20 (N:=some 23) (zl 29 2097151) HT_.out rfl rfl ?_
   refine pure_ (i:=21) (N:=some 24) (v:=undef) (a' := ?_) (zl 29 4194303) rfl rfl (any_of HT_.out zb10) (fun _ _ _ h=>h) (Or.inr ⟨zb41,rfl⟩) ?_ ?_
   rotate_left
   ·simp only [Act.put,zqA,zqB,zqC,i64_w,i32_w];rfl
   refine pure_ (i:=22) (N:=some 25) (v:=undef) (a' := ?_) (zl 29 8388607) rfl rfl (any_of HT_.out zb10) (fun _ _ _ h=>h) (Or.inr ⟨zb41,rfl⟩) ?_ ?_
   rotate_left
   ·simp only [Act.put,zqA,zqB,zqC,i64_w,i32_w];rfl
   refine pure_ (i:=23) (N:=some 26) (v:=undef) (a' := ?_) (zl 29 16777215) rfl rfl (any_of HT_.out zb10) (fun _ _ _ h=>h) (Or.inr ⟨zb41,rfl⟩) ?_ ?_
   rotate_left
   ·simp only [Act.put,zqA,zqB,zqC,i64_w,i32_w];rfl
   refine pure_ (i:=24) (N:=some 27) (v:=undef) (a' := ?_) (zl 29 33554431) rfl rfl (any_of HT_.out zb10) (fun _ _ _ h=>h) (Or.inr ⟨zb41,rfl⟩) ?_ ?_
   rotate_left
   ·simp only [Act.put,zqA,zqB,zqC,i64_w,i32_w];rfl
   refine pure_ (i:=25) (N:=some 28) (v:=undef) (a' := ?_) (zl 29 67108863) rfl rfl (any_of HT_.out zb10) (fun _ _ _ h=>h) (Or.inr ⟨zb41,rfl⟩) ?_ ?_
   rotate_left
   ·simp only [Act.put,zqA,zqB,zqC,i64_w,i32_w];rfl
   refine pure_ (i:=26) (N:=some 29) (v:=undef) (a' := ?_) (zl 29 134217727) rfl rfl (any_of HT_.out zb10) (fun _ _ _ h=>h) (Or.inr ⟨zb41,rfl⟩) ?_ ?_
   rotate_left
   ·simp only [Act.put,zqA,zqB,zqC,i64_w,i32_w];rfl
   refine zpu 27 (N:=some 30) (zl 29 268435455) HT_.out rfl rfl ?_
   refine zpu 28 (N:=some 2) (zl 29 536870911) HT_.out rfl rfl ?_
   refine done_ (done_of HT_.out zb10) ?_
   try go_wp2
   go_ret
   exact ⟨zb2,zb35⟩
  subst c7
  rw [if_pos rfl] at H
  replace H:=Option.bind_eq_some_iff.mp H
  obtain ⟨t21,A80,H⟩:=H
  try dsimp only at H
  have A8:=Aside0.mk A80
  clear A80
  obtain rfl:=Option.some.inj H
  go_enter Tryz.func154,Tryz.ntmps154
  try go_wp2_with (first|((with_reducible refine gate_dst (N:=1) rfl ?_);(try (refine gate_guard zb41 ?_;dsimp only));refine box_event rfl (N:=1) rfl (cs:=#[.string a0_0,.string a0_1]) (t:=36) zS ?_;intro gb20 hg w9 hbox hb;have GW20:=zG hg zb0;have GE20:=GW20;have BK20:=Aside0.mk hbox;replace HB:=Aside0.mk (below_step zb0 hb);clear hb hbox hg))
  replace BK20:=Aside0.mk (blk_drew BK20.out)
  replace HB:=Aside0.mk (below_drew1 HB.out)
  refine start_ (n:=29) (S:=fun w' => w'.cell? ⟨gb20,0,none⟩=some (.string a0_0)∧w'.cell? ⟨gb20,1,none⟩=some (.string a0_1)) (ds:=[]) (zl 29 0) zb10 rfl rfl ⟨(blk_cell BK20.out 0).trans rfl,(blk_cell BK20.out 1).trans rfl⟩ (fun hHeld=>?_);refine with_tabW field_right.tab1 field_right.bits1 (fun HT_ HW_=>?_)
  generalize w9.drew=w10 at BK20 HB hHeld ⊢
  refine zpu 0 (N:=some 3) (zl 29 1) HT_.out rfl rfl ?_
  refine take_ (i:=1) (N:=some 4) (v:=?_) (a' := ?_) (zl 29 3) rfl rfl (take_ofW HT_.out HW_.out zb10) (fun _ _ _ h=>h) (Or.inl ⟨zb41,?_⟩) hHeld ?_ ?_
  rotate_left
  ·rintro w' ⟨s0,s1⟩;go_simp;with_reducible rfl
  rotate_left
  ·simp only [Act.put,zqA,zqB,zqC,i64_w,i32_w];rfl
  refine zpu 2 (N:=some 5) (zl 29 7) HT_.out rfl rfl ?_
  refine zpu 3 (N:=some 6) (zl 29 15) HT_.out rfl rfl ?_
  refine zpu 4 (N:=some 7) (zl 29 31) HT_.out rfl rfl ?_
  refine zpu 5 (N:=some 8) (zl 29 63) HT_.out rfl rfl ?_
  refine take_ (i:=6) (N:=some 9) (v:=?_) (a' := ?_) (zl 29 127) rfl rfl (take_ofW HT_.out HW_.out zb10) (fun _ _ _ h=>h) (Or.inl ⟨zb41,?_⟩) hHeld ?_ ?_
  rotate_left
  ·rintro w' ⟨s0,s1⟩;go_simp;with_reducible rfl
  rotate_left
  ·simp only [Act.put,zqA,zqB,zqC,i64_w,i32_w];rfl
  refine one_ (i:=7) (N:=some 10) (zl 29 255) rfl rfl (one_of HT_.out zb10) zb27 (fun K hK=>?_)
  refine goes_ Tryz.func117 zb10 rfl #[.string a0_0] zb41 rfl rfl zb1 ?_
  with_reducible refine (sign_Token.calls a0_0 true _ A3.out).mono ?_
  rintro e w' ⟨rfl,⟨nd,rfl⟩⟩
  refine ⟨_,rfl,?_⟩
  refine hK.out _ _ ⟨(blk_cell BK20.out 0).trans rfl,(blk_cell BK20.out 1).trans rfl⟩ (fun hHeld=>?_)
  clear hK K
  refine norm_ (a' := ?_) ?_ ?_
  rotate_left
  ·show Act.put _ (some 10) _=_
   simp only [Act.put,zqA,zqB,zqC,i64_w,i32_w]
   rfl
  refine zpu 8 (N:=some 11) (zl 29 511) HT_.out rfl rfl ?_
  refine zpu 9 (N:=some 12) (zl 29 1023) HT_.out rfl rfl ?_
  refine zpu 10 (N:=some 13) (zl 29 2047) HT_.out rfl rfl ?_
  refine take_ (i:=11) (N:=some 14) (v:=?_) (a' := ?_) (zl 29 4095) rfl rfl (take_ofW HT_.out HW_.out zb10) (fun _ _ _ h=>h) (Or.inl ⟨zb41,?_⟩) hHeld ?_ ?_
  rotate_left
  ·rintro w' ⟨s0,s1⟩;go_simp;with_reducible rfl
  rotate_left
  ·simp only [Act.put,zqA,zqB,zqC,i64_w,i32_w];rfl
  refine zpu 12 (N:=some 15) (zl 29 8191) HT_.out rfl rfl ?_
  refine zpu 13 (N:=some 16) (zl 29 16383) HT_.out rfl rfl ?_
  refine zpu 14 (N:=some 17) (zl 29 32767) HT_.out rfl rfl ?_
  refine zpu 15 (N:=some 18) (zl 29 65535) HT_.out rfl rfl ?_
  refine zpu 16 (N:=some 19) (zl 29 131071) HT_.out rfl rfl ?_
  refine take_ (i:=17) (N:=some 20) (v:=?_) (a' := ?_) (zl 29 262143) rfl rfl (take_ofW HT_.out HW_.out zb10) (fun _ _ _ h=>h) (Or.inl ⟨zb41,?_⟩) hHeld ?_ ?_
  rotate_left
  ·rintro w' ⟨s0,s1⟩;go_simp;with_reducible rfl
  rotate_left
  ·simp only [Act.put,zqA,zqB,zqC,i64_w,i32_w];rfl
  refine one_ (i:=18) (N:=some 21) (zl 29 524287) rfl rfl (one_of HT_.out zb10) zb27 (fun K hK=>?_)
  refine goes_ Tryz.func114 zb10 rfl #[.string a0_1] zb41 rfl rfl zb1 ?_
  with_reducible refine (sign_Value.calls a0_1 true _ A6.out).mono ?_
  rintro e w' ⟨rfl,⟨nd,rfl⟩⟩
  refine ⟨_,rfl,?_⟩
  refine hK.out _ _ ⟨(blk_cell BK20.out 0).trans rfl,(blk_cell BK20.out 1).trans rfl⟩ (fun hHeld=>?_)
  clear hK K
  refine norm_ (a' := ?_) ?_ ?_
  rotate_left
  ·show Act.put _ (some 21) _=_
   simp only [Act.put,zqA,zqB,zqC,i64_w,i32_w]
   rfl
  refine zpu 19 (N:=some 22) (zl 29 1048575) HT_.out rfl rfl ?_
  refine zpu 20 (N:=some 23) (zl 29 2097151) HT_.out rfl rfl ?_
  refine zpu 21 (N:=some 24) (zl 29 4194303) HT_.out rfl rfl ?_
  refine zpu 24 (N:=some 27) (zl 29 20971519) HT_.out rfl rfl ?_
  refine take_ (i:=22) (N:=some 25) (v:=?_) (a' := ?_) (zl 29 25165823) rfl rfl (take_ofW HT_.out HW_.out zb10) (fun _ _ _ h=>h) (Or.inl ⟨zb41,?_⟩) hHeld ?_ ?_
  rotate_left
  ·rintro w' ⟨s0,s1⟩;go_simp;with_reducible rfl
  rotate_left
  ·simp only [Act.put,zqA,zqB,zqC,i64_w,i32_w];rfl
  refine take_ (i:=25) (N:=some 28) (v:=?_) (a' := ?_) (zl 29 58720255) rfl rfl (take_ofW HT_.out HW_.out zb10) (fun _ _ _ h=>h) (Or.inl ⟨zb41,?_⟩) hHeld ?_ ?_
  rotate_left
  ·rintro w' ⟨s0,s1⟩;go_simp;with_reducible rfl
  rotate_left
  ·simp only [Act.put,zqA,zqB,zqC,i64_w,i32_w];rfl
  refine one_ (i:=23) (N:=some 26) (zl 29 67108863) rfl rfl (one_of HT_.out zb10) zb27 (fun K hK=>?_)
  refine goes_ Tryz.func153 zb10 rfl #[.string a0_1] zb41 rfl rfl zb1 ?_
  with_reducible refine (sign_Trim.calls a0_1 t21 _ A8.out).mono ?_
  rintro e w11 ⟨rfl,hb⟩
  refine ⟨_,rfl,?_⟩
  replace BK20:=Aside0.mk (blk_below (g:=gb20) (o:=.cells #[.string a0_0,.string a0_1] 36 (0,0)) (by (with_reducible repeat (first|refine blk_drewN ?_ _|refine blk_drew ?_|refine blk_alloc ?_ _));exact BK20.out) hb)
  replace HB:=Aside0.mk (below_step zb35 hb)
  (try clear hb)
  (try clear hb2)
  (try clear hk)
  (try clear hi)
  refine hK.out _ _ ⟨(blk_cell BK20.out 0).trans rfl,(blk_cell BK20.out 1).trans rfl⟩ (fun hHeld=>?_)
  clear hK K
  refine norm_ (a' := ?_) ?_ ?_
  rotate_left
  ·show Act.put _ (some 26) _=_
   simp only [Act.put,zqA,zqB,zqC,i64_w,i32_w]
   rfl
  refine zpu 26 (N:=some 29) (zl 29 134217727) HT_.out rfl rfl ?_
  refine zpu 27 (N:=some 30) (zl 29 268435455) HT_.out rfl rfl ?_
  refine zpu 28 (N:=some 2) (zl 29 536870911) HT_.out rfl rfl ?_
  refine done_ (done_of HT_.out zb10) ?_
  try go_wp2
  go_ret
  exact ⟨zb2,zb35⟩
 ·rw [if_neg c5] at H
  have c5b0:=decide_eq_false c5
  have c5b1:decide (a0_1.size ≤ 1000)=false:=decide_eq_false zb18
  clear c5
  obtain rfl:=Option.some.inj H
  go_enter Tryz.func154,Tryz.ntmps154
  try go_wp2_with (first|((with_reducible refine gate_dst (N:=1) rfl ?_);(try (refine gate_guard zb41 ?_;dsimp only));refine box_event rfl (N:=1) rfl (cs:=#[.string a0_0,.string a0_1]) (t:=36) zS ?_;intro gb20 hg w14 hbox hb;have GW20:=zG hg zb0;have GE20:=GW20;have BK20:=Aside0.mk hbox;replace HB:=Aside0.mk (below_step zb0 hb);clear hb hbox hg))
  replace BK20:=Aside0.mk (blk_drew BK20.out)
  replace HB:=Aside0.mk (below_drew1 HB.out)
  refine start_ (n:=29) (S:=fun w' => w'.cell? ⟨gb20,0,none⟩=some (.string a0_0)∧w'.cell? ⟨gb20,1,none⟩=some (.string a0_1)) (ds:=[]) (zl 29 0) zb10 rfl rfl ⟨(blk_cell BK20.out 0).trans rfl,(blk_cell BK20.out 1).trans rfl⟩ (fun hHeld=>?_);refine with_tabW field_right.tab1 field_right.bits1 (fun HT_ HW_=>?_)
  generalize w14.drew=w15 at BK20 HB hHeld ⊢
  refine zpu 0 (N:=some 3) (zl 29 1) HT_.out rfl rfl ?_
  refine take_ (i:=1) (N:=some 4) (v:=?_) (a' := ?_) (zl 29 3) rfl rfl (take_ofW HT_.out HW_.out zb10) (fun _ _ _ h=>h) (Or.inl ⟨zb41,?_⟩) hHeld ?_ ?_
  rotate_left
  ·rintro w' ⟨s0,s1⟩;go_simp;with_reducible rfl
  rotate_left
  ·simp only [Act.put,zqA,zqB,zqC,i64_w,i32_w];rfl
  refine zpu 2 (N:=some 5) (zl 29 7) HT_.out rfl rfl ?_
  refine zpu 3 (N:=some 6) (zl 29 15) HT_.out rfl rfl ?_
  refine zpu 4 (N:=some 7) (zl 29 31) HT_.out rfl rfl ?_
  refine zpu 5 (N:=some 8) (zl 29 63) HT_.out rfl rfl ?_
  refine take_ (i:=6) (N:=some 9) (v:=?_) (a' := ?_) (zl 29 127) rfl rfl (take_ofW HT_.out HW_.out zb10) (fun _ _ _ h=>h) (Or.inl ⟨zb41,?_⟩) hHeld ?_ ?_
  rotate_left
  ·rintro w' ⟨s0,s1⟩;go_simp;with_reducible rfl
  rotate_left
  ·simp only [Act.put,zqA,zqB,zqC,i64_w,i32_w];rfl
  refine one_ (i:=7) (N:=some 10) (zl 29 255) rfl rfl (one_of HT_.out zb10) zb27 (fun K hK=>?_)
  refine goes_ Tryz.func117 zb10 rfl #[.string a0_0] zb41 rfl rfl zb1 ?_
  with_reducible refine (sign_Token.calls a0_0 true _ A3.out).mono ?_
  rintro e w' ⟨rfl,⟨nd,rfl⟩⟩
  refine ⟨_,rfl,?_⟩
  refine hK.out _ _ ⟨(blk_cell BK20.out 0).trans rfl,(blk_cell BK20.out 1).trans rfl⟩ (fun hHeld=>?_)
  clear hK K
  refine norm_ (a' := ?_) ?_ ?_
  rotate_left
  ·show Act.put _ (some 10) _=_
   simp only [Act.put,zqA,zqB,zqC,i64_w,i32_w]
   rfl
  refine zpu 8 (N:=some 11) (zl 29 511) HT_.out rfl rfl ?_
  refine zpu 9 (N:=some 12) (zl 29 1023) HT_.out rfl rfl ?_
  refine zpu 10 (N:=some 13) (zl 29 2047) HT_.out rfl rfl ?_
  refine take_ (i:=11) (N:=some 14) (v:=?_) (a' := ?_) (zl 29 4095) rfl rfl (take_ofW HT_.out HW_.out zb10) (fun _ _ _ h=>h) (Or.inl ⟨zb41,?_⟩) hHeld ?_ ?_
  rotate_left
  ·rintro w' ⟨s0,s1⟩;go_simp;with_reducible rfl
  rotate_left
  ·simp only [Act.put,zqA,zqB,zqC,i64_w,i32_w];rfl
  refine zpu 12 (N:=some 15) (zl 29 8191) HT_.out rfl rfl ?_
  refine zpu 13 (N:=some 16) (zl 29 16383) HT_.out rfl rfl ?_
  refine zpu 14 (N:=some 17) (zl 29 32767) HT_.out rfl rfl ?_
  refine zpu 15 (N:=some 18) (zl 29 65535) HT_.out rfl rfl ?_
  refine pure_ (i:=16) (N:=some 19) (v:=undef) (a' := ?_) (zl 29 131071) rfl rfl (any_of HT_.out zb10) (fun _ _ _ h=>h) (Or.inr ⟨zb41,rfl⟩) ?_ ?_
  rotate_left
  ·simp only [Act.put,zqA,zqB,zqC,i64_w,i32_w];rfl
  refine pure_ (i:=17) (N:=some 20) (v:=undef) (a' := ?_) (zl 29 262143) rfl rfl (any_of HT_.out zb10) (fun _ _ _ h=>h) (Or.inr ⟨zb41,rfl⟩) ?_ ?_
  rotate_left
  ·simp only [Act.put,zqA,zqB,zqC,i64_w,i32_w];rfl
  refine pure_ (i:=18) (N:=some 21) (v:=undef) (a' := ?_) (zl 29 524287) rfl rfl (any_of HT_.out zb10) (fun _ _ _ h=>h) (Or.inr ⟨zb41,rfl⟩) ?_ ?_
  rotate_left
  ·simp only [Act.put,zqA,zqB,zqC,i64_w,i32_w];rfl
  refine zpu 19 (N:=some 22) (zl 29 1048575) HT_.out rfl rfl ?_
  refine zpu 20 (N:=some 23) (zl 29 2097151) HT_.out rfl rfl ?_
  refine pure_ (i:=21) (N:=some 24) (v:=undef) (a' := ?_) (zl 29 4194303) rfl rfl (any_of HT_.out zb10) (fun _ _ _ h=>h) (Or.inr ⟨zb41,rfl⟩) ?_ ?_
  rotate_left
  ·simp only [Act.put,zqA,zqB,zqC,i64_w,i32_w];rfl
  refine pure_ (i:=22) (N:=some 25) (v:=undef) (a' := ?_) (zl 29 8388607) rfl rfl (any_of HT_.out zb10) (fun _ _ _ h=>h) (Or.inr ⟨zb41,rfl⟩) ?_ ?_
  rotate_left
  ·simp only [Act.put,zqA,zqB,zqC,i64_w,i32_w];rfl
  refine pure_ (i:=23) (N:=some 26) (v:=undef) (a' := ?_) (zl 29 16777215) rfl rfl (any_of HT_.out zb10) (fun _ _ _ h=>h) (Or.inr ⟨zb41,rfl⟩) ?_ ?_
  rotate_left
  ·simp only [Act.put,zqA,zqB,zqC,i64_w,i32_w];rfl
  refine pure_ (i:=24) (N:=some 27) (v:=undef) (a' := ?_) (zl 29 33554431) rfl rfl (any_of HT_.out zb10) (fun _ _ _ h=>h) (Or.inr ⟨zb41,rfl⟩) ?_ ?_
  rotate_left
  ·simp only [Act.put,zqA,zqB,zqC,i64_w,i32_w];rfl
  refine pure_ (i:=25) (N:=some 28) (v:=undef) (a' := ?_) (zl 29 67108863) rfl rfl (any_of HT_.out zb10) (fun _ _ _ h=>h) (Or.inr ⟨zb41,rfl⟩) ?_ ?_
  rotate_left
  ·simp only [Act.put,zqA,zqB,zqC,i64_w,i32_w];rfl
  refine pure_ (i:=26) (N:=some 29) (v:=undef) (a' := ?_) (zl 29 134217727) rfl rfl (any_of HT_.out zb10) (fun _ _ _ h=>h) (Or.inr ⟨zb41,rfl⟩) ?_ ?_
  rotate_left
  ·simp only [Act.put,zqA,zqB,zqC,i64_w,i32_w];rfl
  refine zpu 27 (N:=some 30) (zl 29 268435455) HT_.out rfl rfl ?_
  refine zpu 28 (N:=some 2) (zl 29 536870911) HT_.out rfl rfl ?_
  refine done_ (done_of HT_.out zb10) ?_
  try go_wp2
  go_ret
  exact ⟨zb2,zb35⟩
def field_Right_1.f (a0_0:ByteArray) (a0_1:ByteArray):Option (Bool):=(field_right.f a0_0 a0_1).bind fun t184=>(some (!t184))
set_option maxHeartbeats 8000000 in
set_option maxRecDepth 100000 in
theorem field_Right_1.calls (a0_0:ByteArray) (a0_1:ByteArray) (r:Bool) (w:World) (h:field_Right_1.f a0_0 a0_1=some r) :
 Calls Tryz.prog 183 #[.agg #[.string a0_0,.string a0_1]] w fun e w' => e = .returned (.bool r)∧Below w.heap.size w w' := by
 have hu36:=Tryz.underlying36
 have HB:=Aside0.mk (Below.refl w.heap.size w)
 unfold field_Right_1.f at h
 have H:=h
 clear h
 replace H:=Option.bind_eq_some_iff.mp H
 obtain ⟨t184,A20,H⟩:=H
 try dsimp only at H
 have A2:=Aside0.mk A20
 clear A20
 obtain rfl:=Option.some.inj H
 go_enter Tryz.func183,Tryz.ntmps183
 go_wp2_with (first|((with_reducible refine gate_dst (N:=1) rfl ?_);refine box_event rfl (N:=1) rfl (cs:=#[.string a0_0,.string a0_1]) (t:=36) zS ?_;intro gb183 hg w3 hbox hb;have GW183:=zG hg zb0;have GE183:=GW183;have BK183:=Aside0.mk hbox;replace HB:=Aside0.mk (below_step zb0 hb);clear hb hbox hg;obtain ⟨hcz4_0,hcz4_1,hfz4_0,hfz4_1⟩:=zq2 BK183.out)|((with_reducible refine gate_callee (f:=154) rfl ?_);refine goesL_ (some 4) rfl rfl Tryz.func154 zb10 rfl #[.agg #[.string a0_0,.string a0_1]] rfl zb1 ?_;(with_reducible refine (field_right.calls a0_0 a0_1 t184 _ A2.out).mono ?_);rintro e w5 ⟨rfl,hb⟩;(try clear A2);refine ⟨_,rfl,?_⟩;replace BK183:=Aside0.mk (blk_below (g:=gb183) (o:=.cells #[.string a0_0,.string a0_1] 36 (0,0)) (by (with_reducible repeat (first|refine blk_drewN ?_ _|refine blk_drew ?_|refine blk_alloc ?_ _));exact BK183.out) hb);replace HB:=Aside0.mk (below_step zb74 hb);(try clear hb)))
 go_ret
 exact ⟨zb2,zb74⟩
def field_Right.f (l0:List (S36)):Option Bool:=if (l0.length:Int) ≤ 40 then (anyO (fun f=>field_Right_1.f f.f0 f.f1) l0).bind fun b=>some (!b) else some false
set_option maxHeartbeats 8000000 in
set_option maxRecDepth 100000 in
theorem field_Right.calls (A0:Option Addr) (c0:Nat) (l0:List (S36)) (r:Bool) (w:World) (hr0:Kd.C k36 w A0 l0.length l0) (hc0:l0.length ≤ c0) (h:field_Right.f l0=some r) :
 Calls Tryz.prog 150 #[.slice A0 l0.length c0] w fun e w' => e = .returned (.bool r)∧Below w.heap.size w w' := by
 have HR:=Aside0.mk hr0
 have HC:=Aside0.mk hc0
 have EG:=Aside0.mk (enters_of Tryz.func183 zb10 rfl : ∀ args w,(callFunc 183 args).run Tryz.prog w = .ok (.enter 183 args) w)
 unfold field_Right.f at h
 clear hr0 hc0
 have HQ:Aside0 (TestOf_Field 183 #[] (fun f=>field_Right_1.f f.f0 f.f1) w):=⟨fun W x b _ hq=>by
  show Calls Tryz.prog 183 #[.agg #[.string x.f0,.string x.f1]] W _
  exact field_Right_1.calls x.f0 x.f1 b W hq⟩
 by_cases c1:(l0.length:Int) ≤ 40;rotate_left
 ·rw [if_neg c1] at h
  injection h with h
  subst h
  have d1:decide ((l0.length:Int) ≤ 40)=false:=decide_eq_false zb18
  have d2:decide (l0.length ≤ 40)=false:=decide_eq_false zb18
  have d3:((l0.length:Int) ≤ 40)=False:=eq_false zb18
  have d4:(l0.length ≤ 40)=False:=eq_false zb18
  clear c1
  go_enter Tryz.func150,Tryz.ntmps150
  go_wp2
  go_ret
  exact ⟨zb20,Below.refl _ _⟩
 rw [if_pos c1] at h
 obtain ⟨b,hb,h⟩:=Option.bind_eq_some_iff.1 h
 injection h with h
 subst h
 have HA:=Aside0.mk hb
 clear hb
 have d1:decide ((l0.length:Int) ≤ 40)=true:=decide_eq_true zb18
 have d2:decide (l0.length ≤ 40)=true:=decide_eq_true zb18
 have d3:((l0.length:Int) ≤ 40)=True:=eq_true zb18
 have d4:(l0.length ≤ 40)=True:=eq_true zb18
 clear c1
 go_enter Tryz.func150,Tryz.ntmps150
 go_wp2_with (first
  | (go_at_call 182;(refine (slices_ContainsFunc_Field.callsOf (fun f=>field_Right_1.f f.f0 f.f1) 183 #[] EG.out A0 c0 l0 _ _ HR.out HC.out HQ.out HA.out).mono ?_);rintro e w1 ⟨rfl,hb1⟩))
 go_ret
 exact ⟨zb20,hb1⟩
def conf_set.f (a0_0:ByteArray) (a0_1:ByteArray):Option (Bool):=(field_Right.f (([(⟨a0_0,a0_1⟩:S36)]:List (S36)))).bind fun t806=>(if t806=true then ((conf_Kept.f a0_0).bind fun t807=>(some (!t807))) else (some false))
set_option maxHeartbeats 8000000 in
set_option maxRecDepth 100000 in
theorem conf_set.calls (a0_0:ByteArray) (a0_1:ByteArray) (r:Bool) (w:World) (h:conf_set.f a0_0 a0_1=some r) :
 Calls Tryz.prog 100 #[.agg #[.string a0_0,.string a0_1]] w fun e w' => e = .returned (.bool r)∧Below w.heap.size w w' := by
 have hu36:=Tryz.underlying36
 have HB:=Aside0.mk (Below.refl w.heap.size w)
 unfold conf_set.f at h
 have H:=h
 clear h
 obtain ⟨y803,hy803⟩ : ∃ y_:List (S36),y_=(([(⟨a0_0,a0_1⟩:S36)]:List (S36))):=⟨_,rfl⟩
 replace H:((field_Right.f y803).bind fun t806=>(if t806=true then ((conf_Kept.f a0_0).bind fun t807=>(some (!t807))) else (some false)))=some r:=by first|(rw [hy803];with_reducible exact H)|(have H2_:=(Option.bind_some _ _).symm.trans H;rw [hy803];with_reducible exact H2_)|(have H2_:=(Option.bind_some _ _).symm.trans H;with_reducible exact H2_)|with_reducible exact H|(rw [hy803];exact H)|exact H
 have Ny803:=Aside0.mk hy803
 clear hy803
 replace H:=Option.bind_eq_some_iff.mp H
 obtain ⟨t806,A20,H⟩:=H
 try dsimp only at H
 have A2:=Aside0.mk A20
 clear A20
 by_cases c3:t806=true;rotate_left
 ·replace c3:=Bool.eq_false_iff.mpr c3
  subst c3
  rw [if_neg (show ¬ (false=true) by decide)] at H
  obtain rfl:=Option.some.inj H
  go_enter Tryz.func100,Tryz.ntmps100
  go_wp2_with (first|((with_reducible refine gate_dst (N:=1) rfl ?_);refine box_event rfl (N:=1) rfl (cs:=#[.string a0_0,.string a0_1]) (t:=36) zS ?_;intro gb802 hg w13 hbox hb;have GW802:=zG hg zb0;have GE802:=GW802;have BK802:=Aside0.mk hbox;replace HB:=Aside0.mk (below_step zb0 hb);clear hb hbox hg;obtain ⟨hcz14_0,hcz14_1,hfz14_0,hfz14_1⟩:=zq2 BK802.out)|((with_reducible refine gate_dst (N:=4) rfl ?_);refine Kd.R_lit k36 _ 36 ?hg (N:=4) ?hd (xs:=([(⟨a0_0,a0_1⟩:S36)]:List (S36))) (inner:=[.string a0_0,.string a0_1]) (ok:=fun _=>True) (okp:=fun _=>True) ?hr ?hp (fun _ hk=>hk) trivial (Below.refl _ _) (Nat.le_refl _) zb33 ?_;(case hd=>rfl);(case hg=>rfl);(case hr=>first|(go_simp;done)|(go_simp;rfl));(case hp=>exact (Reps.c2 (show Kd.M k36 _ _ _ (⟨a0_0,a0_1⟩:S36) [.string a0_0,.string a0_1] from (k36_mkM _ _ _ (⟨a0_0,a0_1⟩:S36) )) (Reps.none _ _)));intro v804 w15 ho16 hb hg_ hnew_;clear hg_ hnew_;(first|rw [← Ny803.out] at ho16|(simp only [Int.reduceToNat] at ho16;rw [← Ny803.out] at ho16));have HO805:=Aside0.mk (Kd.R_lower (Kd.R_newB ho16 (g:=gb802) (o:=.cells #[.string a0_0,.string a0_1] 36 (0,0)) zb40) (below_size zb19));replace BK802:=Aside0.mk (blk_below (g:=gb802) (o:=.cells #[.string a0_0,.string a0_1] 36 (0,0)) zb40 hb);replace HB:=Aside0.mk (below_step zb19 hb);clear hb ho16;obtain ⟨Ao17,co17,eo17⟩:=Kd.R_slice HO805.out;subst eo17)|((with_reducible refine gate_callee (f:=150) rfl ?_);refine goesL_ (some 5) rfl rfl Tryz.func150 zb10 rfl #[.slice Ao17 y803.length co17] rfl zb1 ?_;(with_reducible refine (field_Right.calls _ _ y803 false _ ?side1 ?side2 A2.out).mono ?_);(case side1=>exact zb73);(case side2=>exact (Kd.R_reads' HO805.out).2.1);rintro e w18 ⟨rfl,hb⟩;(try clear A2);refine ⟨_,rfl,?_⟩;replace HO805:=Aside0.mk (Kd.R_below zb79 hb);replace BK802:=Aside0.mk (blk_below (g:=gb802) (o:=.cells #[.string a0_0,.string a0_1] 36 (0,0)) zb40 hb);replace HB:=Aside0.mk (below_step zb19 hb);(try clear hb)))
  go_ret
  exact ⟨zb2,zb19⟩
 subst c3
 rw [if_pos rfl] at H
 replace H:=Option.bind_eq_some_iff.mp H
 obtain ⟨t807,A40,H⟩:=H
 try dsimp only at H
 have A4:=Aside0.mk A40
 clear A40
 obtain rfl:=Option.some.inj H
 go_enter Tryz.func100,Tryz.ntmps100
 go_wp2_with (first|((with_reducible refine gate_dst (N:=1) rfl ?_);refine box_event rfl (N:=1) rfl (cs:=#[.string a0_0,.string a0_1]) (t:=36) zS ?_;intro gb802 hg w5 hbox hb;have GW802:=zG hg zb0;have GE802:=GW802;have BK802:=Aside0.mk hbox;replace HB:=Aside0.mk (below_step zb0 hb);clear hb hbox hg;obtain ⟨hcz6_0,hcz6_1,hfz6_0,hfz6_1⟩:=zq2 BK802.out)|((with_reducible refine gate_dst (N:=4) rfl ?_);refine Kd.R_lit k36 _ 36 ?hg (N:=4) ?hd (xs:=([(⟨a0_0,a0_1⟩:S36)]:List (S36))) (inner:=[.string a0_0,.string a0_1]) (ok:=fun _=>True) (okp:=fun _=>True) ?hr ?hp (fun _ hk=>hk) trivial (Below.refl _ _) (Nat.le_refl _) zb33 ?_;(case hd=>rfl);(case hg=>rfl);(case hr=>first|(go_simp;done)|(go_simp;rfl));(case hp=>exact (Reps.c2 (show Kd.M k36 _ _ _ (⟨a0_0,a0_1⟩:S36) [.string a0_0,.string a0_1] from (k36_mkM _ _ _ (⟨a0_0,a0_1⟩:S36) )) (Reps.none _ _)));intro v804 w7 ho8 hb hg_ hnew_;clear hg_ hnew_;(first|rw [← Ny803.out] at ho8|(simp only [Int.reduceToNat] at ho8;rw [← Ny803.out] at ho8));have HO805:=Aside0.mk (Kd.R_lower (Kd.R_newB ho8 (g:=gb802) (o:=.cells #[.string a0_0,.string a0_1] 36 (0,0)) zb40) (below_size zb19));replace BK802:=Aside0.mk (blk_below (g:=gb802) (o:=.cells #[.string a0_0,.string a0_1] 36 (0,0)) zb40 hb);replace HB:=Aside0.mk (below_step zb19 hb);clear hb ho8;obtain ⟨Ao9,co9,eo9⟩:=Kd.R_slice HO805.out;subst eo9)|((with_reducible refine gate_callee (f:=150) rfl ?_);refine goesL_ (some 5) rfl rfl Tryz.func150 zb10 rfl #[.slice Ao9 y803.length co9] rfl zb1 ?_;(with_reducible refine (field_Right.calls _ _ y803 true _ ?side1 ?side2 A2.out).mono ?_);(case side1=>exact zb73);(case side2=>exact (Kd.R_reads' HO805.out).2.1);rintro e w10 ⟨rfl,hb⟩;(try clear A2);refine ⟨_,rfl,?_⟩;replace HO805:=Aside0.mk (Kd.R_below zb79 hb);replace BK802:=Aside0.mk (blk_below (g:=gb802) (o:=.cells #[.string a0_0,.string a0_1] 36 (0,0)) zb40 hb);replace HB:=Aside0.mk (below_step zb19 hb);(try clear hb);obtain ⟨hcz11_0,hcz11_1,hfz11_0,hfz11_1⟩:=zq2 BK802.out)|(go_at_call 33;(with_reducible refine (conf_Kept.calls a0_0 t807 _ A4.out).mono ?_);rintro e w12 ⟨rfl,hb⟩;(try clear A4);replace HO805:=Aside0.mk (Kd.R_below zb79 hb);replace BK802:=Aside0.mk (blk_below (g:=gb802) (o:=.cells #[.string a0_0,.string a0_1] 36 (0,0)) zb40 hb);replace HB:=Aside0.mk (below_step zb19 hb);(try clear hb)))
 go_ret
 exact ⟨zb2,zb19⟩
def conf_up_1.f (a0:ByteArray):Option (Bool):=(sign_Target.f a0).bind fun t173=>(if t173=true then (some (decide ((a0.size:Int) > 40))) else (some true))
set_option maxHeartbeats 8000000 in
set_option maxRecDepth 100000 in
theorem conf_up_1.calls (a0:ByteArray) (r:Bool) (w:World) (h:conf_up_1.f a0=some r) :
 Calls Tryz.prog 148 #[.string a0] w fun e w' => e = .returned (.bool r)∧Drawn0 w w' := by
 unfold conf_up_1.f at h
 have H:=h
 clear h
 replace H:=Option.bind_eq_some_iff.mp H
 obtain ⟨t173,A20,H⟩:=H
 try dsimp only at H
 have A2:=Aside0.mk A20
 clear A20
 by_cases c3:t173=true
 ·subst c3
  rw [if_pos rfl] at H
  obtain rfl:=Option.some.inj H
  go_enter Tryz.func148,Tryz.ntmps148
  go_wp2_with (first|((with_reducible refine gate_callee (f:=149) rfl ?_);refine goesL_ (some 4) rfl rfl Tryz.func149 zb10 rfl #[.string a0] rfl zb1 ?_;(with_reducible refine (sign_Target.calls a0 true _ A2.out).mono ?_);rintro e w' ⟨rfl,⟨nd,rfl⟩⟩;(try clear A2);refine ⟨_,rfl,?_⟩))
  go_ret
  exact ⟨zb4,zb8⟩
 replace c3:=Bool.eq_false_iff.mpr c3
 subst c3
 rw [if_neg (show ¬ (false=true) by decide)] at H
 obtain rfl:=Option.some.inj H
 go_enter Tryz.func148,Tryz.ntmps148
 go_wp2_with (first|((with_reducible refine gate_callee (f:=149) rfl ?_);refine goesL_ (some 4) rfl rfl Tryz.func149 zb10 rfl #[.string a0] rfl zb1 ?_;(with_reducible refine (sign_Target.calls a0 false _ A2.out).mono ?_);rintro e w' ⟨rfl,⟨nd,rfl⟩⟩;(try clear A2);refine ⟨_,rfl,?_⟩))
 go_ret
 exact ⟨zb4,zb8⟩
set_option maxHeartbeats 4000000 in
set_option maxRecDepth 100000 in
theorem slices_ContainsFunc_string_string.callsOf (q:ByteArray → Option Bool) (g:Nat) (lb:Array Value) (eg : ∀ args w,(callFunc g args).run Tryz.prog w = .ok (.enter g args) w) (A0:Option Addr) (c0:Nat) (l0:List ByteArray) (r:Bool) (w:World) (hr0:Kd.C Kd.string w A0 l0.length l0) (hc0:l0.length ≤ c0)
 (hq:TestOf g lb Value.string q w) (h:anyO q l0=some r) :
 Calls Tryz.prog 86 #[.slice A0 l0.length c0,.func (.func g) #[] lb] w fun e w' => e = .returned (.bool r)∧Below w.heap.size w w' := by
 obtain ⟨j,hj,hb⟩:=idxO_any q l0 0 r zb18 h
 have HC:=Aside0.mk (slices_IndexFunc_string_string.callsOf q g lb eg A0 c0 l0 j w hr0 hc0 hq hj)
 have HBB:=Aside0.mk hb
 clear hb hj h hq hr0 hc0 eg
 go_enter Tryz.func86,Tryz.ntmps86
 go_wp2_with (go_at_call 135;refine HC.out.mono ?_;rintro e w' ⟨rfl,hb'⟩)
 go_ret
 have e:=HBB.out
 subst e
 exact ⟨zb20,hb'⟩
mutual
def table_Name.j0:Nat → ByteArray → Bool → Option (Bool)
 | 0,_,_=>none
 | k + 1,x0,x21=>if x21=true then (some false) else (table_Name.l0 k x0 (x0.size:Int) 0)
def table_Name.l0:Nat → ByteArray → Int → Int → Option (Bool)
 | 0,_,_,_=>none
 | k + 1,x0,x23,x24=>if x24 < x23 then (if 0 ≤ x24 then (if x24 < (x0.size:Int) then (if (bt x0 x24) < 97 then (if (bt x0 x24) < 48 then (if (bt x0 x24)=45 then (table_Name.l0 k x0 x23 (wrap64 (x24 + 1))) else (some false)) else (if (bt x0 x24) > 57 then (if (bt x0 x24)=45 then (table_Name.l0 k x0 x23 (wrap64 (x24 + 1))) else (some false)) else (table_Name.l0 k x0 x23 (wrap64 (x24 + 1))))) else (if (bt x0 x24) > 122 then (if (bt x0 x24) < 48 then (if (bt x0 x24)=45 then (table_Name.l0 k x0 x23 (wrap64 (x24 + 1))) else (some false)) else (if (bt x0 x24) > 57 then (if (bt x0 x24)=45 then (table_Name.l0 k x0 x23 (wrap64 (x24 + 1))) else (some false)) else (table_Name.l0 k x0 x23 (wrap64 (x24 + 1))))) else (table_Name.l0 k x0 x23 (wrap64 (x24 + 1))))) else (none)) else (none)) else (some true)
end
def table_Name.f (k:Nat) (a0:ByteArray):Option (Bool):=if a0.toList=([]:List UInt8) then (table_Name.j0 k a0 true) else (if (a0.size:Int) > 30 then (table_Name.j0 k a0 true) else (if 0 < (a0.size:Int) then (if (bt a0 0) < 97 then (table_Name.j0 k a0 true) else (table_Name.j0 k a0 (decide ((bt a0 0) > 122)))) else (none)))
set_option maxHeartbeats 8000000 in
set_option maxRecDepth 100000 in
theorem table_Name.calls (k:Nat) (a0:ByteArray) (r:Bool) (w:World) (h:table_Name.f k a0=some r) :
 Calls Tryz.prog 147 #[.string a0] w fun e w' => e = .returned (.bool r)∧Drawn0 w w' := by
 unfold table_Name.f at h
 have H:=h
 clear h
 have HC2:=Aside0.mk H
 clear H
 go_enter Tryz.func147,Tryz.ntmps147
 go_upto_region 1 with (fail)
 go_cut [21] (fun v21 wc => ∃ (kq:Nat) (x21_1:Bool),v21 = .bool x21_1∧Aside0 (table_Name.j0 kq a0 x21_1=some r)∧Aside0 (kq ≤ k)∧Drawn0 w wc)
 case first =>
  have H:=HC2.out
  clear HC2
  by_cases c3:a0.toList=([]:List UInt8)
  ·rw [if_pos c3] at H
   have c3b0:=beq_iff_eq.mpr c3
   have c3b1:=bne_eq_false_iff_eq.mpr c3
   clear c3
   (first|rw [c3b0]|(simp only [i64_w,i32_w];rw [c3b0])|rw [c3b1]|skip)
   have H' := Aside0.mk H
   clear H
   go_wp2
   go_meet
   case rel=>exact ⟨_,(true),zb4,H',⟨zb58⟩,zb8⟩
  rw [if_neg c3] at H
  have c3b0:=beq_eq_false_iff_ne.mpr c3
  have c3b1:=bne_iff_ne.mpr c3
  (first|rw [c3b0]|(simp only [i64_w,i32_w];rw [c3b0])|rw [c3b1]|skip)
  by_cases c4:(a0.size:Int) > 30
  ·rw [if_pos c4] at H
   have c4b0:decide (30 < (a0.size:Int))=true:=decide_eq_true c4
   have c4b1:decide (30 < a0.size)=true:=decide_eq_true zb18
   clear c4
   have H' := Aside0.mk H
   clear H
   go_wp2
   go_meet
   case rel=>exact ⟨_,(true),zb4,H',⟨zb58⟩,zb8⟩
  rw [if_neg c4] at H
  have c4b0:decide (30 < (a0.size:Int))=false:=decide_eq_false c4
  have c4b1:decide (30 < a0.size)=false:=decide_eq_false zb18
  clear c4
  by_cases c5:0 < (a0.size:Int);rotate_left
  ·rw [if_neg c5] at H
   exact absurd H zb33
  rw [if_pos c5] at H
  have c5b0:=decide_eq_true c5
  have c5b1:decide (0 < a0.size)=true:=decide_eq_true zb18
  clear c5
  by_cases c7:(bt a0 0) < 97
  ·rw [if_pos c7] at H
   have c7b0:=decide_eq_true c7
   clear c7
   have H' := Aside0.mk H
   clear H
   have p6:0 ≤ (0:Int):=zb18
   have q6:0 < a0.size:=zb56
   have hx6 : ∀ h:0 < a0.size,((a0[0]'h).toNat:Int)=bt a0 0:=bt_at a0 0
   clear p6
   have qi6:(0 < (a0.size:Int))=True:=eq_true (of_decide_eq_true zb5)
   replace q6:=eq_true q6
   go_wp2
   go_meet
   case rel=>exact ⟨_,(true),zb4,H',⟨zb58⟩,zb8⟩
  rw [if_neg c7] at H
  have c7b0:=decide_eq_false c7
  clear c7
  have H' := Aside0.mk H
  clear H
  have p6:0 ≤ (0:Int):=zb18
  have q6:0 < a0.size:=zb56
  have hx6 : ∀ h:0 < a0.size,((a0[0]'h).toNat:Int)=bt a0 0:=bt_at a0 0
  clear p6
  have qi6:(0 < (a0.size:Int))=True:=eq_true (of_decide_eq_true zb5)
  replace q6:=eq_true q6
  have p8:0 ≤ (0:Int):=zb18
  have q8:0 < a0.size:=zb56
  have hx8 : ∀ h:0 < a0.size,((a0[0]'h).toNat:Int)=bt a0 0:=bt_at a0 0
  clear p8
  have qi8:(0 < (a0.size:Int))=True:=eq_true (of_decide_eq_true zb5)
  replace q8:=eq_true q8
  go_wp2
  go_meet
  case rel=>exact ⟨_,(decide ((bt a0 0) > 122)),zb4,H',⟨zb58⟩,zb8⟩
 case rest =>
  clear HC2
  try clear c1
  try clear p2
  try clear c3
  try clear c3b0
  try clear c3b1
  try clear c4
  try clear c4b0
  try clear c4b1
  try clear c5
  try clear c5b0
  try clear c5b1
  try clear p6
  try clear q6
  try clear hx6
  try clear qi6
  try clear c7
  try clear c7b0
  try clear p8
  try clear q8
  try clear hx8
  try clear qi8
  try clear p6
  try clear p8
  try clear q6
  try clear q8
  obtain ⟨kq,x21_1,rfl,HA,HJ1,⟨mc1,rfl⟩⟩:=hcut
  cases kq with
  | zero=>exact absurd HA.out (by simp [table_Name.j0])
  | succ kj1 =>
   have H:=HA.out
   clear HA
   simp only [table_Name.j0] at H
   by_cases c9:x21_1=true
   ·subst c9
    rw [if_pos rfl] at H
    obtain rfl:=Option.some.inj H
    go_wp2
    go_ret
    exact ⟨zb4,zb8⟩
   replace c9:=Bool.eq_false_iff.mpr c9
   subst c9
   rw [if_neg (show ¬ (false=true) by decide)] at H
   have H' := Aside0.mk H
   clear H
   go_wp2
   go_loopg [24] kj1 (fun kq v24 w' => ∃ (x24_2:Int),v24 = .int .i64 x24_2∧Aside0 (table_Name.l0 kq a0 (a0.size:Int) x24_2=some r)∧Aside0 (kq ≤ kj1)∧Drawn0 w w')
   case atStart=>exact ⟨(0),zb4,H',⟨Nat.le_refl _⟩,zb8⟩
   case round =>
    clear H'
    try clear c1
    try clear p2
    try clear c3
    try clear c3b0
    try clear c3b1
    try clear c4
    try clear c4b0
    try clear c4b1
    try clear c5
    try clear c5b0
    try clear c5b1
    try clear p6
    try clear q6
    try clear hx6
    try clear qi6
    try clear c7
    try clear c7b0
    try clear p8
    try clear q8
    try clear hx8
    try clear qi8
    try clear c9
    try clear p2
    try clear p6
    try clear p8
    try clear q6
    try clear q8
    obtain ⟨x24_2,rfl,HA,HK2,⟨m2,rfl⟩⟩:=hrel
    cases gk with
    | zero=>exact absurd HA.out (by simp [table_Name.l0])
    | succ k2 =>
     have H:=HA.out
     clear HA
     simp only [table_Name.l0] at H
     by_cases c10:x24_2 < (a0.size:Int);rotate_left
     ·rw [if_neg c10] at H
      have c10b0:=decide_eq_false c10
      clear c10
      obtain rfl:=Option.some.inj H
      go_wp2
      go_ret
      exact ⟨zb4,zb8⟩
     rw [if_pos c10] at H
     have c10b0:=decide_eq_true c10
     clear c10
     by_cases c11:0 ≤ x24_2
     ·rw [if_pos c11] at H
      have c11b0:=decide_eq_true c11
      clear c11
      by_cases c12:x24_2 < (a0.size:Int)
      ·rw [if_pos c12] at H
       have c12b0:=decide_eq_true c12
       clear c12
       by_cases c14:(bt a0 x24_2) < 97
       ·rw [if_pos c14] at H
        have c14b0:=decide_eq_true c14
        clear c14
        by_cases c15:(bt a0 x24_2) < 48
        ·rw [if_pos c15] at H
         have c15b0:=decide_eq_true c15
         clear c15
         by_cases c16:(bt a0 x24_2)=45;rotate_left
         ·rw [if_neg c16] at H
          have c16b0:=beq_eq_false_iff_ne.mpr c16
          have c16b1:=bne_iff_ne.mpr c16
          obtain rfl:=Option.some.inj H
          have p13:0 ≤ (x24_2:Int):=of_decide_eq_true zb5
          have q13:x24_2 < (a0.size:Int):=of_decide_eq_true zb5
          have hx13:=bt_at a0 x24_2
          replace p13:=eq_true p13
          replace q13:=eq_true q13
          go_wp2
          go_ret
          exact ⟨zb4,zb8⟩
         rw [if_pos c16] at H
         have c16b0:=beq_iff_eq.mpr c16
         have c16b1:=bne_eq_false_iff_eq.mpr c16
         clear c16
         have H' := Aside0.mk H
         clear H
         have p13:0 ≤ (x24_2:Int):=of_decide_eq_true zb5
         have q13:x24_2 < (a0.size:Int):=of_decide_eq_true zb5
         have hx13:=bt_at a0 x24_2
         replace p13:=eq_true p13
         replace q13:=eq_true q13
         go_wp2
         go_roundg k2
         case measure=>have:=HJ1.out;have:=HK2.out;omega
         case rel=>exact ⟨(wrap64 (x24_2 + 1)),zb4,H',⟨zb84⟩,zb8⟩
        rw [if_neg c15] at H
        have c15b0:=decide_eq_false c15
        clear c15
        by_cases c17:(bt a0 x24_2) > 57;rotate_left
        ·rw [if_neg c17] at H
         have c17b0:decide (57 < (bt a0 x24_2))=false:=decide_eq_false c17
         clear c17
         have H' := Aside0.mk H
         clear H
         have p13:0 ≤ (x24_2:Int):=of_decide_eq_true zb5
         have q13:x24_2 < (a0.size:Int):=of_decide_eq_true zb5
         have hx13:=bt_at a0 x24_2
         replace p13:=eq_true p13
         replace q13:=eq_true q13
         go_wp2
         go_roundg k2
         case measure=>have:=HJ1.out;have:=HK2.out;omega
         case rel=>exact ⟨(wrap64 (x24_2 + 1)),zb4,H',⟨zb84⟩,zb8⟩
        rw [if_pos c17] at H
        have c17b0:decide (57 < (bt a0 x24_2))=true:=decide_eq_true c17
        clear c17
        by_cases c18:(bt a0 x24_2)=45
        ·rw [if_pos c18] at H
         have c18b0:=beq_iff_eq.mpr c18
         have c18b1:=bne_eq_false_iff_eq.mpr c18
         clear c18
         have H' := Aside0.mk H
         clear H
         have p13:0 ≤ (x24_2:Int):=of_decide_eq_true zb5
         have q13:x24_2 < (a0.size:Int):=of_decide_eq_true zb5
         have hx13:=bt_at a0 x24_2
         replace p13:=eq_true p13
         replace q13:=eq_true q13
         go_wp2
         go_roundg k2
         case measure=>have:=HJ1.out;have:=HK2.out;omega
         case rel=>exact ⟨(wrap64 (x24_2 + 1)),zb4,H',⟨zb84⟩,zb8⟩
        ·rw [if_neg c18] at H
         have c18b0:=beq_eq_false_iff_ne.mpr c18
         have c18b1:=bne_iff_ne.mpr c18
         obtain rfl:=Option.some.inj H
         have p13:0 ≤ (x24_2:Int):=of_decide_eq_true zb5
         have q13:x24_2 < (a0.size:Int):=of_decide_eq_true zb5
         have hx13:=bt_at a0 x24_2
         replace p13:=eq_true p13
         replace q13:=eq_true q13
         go_wp2
         go_ret
         exact ⟨zb4,zb8⟩
       rw [if_neg c14] at H
       have c14b0:=decide_eq_false c14
       clear c14
       by_cases c19:(bt a0 x24_2) > 122;rotate_left
       ·rw [if_neg c19] at H
        have c19b0:decide (122 < (bt a0 x24_2))=false:=decide_eq_false c19
        clear c19
        have H' := Aside0.mk H
        clear H
        have p13:0 ≤ (x24_2:Int):=of_decide_eq_true zb5
        have q13:x24_2 < (a0.size:Int):=of_decide_eq_true zb5
        have hx13:=bt_at a0 x24_2
        replace p13:=eq_true p13
        replace q13:=eq_true q13
        go_wp2
        go_roundg k2
        case measure=>have:=HJ1.out;have:=HK2.out;omega
        case rel=>exact ⟨(wrap64 (x24_2 + 1)),zb4,H',⟨zb84⟩,zb8⟩
       rw [if_pos c19] at H
       have c19b0:decide (122 < (bt a0 x24_2))=true:=decide_eq_true c19
       clear c19
       by_cases c20:(bt a0 x24_2) < 48
       ·rw [if_pos c20] at H
        have c20b0:=decide_eq_true c20
        clear c20
        by_cases c21:(bt a0 x24_2)=45;rotate_left
        ·rw [if_neg c21] at H
         have c21b0:=beq_eq_false_iff_ne.mpr c21
         have c21b1:=bne_iff_ne.mpr c21
         obtain rfl:=Option.some.inj H
         have p13:0 ≤ (x24_2:Int):=of_decide_eq_true zb5
         have q13:x24_2 < (a0.size:Int):=of_decide_eq_true zb5
         have hx13:=bt_at a0 x24_2
         replace p13:=eq_true p13
         replace q13:=eq_true q13
         go_wp2
         go_ret
         exact ⟨zb4,zb8⟩
        rw [if_pos c21] at H
        have c21b0:=beq_iff_eq.mpr c21
        have c21b1:=bne_eq_false_iff_eq.mpr c21
        clear c21
        have H' := Aside0.mk H
        clear H
        have p13:0 ≤ (x24_2:Int):=of_decide_eq_true zb5
        have q13:x24_2 < (a0.size:Int):=of_decide_eq_true zb5
        have hx13:=bt_at a0 x24_2
        replace p13:=eq_true p13
        replace q13:=eq_true q13
        go_wp2
        go_roundg k2
        case measure=>have:=HJ1.out;have:=HK2.out;omega
        case rel=>exact ⟨(wrap64 (x24_2 + 1)),zb4,H',⟨zb84⟩,zb8⟩
       rw [if_neg c20] at H
       have c20b0:=decide_eq_false c20
       clear c20
       by_cases c22:(bt a0 x24_2) > 57
       ·rw [if_pos c22] at H
        have c22b0:decide (57 < (bt a0 x24_2))=true:=decide_eq_true c22
        clear c22
        by_cases c23:(bt a0 x24_2)=45;rotate_left
        ·rw [if_neg c23] at H
         have c23b0:=beq_eq_false_iff_ne.mpr c23
         have c23b1:=bne_iff_ne.mpr c23
         obtain rfl:=Option.some.inj H
         have p13:0 ≤ (x24_2:Int):=of_decide_eq_true zb5
         have q13:x24_2 < (a0.size:Int):=of_decide_eq_true zb5
         have hx13:=bt_at a0 x24_2
         replace p13:=eq_true p13
         replace q13:=eq_true q13
         go_wp2
         go_ret
         exact ⟨zb4,zb8⟩
        rw [if_pos c23] at H
        have c23b0:=beq_iff_eq.mpr c23
        have c23b1:=bne_eq_false_iff_eq.mpr c23
        clear c23
        have H' := Aside0.mk H
        clear H
        have p13:0 ≤ (x24_2:Int):=of_decide_eq_true zb5
        have q13:x24_2 < (a0.size:Int):=of_decide_eq_true zb5
        have hx13:=bt_at a0 x24_2
        replace p13:=eq_true p13
        replace q13:=eq_true q13
        go_wp2
        go_roundg k2
        case measure=>have:=HJ1.out;have:=HK2.out;omega
        case rel=>exact ⟨(wrap64 (x24_2 + 1)),zb4,H',⟨zb84⟩,zb8⟩
       ·rw [if_neg c22] at H
        have c22b0:decide (57 < (bt a0 x24_2))=false:=decide_eq_false c22
        clear c22
        have H' := Aside0.mk H
        clear H
        have p13:0 ≤ (x24_2:Int):=of_decide_eq_true zb5
        have q13:x24_2 < (a0.size:Int):=of_decide_eq_true zb5
        have hx13:=bt_at a0 x24_2
        replace p13:=eq_true p13
        replace q13:=eq_true q13
        go_wp2
        go_roundg k2
        case measure=>have:=HJ1.out;have:=HK2.out;omega
        case rel=>exact ⟨(wrap64 (x24_2 + 1)),zb4,H',⟨zb84⟩,zb8⟩
      ·rw [if_neg c12] at H
       exact absurd H zb33
     ·rw [if_neg c11] at H
      exact absurd H zb33
def conf_up.f (k:Nat) (a0_0:ByteArray) (l0_1:List ByteArray):Option Bool:=(table_Name.f k a0_0).bind fun b=>if b=true then (anyO (fun a=>conf_up_1.f a) l0_1).bind fun c=>some (!c) else some false
set_option maxHeartbeats 8000000 in
set_option maxRecDepth 100000 in
theorem conf_up.calls (k:Nat) (a0_0:ByteArray) (A0_1:Option Addr) (c0_1:Nat) (l0_1:List ByteArray) (r:Bool) (w:World) (hr0_1:Kd.C Kd.string w A0_1 l0_1.length l0_1) (hc0_1:l0_1.length ≤ c0_1) (h:conf_up.f k a0_0 l0_1=some r) :
 Calls Tryz.prog 98 #[.agg #[.string a0_0,.slice A0_1 l0_1.length c0_1]] w fun e w' => e = .returned (.bool r)∧Below w.heap.size w w' := by
 have hu:=Tryz.underlying83
 have HR:=Aside0.mk hr0_1
 have HC:=Aside0.mk hc0_1
 have EG:=Aside0.mk (enters_of Tryz.func148 zb10 rfl : ∀ args w,(callFunc 148 args).run Tryz.prog w = .ok (.enter 148 args) w)
 unfold conf_up.f at h
 clear hr0_1 hc0_1
 obtain ⟨b,hb,h⟩:=Option.bind_eq_some_iff.1 h
 have HN:=Aside0.mk hb
 clear hb
 cases b
 ·rw [if_neg zb33] at h
  injection h with h
  subst h
  go_enter Tryz.func98,Tryz.ntmps98
  go_wp2_with (first
   | ((with_reducible refine gate_dst (N:=1) rfl ?_);refine box_event ?hg (N:=1) ?hd (cs:=#[.string a0_0,.slice A0_1 l0_1.length c0_1]) (t:=83) ?hr ?_;(case hd=>rfl);(case hg=>rfl);(case hr=>first|(go_simp;done)|(go_simp;rfl));intro X hX w1 hBX hbX;have BX1:=Aside0.mk hBX;have L1:=Aside0.mk hbX;clear hBX hbX hX;have q0:w1.cell? ⟨X,0,none⟩=some (.string a0_0):=(blk_cell BX1.out 0).trans rfl;have q1:w1.cell? ⟨X,1,none⟩=some (.slice A0_1 l0_1.length c0_1):=(blk_cell BX1.out 1).trans rfl)
   | (go_at_call 147;(with_reducible refine (table_Name.calls k a0_0 _ _ HN.out).mono ?_);rintro e w2 ⟨rfl,hb2⟩;have BX2:=Aside0.mk (blk_below BX1.out hb2.below);have L2:=Aside0.mk (below_step L1.out hb2.below);clear q0 q1 hb2;have q0:w2.cell? ⟨X,0,none⟩=some (.string a0_0):=(blk_cell BX2.out 0).trans rfl;have q1:w2.cell? ⟨X,1,none⟩=some (.slice A0_1 l0_1.length c0_1):=(blk_cell BX2.out 1).trans rfl))
  go_ret
  exact ⟨zb20,L2.out⟩
 rw [if_pos rfl] at h
 obtain ⟨c,hc,h⟩:=Option.bind_eq_some_iff.1 h
 injection h with h
 subst h
 have HA:=Aside0.mk hc
 clear hc
 go_enter Tryz.func98,Tryz.ntmps98
 go_wp2_with (first
  | ((with_reducible refine gate_dst (N:=1) rfl ?_);refine box_event ?hg (N:=1) ?hd (cs:=#[.string a0_0,.slice A0_1 l0_1.length c0_1]) (t:=83) ?hr ?_;(case hd=>rfl);(case hg=>rfl);(case hr=>first|(go_simp;done)|(go_simp;rfl));intro X hX w1 hBX hbX;have BX1:=Aside0.mk hBX;have L1:=Aside0.mk hbX;clear hBX hbX hX;have q0:w1.cell? ⟨X,0,none⟩=some (.string a0_0):=(blk_cell BX1.out 0).trans rfl;have q1:w1.cell? ⟨X,1,none⟩=some (.slice A0_1 l0_1.length c0_1):=(blk_cell BX1.out 1).trans rfl)
  | (go_at_call 147;(with_reducible refine (table_Name.calls k a0_0 _ _ HN.out).mono ?_);rintro e w2 ⟨rfl,hb2⟩;have BX2:=Aside0.mk (blk_below BX1.out hb2.below);have L2:=Aside0.mk (below_step L1.out hb2.below);clear q0 q1 hb2;have q0:w2.cell? ⟨X,0,none⟩=some (.string a0_0):=(blk_cell BX2.out 0).trans rfl;have q1:w2.cell? ⟨X,1,none⟩=some (.slice A0_1 l0_1.length c0_1):=(blk_cell BX2.out 1).trans rfl)
  | (go_at_call 86;(refine (slices_ContainsFunc_string_string.callsOf (fun a=>conf_up_1.f a) 148 #[] EG.out A0_1 c0_1 l0_1 _ _ (Kd.C_below HR.out L2.out) HC.out (fun W x b _ hq=>(by show Calls Tryz.prog 148 #[.string x] W _;exact (conf_up_1.calls x b W hq).mono (fun _ _ z=>⟨z.1,z.2.below⟩))) HA.out).mono ?_);rintro e w3 ⟨rfl,hb3⟩;have L3:=Aside0.mk (below_step L2.out hb3)))
 go_ret
 exact ⟨zb20,L3.out⟩
/-- Does a test take all of them,one behind the other? -/
def allO {α:Type} (q:α → Option Bool):List α → Option Bool
 | []=>some true
 | x :: r=>(q x).bind fun b=>if b=true then allO q r else some false
def conf_right.e (l0_0:List (S83)) (l0_1:List (S85)) (l0_2:List (S36)) (l0_3:List ByteArray) (a0_4:Int) (a0_5:Int) (a0_6:Int) (a0_7:Int):Option Bool:=(conf_numbers.f l0_0 l0_1 l0_2 l0_3 a0_4 a0_5 a0_6 a0_7).bind fun ns=>(anyO (fun x=>conf_right_1.f x.f0 x.f1 x.f2 x.f3) ns).bind fun c=>some (!c)
def conf_right.f (k:Nat) (l0_0:List (S83)) (l0_1:List (S85)) (l0_2:List (S36)) (l0_3:List ByteArray) (a0_4:Int) (a0_5:Int) (a0_6:Int) (a0_7:Int):Option Bool:=(allO (fun u=>conf_up.f k u.f0 u.f1) l0_0).bind fun b=>if b=true then ((allO (fun r=>(conf_path.f r.f0).bind fun b=>if b=true then conf_path.f r.f2 else some false) l0_1).bind fun b=>if b=true then ((allO (fun f=>conf_set.f f.f0 f.f1) l0_2).bind fun b=>if b=true then ((allO (fun s=>conf_drop.f s) l0_3).bind fun b=>if b=true then conf_right.e l0_0 l0_1 l0_2 l0_3 a0_4 a0_5 a0_6 a0_7 else some false) else some false) else some false) else some false
set_option maxHeartbeats 8000000 in
set_option maxRecDepth 100000 in
theorem conf_right.calls (k:Nat) (A0_0:Option Addr) (c0_0:Nat) (l0_0:List (S83)) (A0_1:Option Addr) (c0_1:Nat) (l0_1:List (S85)) (A0_2:Option Addr) (c0_2:Nat) (l0_2:List (S36)) (A0_3:Option Addr) (c0_3:Nat) (l0_3:List ByteArray) (a0_4:Int) (a0_5:Int) (a0_6:Int) (a0_7:Int) (r:Bool) (w:World) (hr0_0:Kd.C k83 w A0_0 l0_0.length l0_0) (hc0_0:l0_0.length ≤ c0_0) (hr0_1:Kd.C k85 w A0_1 l0_1.length l0_1) (hc0_1:l0_1.length ≤ c0_1) (hr0_2:Kd.C k36 w A0_2 l0_2.length l0_2) (hc0_2:l0_2.length ≤ c0_2) (hr0_3:Kd.C Kd.string w A0_3 l0_3.length l0_3) (hc0_3:l0_3.length ≤ c0_3) (h:conf_right.f k l0_0 l0_1 l0_2 l0_3 a0_4 a0_5 a0_6 a0_7=some r) :
 Calls Tryz.prog 57 #[.agg #[.slice A0_0 l0_0.length c0_0,.slice A0_1 l0_1.length c0_1,.slice A0_2 l0_2.length c0_2,.slice A0_3 l0_3.length c0_3,.int .i64 a0_4,.int .i64 a0_5,.int .i64 a0_6,.int .i64 a0_7]] w fun e w' => e = .returned (.bool r)∧Below w.heap.size w w' := by
 have hu:=Tryz.underlying46
 have hu1:=Tryz.underlying83
 have hu2:=Tryz.underlying85
 have hu3:=Tryz.underlying36
 have HR0:=Aside0.mk hr0_0
 have HR1:=Aside0.mk hr0_1
 have HR2:=Aside0.mk hr0_2
 have HR3:=Aside0.mk hr0_3
 have HC0:=Aside0.mk hc0_0
 have HC1:=Aside0.mk hc0_1
 have HC2:=Aside0.mk hc0_2
 have HC3:=Aside0.mk hc0_3
 clear hr0_0 hr0_1 hr0_2 hr0_3 hc0_0 hc0_1 hc0_2 hc0_3
 have EG:=Aside0.mk (enters_of Tryz.func104 zb10 rfl : ∀ args w,(callFunc 104 args).run Tryz.prog w = .ok (.enter 104 args) w)
 unfold conf_right.f at h
 obtain ⟨b0,hb0,h⟩:=Option.bind_eq_some_iff.1 h
 have HA:=Aside0.mk hb0
 have HR:=Aside0.mk h
 clear hb0 h
 go_enter Tryz.func57,Tryz.ntmps57
 go_wp2_with (first
  | ((with_reducible refine gate_dst (N:=1) rfl ?_);refine box_event ?hg (N:=1) ?hd (cs:=#[.slice A0_0 l0_0.length c0_0,.slice A0_1 l0_1.length c0_1,.slice A0_2 l0_2.length c0_2,.slice A0_3 l0_3.length c0_3,.int .i64 a0_4,.int .i64 a0_5,.int .i64 a0_6,.int .i64 a0_7]) (t:=46) ?hr ?_;(case hd=>rfl);(case hg=>rfl);(case hr=>first|(go_simp;done)|(go_simp;rfl));intro X hX w1 hBX hbX;have BX1:=Aside0.mk hBX;have L1:=Aside0.mk hbX;clear hBX hbX hX;have q0:w1.cell? ⟨X,0,none⟩=some (.slice A0_0 l0_0.length c0_0):=(blk_cell BX1.out 0).trans rfl;have q1:w1.cell? ⟨X,1,none⟩=some (.slice A0_1 l0_1.length c0_1):=(blk_cell BX1.out 1).trans rfl;have q2:w1.cell? ⟨X,2,none⟩=some (.slice A0_2 l0_2.length c0_2):=(blk_cell BX1.out 2).trans rfl;have q3:w1.cell? ⟨X,3,none⟩=some (.slice A0_3 l0_3.length c0_3):=(blk_cell BX1.out 3).trans rfl;have q4:w1.cell? ⟨X,4,none⟩=some (.int .i64 a0_4):=(blk_cell BX1.out 4).trans rfl;have q5:w1.cell? ⟨X,5,none⟩=some (.int .i64 a0_5):=(blk_cell BX1.out 5).trans rfl;have q6:w1.cell? ⟨X,6,none⟩=some (.int .i64 a0_6):=(blk_cell BX1.out 6).trans rfl;have q7:w1.cell? ⟨X,7,none⟩=some (.int .i64 a0_7):=(blk_cell BX1.out 7).trans rfl))
 clear q0 q1 q2 q3 q4 q5 q6 q7
 go_loopg [14] l0_0.length (fun kq v wr => ∃ (x:Int),v = .int .i64 x∧Aside0 (0 ≤ x∧x ≤ l0_0.length∧(l0_0.length:Int) - x ≤ kq)∧Aside0 (Below w.heap.size w wr)∧Aside0 (wr.heap[X]? = some (.cells #[.slice A0_0 l0_0.length c0_0,.slice A0_1 l0_1.length c0_1,.slice A0_2 l0_2.length c0_2,.slice A0_3 l0_3.length c0_3,.int .i64 a0_4,.int .i64 a0_5,.int .i64 a0_6,.int .i64 a0_7] 46 (0,0)))∧Aside0 (allO (fun u=>conf_up.f k u.f0 u.f1) (l0_0.drop x.toNat)=some b0))
 case atStart=>exact ⟨0,rfl,⟨zb18⟩,L1,BX1,HA⟩
 case round =>
  obtain ⟨x,rfl,HX,L2,BX2,HH⟩:=hrel
  clear HA L1 BX1
  by_cases c4:x < (l0_0.length:Int)
  ·have c4b0:=decide_eq_true c4
   have hx:=HH.out
   have hlt:x.toNat < l0_0.length:=by have:=HX.out;omega
   rw [List.drop_eq_getElem_cons hlt,allO] at hx
   obtain ⟨b,hb,hx⟩:=Option.bind_eq_some_iff.1 hx
   have hrd:rd_T83 l0_0 x=l0_0[x.toNat]:=by unfold rd_T83;rw [List.getD_eq_getElem?_getD,List.getElem?_eq_getElem hlt];rfl
   obtain ⟨ad,A1,c1,he,h0,h1,lc1,hC1⟩:=at_T83 HR0.out x HX.out.1 c4
   replace h0:=(L2.out.cell (World.block_lt_of_cell? w _ h0)).trans h0
   replace h1:=(L2.out.cell (World.block_lt_of_cell? w _ h1)).trans h1
   rw [← hrd] at hb
   obtain ⟨y,hy⟩ : ∃ y,rd_T83 l0_0 x=y:=⟨_,rfl⟩
   rw [hy] at hb h0 h1 lc1 hC1
   have m0:(wr.alloc (.cells #[.string y.f0,.slice A1 y.f1.length c1] 83 (0,0))).cell? ⟨wr.heap.size,0,none⟩=some (.string y.f0):=(blk_cell (blk_new wr _) 0).trans rfl
   have m1:(wr.alloc (.cells #[.string y.f0,.slice A1 y.f1.length c1] 83 (0,0))).cell? ⟨wr.heap.size,1,none⟩=some (.slice A1 y.f1.length c1):=(blk_cell (blk_new wr _) 1).trans rfl
   have KC1:=Aside0.mk hC1
   have KL1:=Aside0.mk lc1
   have BX3:=Aside0.mk (blk_alloc BX2.out (.cells #[.string y.f0,.slice A1 y.f1.length c1] 83 (0,0)))
   have L3:=Aside0.mk (below_alloc L2.out (.cells #[.string y.f0,.slice A1 y.f1.length c1] 83 (0,0)))
   have p8:(0 ≤ x)=True:=eq_true HX.out.1
   have q8:(x < (l0_0.length:Int))=True:=eq_true c4
   have HN:=Aside0.mk hx
   clear hx HH c4
   subst he
   have HQ:=Aside0.mk hb
   clear hb hrd hy lc1 hC1
   cases b
   ·go_wp2_with (first
     | (go_at_call 98;(with_reducible refine (conf_up.calls k y.f0 A1 c1 y.f1 _ _ (Kd.C_alloc (Kd.C_below KC1.out L2.out) _) KL1.out HQ.out).mono ?_);rintro e w4 ⟨rfl,hb4⟩;have BX4:=Aside0.mk (blk_below BX3.out hb4);have L4:=Aside0.mk (below_step L3.out hb4)))
    go_ret
    have hx:=HN.out
    simp only [Bool.false_eq_true,if_false,Option.some.injEq] at hx
    have hr:=HR.out
    rw [← hx,if_neg zb33] at hr
    injection hr with hr
    subst hr
    exact ⟨zb20,L4.out⟩
   go_wp2_with (first
    | (go_at_call 98;(with_reducible refine (conf_up.calls k y.f0 A1 c1 y.f1 _ _ (Kd.C_alloc (Kd.C_below KC1.out L2.out) _) KL1.out HQ.out).mono ?_);rintro e w4 ⟨rfl,hb4⟩;have BX4:=Aside0.mk (blk_below BX3.out hb4);have L4:=Aside0.mk (below_step L3.out hb4)))
   go_roundg (gk - 1)
   case measure=>have:=HX.out;have:=of_eq_true q8;omega
   case rel =>
    have hx:=HN.out
    simp only [if_true] at hx
    have hx8:=HX.out
    have hq8:=of_eq_true q8
    have hw:wrap64 (x + 1)=x + 1:=by have:=HR0.out.2.1;unfold wrap64;omega
    refine ⟨wrap64 (x + 1),zb20,⟨zb92⟩,L4,BX4,⟨?_⟩⟩
    rw [hw,show (x + 1).toNat=x.toNat + 1 by omega]
    exact hx
  have c4b0:=decide_eq_false c4
  have hx:=HH.out
  rw [List.drop_of_length_le zb85,allO] at hx
  injection hx with hx
  have hr:=HR.out
  rw [← hx,if_pos rfl] at hr
  clear HR HH hx c4 HX
  have L1:=L2
  have BX1:=BX2
  have q0:wr.cell? ⟨X,0,none⟩=some (.slice A0_0 l0_0.length c0_0):=(blk_cell BX2.out 0).trans rfl
  have q1:wr.cell? ⟨X,1,none⟩=some (.slice A0_1 l0_1.length c0_1):=(blk_cell BX2.out 1).trans rfl
  have q2:wr.cell? ⟨X,2,none⟩=some (.slice A0_2 l0_2.length c0_2):=(blk_cell BX2.out 2).trans rfl
  have q3:wr.cell? ⟨X,3,none⟩=some (.slice A0_3 l0_3.length c0_3):=(blk_cell BX2.out 3).trans rfl
  have q4:wr.cell? ⟨X,4,none⟩=some (.int .i64 a0_4):=(blk_cell BX2.out 4).trans rfl
  have q5:wr.cell? ⟨X,5,none⟩=some (.int .i64 a0_5):=(blk_cell BX2.out 5).trans rfl
  have q6:wr.cell? ⟨X,6,none⟩=some (.int .i64 a0_6):=(blk_cell BX2.out 6).trans rfl
  have q7:wr.cell? ⟨X,7,none⟩=some (.int .i64 a0_7):=(blk_cell BX2.out 7).trans rfl
  obtain ⟨b1,hb1,hr⟩:=Option.bind_eq_some_iff.1 hr
  have HA:=Aside0.mk hb1
  have HR:=Aside0.mk hr
  clear hb1 hr
  go_wp2
  clear q0 q1 q2 q3 q4 q5 q6 q7 L2 BX2
  go_loopg [25] l0_1.length (fun kq v wr => ∃ (x:Int),v = .int .i64 x∧Aside0 (0 ≤ x∧x ≤ l0_1.length∧(l0_1.length:Int) - x ≤ kq)∧Aside0 (Below w.heap.size w wr)∧Aside0 (wr.heap[X]? = some (.cells #[.slice A0_0 l0_0.length c0_0,.slice A0_1 l0_1.length c0_1,.slice A0_2 l0_2.length c0_2,.slice A0_3 l0_3.length c0_3,.int .i64 a0_4,.int .i64 a0_5,.int .i64 a0_6,.int .i64 a0_7] 46 (0,0)))∧Aside0 (allO (fun r=>(conf_path.f r.f0).bind fun b=>if b=true then conf_path.f r.f2 else some false) (l0_1.drop x.toNat)=some b1))
  case atStart=>exact ⟨0,rfl,⟨zb18⟩,L1,BX1,HA⟩
  case round =>
   obtain ⟨x,rfl,HX,L2,BX2,HH⟩:=hrel
   clear HA L1 BX1
   by_cases c4:x < (l0_1.length:Int)
   ·have c4b0:=decide_eq_true c4
    have hx:=HH.out
    have hlt:x.toNat < l0_1.length:=by have:=HX.out;omega
    rw [List.drop_eq_getElem_cons hlt,allO] at hx
    obtain ⟨b,hb,hx⟩:=Option.bind_eq_some_iff.1 hx
    have hrd:rd_T85 l0_1 x=l0_1[x.toNat]:=by unfold rd_T85;rw [List.getD_eq_getElem?_getD,List.getElem?_eq_getElem hlt];rfl
    obtain ⟨ad,he,h0,h1,h2⟩:=at_T85 HR1.out x HX.out.1 c4
    replace h0:=(L2.out.cell (World.block_lt_of_cell? w _ h0)).trans h0
    replace h1:=(L2.out.cell (World.block_lt_of_cell? w _ h1)).trans h1
    replace h2:=(L2.out.cell (World.block_lt_of_cell? w _ h2)).trans h2
    rw [← hrd] at hb
    obtain ⟨y,hy⟩ : ∃ y,rd_T85 l0_1 x=y:=⟨_,rfl⟩
    rw [hy] at hb h0 h1 h2
    have m0:(wr.alloc (.cells #[.string y.f0,.string y.f1,.string y.f2] 85 (0,0))).cell? ⟨wr.heap.size,0,none⟩=some (.string y.f0):=(blk_cell (blk_new wr _) 0).trans rfl
    have m1:(wr.alloc (.cells #[.string y.f0,.string y.f1,.string y.f2] 85 (0,0))).cell? ⟨wr.heap.size,1,none⟩=some (.string y.f1):=(blk_cell (blk_new wr _) 1).trans rfl
    have m2:(wr.alloc (.cells #[.string y.f0,.string y.f1,.string y.f2] 85 (0,0))).cell? ⟨wr.heap.size,2,none⟩=some (.string y.f2):=(blk_cell (blk_new wr _) 2).trans rfl
    have BX3:=Aside0.mk (blk_alloc BX2.out (.cells #[.string y.f0,.string y.f1,.string y.f2] 85 (0,0)))
    have L3:=Aside0.mk (below_alloc L2.out (.cells #[.string y.f0,.string y.f1,.string y.f2] 85 (0,0)))
    have p8:(0 ≤ x)=True:=eq_true HX.out.1
    have q8:(x < (l0_1.length:Int))=True:=eq_true c4
    have HN:=Aside0.mk hx
    clear hx HH c4
    subst he
    obtain ⟨b1,hq1,hq2⟩:=Option.bind_eq_some_iff.1 hb
    have HQ:=Aside0.mk hq1
    cases b1
    ·rw [if_neg zb33] at hq2
     injection hq2 with hq2
     subst hq2
     clear hq1 hb hrd hy
     go_wp2_with (first
      | (go_at_call 99;(with_reducible refine (conf_path.calls y.f0 _ _ HQ.out).mono ?_);rintro e w4 ⟨rfl,hb4⟩;have BX4:=Aside0.mk (blk_below BX3.out hb4.below);have L4:=Aside0.mk (below_step L3.out hb4.below);clear m0 m1 m2;have m2:w4.cell? ⟨wr.heap.size,2,none⟩=some (.string y.f2):=(blk_cell (blk_below (blk_new wr (.cells #[.string y.f0,.string y.f1,.string y.f2] 85 (0,0))) hb4.below) 2).trans rfl;clear HQ))
     go_ret
     have hx:=HN.out
     simp only [Bool.false_eq_true,if_false,Option.some.injEq] at hx
     have hr:=HR.out
     rw [← hx,if_neg zb33] at hr
     injection hr with hr
     subst hr
     exact ⟨zb20,L4.out⟩
    rw [if_pos rfl] at hq2
    have HQ2:=Aside0.mk hq2
    clear hq1 hq2 hb hrd hy
    cases b
    ·go_wp2_with (first
      | (go_at_call 99;(with_reducible refine (conf_path.calls y.f0 _ _ HQ.out).mono ?_);rintro e w4 ⟨rfl,hb4⟩;have BX4:=Aside0.mk (blk_below BX3.out hb4.below);have L4:=Aside0.mk (below_step L3.out hb4.below);clear m0 m1 m2;have m2:w4.cell? ⟨wr.heap.size,2,none⟩=some (.string y.f2):=(blk_cell (blk_below (blk_new wr (.cells #[.string y.f0,.string y.f1,.string y.f2] 85 (0,0))) hb4.below) 2).trans rfl;clear HQ)
      | (go_at_call 99;(with_reducible refine (conf_path.calls y.f2 _ _ HQ2.out).mono ?_);rintro e w5 ⟨rfl,hb5⟩;have BX5:=Aside0.mk (blk_below BX4.out hb5.below);have L5:=Aside0.mk (below_step L4.out hb5.below)))
     go_ret
     have hx:=HN.out
     simp only [Bool.false_eq_true,if_false,Option.some.injEq] at hx
     have hr:=HR.out
     rw [← hx,if_neg zb33] at hr
     injection hr with hr
     subst hr
     exact ⟨zb20,L5.out⟩
    go_wp2_with (first
     | (go_at_call 99;(with_reducible refine (conf_path.calls y.f0 _ _ HQ.out).mono ?_);rintro e w4 ⟨rfl,hb4⟩;have BX4:=Aside0.mk (blk_below BX3.out hb4.below);have L4:=Aside0.mk (below_step L3.out hb4.below);clear m0 m1 m2;have m2:w4.cell? ⟨wr.heap.size,2,none⟩=some (.string y.f2):=(blk_cell (blk_below (blk_new wr (.cells #[.string y.f0,.string y.f1,.string y.f2] 85 (0,0))) hb4.below) 2).trans rfl;clear HQ)
     | (go_at_call 99;(with_reducible refine (conf_path.calls y.f2 _ _ HQ2.out).mono ?_);rintro e w5 ⟨rfl,hb5⟩;have BX5:=Aside0.mk (blk_below BX4.out hb5.below);have L5:=Aside0.mk (below_step L4.out hb5.below)))
    go_roundg (gk - 1)
    case measure=>have:=HX.out;have:=of_eq_true q8;omega
    case rel =>
     have hx:=HN.out
     simp only [if_true] at hx
     have hx8:=HX.out
     have hq8:=of_eq_true q8
     have hw:wrap64 (x + 1)=x + 1:=by have:=HR1.out.2.1;unfold wrap64;omega
     refine ⟨wrap64 (x + 1),zb20,⟨zb92⟩,L5,BX5,⟨?_⟩⟩
     rw [hw,show (x + 1).toNat=x.toNat + 1 by omega]
     exact hx
   have c4b0:=decide_eq_false c4
   have hx:=HH.out
   rw [List.drop_of_length_le zb85,allO] at hx
   injection hx with hx
   have hr:=HR.out
   rw [← hx,if_pos rfl] at hr
   clear HR HH hx c4 HX
   have L1:=L2
   have BX1:=BX2
   have q0:wr.cell? ⟨X,0,none⟩=some (.slice A0_0 l0_0.length c0_0):=(blk_cell BX2.out 0).trans rfl
   have q1:wr.cell? ⟨X,1,none⟩=some (.slice A0_1 l0_1.length c0_1):=(blk_cell BX2.out 1).trans rfl
   have q2:wr.cell? ⟨X,2,none⟩=some (.slice A0_2 l0_2.length c0_2):=(blk_cell BX2.out 2).trans rfl
   have q3:wr.cell? ⟨X,3,none⟩=some (.slice A0_3 l0_3.length c0_3):=(blk_cell BX2.out 3).trans rfl
   have q4:wr.cell? ⟨X,4,none⟩=some (.int .i64 a0_4):=(blk_cell BX2.out 4).trans rfl
   have q5:wr.cell? ⟨X,5,none⟩=some (.int .i64 a0_5):=(blk_cell BX2.out 5).trans rfl
   have q6:wr.cell? ⟨X,6,none⟩=some (.int .i64 a0_6):=(blk_cell BX2.out 6).trans rfl
   have q7:wr.cell? ⟨X,7,none⟩=some (.int .i64 a0_7):=(blk_cell BX2.out 7).trans rfl
   obtain ⟨b2,hb2,hr⟩:=Option.bind_eq_some_iff.1 hr
   have HA:=Aside0.mk hb2
   have HR:=Aside0.mk hr
   clear hb2 hr
   go_wp2
   clear q0 q1 q2 q3 q4 q5 q6 q7 L2 BX2
   go_loopg [43] l0_2.length (fun kq v wr => ∃ (x:Int),v = .int .i64 x∧Aside0 (0 ≤ x∧x ≤ l0_2.length∧(l0_2.length:Int) - x ≤ kq)∧Aside0 (Below w.heap.size w wr)∧Aside0 (wr.heap[X]? = some (.cells #[.slice A0_0 l0_0.length c0_0,.slice A0_1 l0_1.length c0_1,.slice A0_2 l0_2.length c0_2,.slice A0_3 l0_3.length c0_3,.int .i64 a0_4,.int .i64 a0_5,.int .i64 a0_6,.int .i64 a0_7] 46 (0,0)))∧Aside0 (allO (fun f=>conf_set.f f.f0 f.f1) (l0_2.drop x.toNat)=some b2))
   case atStart=>exact ⟨0,rfl,⟨zb18⟩,L1,BX1,HA⟩
   case round =>
    obtain ⟨x,rfl,HX,L2,BX2,HH⟩:=hrel
    clear HA L1 BX1
    by_cases c4:x < (l0_2.length:Int)
    ·have c4b0:=decide_eq_true c4
     have hx:=HH.out
     have hlt:x.toNat < l0_2.length:=by have:=HX.out;omega
     rw [List.drop_eq_getElem_cons hlt,allO] at hx
     obtain ⟨b,hb,hx⟩:=Option.bind_eq_some_iff.1 hx
     have hrd:rd_T36 l0_2 x=l0_2[x.toNat]:=by unfold rd_T36;rw [List.getD_eq_getElem?_getD,List.getElem?_eq_getElem hlt];rfl
     obtain ⟨ad,he,h0,h1⟩:=at_T36 HR2.out x HX.out.1 c4
     replace h0:=(L2.out.cell (World.block_lt_of_cell? w _ h0)).trans h0
     replace h1:=(L2.out.cell (World.block_lt_of_cell? w _ h1)).trans h1
     rw [← hrd] at hb
     obtain ⟨y,hy⟩ : ∃ y,rd_T36 l0_2 x=y:=⟨_,rfl⟩
     rw [hy] at hb h0 h1
     have m0:(wr.alloc (.cells #[.string y.f0,.string y.f1] 36 (0,0))).cell? ⟨wr.heap.size,0,none⟩=some (.string y.f0):=(blk_cell (blk_new wr _) 0).trans rfl
     have m1:(wr.alloc (.cells #[.string y.f0,.string y.f1] 36 (0,0))).cell? ⟨wr.heap.size,1,none⟩=some (.string y.f1):=(blk_cell (blk_new wr _) 1).trans rfl
     have BX3:=Aside0.mk (blk_alloc BX2.out (.cells #[.string y.f0,.string y.f1] 36 (0,0)))
     have L3:=Aside0.mk (below_alloc L2.out (.cells #[.string y.f0,.string y.f1] 36 (0,0)))
     have p8:(0 ≤ x)=True:=eq_true HX.out.1
     have q8:(x < (l0_2.length:Int))=True:=eq_true c4
     have HN:=Aside0.mk hx
     clear hx HH c4
     subst he
     have HQ:=Aside0.mk hb
     clear hb hrd hy
     cases b
     ·go_wp2_with (first
       | (go_at_call 100;(with_reducible refine (conf_set.calls y.f0 y.f1 _ _ HQ.out).mono ?_);rintro e w4 ⟨rfl,hb4⟩;have BX4:=Aside0.mk (blk_below BX3.out hb4);have L4:=Aside0.mk (below_step L3.out hb4)))
      go_ret
      have hx:=HN.out
      simp only [Bool.false_eq_true,if_false,Option.some.injEq] at hx
      have hr:=HR.out
      rw [← hx,if_neg zb33] at hr
      injection hr with hr
      subst hr
      exact ⟨zb20,L4.out⟩
     go_wp2_with (first
      | (go_at_call 100;(with_reducible refine (conf_set.calls y.f0 y.f1 _ _ HQ.out).mono ?_);rintro e w4 ⟨rfl,hb4⟩;have BX4:=Aside0.mk (blk_below BX3.out hb4);have L4:=Aside0.mk (below_step L3.out hb4)))
     go_roundg (gk - 1)
     case measure=>have:=HX.out;have:=of_eq_true q8;omega
     case rel =>
      have hx:=HN.out
      simp only [if_true] at hx
      have hx8:=HX.out
      have hq8:=of_eq_true q8
      have hw:wrap64 (x + 1)=x + 1:=by have:=HR2.out.2.1;unfold wrap64;omega
      refine ⟨wrap64 (x + 1),zb20,⟨zb92⟩,L4,BX4,⟨?_⟩⟩
      rw [hw,show (x + 1).toNat=x.toNat + 1 by omega]
      exact hx
    have c4b0:=decide_eq_false c4
    have hx:=HH.out
    rw [List.drop_of_length_le zb85,allO] at hx
    injection hx with hx
    have hr:=HR.out
    rw [← hx,if_pos rfl] at hr
    clear HR HH hx c4 HX
    have L1:=L2
    have BX1:=BX2
    have q0:wr.cell? ⟨X,0,none⟩=some (.slice A0_0 l0_0.length c0_0):=(blk_cell BX2.out 0).trans rfl
    have q1:wr.cell? ⟨X,1,none⟩=some (.slice A0_1 l0_1.length c0_1):=(blk_cell BX2.out 1).trans rfl
    have q2:wr.cell? ⟨X,2,none⟩=some (.slice A0_2 l0_2.length c0_2):=(blk_cell BX2.out 2).trans rfl
    have q3:wr.cell? ⟨X,3,none⟩=some (.slice A0_3 l0_3.length c0_3):=(blk_cell BX2.out 3).trans rfl
    have q4:wr.cell? ⟨X,4,none⟩=some (.int .i64 a0_4):=(blk_cell BX2.out 4).trans rfl
    have q5:wr.cell? ⟨X,5,none⟩=some (.int .i64 a0_5):=(blk_cell BX2.out 5).trans rfl
    have q6:wr.cell? ⟨X,6,none⟩=some (.int .i64 a0_6):=(blk_cell BX2.out 6).trans rfl
    have q7:wr.cell? ⟨X,7,none⟩=some (.int .i64 a0_7):=(blk_cell BX2.out 7).trans rfl
    obtain ⟨b3,hb3,hr⟩:=Option.bind_eq_some_iff.1 hr
    have HA:=Aside0.mk hb3
    have HR:=Aside0.mk hr
    clear hb3 hr
    go_wp2
    clear q0 q1 q2 q3 q4 q5 q6 q7 L2 BX2
    go_loopg [54] l0_3.length (fun kq v wr => ∃ (x:Int),v = .int .i64 x∧Aside0 (0 ≤ x∧x ≤ l0_3.length∧(l0_3.length:Int) - x ≤ kq)∧Aside0 (Below w.heap.size w wr)∧Aside0 (wr.heap[X]? = some (.cells #[.slice A0_0 l0_0.length c0_0,.slice A0_1 l0_1.length c0_1,.slice A0_2 l0_2.length c0_2,.slice A0_3 l0_3.length c0_3,.int .i64 a0_4,.int .i64 a0_5,.int .i64 a0_6,.int .i64 a0_7] 46 (0,0)))∧Aside0 (allO (fun s=>conf_drop.f s) (l0_3.drop x.toNat)=some b3))
    case atStart=>exact ⟨0,rfl,⟨zb18⟩,L1,BX1,HA⟩
    case round =>
     obtain ⟨x,rfl,HX,L2,BX2,HH⟩:=hrel
     clear HA L1 BX1
     by_cases c4:x < (l0_3.length:Int);rotate_left
     ·have c4b0:=decide_eq_false c4
      have hx:=HH.out
      rw [List.drop_of_length_le zb85,allO] at hx
      injection hx with hx
      have hr:=HR.out
      rw [← hx,if_pos rfl] at hr
      clear HR HH hx c4 HX
      have L1:=L2
      have BX1:=BX2
      have q0:wr.cell? ⟨X,0,none⟩=some (.slice A0_0 l0_0.length c0_0):=(blk_cell BX2.out 0).trans rfl
      have q1:wr.cell? ⟨X,1,none⟩=some (.slice A0_1 l0_1.length c0_1):=(blk_cell BX2.out 1).trans rfl
      have q2:wr.cell? ⟨X,2,none⟩=some (.slice A0_2 l0_2.length c0_2):=(blk_cell BX2.out 2).trans rfl
      have q3:wr.cell? ⟨X,3,none⟩=some (.slice A0_3 l0_3.length c0_3):=(blk_cell BX2.out 3).trans rfl
      have q4:wr.cell? ⟨X,4,none⟩=some (.int .i64 a0_4):=(blk_cell BX2.out 4).trans rfl
      have q5:wr.cell? ⟨X,5,none⟩=some (.int .i64 a0_5):=(blk_cell BX2.out 5).trans rfl
      have q6:wr.cell? ⟨X,6,none⟩=some (.int .i64 a0_6):=(blk_cell BX2.out 6).trans rfl
      have q7:wr.cell? ⟨X,7,none⟩=some (.int .i64 a0_7):=(blk_cell BX2.out 7).trans rfl
      unfold conf_right.e at hr
      obtain ⟨ns,hns,hr⟩:=Option.bind_eq_some_iff.1 hr
      obtain ⟨c,hc,hr⟩:=Option.bind_eq_some_iff.1 hr
      injection hr with hr
      subst hr
      have HNS:=Aside0.mk hns
      have HAN:=Aside0.mk hc
      clear hns hc
      go_wp2_with (first
       | (go_at_call 103;(with_reducible refine (conf_numbers.calls A0_0 c0_0 l0_0 A0_1 c0_1 l0_1 A0_2 c0_2 l0_2 A0_3 c0_3 l0_3 a0_4 a0_5 a0_6 a0_7 ns _ (Kd.C_below HR0.out L1.out) HC0.out (Kd.C_below HR1.out L1.out) HC1.out (Kd.C_below HR2.out L1.out) HC2.out (Kd.C_below HR3.out L1.out) HC3.out HNS.out).mono ?_);rintro e w5 ⟨v0,rfl,hR,hb5⟩;obtain ⟨An,cn,rfl⟩:=Kd.R_slice hR;have SN:=Aside0.mk hR;have L5:=Aside0.mk (below_step L1.out hb5);clear hR hb5)
       | (go_at_call 102;(refine (slices_ContainsFunc_number.callsOf (fun x=>conf_right_1.f x.f0 x.f1 x.f2 x.f3) 104 #[] EG.out An cn ns _ _ (Kd.R_reads' SN.out).2.2 (Kd.R_reads' SN.out).2.1 (fun W x b _ hq=>(by show Calls Tryz.prog 104 #[.agg #[.string x.f0,.int .i64 x.f1,.int .i64 x.f2,.int .i64 x.f3]] W _;exact conf_right_1.calls x.f0 x.f1 x.f2 x.f3 b W hq)) HAN.out).mono ?_);rintro e w6 ⟨rfl,hb6⟩;have L6:=Aside0.mk (below_step L5.out hb6)))
      go_ret
      exact ⟨zb20,L6.out⟩
     have c4b0:=decide_eq_true c4
     have hx:=HH.out
     have hlt:x.toNat < l0_3.length:=by have:=HX.out;omega
     rw [List.drop_eq_getElem_cons hlt,allO] at hx
     obtain ⟨b,hb,hx⟩:=Option.bind_eq_some_iff.1 hx
     have hrd:rdOf ByteArray.empty l0_3 x=l0_3[x.toNat]:=by simp [rdOf,List.getD_eq_getElem?_getD,List.getElem?_eq_getElem hlt]
     obtain ⟨ad,he,h0⟩:=Kd.at_string HR3.out x HX.out.1 c4
     replace h0:=(L2.out.cell (World.block_lt_of_cell? w _ h0)).trans h0
     rw [← hrd] at hb
     obtain ⟨y,hy⟩ : ∃ y,rdOf ByteArray.empty l0_3 x=y:=⟨_,rfl⟩
     rw [hy] at hb h0
     have BX3:=BX2
     have L3:=L2
     have p8:(0 ≤ x)=True:=eq_true HX.out.1
     have q8:(x < (l0_3.length:Int))=True:=eq_true c4
     have HN:=Aside0.mk hx
     clear hx HH c4
     subst he
     have HQ:=Aside0.mk hb
     clear hb hrd hy
     cases b
     ·go_wp2_with (first
       | (go_at_call 101;(with_reducible refine (conf_drop.calls y _ _ HQ.out).mono ?_);rintro e w4 ⟨rfl,hb4⟩;have BX4:=Aside0.mk (blk_below BX3.out hb4);have L4:=Aside0.mk (below_step L3.out hb4)))
      go_ret
      have hx:=HN.out
      simp only [Bool.false_eq_true,if_false,Option.some.injEq] at hx
      have hr:=HR.out
      rw [← hx,if_neg zb33] at hr
      injection hr with hr
      subst hr
      exact ⟨zb20,L4.out⟩
     ·go_wp2_with (first
       | (go_at_call 101;(with_reducible refine (conf_drop.calls y _ _ HQ.out).mono ?_);rintro e w4 ⟨rfl,hb4⟩;have BX4:=Aside0.mk (blk_below BX3.out hb4);have L4:=Aside0.mk (below_step L3.out hb4)))
      go_roundg (gk - 1)
      case measure=>have:=HX.out;have:=of_eq_true q8;omega
      case rel =>
       have hx:=HN.out
       simp only [if_true] at hx
       have hx8:=HX.out
       have hq8:=of_eq_true q8
       have hw:wrap64 (x + 1)=x + 1:=by have:=HR3.out.2.1;unfold wrap64;omega
       refine ⟨wrap64 (x + 1),zb20,⟨zb92⟩,L4,BX4,⟨?_⟩⟩
       rw [hw,show (x + 1).toNat=x.toNat + 1 by omega]
       exact hx
/-- The errors that are told behind the parts. -/
def conf_Check.e (l0_0:List (S83)) (l0_1:List (S85)):Int:=if dcount (l0_0.map (·.f0)) < l0_0.length then 72 else if dcount (l0_1.map (·.f0)) < l0_1.length then 72 else if (l0_1.any fun r => !hasB (l0_0.map (·.f0)) r.f1)=true then 71 else 0
def conf_Check.f (k:Nat) (l0_0:List (S83)) (l0_1:List (S85)) (l0_2:List (S36)) (l0_3:List ByteArray) (a0_4:Int) (a0_5:Int) (a0_6:Int) (a0_7:Int):Option Int:=if l0_0.length ≤ 140737488355328∧l0_1.length ≤ 140737488355328∧(∀ u ∈ l0_0,u.f0.size ≤ 140737488355328)∧(∀ r ∈ l0_1,r.f0.size ≤ 140737488355328∧r.f1.size ≤ 140737488355328) then
 (conf_many.f l0_0 l0_1 l0_2 l0_3 a0_4 a0_5 a0_6 a0_7).bind fun m=>if m=true then some 3 else (conf_right.f k l0_0 l0_1 l0_2 l0_3 a0_4 a0_5 a0_6 a0_7).bind fun b=>if b=true then some (conf_Check.e l0_0 l0_1) else some 1
 else none
theorem zero_bool (w:World):(zeroValue 4).run Tryz.prog w = .ok (.bool false) w:=by kernel_rfl
set_option maxHeartbeats 8000000 in
set_option maxRecDepth 100000 in
theorem conf_Check.calls (k:Nat) (A0_0:Option Addr) (c0_0:Nat) (l0_0:List (S83)) (A0_1:Option Addr) (c0_1:Nat) (l0_1:List (S85)) (A0_2:Option Addr) (c0_2:Nat) (l0_2:List (S36)) (A0_3:Option Addr) (c0_3:Nat) (l0_3:List ByteArray) (a0_4:Int) (a0_5:Int) (a0_6:Int) (a0_7:Int) (r:Int) (w:World) (hr0_0:Kd.C k83 w A0_0 l0_0.length l0_0) (hc0_0:l0_0.length ≤ c0_0) (hr0_1:Kd.C k85 w A0_1 l0_1.length l0_1) (hc0_1:l0_1.length ≤ c0_1) (hr0_2:Kd.C k36 w A0_2 l0_2.length l0_2) (hc0_2:l0_2.length ≤ c0_2) (hr0_3:Kd.C Kd.string w A0_3 l0_3.length l0_3) (hc0_3:l0_3.length ≤ c0_3) (h:conf_Check.f k l0_0 l0_1 l0_2 l0_3 a0_4 a0_5 a0_6 a0_7=some r) :
 Calls Tryz.prog 29 #[.agg #[.slice A0_0 l0_0.length c0_0,.slice A0_1 l0_1.length c0_1,.slice A0_2 l0_2.length c0_2,.slice A0_3 l0_3.length c0_3,.int .i64 a0_4,.int .i64 a0_5,.int .i64 a0_6,.int .i64 a0_7]] w fun e w' => e = .returned (.int .i64 r)∧Below w.heap.size w w' := by
 have hu:=Tryz.underlying46
 have hu1:=Tryz.underlying83
 have hu2:=Tryz.underlying85
 have hu4:=Tryz.underlying52
 have hmm := @run_makeMap Tryz.prog
 have HR0:=Aside0.mk hr0_0
 have HR1:=Aside0.mk hr0_1
 have HR2:=Aside0.mk hr0_2
 have HR3:=Aside0.mk hr0_3
 have HC0:=Aside0.mk hc0_0
 have HC1:=Aside0.mk hc0_1
 have HC2:=Aside0.mk hc0_2
 have HC3:=Aside0.mk hc0_3
 clear hr0_0 hr0_1 hr0_2 hr0_3 hc0_0 hc0_1 hc0_2 hc0_3
 unfold conf_Check.f at h
 by_cases hz:l0_0.length ≤ 140737488355328∧l0_1.length ≤ 140737488355328∧(∀ u ∈ l0_0,u.f0.size ≤ 140737488355328)∧(∀ r ∈ l0_1,r.f0.size ≤ 140737488355328∧r.f1.size ≤ 140737488355328);rotate_left
 ·rw [if_neg hz] at h
  cases h
 rw [if_pos hz] at h
 have HZ:=Aside0.mk hz
 have HH:=Aside0.mk h
 clear hz h
 go_enter Tryz.func29,Tryz.ntmps29
 go_wp2_with (first
  | ((with_reducible refine gate_dst (N:=1) rfl ?_);refine box_event ?hg (N:=1) ?hd (cs:=#[.slice A0_0 l0_0.length c0_0,.slice A0_1 l0_1.length c0_1,.slice A0_2 l0_2.length c0_2,.slice A0_3 l0_3.length c0_3,.int .i64 a0_4,.int .i64 a0_5,.int .i64 a0_6,.int .i64 a0_7]) (t:=46) ?hr ?_;(case hd=>rfl);(case hg=>rfl);(case hr=>first|(go_simp;done)|(go_simp;rfl));intro X hX w1 hBX hbX;have BX1:=Aside0.mk hBX;have L1:=Aside0.mk hbX;clear hBX hbX hX;have BX2:=Aside0.mk (blk_alloc (blk_alloc BX1.out (.map #[] 0)) (.map #[] 0));have q0:((w1.alloc (.map #[] 0)).alloc (.map #[] 0)).cell? ⟨X,0,none⟩=some (.slice A0_0 l0_0.length c0_0):=(blk_cell BX2.out 0).trans rfl;have q1:((w1.alloc (.map #[] 0)).alloc (.map #[] 0)).cell? ⟨X,1,none⟩=some (.slice A0_1 l0_1.length c0_1):=(blk_cell BX2.out 1).trans rfl;have q2:((w1.alloc (.map #[] 0)).alloc (.map #[] 0)).cell? ⟨X,2,none⟩=some (.slice A0_2 l0_2.length c0_2):=(blk_cell BX2.out 2).trans rfl;have q3:((w1.alloc (.map #[] 0)).alloc (.map #[] 0)).cell? ⟨X,3,none⟩=some (.slice A0_3 l0_3.length c0_3):=(blk_cell BX2.out 3).trans rfl;have q4:((w1.alloc (.map #[] 0)).alloc (.map #[] 0)).cell? ⟨X,4,none⟩=some (.int .i64 a0_4):=(blk_cell BX2.out 4).trans rfl;have q5:((w1.alloc (.map #[] 0)).alloc (.map #[] 0)).cell? ⟨X,5,none⟩=some (.int .i64 a0_5):=(blk_cell BX2.out 5).trans rfl;have q6:((w1.alloc (.map #[] 0)).alloc (.map #[] 0)).cell? ⟨X,6,none⟩=some (.int .i64 a0_6):=(blk_cell BX2.out 6).trans rfl;have q7:((w1.alloc (.map #[] 0)).alloc (.map #[] 0)).cell? ⟨X,7,none⟩=some (.int .i64 a0_7):=(blk_cell BX2.out 7).trans rfl))
 have XM:=Aside0.mk (show X < w1.heap.size∧w.heap.size ≤ w1.heap.size from ⟨blk_lt BX1.out,L1.out.size⟩)
 have L2:=Aside0.mk (below_alloc (below_alloc L1.out (.map #[] 0)) (.map #[] 0))
 have SA:=Aside0.mk (((SetB.make (P:=Tryz.prog) (K:=9) (E:=4) w1).alloc (.map #[] 0)):SetB Tryz.prog 9 4 ((w1.alloc (.map #[] 0)).alloc (.map #[] 0)) w1.heap.size 0 [])
 have SC:=Aside0.mk (show SetB Tryz.prog 9 4 ((w1.alloc (.map #[] 0)).alloc (.map #[] 0)) (w1.heap.size + 1) 0 [] from by have z:=SetB.make (P:=Tryz.prog) (K:=9) (E:=4) (w1.alloc (.map #[] 0));rw [show (w1.alloc (.map #[] 0)).heap.size=w1.heap.size + 1 from Array.size_push ..] at z;exact z)
 clear q0 q1 q2 q3 q4 q5 q6 q7
 go_loopg [15] l0_0.length (fun kq v wr => ∃ (x:Int),v = .int .i64 x∧Aside0 (0 ≤ x∧x ≤ l0_0.length∧(l0_0.length:Int) - x ≤ kq)∧Aside0 (Below w.heap.size w wr)∧Aside0 (wr.heap[X]? = some (.cells #[.slice A0_0 l0_0.length c0_0,.slice A0_1 l0_1.length c0_1,.slice A0_2 l0_2.length c0_2,.slice A0_3 l0_3.length c0_3,.int .i64 a0_4,.int .i64 a0_5,.int .i64 a0_6,.int .i64 a0_7] 46 (0,0)))∧Aside0 (SetB Tryz.prog 9 4 wr w1.heap.size x.toNat ((l0_0.map (·.f0)).take x.toNat))∧Aside0 (SetB Tryz.prog 9 4 wr (w1.heap.size + 1) 0 []))
 case atStart=>exact ⟨0,rfl,⟨zb18⟩,L2,BX2,SA,SC⟩
 case round =>
  obtain ⟨x,rfl,HX,L3,BX3,SA3,SC3⟩:=hrel
  clear SA SC L1 L2 BX1 BX2
  by_cases c4:x < (l0_0.length:Int)
  ·have c4b0:=decide_eq_true c4
   have hlt:x.toNat < l0_0.length:=by have:=HX.out;omega
   have hrd:rd_T83 l0_0 x=l0_0[x.toNat]:=by unfold rd_T83;rw [List.getD_eq_getElem?_getD,List.getElem?_eq_getElem hlt];rfl
   obtain ⟨ad,A1,c1,he,h0,h1,lc1,hC1⟩:=at_T83 HR0.out x HX.out.1 c4
   replace h0:=(L3.out.cell (World.block_lt_of_cell? w _ h0)).trans h0
   replace h1:=(L3.out.cell (World.block_lt_of_cell? w _ h1)).trans h1
   obtain ⟨y,hy⟩ : ∃ y,rd_T83 l0_0 x=y:=⟨_,rfl⟩
   have hmem:y ∈ l0_0:=by rw [← hy,hrd];exact List.getElem_mem hlt
   have htk:(l0_0.map (·.f0)).take (x.toNat + 1)=(l0_0.map (·.f0)).take x.toNat ++ [y.f0]:=by rw [List.take_succ_eq_append_getElem (by rw [List.length_map];exact hlt),List.getElem_map,← hrd,hy]
   rw [hy] at h0 h1 lc1 hC1
   have m0:(wr.alloc (.cells #[.string y.f0,.slice A1 y.f1.length c1] 83 (0,0))).cell? ⟨wr.heap.size,0,none⟩=some (.string y.f0):=(blk_cell (blk_new wr _) 0).trans rfl
   have m1:(wr.alloc (.cells #[.string y.f0,.slice A1 y.f1.length c1] 83 (0,0))).cell? ⟨wr.heap.size,1,none⟩=some (.slice A1 y.f1.length c1):=(blk_cell (blk_new wr _) 1).trans rfl
   have BX4:=Aside0.mk (blk_alloc BX3.out (.cells #[.string y.f0,.slice A1 y.f1.length c1] 83 (0,0)))
   have L4:=Aside0.mk (below_alloc L3.out (.cells #[.string y.f0,.slice A1 y.f1.length c1] 83 (0,0)))
   have SA4:=Aside0.mk (SA3.out.alloc (.cells #[.string y.f0,.slice A1 y.f1.length c1] 83 (0,0)))
   have SC4:=Aside0.mk (SC3.out.alloc (.cells #[.string y.f0,.slice A1 y.f1.length c1] 83 (0,0)))
   have BY4:=Aside0.mk (blk_new wr (.cells #[.string y.f0,.slice A1 y.f1.length c1] 83 (0,0)))
   have p8:(0 ≤ x)=True:=eq_true HX.out.1
   have q8:(x < (l0_0.length:Int))=True:=eq_true c4
   have HT:=Aside0.mk htk
   have HM:=Aside0.mk hmem
   clear hlt hrd hy htk hmem c4 lc1 hC1
   subst he
   go_wp2_with (first
    | (at_mapUpdate;refine wpList_mapUpdate_own _ rfl _ _ _ 52 rfl 9 4 (Go.Maps.string_keyed Tryz.underlying9) Tryz.underlying52 _ w1.heap.size x.toNat _ rfl SA4.out (by have:=HX.out;have:=HZ.out.1;unfold maxLen;omega) _ _ _ rfl rfl (Go.WideMaps.keyOf_string_mk Tryz.underlying9 (by have:=HZ.out.2.2.1 y HM.out;unfold maxLen;omega)) _ [] (plainElem_bool Tryz.underlying4 true) ?_;intro w5 hown5 hgrow5;have SA5:=Aside0.mk (SetB.put hown5);have SC5:=Aside0.mk (SC4.out.grown hgrow5 zb18);have L5:=Aside0.mk (L4.out.grown hgrow5 L4.out.size (fun j hj=>by injection hj with hj;have:=XM.out;omega));have BX5:=Aside0.mk ((hgrow5.block X (blk_lt BX4.out) (fun e=>by injection e with e;have:=XM.out;omega)).trans BX4.out)))
   go_roundg (gk - 1)
   case measure=>have:=HX.out;have:=of_eq_true q8;omega
   case rel =>
    have hx8:=HX.out
    have hq8:=of_eq_true q8
    have hw:wrap64 (x + 1)=x + 1:=by have:=HR0.out.2.1;unfold wrap64;omega
    have hw2:(wrap64 (x + 1)).toNat=x.toNat + 1:=by rw [hw];omega
    exact ⟨wrap64 (x + 1),zb20,⟨zb92⟩,L5,BX5,⟨by rw [hw2,HT.out];exact SA5.out⟩,SC5⟩
  have c4b0:=decide_eq_false c4
  have hxe:x.toNat=l0_0.length:=by have:=HX.out;omega
  have SA:=Aside0.mk (show SetB Tryz.prog 9 4 wr w1.heap.size l0_0.length (l0_0.map (·.f0)) from by have z:=SA3.out;rw [hxe,List.take_of_length_le (by rw [List.length_map];omega)] at z;exact z)
  have SC:=SC3
  have L2:=L3
  have BX2:=BX3
  clear SA3 SC3 HX c4 hxe L3 BX3
  have q0:wr.cell? ⟨X,0,none⟩=some (.slice A0_0 l0_0.length c0_0):=(blk_cell BX2.out 0).trans rfl
  have q1:wr.cell? ⟨X,1,none⟩=some (.slice A0_1 l0_1.length c0_1):=(blk_cell BX2.out 1).trans rfl
  have q2:wr.cell? ⟨X,2,none⟩=some (.slice A0_2 l0_2.length c0_2):=(blk_cell BX2.out 2).trans rfl
  have q3:wr.cell? ⟨X,3,none⟩=some (.slice A0_3 l0_3.length c0_3):=(blk_cell BX2.out 3).trans rfl
  have q4:wr.cell? ⟨X,4,none⟩=some (.int .i64 a0_4):=(blk_cell BX2.out 4).trans rfl
  have q5:wr.cell? ⟨X,5,none⟩=some (.int .i64 a0_5):=(blk_cell BX2.out 5).trans rfl
  have q6:wr.cell? ⟨X,6,none⟩=some (.int .i64 a0_6):=(blk_cell BX2.out 6).trans rfl
  have q7:wr.cell? ⟨X,7,none⟩=some (.int .i64 a0_7):=(blk_cell BX2.out 7).trans rfl
  go_wp2
  clear q0 q1 q2 q3 q4 q5 q6 q7
  go_loopg [26,7] l0_1.length (fun kq v v7 wr => ∃ (x:Int),v = .int .i64 x∧Aside0 (0 ≤ x∧x ≤ l0_1.length∧(l0_1.length:Int) - x ≤ kq)∧Aside0 (Below w.heap.size w wr)∧Aside0 (wr.heap[X]? = some (.cells #[.slice A0_0 l0_0.length c0_0,.slice A0_1 l0_1.length c0_1,.slice A0_2 l0_2.length c0_2,.slice A0_3 l0_3.length c0_3,.int .i64 a0_4,.int .i64 a0_5,.int .i64 a0_6,.int .i64 a0_7] 46 (0,0)))∧v7 = .bool ((l0_1.take x.toNat).any fun r => !hasB (l0_0.map (·.f0)) r.f1)∧Aside0 (SetB Tryz.prog 9 4 wr w1.heap.size l0_0.length (l0_0.map (·.f0)))∧Aside0 (SetB Tryz.prog 9 4 wr (w1.heap.size + 1) x.toNat ((l0_1.map (·.f0)).take x.toNat)))
  case atStart=>exact ⟨0,rfl,⟨zb18⟩,L2,BX2,rfl,SA,SC⟩
  case round =>
   obtain ⟨x,rfl,HX,L3,BX3,rfl,SA3,SC3⟩:=hrel
   clear SA SC L2 BX2
   by_cases c4:x < (l0_1.length:Int)
   ·have c4b0:=decide_eq_true c4
    have hlt:x.toNat < l0_1.length:=by have:=HX.out;omega
    have hrd:rd_T85 l0_1 x=l0_1[x.toNat]:=by unfold rd_T85;rw [List.getD_eq_getElem?_getD,List.getElem?_eq_getElem hlt];rfl
    obtain ⟨ad,he,h0,h1,h2⟩:=at_T85 HR1.out x HX.out.1 c4
    replace h0:=(L3.out.cell (World.block_lt_of_cell? w _ h0)).trans h0
    replace h1:=(L3.out.cell (World.block_lt_of_cell? w _ h1)).trans h1
    replace h2:=(L3.out.cell (World.block_lt_of_cell? w _ h2)).trans h2
    obtain ⟨y,hy⟩ : ∃ y,rd_T85 l0_1 x=y:=⟨_,rfl⟩
    have hmem:y ∈ l0_1:=by rw [← hy,hrd];exact List.getElem_mem hlt
    have htk:(l0_1.map (·.f0)).take (x.toNat + 1)=(l0_1.map (·.f0)).take x.toNat ++ [y.f0]:=by rw [List.take_succ_eq_append_getElem (by rw [List.length_map];exact hlt),List.getElem_map,← hrd,hy]
    rw [hy] at h0 h1 h2
    have m0:(wr.alloc (.cells #[.string y.f0,.string y.f1,.string y.f2] 85 (0,0))).cell? ⟨wr.heap.size,0,none⟩=some (.string y.f0):=(blk_cell (blk_new wr _) 0).trans rfl
    have m1:(wr.alloc (.cells #[.string y.f0,.string y.f1,.string y.f2] 85 (0,0))).cell? ⟨wr.heap.size,1,none⟩=some (.string y.f1):=(blk_cell (blk_new wr _) 1).trans rfl
    have m2:(wr.alloc (.cells #[.string y.f0,.string y.f1,.string y.f2] 85 (0,0))).cell? ⟨wr.heap.size,2,none⟩=some (.string y.f2):=(blk_cell (blk_new wr _) 2).trans rfl
    have BX4:=Aside0.mk (blk_alloc BX3.out (.cells #[.string y.f0,.string y.f1,.string y.f2] 85 (0,0)))
    have L4:=Aside0.mk (below_alloc L3.out (.cells #[.string y.f0,.string y.f1,.string y.f2] 85 (0,0)))
    have SA4:=Aside0.mk (SA3.out.alloc (.cells #[.string y.f0,.string y.f1,.string y.f2] 85 (0,0)))
    have SC4:=Aside0.mk (SC3.out.alloc (.cells #[.string y.f0,.string y.f1,.string y.f2] 85 (0,0)))
    have BY4:=Aside0.mk (blk_new wr (.cells #[.string y.f0,.string y.f1,.string y.f2] 85 (0,0)))
    have htk2:l0_1.take (x.toNat + 1)=l0_1.take x.toNat ++ [y]:=by rw [List.take_succ_eq_append_getElem hlt,← hrd,hy]
    have HT2:=Aside0.mk htk2
    clear htk2
    have p8:(0 ≤ x)=True:=eq_true HX.out.1
    have q8:(x < (l0_1.length:Int))=True:=eq_true c4
    have HT:=Aside0.mk htk
    have HM:=Aside0.mk hmem
    clear hlt hrd hy htk hmem c4
    subst he
    have HL:=Aside0.mk (show ((l0_1.take (x.toNat + 1)).any fun r => !hasB (l0_0.map (·.f0)) r.f1)=(((l0_1.take x.toNat).any fun r => !hasB (l0_0.map (·.f0)) r.f1) || !hasB (l0_0.map (·.f0)) y.f1) from by rw [HT2.out,List.any_append];simp)
    obtain ⟨lb,hlb⟩ : ∃ lb,lb=((l0_1.take x.toNat).any fun r => !hasB (l0_0.map (·.f0)) r.f1):=⟨_,rfl⟩
    obtain ⟨hb,hhb⟩ : ∃ hb,hb=hasB (l0_0.map (·.f0)) y.f1:=⟨_,rfl⟩
    rw [← hlb] at HL ⊢
    rw [← hhb] at HL
    have HHB:=Aside0.mk hhb
    clear hlb hhb
    cases lb <;> cases hb
    all_goals
     go_wp2_with (first
      | (at_mapUpdate;refine wpList_mapUpdate_own _ rfl _ _ _ 52 rfl 9 4 (Go.Maps.string_keyed Tryz.underlying9) Tryz.underlying52 _ (w1.heap.size + 1) x.toNat _ rfl SC4.out (by have:=HX.out;have:=HZ.out.2.1;unfold maxLen;omega) _ _ _ rfl rfl (Go.WideMaps.keyOf_string_mk Tryz.underlying9 (by have:=(HZ.out.2.2.2 y HM.out).1;unfold maxLen;omega)) _ [] (plainElem_bool Tryz.underlying4 true) ?_;intro w5 hown5 hgrow5;have SC5:=Aside0.mk (SetB.put hown5);have SA5:=Aside0.mk (SA4.out.grown hgrow5 zb18);have L5:=Aside0.mk (L4.out.grown hgrow5 L4.out.size (fun j hj=>by injection hj with hj;have:=XM.out;omega));have BX5:=Aside0.mk ((hgrow5.block X (blk_lt BX4.out) (fun e=>by injection e with e;have:=XM.out;omega)).trans BX4.out);have lk:=SA5.out.look Tryz.underlying52 Tryz.underlying9 Tryz.underlying4 (zero_bool w5) y.f1 (by have:=HZ.out.2.2.2 y HM.out;unfold maxLen;omega);rw [← HHB.out] at lk;have BY5:=(hgrow5.block wr.heap.size (blk_lt BY4.out) (fun e=>by injection e with e;have:=SC3.out.lt;omega)).trans BY4.out;clear m0 m1 m2;have m1:w5.cell? ⟨wr.heap.size,1,none⟩=some (.string y.f1):=(blk_cell BY5 1).trans rfl))
     go_roundg (gk - 1)
     case measure=>have:=HX.out;have:=of_eq_true q8;omega
     case rel =>
      have hx8:=HX.out
      have hq8:=of_eq_true q8
      have hw:wrap64 (x + 1)=x + 1:=by have:=HR1.out.2.1;unfold wrap64;omega
      have hw2:(wrap64 (x + 1)).toNat=x.toNat + 1:=by rw [hw];omega
      exact ⟨wrap64 (x + 1),zb20,⟨zb92⟩,L5,BX5,(by rw [hw2,HL.out];rfl),SA5,⟨by rw [hw2,HT.out];exact SC5.out⟩⟩
   have c4b0:=decide_eq_false c4
   have hxe:x.toNat=l0_1.length:=by have:=HX.out;omega
   have SC:=Aside0.mk (show SetB Tryz.prog 9 4 wr (w1.heap.size + 1) l0_1.length (l0_1.map (·.f0)) from by have z:=SC3.out;rw [hxe,List.take_of_length_le (by rw [List.length_map];omega)] at z;exact z)
   obtain ⟨lb,hlb⟩ : ∃ lb,lb=((l0_1.take x.toNat).any fun r => !hasB (l0_0.map (·.f0)) r.f1):=⟨_,rfl⟩
   have HL:=Aside0.mk (show (l0_1.any fun r => !hasB (l0_0.map (·.f0)) r.f1)=lb from by rw [hlb,hxe,List.take_of_length_le zb18])
   rw [← hlb]
   have SA:=SA3
   have L2:=L3
   have BX2:=BX3
   clear SA3 SC3 HX c4 hxe L3 BX3 hlb
   have h:=HH.out
   clear HH
   obtain ⟨m,hm,h⟩:=Option.bind_eq_some_iff.1 h
   have HM:=Aside0.mk hm
   clear hm
   have q0:wr.cell? ⟨X,0,none⟩=some (.slice A0_0 l0_0.length c0_0):=(blk_cell BX2.out 0).trans rfl
   have q1:wr.cell? ⟨X,1,none⟩=some (.slice A0_1 l0_1.length c0_1):=(blk_cell BX2.out 1).trans rfl
   have q2:wr.cell? ⟨X,2,none⟩=some (.slice A0_2 l0_2.length c0_2):=(blk_cell BX2.out 2).trans rfl
   have q3:wr.cell? ⟨X,3,none⟩=some (.slice A0_3 l0_3.length c0_3):=(blk_cell BX2.out 3).trans rfl
   have q4:wr.cell? ⟨X,4,none⟩=some (.int .i64 a0_4):=(blk_cell BX2.out 4).trans rfl
   have q5:wr.cell? ⟨X,5,none⟩=some (.int .i64 a0_5):=(blk_cell BX2.out 5).trans rfl
   have q6:wr.cell? ⟨X,6,none⟩=some (.int .i64 a0_6):=(blk_cell BX2.out 6).trans rfl
   have q7:wr.cell? ⟨X,7,none⟩=some (.int .i64 a0_7):=(blk_cell BX2.out 7).trans rfl
   cases m
   ·rw [if_neg zb33] at h
    obtain ⟨b,hb,h⟩:=Option.bind_eq_some_iff.1 h
    have HRI:=Aside0.mk hb
    clear hb
    cases b
    ·rw [if_neg zb33] at h
     injection h with h
     subst h
     go_wp2_with (first
      | (go_at_call 56;(with_reducible refine (conf_many.calls A0_0 c0_0 l0_0 A0_1 c0_1 l0_1 A0_2 c0_2 l0_2 A0_3 c0_3 l0_3 a0_4 a0_5 a0_6 a0_7 _ _ (Kd.C_below HR0.out L2.out) HC0.out (Kd.C_below HR1.out L2.out) HC1.out (Kd.C_below HR2.out L2.out) HC2.out (Kd.C_below HR3.out L2.out) HC3.out HM.out).mono ?_);rintro e w6 ⟨rfl,hb6⟩;have L6:=Aside0.mk (below_step L2.out hb6);have BX6:=Aside0.mk (blk_below BX2.out hb6);have SA6:=Aside0.mk (SA.out.below hb6);have SC6:=Aside0.mk (SC.out.below hb6);clear q0 q1 q2 q3 q4 q5 q6 q7;clear hb6;have q0:w6.cell? ⟨X,0,none⟩=some (.slice A0_0 l0_0.length c0_0):=(blk_cell BX6.out 0).trans rfl;have q1:w6.cell? ⟨X,1,none⟩=some (.slice A0_1 l0_1.length c0_1):=(blk_cell BX6.out 1).trans rfl;have q2:w6.cell? ⟨X,2,none⟩=some (.slice A0_2 l0_2.length c0_2):=(blk_cell BX6.out 2).trans rfl;have q3:w6.cell? ⟨X,3,none⟩=some (.slice A0_3 l0_3.length c0_3):=(blk_cell BX6.out 3).trans rfl;have q4:w6.cell? ⟨X,4,none⟩=some (.int .i64 a0_4):=(blk_cell BX6.out 4).trans rfl;have q5:w6.cell? ⟨X,5,none⟩=some (.int .i64 a0_5):=(blk_cell BX6.out 5).trans rfl;have q6:w6.cell? ⟨X,6,none⟩=some (.int .i64 a0_6):=(blk_cell BX6.out 6).trans rfl;have q7:w6.cell? ⟨X,7,none⟩=some (.int .i64 a0_7):=(blk_cell BX6.out 7).trans rfl)
      | (go_at_call 57;(with_reducible refine (conf_right.calls k A0_0 c0_0 l0_0 A0_1 c0_1 l0_1 A0_2 c0_2 l0_2 A0_3 c0_3 l0_3 a0_4 a0_5 a0_6 a0_7 _ _ (Kd.C_below HR0.out L6.out) HC0.out (Kd.C_below HR1.out L6.out) HC1.out (Kd.C_below HR2.out L6.out) HC2.out (Kd.C_below HR3.out L6.out) HC3.out HRI.out).mono ?_);rintro e w7 ⟨rfl,hb7⟩;have L7:=Aside0.mk (below_step L6.out hb7);have BX7:=Aside0.mk (blk_below BX6.out hb7);have la:=(SA6.out.below hb7).len Tryz.underlying52 3;have lc:=(SC6.out.below hb7).len Tryz.underlying52 3;clear q0 q1 q2 q3 q4 q5 q6 q7;clear hb7;have q0:w7.cell? ⟨X,0,none⟩=some (.slice A0_0 l0_0.length c0_0):=(blk_cell BX7.out 0).trans rfl;have q1:w7.cell? ⟨X,1,none⟩=some (.slice A0_1 l0_1.length c0_1):=(blk_cell BX7.out 1).trans rfl;have q2:w7.cell? ⟨X,2,none⟩=some (.slice A0_2 l0_2.length c0_2):=(blk_cell BX7.out 2).trans rfl;have q3:w7.cell? ⟨X,3,none⟩=some (.slice A0_3 l0_3.length c0_3):=(blk_cell BX7.out 3).trans rfl;have q4:w7.cell? ⟨X,4,none⟩=some (.int .i64 a0_4):=(blk_cell BX7.out 4).trans rfl;have q5:w7.cell? ⟨X,5,none⟩=some (.int .i64 a0_5):=(blk_cell BX7.out 5).trans rfl;have q6:w7.cell? ⟨X,6,none⟩=some (.int .i64 a0_6):=(blk_cell BX7.out 6).trans rfl;have q7:w7.cell? ⟨X,7,none⟩=some (.int .i64 a0_7):=(blk_cell BX7.out 7).trans rfl))
     go_ret
     exact ⟨zb20,L7.out⟩
    rw [if_pos rfl] at h
    injection h with h
    unfold conf_Check.e at h
    rw [HL.out] at h
    by_cases d1:dcount (l0_0.map (·.f0)) < l0_0.length
    ·rw [if_pos d1] at h
     subst h
     have e1:decide ((dcount (l0_0.map (·.f0)):Int) < (l0_0.length:Int))=true:=decide_eq_true zb18
     have e2:decide (dcount (l0_0.map (·.f0)) < l0_0.length)=true:=decide_eq_true zb18
     have e3:((dcount (l0_0.map (·.f0)):Int) < (l0_0.length:Int))=True:=eq_true zb18
     have e4:(dcount (l0_0.map (·.f0)) < l0_0.length)=True:=eq_true zb18
     clear d1
     go_wp2_with (first
      | (go_at_call 56;(with_reducible refine (conf_many.calls A0_0 c0_0 l0_0 A0_1 c0_1 l0_1 A0_2 c0_2 l0_2 A0_3 c0_3 l0_3 a0_4 a0_5 a0_6 a0_7 _ _ (Kd.C_below HR0.out L2.out) HC0.out (Kd.C_below HR1.out L2.out) HC1.out (Kd.C_below HR2.out L2.out) HC2.out (Kd.C_below HR3.out L2.out) HC3.out HM.out).mono ?_);rintro e w6 ⟨rfl,hb6⟩;have L6:=Aside0.mk (below_step L2.out hb6);have BX6:=Aside0.mk (blk_below BX2.out hb6);have SA6:=Aside0.mk (SA.out.below hb6);have SC6:=Aside0.mk (SC.out.below hb6);clear q0 q1 q2 q3 q4 q5 q6 q7;clear hb6;have q0:w6.cell? ⟨X,0,none⟩=some (.slice A0_0 l0_0.length c0_0):=(blk_cell BX6.out 0).trans rfl;have q1:w6.cell? ⟨X,1,none⟩=some (.slice A0_1 l0_1.length c0_1):=(blk_cell BX6.out 1).trans rfl;have q2:w6.cell? ⟨X,2,none⟩=some (.slice A0_2 l0_2.length c0_2):=(blk_cell BX6.out 2).trans rfl;have q3:w6.cell? ⟨X,3,none⟩=some (.slice A0_3 l0_3.length c0_3):=(blk_cell BX6.out 3).trans rfl;have q4:w6.cell? ⟨X,4,none⟩=some (.int .i64 a0_4):=(blk_cell BX6.out 4).trans rfl;have q5:w6.cell? ⟨X,5,none⟩=some (.int .i64 a0_5):=(blk_cell BX6.out 5).trans rfl;have q6:w6.cell? ⟨X,6,none⟩=some (.int .i64 a0_6):=(blk_cell BX6.out 6).trans rfl;have q7:w6.cell? ⟨X,7,none⟩=some (.int .i64 a0_7):=(blk_cell BX6.out 7).trans rfl)
      | (go_at_call 57;(with_reducible refine (conf_right.calls k A0_0 c0_0 l0_0 A0_1 c0_1 l0_1 A0_2 c0_2 l0_2 A0_3 c0_3 l0_3 a0_4 a0_5 a0_6 a0_7 _ _ (Kd.C_below HR0.out L6.out) HC0.out (Kd.C_below HR1.out L6.out) HC1.out (Kd.C_below HR2.out L6.out) HC2.out (Kd.C_below HR3.out L6.out) HC3.out HRI.out).mono ?_);rintro e w7 ⟨rfl,hb7⟩;have L7:=Aside0.mk (below_step L6.out hb7);have BX7:=Aside0.mk (blk_below BX6.out hb7);have la:=(SA6.out.below hb7).len Tryz.underlying52 3;have lc:=(SC6.out.below hb7).len Tryz.underlying52 3;clear q0 q1 q2 q3 q4 q5 q6 q7;clear hb7;have q0:w7.cell? ⟨X,0,none⟩=some (.slice A0_0 l0_0.length c0_0):=(blk_cell BX7.out 0).trans rfl;have q1:w7.cell? ⟨X,1,none⟩=some (.slice A0_1 l0_1.length c0_1):=(blk_cell BX7.out 1).trans rfl;have q2:w7.cell? ⟨X,2,none⟩=some (.slice A0_2 l0_2.length c0_2):=(blk_cell BX7.out 2).trans rfl;have q3:w7.cell? ⟨X,3,none⟩=some (.slice A0_3 l0_3.length c0_3):=(blk_cell BX7.out 3).trans rfl;have q4:w7.cell? ⟨X,4,none⟩=some (.int .i64 a0_4):=(blk_cell BX7.out 4).trans rfl;have q5:w7.cell? ⟨X,5,none⟩=some (.int .i64 a0_5):=(blk_cell BX7.out 5).trans rfl;have q6:w7.cell? ⟨X,6,none⟩=some (.int .i64 a0_6):=(blk_cell BX7.out 6).trans rfl;have q7:w7.cell? ⟨X,7,none⟩=some (.int .i64 a0_7):=(blk_cell BX7.out 7).trans rfl))
     go_ret
     exact ⟨zb20,L7.out⟩
    rw [if_neg d1] at h
    have e1:decide ((dcount (l0_0.map (·.f0)):Int) < (l0_0.length:Int))=false:=decide_eq_false zb18
    have e2:decide (dcount (l0_0.map (·.f0)) < l0_0.length)=false:=decide_eq_false zb18
    have e3:((dcount (l0_0.map (·.f0)):Int) < (l0_0.length:Int))=False:=eq_false zb18
    have e4:(dcount (l0_0.map (·.f0)) < l0_0.length)=False:=eq_false zb18
    clear d1
    by_cases d2:dcount (l0_1.map (·.f0)) < l0_1.length
    ·rw [if_pos d2] at h
     subst h
     have f1:decide ((dcount (l0_1.map (·.f0)):Int) < (l0_1.length:Int))=true:=decide_eq_true zb18
     have f2:decide (dcount (l0_1.map (·.f0)) < l0_1.length)=true:=decide_eq_true zb18
     have f3:((dcount (l0_1.map (·.f0)):Int) < (l0_1.length:Int))=True:=eq_true zb18
     have f4:(dcount (l0_1.map (·.f0)) < l0_1.length)=True:=eq_true zb18
     clear d2
     go_wp2_with (first
      | (go_at_call 56;(with_reducible refine (conf_many.calls A0_0 c0_0 l0_0 A0_1 c0_1 l0_1 A0_2 c0_2 l0_2 A0_3 c0_3 l0_3 a0_4 a0_5 a0_6 a0_7 _ _ (Kd.C_below HR0.out L2.out) HC0.out (Kd.C_below HR1.out L2.out) HC1.out (Kd.C_below HR2.out L2.out) HC2.out (Kd.C_below HR3.out L2.out) HC3.out HM.out).mono ?_);rintro e w6 ⟨rfl,hb6⟩;have L6:=Aside0.mk (below_step L2.out hb6);have BX6:=Aside0.mk (blk_below BX2.out hb6);have SA6:=Aside0.mk (SA.out.below hb6);have SC6:=Aside0.mk (SC.out.below hb6);clear q0 q1 q2 q3 q4 q5 q6 q7;clear hb6;have q0:w6.cell? ⟨X,0,none⟩=some (.slice A0_0 l0_0.length c0_0):=(blk_cell BX6.out 0).trans rfl;have q1:w6.cell? ⟨X,1,none⟩=some (.slice A0_1 l0_1.length c0_1):=(blk_cell BX6.out 1).trans rfl;have q2:w6.cell? ⟨X,2,none⟩=some (.slice A0_2 l0_2.length c0_2):=(blk_cell BX6.out 2).trans rfl;have q3:w6.cell? ⟨X,3,none⟩=some (.slice A0_3 l0_3.length c0_3):=(blk_cell BX6.out 3).trans rfl;have q4:w6.cell? ⟨X,4,none⟩=some (.int .i64 a0_4):=(blk_cell BX6.out 4).trans rfl;have q5:w6.cell? ⟨X,5,none⟩=some (.int .i64 a0_5):=(blk_cell BX6.out 5).trans rfl;have q6:w6.cell? ⟨X,6,none⟩=some (.int .i64 a0_6):=(blk_cell BX6.out 6).trans rfl;have q7:w6.cell? ⟨X,7,none⟩=some (.int .i64 a0_7):=(blk_cell BX6.out 7).trans rfl)
      | (go_at_call 57;(with_reducible refine (conf_right.calls k A0_0 c0_0 l0_0 A0_1 c0_1 l0_1 A0_2 c0_2 l0_2 A0_3 c0_3 l0_3 a0_4 a0_5 a0_6 a0_7 _ _ (Kd.C_below HR0.out L6.out) HC0.out (Kd.C_below HR1.out L6.out) HC1.out (Kd.C_below HR2.out L6.out) HC2.out (Kd.C_below HR3.out L6.out) HC3.out HRI.out).mono ?_);rintro e w7 ⟨rfl,hb7⟩;have L7:=Aside0.mk (below_step L6.out hb7);have BX7:=Aside0.mk (blk_below BX6.out hb7);have la:=(SA6.out.below hb7).len Tryz.underlying52 3;have lc:=(SC6.out.below hb7).len Tryz.underlying52 3;clear q0 q1 q2 q3 q4 q5 q6 q7;clear hb7;have q0:w7.cell? ⟨X,0,none⟩=some (.slice A0_0 l0_0.length c0_0):=(blk_cell BX7.out 0).trans rfl;have q1:w7.cell? ⟨X,1,none⟩=some (.slice A0_1 l0_1.length c0_1):=(blk_cell BX7.out 1).trans rfl;have q2:w7.cell? ⟨X,2,none⟩=some (.slice A0_2 l0_2.length c0_2):=(blk_cell BX7.out 2).trans rfl;have q3:w7.cell? ⟨X,3,none⟩=some (.slice A0_3 l0_3.length c0_3):=(blk_cell BX7.out 3).trans rfl;have q4:w7.cell? ⟨X,4,none⟩=some (.int .i64 a0_4):=(blk_cell BX7.out 4).trans rfl;have q5:w7.cell? ⟨X,5,none⟩=some (.int .i64 a0_5):=(blk_cell BX7.out 5).trans rfl;have q6:w7.cell? ⟨X,6,none⟩=some (.int .i64 a0_6):=(blk_cell BX7.out 6).trans rfl;have q7:w7.cell? ⟨X,7,none⟩=some (.int .i64 a0_7):=(blk_cell BX7.out 7).trans rfl))
     go_ret
     exact ⟨zb20,L7.out⟩
    rw [if_neg d2] at h
    have f1:decide ((dcount (l0_1.map (·.f0)):Int) < (l0_1.length:Int))=false:=decide_eq_false zb18
    have f2:decide (dcount (l0_1.map (·.f0)) < l0_1.length)=false:=decide_eq_false zb18
    have f3:((dcount (l0_1.map (·.f0)):Int) < (l0_1.length:Int))=False:=eq_false zb18
    have f4:(dcount (l0_1.map (·.f0)) < l0_1.length)=False:=eq_false zb18
    clear d2
    cases lb
    ·rw [if_neg zb33] at h
     subst h
     go_wp2_with (first
      | (go_at_call 56;(with_reducible refine (conf_many.calls A0_0 c0_0 l0_0 A0_1 c0_1 l0_1 A0_2 c0_2 l0_2 A0_3 c0_3 l0_3 a0_4 a0_5 a0_6 a0_7 _ _ (Kd.C_below HR0.out L2.out) HC0.out (Kd.C_below HR1.out L2.out) HC1.out (Kd.C_below HR2.out L2.out) HC2.out (Kd.C_below HR3.out L2.out) HC3.out HM.out).mono ?_);rintro e w6 ⟨rfl,hb6⟩;have L6:=Aside0.mk (below_step L2.out hb6);have BX6:=Aside0.mk (blk_below BX2.out hb6);have SA6:=Aside0.mk (SA.out.below hb6);have SC6:=Aside0.mk (SC.out.below hb6);clear q0 q1 q2 q3 q4 q5 q6 q7;clear hb6;have q0:w6.cell? ⟨X,0,none⟩=some (.slice A0_0 l0_0.length c0_0):=(blk_cell BX6.out 0).trans rfl;have q1:w6.cell? ⟨X,1,none⟩=some (.slice A0_1 l0_1.length c0_1):=(blk_cell BX6.out 1).trans rfl;have q2:w6.cell? ⟨X,2,none⟩=some (.slice A0_2 l0_2.length c0_2):=(blk_cell BX6.out 2).trans rfl;have q3:w6.cell? ⟨X,3,none⟩=some (.slice A0_3 l0_3.length c0_3):=(blk_cell BX6.out 3).trans rfl;have q4:w6.cell? ⟨X,4,none⟩=some (.int .i64 a0_4):=(blk_cell BX6.out 4).trans rfl;have q5:w6.cell? ⟨X,5,none⟩=some (.int .i64 a0_5):=(blk_cell BX6.out 5).trans rfl;have q6:w6.cell? ⟨X,6,none⟩=some (.int .i64 a0_6):=(blk_cell BX6.out 6).trans rfl;have q7:w6.cell? ⟨X,7,none⟩=some (.int .i64 a0_7):=(blk_cell BX6.out 7).trans rfl)
      | (go_at_call 57;(with_reducible refine (conf_right.calls k A0_0 c0_0 l0_0 A0_1 c0_1 l0_1 A0_2 c0_2 l0_2 A0_3 c0_3 l0_3 a0_4 a0_5 a0_6 a0_7 _ _ (Kd.C_below HR0.out L6.out) HC0.out (Kd.C_below HR1.out L6.out) HC1.out (Kd.C_below HR2.out L6.out) HC2.out (Kd.C_below HR3.out L6.out) HC3.out HRI.out).mono ?_);rintro e w7 ⟨rfl,hb7⟩;have L7:=Aside0.mk (below_step L6.out hb7);have BX7:=Aside0.mk (blk_below BX6.out hb7);have la:=(SA6.out.below hb7).len Tryz.underlying52 3;have lc:=(SC6.out.below hb7).len Tryz.underlying52 3;clear q0 q1 q2 q3 q4 q5 q6 q7;clear hb7;have q0:w7.cell? ⟨X,0,none⟩=some (.slice A0_0 l0_0.length c0_0):=(blk_cell BX7.out 0).trans rfl;have q1:w7.cell? ⟨X,1,none⟩=some (.slice A0_1 l0_1.length c0_1):=(blk_cell BX7.out 1).trans rfl;have q2:w7.cell? ⟨X,2,none⟩=some (.slice A0_2 l0_2.length c0_2):=(blk_cell BX7.out 2).trans rfl;have q3:w7.cell? ⟨X,3,none⟩=some (.slice A0_3 l0_3.length c0_3):=(blk_cell BX7.out 3).trans rfl;have q4:w7.cell? ⟨X,4,none⟩=some (.int .i64 a0_4):=(blk_cell BX7.out 4).trans rfl;have q5:w7.cell? ⟨X,5,none⟩=some (.int .i64 a0_5):=(blk_cell BX7.out 5).trans rfl;have q6:w7.cell? ⟨X,6,none⟩=some (.int .i64 a0_6):=(blk_cell BX7.out 6).trans rfl;have q7:w7.cell? ⟨X,7,none⟩=some (.int .i64 a0_7):=(blk_cell BX7.out 7).trans rfl))
     go_ret
     exact ⟨zb20,L7.out⟩
    rw [if_pos rfl] at h
    subst h
    go_wp2_with (first
     | (go_at_call 56;(with_reducible refine (conf_many.calls A0_0 c0_0 l0_0 A0_1 c0_1 l0_1 A0_2 c0_2 l0_2 A0_3 c0_3 l0_3 a0_4 a0_5 a0_6 a0_7 _ _ (Kd.C_below HR0.out L2.out) HC0.out (Kd.C_below HR1.out L2.out) HC1.out (Kd.C_below HR2.out L2.out) HC2.out (Kd.C_below HR3.out L2.out) HC3.out HM.out).mono ?_);rintro e w6 ⟨rfl,hb6⟩;have L6:=Aside0.mk (below_step L2.out hb6);have BX6:=Aside0.mk (blk_below BX2.out hb6);have SA6:=Aside0.mk (SA.out.below hb6);have SC6:=Aside0.mk (SC.out.below hb6);clear q0 q1 q2 q3 q4 q5 q6 q7;clear hb6;have q0:w6.cell? ⟨X,0,none⟩=some (.slice A0_0 l0_0.length c0_0):=(blk_cell BX6.out 0).trans rfl;have q1:w6.cell? ⟨X,1,none⟩=some (.slice A0_1 l0_1.length c0_1):=(blk_cell BX6.out 1).trans rfl;have q2:w6.cell? ⟨X,2,none⟩=some (.slice A0_2 l0_2.length c0_2):=(blk_cell BX6.out 2).trans rfl;have q3:w6.cell? ⟨X,3,none⟩=some (.slice A0_3 l0_3.length c0_3):=(blk_cell BX6.out 3).trans rfl;have q4:w6.cell? ⟨X,4,none⟩=some (.int .i64 a0_4):=(blk_cell BX6.out 4).trans rfl;have q5:w6.cell? ⟨X,5,none⟩=some (.int .i64 a0_5):=(blk_cell BX6.out 5).trans rfl;have q6:w6.cell? ⟨X,6,none⟩=some (.int .i64 a0_6):=(blk_cell BX6.out 6).trans rfl;have q7:w6.cell? ⟨X,7,none⟩=some (.int .i64 a0_7):=(blk_cell BX6.out 7).trans rfl)
     | (go_at_call 57;(with_reducible refine (conf_right.calls k A0_0 c0_0 l0_0 A0_1 c0_1 l0_1 A0_2 c0_2 l0_2 A0_3 c0_3 l0_3 a0_4 a0_5 a0_6 a0_7 _ _ (Kd.C_below HR0.out L6.out) HC0.out (Kd.C_below HR1.out L6.out) HC1.out (Kd.C_below HR2.out L6.out) HC2.out (Kd.C_below HR3.out L6.out) HC3.out HRI.out).mono ?_);rintro e w7 ⟨rfl,hb7⟩;have L7:=Aside0.mk (below_step L6.out hb7);have BX7:=Aside0.mk (blk_below BX6.out hb7);have la:=(SA6.out.below hb7).len Tryz.underlying52 3;have lc:=(SC6.out.below hb7).len Tryz.underlying52 3;clear q0 q1 q2 q3 q4 q5 q6 q7;clear hb7;have q0:w7.cell? ⟨X,0,none⟩=some (.slice A0_0 l0_0.length c0_0):=(blk_cell BX7.out 0).trans rfl;have q1:w7.cell? ⟨X,1,none⟩=some (.slice A0_1 l0_1.length c0_1):=(blk_cell BX7.out 1).trans rfl;have q2:w7.cell? ⟨X,2,none⟩=some (.slice A0_2 l0_2.length c0_2):=(blk_cell BX7.out 2).trans rfl;have q3:w7.cell? ⟨X,3,none⟩=some (.slice A0_3 l0_3.length c0_3):=(blk_cell BX7.out 3).trans rfl;have q4:w7.cell? ⟨X,4,none⟩=some (.int .i64 a0_4):=(blk_cell BX7.out 4).trans rfl;have q5:w7.cell? ⟨X,5,none⟩=some (.int .i64 a0_5):=(blk_cell BX7.out 5).trans rfl;have q6:w7.cell? ⟨X,6,none⟩=some (.int .i64 a0_6):=(blk_cell BX7.out 6).trans rfl;have q7:w7.cell? ⟨X,7,none⟩=some (.int .i64 a0_7):=(blk_cell BX7.out 7).trans rfl))
    go_ret
    exact ⟨zb20,L7.out⟩
   rw [if_pos rfl] at h
   injection h with h
   subst h
   go_wp2_with (first
    | (go_at_call 56;(with_reducible refine (conf_many.calls A0_0 c0_0 l0_0 A0_1 c0_1 l0_1 A0_2 c0_2 l0_2 A0_3 c0_3 l0_3 a0_4 a0_5 a0_6 a0_7 _ _ (Kd.C_below HR0.out L2.out) HC0.out (Kd.C_below HR1.out L2.out) HC1.out (Kd.C_below HR2.out L2.out) HC2.out (Kd.C_below HR3.out L2.out) HC3.out HM.out).mono ?_);rintro e w6 ⟨rfl,hb6⟩;have L6:=Aside0.mk (below_step L2.out hb6);have BX6:=Aside0.mk (blk_below BX2.out hb6);have SA6:=Aside0.mk (SA.out.below hb6);have SC6:=Aside0.mk (SC.out.below hb6);clear q0 q1 q2 q3 q4 q5 q6 q7;clear hb6;have q0:w6.cell? ⟨X,0,none⟩=some (.slice A0_0 l0_0.length c0_0):=(blk_cell BX6.out 0).trans rfl;have q1:w6.cell? ⟨X,1,none⟩=some (.slice A0_1 l0_1.length c0_1):=(blk_cell BX6.out 1).trans rfl;have q2:w6.cell? ⟨X,2,none⟩=some (.slice A0_2 l0_2.length c0_2):=(blk_cell BX6.out 2).trans rfl;have q3:w6.cell? ⟨X,3,none⟩=some (.slice A0_3 l0_3.length c0_3):=(blk_cell BX6.out 3).trans rfl;have q4:w6.cell? ⟨X,4,none⟩=some (.int .i64 a0_4):=(blk_cell BX6.out 4).trans rfl;have q5:w6.cell? ⟨X,5,none⟩=some (.int .i64 a0_5):=(blk_cell BX6.out 5).trans rfl;have q6:w6.cell? ⟨X,6,none⟩=some (.int .i64 a0_6):=(blk_cell BX6.out 6).trans rfl;have q7:w6.cell? ⟨X,7,none⟩=some (.int .i64 a0_7):=(blk_cell BX6.out 7).trans rfl))
   go_ret
   exact ⟨zb20,L6.out⟩
def sign_Same.f (a0:ByteArray) (a1:ByteArray):Option (Bool):=if (a0.size:Int)=(a1.size:Int) then ((sign_Fold.f a0).bind fun t169=>((sign_Fold.f a1).bind fun t170=>(some (t169.toList == t170.toList)))) else (some false)
set_option maxHeartbeats 8000000 in
set_option maxRecDepth 100000 in
theorem sign_Same.calls (a0:ByteArray) (a1:ByteArray) (r:Bool) (w:World) (h:sign_Same.f a0 a1=some r) :
 Calls Tryz.prog 89 #[.string a0,.string a1] w fun e w' => e = .returned (.bool r)∧Below w.heap.size w w' := by
 have HB:=Aside0.mk (Below.refl w.heap.size w)
 unfold sign_Same.f at h
 have H:=h
 clear h
 by_cases c3:(a0.size:Int)=(a1.size:Int);rotate_left
 ·rw [if_neg c3] at H
  have c3b0:=beq_eq_false_iff_ne.mpr c3
  have c3b1:=bne_iff_ne.mpr c3
  have c3b2:(a0.size == a1.size)=false:=by first|simpa using c3|(simp at c3 ⊢;omega)
  obtain rfl:=Option.some.inj H
  go_enter Tryz.func89,Tryz.ntmps89
  go_wp2
  go_ret
  exact ⟨zb2,zb0⟩
 rw [if_pos c3] at H
 have c3b0:=beq_iff_eq.mpr c3
 have c3b1:=bne_eq_false_iff_eq.mpr c3
 have c3b2:(a0.size == a1.size)=true:=by first|simpa using c3|(simp at c3 ⊢;omega)
 clear c3
 replace H:=Option.bind_eq_some_iff.mp H
 obtain ⟨t169,A40,H⟩:=H
 try dsimp only at H
 have A4:=Aside0.mk A40
 clear A40
 replace H:=Option.bind_eq_some_iff.mp H
 obtain ⟨t170,A50,H⟩:=H
 try dsimp only at H
 have A5:=Aside0.mk A50
 clear A50
 obtain rfl:=Option.some.inj H
 go_enter Tryz.func89,Tryz.ntmps89
 go_wp2_with (first|(go_at_call 64;(with_reducible refine (sign_Fold.calls a0 t169 _ A4.out).mono ?_);rintro e w6 ⟨rfl,hb⟩;(try clear A4);replace HB:=Aside0.mk (below_step zb0 hb);(try clear hb))|(go_at_call 64;(with_reducible refine (sign_Fold.calls a1 t170 _ A5.out).mono ?_);rintro e w7 ⟨rfl,hb⟩;(try clear A5);replace HB:=Aside0.mk (below_step zb0 hb);(try clear hb)))
 go_ret
 exact ⟨zb2,zb0⟩
set_option maxHeartbeats 4000000 in
set_option maxRecDepth 100000 in
theorem field_Has_1.callsOf (B:Nat) (part:ByteArray) (w:World) (hc:w.cell? ⟨B,0,none⟩=some (.string part)):TestOf 88 #[.pointer (some ⟨B,0,none⟩)] Value.string (fun p=>sign_Same.f p part) w:=fun W x b hb h=>by
 have hB:B < w.heap.size:=World.block_lt_of_cell? w _ hc
 have hcell:W.cell? ⟨B,0,none⟩=some (.string part):=(hb.cell (p:=⟨B,0,none⟩) hB).trans hc
 have HS:=Aside0.mk h
 clear hc h hb
 show Calls Tryz.prog 88 #[.string x,.pointer (some ⟨B,0,none⟩)] W _
 go_enter Tryz.func88,Tryz.ntmps88
 go_wp2_with (go_at_call 89;refine (sign_Same.calls x part b W HS.out).mono ?_;rintro e w' ⟨rfl,hb'⟩)
 go_ret
 exact ⟨rfl,hb'⟩
def field_Get.l0:Nat → ByteArray → List ByteArray → List (S36) → Int → Int → Option (List ByteArray)
 | 0,_,_,_,_,_=>none
 | k + 1,x1,x5,x8,x9,x10=>if x10 < x9 then (if 0 ≤ x10 then (if x10 < (x8.length:Int) then ((sign_Same.f ((rd_T36 x8 x10).f0) x1).bind fun t197=>(if t197=true then (if x5.length < 8796093022208 then (field_Get.l0 k x1 (x5 ++ [(rd_T36 x8 x10).f1]) x8 x9 (wrap64 (x10 + 1))) else (none)) else (field_Get.l0 k x1 x5 x8 x9 (wrap64 (x10 + 1))))) else (none)) else (none)) else (some x5)
def field_Get.f (k:Nat) (l0:List (S36)) (a1:ByteArray):Option (List ByteArray):=field_Get.l0 k a1 ([]:List ByteArray) l0 (l0.length:Int) 0
set_option maxHeartbeats 8000000 in
set_option maxRecDepth 100000 in
theorem field_Get.calls (k:Nat) (A0:Option Addr) (c0:Nat) (l0:List (S36)) (a1:ByteArray) (r:List ByteArray) (w:World) (hr0:Kd.C k36 w A0 l0.length l0) (hc0:l0.length ≤ c0) (h:field_Get.f k l0 a1=some r) :
 Calls Tryz.prog 50 #[.slice A0 l0.length c0,.string a1] w fun e w' => ∃ v0_:Value,e = .returned (v0_)∧Kd.R Kd.string 9 w' w.heap.size (fun _=>True) v0_ r∧Below w.heap.size w w' := by
 have hu36:=Tryz.underlying36
 have HR0:=Aside0.mk hr0
 have HC0:=Aside0.mk hc0
 clear hr0 hc0
 have HB:=Aside0.mk (Below.refl w.heap.size w)
 unfold field_Get.f at h
 have H:=h
 clear h
 have H' := Aside0.mk H
 clear H
 go_enter Tryz.func50,Tryz.ntmps50
 go_wp2
 go_loopg [5,10] k (fun kq v5 v10 w' => ∃ (x5_1:List ByteArray) (x10_1:Int),v10 = .int .i64 x10_1∧Aside0 (field_Get.l0 kq a1 x5_1 l0 (l0.length:Int) x10_1=some r)∧Aside0 (kq ≤ k)∧Aside0 (Kd.R Kd.string 9 w' w.heap.size (fun _=>True) v5 x5_1)∧Aside0 (Below w.heap.size w w'))
 case atStart=>exact ⟨(([]:List ByteArray)),(0),zb4,H',⟨Nat.le_refl _⟩,⟨zb23⟩,⟨zb0⟩⟩
 case round =>
  clear H'
  try clear p2
  obtain ⟨x5_1,x10_1,rfl,HA,HK1,HO_5,HB⟩:=hrel
  cases gk with
  | zero=>exact absurd HA.out (by simp [field_Get.l0])
  | succ k1 =>
   have H:=HA.out
   clear HA
   simp only [field_Get.l0] at H
   by_cases c3:x10_1 < (l0.length:Int);rotate_left
   ·rw [if_neg c3] at H
    have c3b0:=decide_eq_false c3
    clear c3
    obtain rfl:=Option.some.inj H
    go_wp2
    go_ret
    exact ⟨_,zb2,zb15,zb0⟩
   rw [if_pos c3] at H
   have c3b0:=decide_eq_true c3
   clear c3
   by_cases c4:0 ≤ x10_1
   ·rw [if_pos c4] at H
    have c4b0:=decide_eq_true c4
    clear c4
    by_cases c5:x10_1 < (l0.length:Int)
    ·rw [if_pos c5] at H
     have c5b0:=decide_eq_true c5
     clear c5
     replace H:=Option.bind_eq_some_iff.mp H
     obtain ⟨t197,A60,H⟩:=H
     try dsimp only at H
     have A6:=Aside0.mk A60
     clear A60
     by_cases c7:t197=true;rotate_left
     ·replace c7:=Bool.eq_false_iff.mpr c7
      subst c7
      rw [if_neg (show ¬ (false=true) by decide)] at H
      have H' := Aside0.mk H
      clear H
      have p195:0 ≤ (x10_1:Int):=of_decide_eq_true zb5
      have q195:x10_1 < (l0.length:Int):=of_decide_eq_true zb5
      obtain ⟨ad195,e195,hx195_0,hx195_1⟩:=at_T36 HR0.out x10_1 p195 q195
      cases e195
      replace hx195_0:=(HB.out.cell (World.block_lt_of_cell? w _ hx195_0)).trans hx195_0
      replace hx195_1:=(HB.out.cell (World.block_lt_of_cell? w _ hx195_1)).trans hx195_1
      replace p195:=eq_true p195
      replace q195:=eq_true q195
      go_wp2_with (first|((with_reducible refine gate_dst (N:=7) rfl ?_);refine box_event rfl (N:=7) rfl (cs:=#[.string (⟨#[]⟩:ByteArray),.string (⟨#[]⟩:ByteArray)]) (t:=36) zS ?_;intro gb196 hg w14 hbox hb;replace HO_5:=Aside0.mk (Kd.R_below zb15 hb);have BK196:=Aside0.mk (hbox);have GW196:=zG hg zb0;have GE196:=GW196;replace HB:=Aside0.mk (below_step zb0 hb);clear hb hbox hg;obtain ⟨hcz15_0,hcz15_1,hfz15_0,hfz15_1⟩:=zq2 BK196.out)|((with_reducible refine gate_callee (f:=89) rfl ?_);refine goesL_ (some 17) rfl rfl Tryz.func89 zb10 rfl #[.string ((rd_T36 l0 x10_1).f0),.string a1] rfl zb1 ?_;(with_reducible refine (sign_Same.calls ((rd_T36 l0 x10_1).f0) a1 false _ A6.out).mono ?_);rintro e w16 ⟨rfl,hb⟩;(try clear A6);refine ⟨_,rfl,?_⟩;replace HO_5:=Aside0.mk (Kd.R_below zb48 hb);replace BK196:=Aside0.mk (blk_below (g:=gb196) (o:=.cells #[.string ((rd_T36 l0 x10_1).f0),.string ((rd_T36 l0 x10_1).f1)] 36 (0,0)) zb30 hb);replace HB:=Aside0.mk (below_step zb34 hb);(try clear hb)))
      go_roundg k1
      case measure=>have:=HK1.out;omega
      case rel=>exact ⟨(x5_1),(wrap64 (x10_1 + 1)),zb4,H',⟨zb66⟩,⟨zb15⟩,⟨zb34⟩⟩
     subst c7
     rw [if_pos rfl] at H
     by_cases c8:x5_1.length < 8796093022208
     ·rw [if_pos c8] at H
      have LMc8:=Aside0.mk c8
      clear c8
      obtain ⟨y198,hy198⟩ : ∃ y_:List ByteArray,y_=(x5_1 ++ [(rd_T36 l0 x10_1).f1]):=⟨_,rfl⟩
      replace H:(field_Get.l0 k1 a1 y198 l0 (l0.length:Int) (wrap64 (x10_1 + 1)))=some r:=by first|(rw [hy198];with_reducible exact H)|(have H2_:=(Option.bind_some _ _).symm.trans H;rw [hy198];with_reducible exact H2_)|(have H2_:=(Option.bind_some _ _).symm.trans H;with_reducible exact H2_)|with_reducible exact H|(rw [hy198];exact H)|exact H
      have Ny198:=Aside0.mk hy198
      clear hy198
      have H' := Aside0.mk H
      clear H
      have p195:0 ≤ (x10_1:Int):=of_decide_eq_true zb5
      have q195:x10_1 < (l0.length:Int):=of_decide_eq_true zb5
      obtain ⟨ad195,e195,hx195_0,hx195_1⟩:=at_T36 HR0.out x10_1 p195 q195
      cases e195
      replace hx195_0:=(HB.out.cell (World.block_lt_of_cell? w _ hx195_0)).trans hx195_0
      replace hx195_1:=(HB.out.cell (World.block_lt_of_cell? w _ hx195_1)).trans hx195_1
      replace p195:=eq_true p195
      replace q195:=eq_true q195
      go_wp2_with (first|((with_reducible refine gate_dst (N:=7) rfl ?_);refine box_event rfl (N:=7) rfl (cs:=#[.string (⟨#[]⟩:ByteArray),.string (⟨#[]⟩:ByteArray)]) (t:=36) zS ?_;intro gb196 hg w9 hbox hb;replace HO_5:=Aside0.mk (Kd.R_below zb15 hb);have BK196:=Aside0.mk (hbox);have GW196:=zG hg zb0;have GE196:=GW196;replace HB:=Aside0.mk (below_step zb0 hb);clear hb hbox hg;obtain ⟨hcz10_0,hcz10_1,hfz10_0,hfz10_1⟩:=zq2 BK196.out)|((with_reducible refine gate_callee (f:=89) rfl ?_);refine goesL_ (some 17) rfl rfl Tryz.func89 zb10 rfl #[.string ((rd_T36 l0 x10_1).f0),.string a1] rfl zb1 ?_;(with_reducible refine (sign_Same.calls ((rd_T36 l0 x10_1).f0) a1 true _ A6.out).mono ?_);rintro e w11 ⟨rfl,hb⟩;(try clear A6);refine ⟨_,rfl,?_⟩;replace HO_5:=Aside0.mk (Kd.R_below zb48 hb);replace BK196:=Aside0.mk (blk_below (g:=gb196) (o:=.cells #[.string ((rd_T36 l0 x10_1).f0),.string ((rd_T36 l0 x10_1).f1)] 36 (0,0)) zb30 hb);replace HB:=Aside0.mk (below_step zb34 hb);(try clear hb);obtain ⟨hcz12_0,hcz12_1,hfz12_0,hfz12_1⟩:=zq2 BK196.out)|((with_reducible refine gate_builtin (b:=.append) (xs:=#[.tmp 18,.tmp 21]) rfl ?_);at_builtin;refine Kd.R_append Kd.string (w0:=w) w.heap.size rfl (.tmp 18) (.tmp 21) 34 9 (.string ⟨#[]⟩) 16 rfl Tryz.underlying34 info9 rfl zb27 zb18 u5 x5_1 ((rd_T36 l0 x10_1).f1) [.string ((rd_T36 l0 x10_1).f1)] (fun _=>True) (fun _=>False) rfl rfl ?aP (fun _ hk=>hk.elim) ?aF ?aO ?aB ?aS ?aL ?_;(case aP=>exact rfl);(case aB=>exact zb34);(case aF=>exact (fun _ _=>trivial));(case aO=>exact zb67);(case aS=>exact (below_size zb34));(case aL=>have:=LMc8.out;omega);intro v199 w13 ho hb hg hat;rw [← Ny198.out] at ho;replace BK196:=Aside0.mk (blk_grown (g:=gb196) (o:=.cells #[.string ((rd_T36 l0 x10_1).f0),.string ((rd_T36 l0 x10_1).f1)] 36 (0,0)) (by (with_reducible repeat (first|refine blk_drewN ?_ _|refine blk_drew ?_|refine blk_alloc ?_ _));exact BK196.out) hg (Kd.R_ne HO_5.out BK196.out zb27));replace HB:=Aside0.mk (hb);have HO200:=Aside0.mk (ho);clear ho hb hg hat))
      go_roundg k1
      case measure=>have:=HK1.out;omega
      case rel=>exact ⟨(y198),(wrap64 (x10_1 + 1)),zb4,H',⟨zb66⟩,⟨by (with_reducible repeat (first|apply Kd.R_alloc|apply Kd.R_drewN|apply Kd.R_drew));exact HO200.out⟩,⟨zb34⟩⟩
     ·rw [if_neg c8] at H
      exact absurd H zb33
    ·rw [if_neg c5] at H
     exact absurd H zb33
   ·rw [if_neg c4] at H
    exact absurd H zb33
/-- At a text of one byte alone. -/
def strings_Count.f (a0 a1:ByteArray):Option Int:=match a1.data.toList with
 | [c]=>some (Lib.countByte a0.data.toList c)
 | _=>none
theorem strings_Count.calls (a0 a1:ByteArray) (r:Int) (w:World) (h:strings_Count.f a0 a1=some r) :
 Calls Tryz.prog 186 #[.string a0,.string a1] w fun e w' => e = .returned (.int .i64 r)∧Drawn0 w w' := by
 obtain ⟨⟨l⟩⟩:=a1
 unfold strings_Count.f at h
 split at h
 ·rename_i c hc
  obtain rfl:l=[c]:=hc
  obtain rfl:=Option.some.inj h
  refine (Tryz.strings_Count_one a0 c w).mono ?_
  rintro e w' ⟨rfl,rfl⟩
  exact ⟨rfl,Drawn0.refl _⟩
 cases h
/-- At a text of one byte alone. -/
def strings_Index.f (a0 a1:ByteArray):Option Int:=match a1.data.toList with
 | [c]=>some (Lib.indexByte a0.data.toList c)
 | _=>none
theorem strings_Index.calls (a0 a1:ByteArray) (r:Int) (w:World) (h:strings_Index.f a0 a1=some r) :
 Calls Tryz.prog 187 #[.string a0,.string a1] w fun e w' => e = .returned (.int .i64 r)∧Drawn0 w w' := by
 obtain ⟨⟨l⟩⟩:=a1
 unfold strings_Index.f at h
 split at h
 ·rename_i c hc
  obtain rfl:l=[c]:=hc
  obtain rfl:=Option.some.inj h
  refine (Tryz.strings_Index_one a0 c w).mono ?_
  rintro e w' ⟨rfl,rfl⟩
  exact ⟨rfl,Drawn0.refl _⟩
 cases h
/-- Not followed: no law comes here. -/
def strings_explode.f (a0:ByteArray) (a1:Int):Option (List ByteArray):=none
theorem strings_explode.calls (a0:ByteArray) (a1:Int) (r:List ByteArray) (w:World) (h:strings_explode.f a0 a1=some r) :
 Calls Tryz.prog 185 #[.string a0,.int .i64 a1] w fun e w' => ∃ v0_:Value,e = .returned (v0_)∧Kd.R Kd.string 9 w' w.heap.size (fun _=>True) v0_ r∧Below w.heap.size w w' := by cases h
mutual
def strings_genSplit.j0:Nat → ByteArray → ByteArray → Int → Int → Option (List ByteArray)
 | 0,_,_,_,_=>none
 | k + 1,x0,x1,x2,x3=>if 0 ≤ (mn x3 (wrap64 ((x0.size:Int) + 1))) then (if (mn x3 (wrap64 ((x0.size:Int) + 1)):Int).toNat ≤ 17592186044416 then (strings_genSplit.l0 k x0 x1 x2 (wrap64 ((mn x3 (wrap64 ((x0.size:Int) + 1))) - 1)) (List.replicate (mn x3 (wrap64 ((x0.size:Int) + 1)):Int).toNat (⟨#[]⟩:ByteArray)) 0) else (none)) else (none)
def strings_genSplit.l0:Nat → ByteArray → ByteArray → Int → Int → List ByteArray → Int → Option (List ByteArray)
 | 0,_,_,_,_,_,_=>none
 | k + 1,x0,x1,x2,x3,x9,x10=>if x10 < x3 then ((strings_Index.f x0 x1).bind fun t133=>(if t133 < 0 then (if 0 ≤ x10 then (if x10 < (x9.length:Int) then (if 0 ≤ (wrap64 (x10 + 1)) then (if (wrap64 (x10 + 1)) ≤ (x9.length:Int) then (some ((x9.set (x10:Int).toNat x0).take ((wrap64 (x10 + 1)):Int).toNat)) else (none)) else (none)) else (none)) else (none)) else (if 0 ≤ (wrap64 (t133 + x2)) then (if (wrap64 (t133 + x2)) ≤ (x0.size:Int) then (if 0 ≤ x10 then (if x10 < (x9.length:Int) then (if 0 ≤ (wrap64 (t133 + (x1.size:Int))) then (if (wrap64 (t133 + (x1.size:Int))) ≤ (x0.size:Int) then (strings_genSplit.l0 k (x0.extract ((wrap64 (t133 + (x1.size:Int))):Int).toNat x0.size) x1 x2 x3 (x9.set (x10:Int).toNat (x0.extract 0 ((wrap64 (t133 + x2)):Int).toNat)) (wrap64 (x10 + 1))) else (none)) else (none)) else (none)) else (none)) else (none)) else (none)))) else (if 0 ≤ x10 then (if x10 < (x9.length:Int) then (if 0 ≤ (wrap64 (x10 + 1)) then (if (wrap64 (x10 + 1)) ≤ (x9.length:Int) then (some ((x9.set (x10:Int).toNat x0).take ((wrap64 (x10 + 1)):Int).toNat)) else (none)) else (none)) else (none)) else (none))
end
def strings_genSplit.f (k:Nat) (a0:ByteArray) (a1:ByteArray) (a2:Int) (a3:Int):Option (List ByteArray):=if a3=0 then (some ([]:List ByteArray)) else (if a1.toList=([]:List UInt8) then ((strings_explode.f a0 a3).bind fun t126=>(some t126)) else (if a3 < 0 then ((strings_Count.f a0 a1).bind fun t129=>(strings_genSplit.j0 k a0 a1 a2 (wrap64 (t129 + 1)))) else (strings_genSplit.j0 k a0 a1 a2 a3)))
set_option maxHeartbeats 8000000 in
set_option maxRecDepth 100000 in
theorem strings_genSplit.calls (k:Nat) (a0:ByteArray) (a1:ByteArray) (a2:Int) (a3:Int) (r:List ByteArray) (w:World) (h:strings_genSplit.f k a0 a1 a2 a3=some r) :
 Calls Tryz.prog 160 #[.string a0,.string a1,.int .i64 a2,.int .i64 a3] w fun e w' => ∃ v0_:Value,e = .returned (v0_)∧Kd.R Kd.string 9 w' w.heap.size (fun _=>True) v0_ r∧Below w.heap.size w w' := by
 have HB:=Aside0.mk (Below.refl w.heap.size w)
 unfold strings_genSplit.f at h
 have H:=h
 clear h
 by_cases c5:a3=0
 ·rw [if_pos c5] at H
  have c5b0:=beq_iff_eq.mpr c5
  have c5b1:=bne_eq_false_iff_eq.mpr c5
  clear c5
  obtain rfl:=Option.some.inj H
  go_enter Tryz.func160,Tryz.ntmps160
  go_wp2
  go_ret
  exact ⟨_,zb2,zb23,zb0⟩
 rw [if_neg c5] at H
 have c5b0:=beq_eq_false_iff_ne.mpr c5
 have c5b1:=bne_iff_ne.mpr c5
 by_cases c6:a1.toList=([]:List UInt8)
 ·rw [if_pos c6] at H
  have c6b0:=beq_iff_eq.mpr c6
  have c6b1:=bne_eq_false_iff_eq.mpr c6
  clear c6
  replace H:=Option.bind_eq_some_iff.mp H
  obtain ⟨t58,A70,H⟩:=H
  try dsimp only at H
  have A7:=Aside0.mk A70
  clear A70
  obtain rfl:=Option.some.inj H
  go_enter Tryz.func160,Tryz.ntmps160
  go_wp2_with (first|((with_reducible refine gate_callee (f:=185) rfl ?_);refine goesL_ (some 18) rfl rfl Tryz.func185 zb10 rfl #[.string a0,.int .i64 a3] rfl zb1 ?_;(with_reducible refine (strings_explode.calls a0 a3 t58 _ A7.out).mono ?_);rintro e w8 ⟨v65,rfl,ho0,hb⟩;(try clear A7);refine ⟨_,rfl,?_⟩;have HO62:=Aside0.mk (Kd.R_lower ho0 (below_size zb0));replace HB:=Aside0.mk (below_step zb0 hb);try clear hb ho0))
  go_ret
  exact ⟨_,zb2,by (with_reducible repeat (first|apply Kd.R_alloc|apply Kd.R_drewN|apply Kd.R_drew));exact HO62.out,zb0⟩
 rw [if_neg c6] at H
 have c6b0:=beq_eq_false_iff_ne.mpr c6
 have c6b1:=bne_iff_ne.mpr c6
 have HC9:=Aside0.mk H
 clear H
 go_enter Tryz.func160,Tryz.ntmps160
 go_upto_if 20 with (fail)
 go_cut [3] (fun v3 wc => ∃ (kq:Nat) (x3_8:Int),v3 = .int .i64 x3_8∧Aside0 (strings_genSplit.j0 kq a0 a1 a2 x3_8=some r)∧Aside0 (kq ≤ k)∧Aside0 (Below w.heap.size w wc))
 case first =>
  have H:=HC9.out
  clear HC9
  by_cases c10:a3 < 0;rotate_left
  ·rw [if_neg c10] at H
   have c10b0:=decide_eq_false c10
   clear c10
   (first|rw [c10b0]|(simp only [i64_w,i32_w];rw [c10b0])|skip)
   have H' := Aside0.mk H
   clear H
   go_wp2
   go_meet
   case rel=>exact ⟨_,(a3),zb4,H',⟨zb58⟩,⟨zb0⟩⟩
  rw [if_pos c10] at H
  have c10b0:=decide_eq_true c10
  clear c10
  (first|rw [c10b0]|(simp only [i64_w,i32_w];rw [c10b0])|skip)
  replace H:=Option.bind_eq_some_iff.mp H
  obtain ⟨t57,A60,H⟩:=H
  try dsimp only at H
  have A11:=Aside0.mk A60
  clear A60
  have H' := Aside0.mk H
  clear H
  go_wp2_with (first|((with_reducible refine gate_callee (f:=186) rfl ?_);refine goesL_ (some 23) rfl rfl Tryz.func186 zb10 rfl #[.string a0,.string a1] rfl zb1 ?_;(with_reducible refine (strings_Count.calls a0 a1 t57 _ A11.out).mono ?_);rintro e w' ⟨rfl,⟨nd,rfl⟩⟩;(try clear A11);refine ⟨_,rfl,?_⟩))
  go_meet
  case rel=>exact ⟨_,(wrap64 (t57 + 1)),zb4,H',⟨zb58⟩,⟨zb0⟩⟩
 case rest =>
  clear HC9
  try clear c1
  try clear p2
  try clear c5
  try clear c5b0
  try clear c5b1
  try clear c6
  try clear c6b0
  try clear c6b1
  try clear p6
  try clear c10
  try clear c10b0
  obtain ⟨kq,x3_8,rfl,HA,HJ8,HB⟩:=hcut
  cases kq with
  | zero=>exact absurd HA.out (by simp [strings_genSplit.j0])
  | succ kj8 =>
   have H:=HA.out
   clear HA
   simp only [strings_genSplit.j0] at H
   obtain ⟨ji12,hji12⟩ : ∃ j_:Int,(mn x3_8 (wrap64 ((a0.size:Int) + 1)))=j_:=⟨_,rfl⟩
   replace H:(if 0 ≤ (ji12) then (if (ji12:Int).toNat ≤ 17592186044416 then (strings_genSplit.l0 kj8 a0 a1 a2 (wrap64 ((ji12) - 1)) (List.replicate (ji12:Int).toNat (⟨#[]⟩:ByteArray)) 0) else (none)) else (none))=some r:=by first|(rw [hji12] at H;exact H)|(simp only [hji12] at H ⊢;exact H)
   have hji12_:(if (wrap64 ((a0.size:Int) + 1)) < x3_8 then (wrap64 ((a0.size:Int) + 1)) else x3_8)=ji12:=hji12
   by_cases c13:0 ≤ (ji12);rotate_left
   ·rw [if_neg c13] at H
    exact absurd H zb33
   rw [if_pos c13] at H
   have c13b0:=eq_true c13
   have c13b1:=decide_eq_true c13
   clear c13
   by_cases c14:(ji12:Int).toNat ≤ 17592186044416
   ·rw [if_pos c14] at H
    have c14b0:=eq_true c14
    have c14b1:=decide_eq_true c14
    clear c14
    obtain ⟨y54,hy54⟩ : ∃ y_:List ByteArray,y_=(List.replicate (ji12:Int).toNat (⟨#[]⟩:ByteArray)):=⟨_,rfl⟩
    replace H:(strings_genSplit.l0 kj8 a0 a1 a2 (wrap64 ((ji12) - 1)) y54 0)=some r:=by first|(rw [hy54];with_reducible exact H)|(have H2_:=(Option.bind_some _ _).symm.trans H;rw [hy54];with_reducible exact H2_)|(have H2_:=(Option.bind_some _ _).symm.trans H;with_reducible exact H2_)|with_reducible exact H|(rw [hy54];exact H)|exact H
    have Ny54:=Aside0.mk hy54
    clear hy54
    have H' := Aside0.mk H
    clear H
    go_wp2_with (first|((with_reducible refine gate_dst (N:=31) rfl ?_);refine Kd.R_make Kd.string _ 9 rfl (N:=31) rfl 34 _ _ rfl ji12 rfl rfl Tryz.underlying34 (.string ⟨#[]⟩) 16 info9 rfl zb27 zb18 (⟨#[]⟩:ByteArray) (ok:=fun _=>True) (okp:=fun _=>True) rfl (fun _ hk=>hk) trivial (of_decide_eq_true zb5) (Nat.le_trans (Nat.mul_le_mul_right _ (of_decide_eq_true zb5:ji12.toNat ≤ 17592186044416)) zb18) (Below.refl _ _) (Nat.le_refl _) ?_;intro v59 w15 ho16 hb hg_ hnew_;clear hg_ hnew_;(first|rw [← Ny54.out] at ho16|(simp only [Int.reduceToNat] at ho16;rw [← Ny54.out] at ho16));have HO63:=Aside0.mk (Kd.R_lower ho16 (below_size zb0));replace HB:=Aside0.mk (below_step zb0 hb);clear hb ho16))
    go_loopg [0,10] kj8 (fun kq v0 v10 w' => ∃ (x0_2:ByteArray) (x9_2:List ByteArray) (x10_2:Int),v0 = .string x0_2∧v10 = .int .i64 x10_2∧Aside0 (strings_genSplit.l0 kq x0_2 a1 a2 (wrap64 ((ji12) - 1)) x9_2 x10_2=some r)∧Aside0 (kq ≤ kj8)∧Aside0 (Kd.R Kd.string 9 w' w.heap.size (fun _=>True) v59 x9_2)∧Aside0 (Below w.heap.size w w'))
    case atStart=>exact ⟨(a0),(y54),(0),zb4,zb4,H',⟨Nat.le_refl _⟩,⟨by (with_reducible repeat (first|apply Kd.R_alloc|apply Kd.R_drewN|apply Kd.R_drew));exact HO63.out⟩,⟨zb0⟩⟩
    case round =>
     clear H'
     try clear c1
     try clear p2
     try clear c5
     try clear c5b0
     try clear c5b1
     try clear c6
     try clear c6b0
     try clear c6b1
     try clear p6
     try clear c10
     try clear c10b0
     try clear c13
     try clear c13b0
     try clear c13b1
     try clear c14
     try clear c14b0
     try clear c14b1
     try clear c16
     try clear p2
     try clear p6
     obtain ⟨x0_2,x9_2,x10_2,rfl,rfl,HA,HK2,HO_9,HB⟩:=hrel
     cases gk with
     | zero=>exact absurd HA.out (by simp [strings_genSplit.l0])
     | succ k2 =>
      have H:=HA.out
      clear HA
      simp only [strings_genSplit.l0] at H
      by_cases c17:x10_2 < (wrap64 ((ji12) - 1));rotate_left
      ·rw [if_neg c17] at H
       have c17b0:=decide_eq_false c17
       clear c17
       by_cases c40:0 ≤ x10_2;rotate_left
       ·rw [if_neg c40] at H
        exact absurd H zb33
       rw [if_pos c40] at H
       have c40b0:=decide_eq_true c40
       clear c40
       by_cases c41:x10_2 < (x9_2.length:Int);rotate_left
       ·rw [if_neg c41] at H
        exact absurd H zb33
       rw [if_pos c41] at H
       have c41b0:=decide_eq_true c41
       clear c41
       obtain ⟨y50,hy50⟩ : ∃ y_:List ByteArray,y_=(x9_2.set (x10_2:Int).toNat x0_2):=⟨_,rfl⟩
       replace H:(if 0 ≤ (wrap64 (x10_2 + 1)) then (if (wrap64 (x10_2 + 1)) ≤ (x9_2.length:Int) then (some (y50.take ((wrap64 (x10_2 + 1)):Int).toNat)) else (none)) else (none))=some r:=by first|(rw [hy50];with_reducible exact H)|(have H2_:=(Option.bind_some _ _).symm.trans H;rw [hy50];with_reducible exact H2_)|(have H2_:=(Option.bind_some _ _).symm.trans H;with_reducible exact H2_)|with_reducible exact H|(rw [hy50];exact H)|exact H
       have Ny50:=Aside0.mk hy50
       clear hy50
       obtain ⟨ji43,hji43⟩ : ∃ j_:Int,(wrap64 (x10_2 + 1))=j_:=⟨_,rfl⟩
       replace H:(if 0 ≤ (ji43) then (if (ji43) ≤ (x9_2.length:Int) then (some (y50.take ((ji43):Int).toNat)) else (none)) else (none))=some r:=by first|(rw [hji43] at H;exact H)|(simp only [hji43] at H ⊢;exact H)
       have hji43w:(IntKind.i64.wrap (x10_2 + 1))=ji43:=(i64_w _).trans hji43
       by_cases c44:0 ≤ (ji43);rotate_left
       ·rw [if_neg c44] at H
        exact absurd H zb33
       rw [if_pos c44] at H
       have c44b0:=eq_true c44
       have c44b1:=decide_eq_true c44
       clear c44
       by_cases c45:(ji43) ≤ (x9_2.length:Int)
       ·rw [if_pos c45] at H
        have c45b0:=eq_true c45
        have c45b1:=decide_eq_true c45
        clear c45
        obtain ⟨y53,hy53⟩ : ∃ y_:List ByteArray,y_=(y50.take ((ji43):Int).toNat):=⟨_,rfl⟩
        replace H:(some y53)=some r:=by first|(rw [hy53];with_reducible exact H)|(have H2_:=(Option.bind_some _ _).symm.trans H;rw [hy53];with_reducible exact H2_)|(have H2_:=(Option.bind_some _ _).symm.trans H;with_reducible exact H2_)|with_reducible exact H|(rw [hy53];exact H)|exact H
        have Ny53:=Aside0.mk hy53
        clear hy53
        obtain rfl:=Option.some.inj H
        have p42:0 ≤ (x10_2:Int):=of_decide_eq_true zb5
        have q42:(x10_2:Int) < ((x9_2.length:Int):Int):=of_decide_eq_true zb5
        obtain ⟨go42,co42,eo42,gb42,gl42,cl42,HG42⟩:=Kd.R_form HO_9.out zb18
        (first|cases eo42|(injection eo42 with ea_ en_ ec_;(first|subst ea_|(injection ea_ with ea_;subst ea_));subst ec_;clear en_))
        have GB42:=Aside0.mk gb42
        have GG42:=Aside0.mk HG42
        clear gb42 gl42 HG42
        obtain ⟨hx42_0,hf42_0⟩:=Kd.R_celln (⟨#[]⟩:ByteArray) HO_9.out (x10_2:Int) p42 q42
        replace p42:=eq_true p42
        replace q42:=eq_true q42
        have HP46:=Kd.R_putg HO_9.out (x10_2:Int) x0_2
        have q48:((ji43):Int) ≤ ((x9_2.length:Int):Int):=of_decide_eq_true zb5
        obtain ⟨i56,hi56,_,hsz48,_⟩:=info_parts info9
        have hcut48:=cut_to (P:=Tryz.prog) 34 9 .i64 Tryz.underlying34 hi56 (some ⟨go42,0,none⟩) x9_2.length co42 (ji43) (of_decide_eq_true zb5) q48 (Kd.R_reads' HO_9.out).2.1
        clear hi56 hsz48
        replace q48:=eq_true q48
        go_wp2_with (first|((with_reducible refine gate_store (t:=9) (p:=61) rfl ?_);refine store_event (t:=9) (p:=61) (v:=?vo_w47) (w1:=(wr.setCell ⟨go42,(x10_2:Int).toNat,none⟩ (.string x0_2))) ?hg ?ho ?hn ?hr ?_;(case ho=>rfl);(case hg=>rfl);(case hn=>rfl);(case hr=>first|(go_simp;done)|(go_simp;rfl));intro w47 hw;have hg:wr.grownBy w47 (some go42):=(by rw [hw];exact HP46.2);have hp_:Kd.R Kd.string 9 w47 w.heap.size (fun _=>True) (.slice (some ⟨go42,0,none⟩) x9_2.length co42) y50:=(by rw [hw,Ny50.out];exact HP46.1);clear HP46;replace HO_9:=Aside0.mk (hp_);replace HB:=Aside0.mk ((by rw [hw];exact below_set (HB.out) GB42.out:Below w.heap.size w w47));clear hg hw hp_;have q48:((ji43):Int) ≤ ((x9_2.length:Int):Int):=of_decide_eq_true zb5;obtain ⟨i56,hi56,_,hsz48,_⟩:=info_parts info9;have hcut48:=cut_to (P:=Tryz.prog) 34 9 .i64 Tryz.underlying34 hi56 (some ⟨go42,0,none⟩) x9_2.length co42 (ji43) (of_decide_eq_true zb5) q48 (Kd.R_reads' HO_9.out).2.1;have hr48:=Kd.R_take (m:=((ji43):Int).toNat) HO_9.out zb18;have hy48:y53.length=((ji43):Int).toNat:=(by rw [Ny53.out,List.length_take];omega);rw [← Ny53.out] at hr48;rw [← hy48] at hr48 hcut48;clear hy48 hi56 hsz48 HO_9;have HO67:=Aside0.mk hr48;clear hr48;replace q48:=eq_true q48))
        go_ret
        exact ⟨_,by first|rfl|(simp [errW_none,errW_some] <;> rfl)|(simp only [← hji12,← hji43];first|rfl|(simp [errW_none,errW_some] <;> rfl))|(simp [*,errW_none,errW_some] <;> rfl),(by rw [Ny53.out,Ny50.out];exact Kd.R_take (m:=((ji43):Int).toNat) HP46.1 (by have q_:(ji43:Int) ≤ (x9_2.length:Int):=of_decide_eq_true (by first|(with_reducible assumption)|assumption);rw [List.length_set];omega)),below_set (HB.out) GB42.out⟩
       ·rw [if_neg c45] at H
        exact absurd H zb33
      rw [if_pos c17] at H
      have c17b0:=decide_eq_true c17
      clear c17
      replace H:=Option.bind_eq_some_iff.mp H
      obtain ⟨t4,A61,H⟩:=H
      try dsimp only at H
      have A18:=Aside0.mk A61
      clear A61
      by_cases c19:t4 < 0
      ·rw [if_pos c19] at H
       have c19b0:=decide_eq_true c19
       clear c19
       by_cases c20:0 ≤ x10_2;rotate_left
       ·rw [if_neg c20] at H
        exact absurd H zb33
       rw [if_pos c20] at H
       have c20b0:=decide_eq_true c20
       clear c20
       by_cases c21:x10_2 < (x9_2.length:Int)
       ·rw [if_pos c21] at H
        have c21b0:=decide_eq_true c21
        clear c21
        obtain ⟨y49,hy49⟩ : ∃ y_:List ByteArray,y_=(x9_2.set (x10_2:Int).toNat x0_2):=⟨_,rfl⟩
        replace H:(if 0 ≤ (wrap64 (x10_2 + 1)) then (if (wrap64 (x10_2 + 1)) ≤ (x9_2.length:Int) then (some (y49.take ((wrap64 (x10_2 + 1)):Int).toNat)) else (none)) else (none))=some r:=by first|(rw [hy49];with_reducible exact H)|(have H2_:=(Option.bind_some _ _).symm.trans H;rw [hy49];with_reducible exact H2_)|(have H2_:=(Option.bind_some _ _).symm.trans H;with_reducible exact H2_)|with_reducible exact H|(rw [hy49];exact H)|exact H
        have Ny49:=Aside0.mk hy49
        clear hy49
        obtain ⟨ji23,hji23⟩ : ∃ j_:Int,(wrap64 (x10_2 + 1))=j_:=⟨_,rfl⟩
        replace H:(if 0 ≤ (ji23) then (if (ji23) ≤ (x9_2.length:Int) then (some (y49.take ((ji23):Int).toNat)) else (none)) else (none))=some r:=by first|(rw [hji23] at H;exact H)|(simp only [hji23] at H ⊢;exact H)
        (try rw [hji23] at A18)
        have hji23w:(IntKind.i64.wrap (x10_2 + 1))=ji23:=(i64_w _).trans hji23
        by_cases c24:0 ≤ (ji23);rotate_left
        ·rw [if_neg c24] at H
         exact absurd H zb33
        rw [if_pos c24] at H
        have c24b0:=eq_true c24
        have c24b1:=decide_eq_true c24
        clear c24
        by_cases c25:(ji23) ≤ (x9_2.length:Int)
        ·rw [if_pos c25] at H
         have c25b0:=eq_true c25
         have c25b1:=decide_eq_true c25
         clear c25
         obtain ⟨y51,hy51⟩ : ∃ y_:List ByteArray,y_=(y49.take ((ji23):Int).toNat):=⟨_,rfl⟩
         replace H:(some y51)=some r:=by first|(rw [hy51];with_reducible exact H)|(have H2_:=(Option.bind_some _ _).symm.trans H;rw [hy51];with_reducible exact H2_)|(have H2_:=(Option.bind_some _ _).symm.trans H;with_reducible exact H2_)|with_reducible exact H|(rw [hy51];exact H)|exact H
         have Ny51:=Aside0.mk hy51
         clear hy51
         obtain rfl:=Option.some.inj H
         go_wp2_with (first|((with_reducible refine gate_callee (f:=187) rfl ?_);refine goesL_ (some 39) rfl rfl Tryz.func187 zb10 rfl #[.string x0_2,.string a1] rfl zb1 ?_;(with_reducible refine (strings_Index.calls x0_2 a1 t4 _ A18.out).mono ?_);rintro e w' ⟨rfl,⟨nd,rfl⟩⟩;(try clear A18);refine ⟨_,rfl,?_⟩;(try (rw [drewN_self wr];generalize hq_:World.drewN wr _=wr;have n0_:Aside0 (Kd.R Kd.string 9 wr w.heap.size (fun _=>True) v59 x9_2):=⟨zb91⟩;have n1_:Aside0 (Below w.heap.size w wr):=⟨zb83⟩;clear HO_9 HB hq_;have HO_9:=n0_;have HB:=n1_;clear n0_ n1_));have p22:0 ≤ (x10_2:Int):=of_decide_eq_true zb5;have q22:(x10_2:Int) < ((x9_2.length:Int):Int):=of_decide_eq_true zb5;obtain ⟨go22,co22,eo22,gb22,gl22,cl22,HG22⟩:=Kd.R_form HO_9.out zb18;(first|cases eo22|(injection eo22 with ea_ en_ ec_;(first|subst ea_|(injection ea_ with ea_;subst ea_));subst ec_;clear en_));have GB22:=Aside0.mk gb22;have GG22:=Aside0.mk HG22;clear gb22 gl22 HG22;obtain ⟨hx22_0,hf22_0⟩:=Kd.R_celln (⟨#[]⟩:ByteArray) HO_9.out (x10_2:Int) p22 q22;replace p22:=eq_true p22;replace q22:=eq_true q22;obtain ⟨hy26_,hz26_⟩:=Kd.R_celln (⟨#[]⟩:ByteArray) HO_9.out (x10_2:Int) (of_decide_eq_true zb5) (of_decide_eq_true zb5);have HP26:=Kd.R_putg HO_9.out (x10_2:Int) x0_2;have q28:((ji23):Int) ≤ ((x9_2.length:Int):Int):=of_decide_eq_true zb5;obtain ⟨i55,hi55,_,hsz28,_⟩:=info_parts info9;have hcut28:=cut_to (P:=Tryz.prog) 34 9 .i64 Tryz.underlying34 hi55 (some ⟨go22,0,none⟩) x9_2.length co22 (ji23) (of_decide_eq_true zb5) q28 (Kd.R_reads' HO_9.out).2.1;clear hi55 hsz28;replace q28:=eq_true q28)|((with_reducible refine gate_store (t:=9) (p:=61) rfl ?_);refine store_event (t:=9) (p:=61) (v:=?vo_w27) (w1:=(wr.setCell ⟨go22,(x10_2:Int).toNat,none⟩ (.string x0_2))) ?hg ?ho ?hn ?hr ?_;(case ho=>rfl);(case hg=>rfl);(case hn=>rfl);(case hr=>first|(go_simp;done)|(go_simp;rfl));intro w27 hw;have hg:wr.grownBy w27 (some go22):=(by rw [hw];exact HP26.2);have hp_:Kd.R Kd.string 9 w27 w.heap.size (fun _=>True) (.slice (some ⟨go22,0,none⟩) x9_2.length co22) y49:=(by rw [hw,Ny49.out];exact HP26.1);clear HP26;replace HO_9:=Aside0.mk (hp_);replace HB:=Aside0.mk ((by rw [hw];exact below_set (HB.out) GB22.out:Below w.heap.size w w27));clear hg hw hp_;have q28:((ji23):Int) ≤ ((x9_2.length:Int):Int):=of_decide_eq_true zb5;obtain ⟨i55,hi55,_,hsz28,_⟩:=info_parts info9;have hcut28:=cut_to (P:=Tryz.prog) 34 9 .i64 Tryz.underlying34 hi55 (some ⟨go22,0,none⟩) x9_2.length co22 (ji23) (of_decide_eq_true zb5) q28 (Kd.R_reads' HO_9.out).2.1;have hr28:=Kd.R_take (m:=((ji23):Int).toNat) HO_9.out zb18;have hy28:y51.length=((ji23):Int).toNat:=(by rw [Ny51.out,List.length_take];omega);rw [← Ny51.out] at hr28;rw [← hy28] at hr28 hcut28;clear hy28 hi55 hsz28 HO_9;have HO66:=Aside0.mk hr28;clear hr28;replace q28:=eq_true q28))
         go_ret
         exact ⟨_,by first|rfl|(simp [errW_none,errW_some] <;> rfl)|(simp only [← hji12,← hji23];first|rfl|(simp [errW_none,errW_some] <;> rfl))|(simp [*,errW_none,errW_some] <;> rfl),(by rw [Ny51.out,Ny49.out];exact Kd.R_take (m:=((ji23):Int).toNat) HP26.1 (by have q_:(ji23:Int) ≤ (x9_2.length:Int):=of_decide_eq_true (by first|(with_reducible assumption)|assumption);rw [List.length_set];omega)),below_set (HB.out) GB22.out⟩
        ·rw [if_neg c25] at H
         exact absurd H zb33
       ·rw [if_neg c21] at H
        exact absurd H zb33
      rw [if_neg c19] at H
      have c19b0:=decide_eq_false c19
      clear c19
      obtain ⟨ji29,hji29⟩ : ∃ j_:Int,(wrap64 (t4 + a2))=j_:=⟨_,rfl⟩
      replace H:(if 0 ≤ (ji29) then (if (ji29) ≤ (x0_2.size:Int) then (if 0 ≤ x10_2 then (if x10_2 < (x9_2.length:Int) then (if 0 ≤ (wrap64 (t4 + (a1.size:Int))) then (if (wrap64 (t4 + (a1.size:Int))) ≤ (x0_2.size:Int) then (strings_genSplit.l0 k2 (x0_2.extract ((wrap64 (t4 + (a1.size:Int))):Int).toNat x0_2.size) a1 a2 (wrap64 ((ji12) - 1)) (x9_2.set (x10_2:Int).toNat (x0_2.extract 0 ((ji29):Int).toNat)) (wrap64 (x10_2 + 1))) else (none)) else (none)) else (none)) else (none)) else (none)) else (none))=some r:=by first|(rw [hji29] at H;exact H)|(simp only [hji29] at H ⊢;exact H)
      (try rw [hji29] at A18)
      have hji29w:(IntKind.i64.wrap (t4 + a2))=ji29:=(i64_w _).trans hji29
      by_cases c30:0 ≤ (ji29)
      ·rw [if_pos c30] at H
       have c30b0:=eq_true c30
       have c30b1:=decide_eq_true c30
       clear c30
       by_cases c31:(ji29) ≤ (x0_2.size:Int)
       ·rw [if_pos c31] at H
        have c31b0:=eq_true c31
        have c31b1:=decide_eq_true c31
        clear c31
        by_cases c32:0 ≤ x10_2
        ·rw [if_pos c32] at H
         have c32b0:=decide_eq_true c32
         clear c32
         by_cases c33:x10_2 < (x9_2.length:Int)
         ·rw [if_pos c33] at H
          have c33b0:=decide_eq_true c33
          clear c33
          obtain ⟨y52,hy52⟩ : ∃ y_:List ByteArray,y_=(x9_2.set (x10_2:Int).toNat (x0_2.extract 0 ((ji29):Int).toNat)):=⟨_,rfl⟩
          replace H:(if 0 ≤ (wrap64 (t4 + (a1.size:Int))) then (if (wrap64 (t4 + (a1.size:Int))) ≤ (x0_2.size:Int) then (strings_genSplit.l0 k2 (x0_2.extract ((wrap64 (t4 + (a1.size:Int))):Int).toNat x0_2.size) a1 a2 (wrap64 ((ji12) - 1)) y52 (wrap64 (x10_2 + 1))) else (none)) else (none))=some r:=by first|(rw [hy52];with_reducible exact H)|(have H2_:=(Option.bind_some _ _).symm.trans H;rw [hy52];with_reducible exact H2_)|(have H2_:=(Option.bind_some _ _).symm.trans H;with_reducible exact H2_)|with_reducible exact H|(rw [hy52];exact H)|exact H
          have Ny52:=Aside0.mk hy52
          clear hy52
          obtain ⟨ji35,hji35⟩ : ∃ j_:Int,(wrap64 (t4 + (a1.size:Int)))=j_:=⟨_,rfl⟩
          replace H:(if 0 ≤ (ji35) then (if (ji35) ≤ (x0_2.size:Int) then (strings_genSplit.l0 k2 (x0_2.extract ((ji35):Int).toNat x0_2.size) a1 a2 (wrap64 ((ji12) - 1)) y52 (wrap64 (x10_2 + 1))) else (none)) else (none))=some r:=by first|(rw [hji35] at H;exact H)|(simp only [hji35] at H ⊢;exact H)
          (try rw [hji35] at A18)
          have hji35w:(IntKind.i64.wrap (t4 + (a1.size:Int)))=ji35:=(i64_w _).trans hji35
          by_cases c36:0 ≤ (ji35)
          ·rw [if_pos c36] at H
           have c36b0:=eq_true c36
           have c36b1:=decide_eq_true c36
           clear c36
           by_cases c37:(ji35) ≤ (x0_2.size:Int)
           ·rw [if_pos c37] at H
            have c37b0:=eq_true c37
            have c37b1:=decide_eq_true c37
            clear c37
            have H' := Aside0.mk H
            clear H
            go_wp2_with (first|((with_reducible refine gate_callee (f:=187) rfl ?_);refine goesL_ (some 39) rfl rfl Tryz.func187 zb10 rfl #[.string x0_2,.string a1] rfl zb1 ?_;(with_reducible refine (strings_Index.calls x0_2 a1 t4 _ A18.out).mono ?_);rintro e w' ⟨rfl,⟨nd,rfl⟩⟩;(try clear A18);refine ⟨_,rfl,?_⟩;(try (rw [drewN_self wr];generalize hq_:World.drewN wr _=wr;have n0_:Aside0 (Kd.R Kd.string 9 wr w.heap.size (fun _=>True) v59 x9_2):=⟨zb91⟩;have n1_:Aside0 (Below w.heap.size w wr):=⟨zb83⟩;clear HO_9 HB hq_;have HO_9:=n0_;have HB:=n1_;clear n0_ n1_));have p34:0 ≤ (x10_2:Int):=of_decide_eq_true zb5;have q34:(x10_2:Int) < ((x9_2.length:Int):Int):=of_decide_eq_true zb5;obtain ⟨go34,co34,eo34,gb34,gl34,cl34,HG34⟩:=Kd.R_form HO_9.out zb18;(first|cases eo34|(injection eo34 with ea_ en_ ec_;(first|subst ea_|(injection ea_ with ea_;subst ea_));subst ec_;clear en_));have GB34:=Aside0.mk gb34;have GG34:=Aside0.mk HG34;clear gb34 gl34 HG34;obtain ⟨hx34_0,hf34_0⟩:=Kd.R_celln (⟨#[]⟩:ByteArray) HO_9.out (x10_2:Int) p34 q34;replace p34:=eq_true p34;replace q34:=eq_true q34;obtain ⟨hy38_,hz38_⟩:=Kd.R_celln (⟨#[]⟩:ByteArray) HO_9.out (x10_2:Int) (of_decide_eq_true zb5) (of_decide_eq_true zb5);have HP38:=Kd.R_putg HO_9.out (x10_2:Int) (x0_2.extract 0 ((ji29):Int).toNat))|((with_reducible refine gate_store (t:=9) (p:=49) rfl ?_);refine store_event (t:=9) (p:=49) (v:=?vo_w39) (w1:=(wr.setCell ⟨go34,(x10_2:Int).toNat,none⟩ (.string (x0_2.extract 0 ((ji29):Int).toNat)))) ?hg ?ho ?hn ?hr ?_;(case ho=>rfl);(case hg=>rfl);(case hn=>rfl);(case hr=>first|(go_simp;done)|(go_simp;rfl));intro w39 hw;have hg:wr.grownBy w39 (some go34):=(by rw [hw];exact HP38.2);have hp_:Kd.R Kd.string 9 w39 w.heap.size (fun _=>True) (.slice (some ⟨go34,0,none⟩) x9_2.length co34) y52:=(by rw [hw,Ny52.out];exact HP38.1);clear HP38;replace HO_9:=Aside0.mk (hp_);replace HB:=Aside0.mk ((by rw [hw];exact below_set (HB.out) GB34.out:Below w.heap.size w w39));clear hg hw hp_))
            go_roundg k2
            case measure=>have:=HJ8.out;have:=HK2.out;omega
            case rel=>exact ⟨(x0_2.extract ((ji35):Int).toNat x0_2.size),(y52),(wrap64 (x10_2 + 1)),(by first|rfl|(simp;done)|(simp only [← hji35] <;> (first|rfl|simp))|(simp [*];done)),zb4,H',⟨by have:=HJ8.out;have:=HK2.out;omega⟩,⟨zb44⟩,⟨zb0⟩⟩
           ·rw [if_neg c37] at H
            exact absurd H zb33
          ·rw [if_neg c36] at H
           exact absurd H zb33
         ·rw [if_neg c33] at H
          exact absurd H zb33
        ·rw [if_neg c32] at H
         exact absurd H zb33
       ·rw [if_neg c31] at H
        exact absurd H zb33
      ·rw [if_neg c30] at H
       exact absurd H zb33
   ·rw [if_neg c14] at H
    exact absurd H zb33
def strings_Split.f (k:Nat) (a0:ByteArray) (a1:ByteArray):Option (List ByteArray):=(strings_genSplit.f k a0 a1 0 (-1)).bind fun t143=>(some t143)
set_option maxHeartbeats 8000000 in
set_option maxRecDepth 100000 in
theorem strings_Split.calls (k:Nat) (a0:ByteArray) (a1:ByteArray) (r:List ByteArray) (w:World) (h:strings_Split.f k a0 a1=some r) :
 Calls Tryz.prog 116 #[.string a0,.string a1] w fun e w' => ∃ v0_:Value,e = .returned (v0_)∧Kd.R Kd.string 9 w' w.heap.size (fun _=>True) v0_ r∧Below w.heap.size w w' := by
 have HB:=Aside0.mk (Below.refl w.heap.size w)
 unfold strings_Split.f at h
 have H:=h
 clear h
 replace H:=Option.bind_eq_some_iff.mp H
 obtain ⟨t143,A30,H⟩:=H
 try dsimp only at H
 have A3:=Aside0.mk A30
 clear A30
 obtain rfl:=Option.some.inj H
 go_enter Tryz.func116,Tryz.ntmps116
 go_wp2_with (first|((with_reducible refine gate_callee (f:=160) rfl ?_);refine goesL_ (some 7) rfl rfl Tryz.func160 zb10 rfl #[.string a0,.string a1,.int .i64 0,.int .i64 (-1)] rfl zb1 ?_;(with_reducible refine (strings_genSplit.calls k a0 a1 0 (-1) t143 _ A3.out).mono ?_);rintro e w4 ⟨v144,rfl,ho0,hb⟩;(try clear A3);refine ⟨_,rfl,?_⟩;have HO145:=Aside0.mk (Kd.R_lower ho0 (below_size zb0));replace HB:=Aside0.mk (below_step zb0 hb);try clear hb ho0))
 go_ret
 exact ⟨_,zb2,by (with_reducible repeat (first|apply Kd.R_alloc|apply Kd.R_drewN|apply Kd.R_drew));exact HO145.out,zb0⟩
def sign_Split.l0:Nat → List ByteArray → List ByteArray → Int → Int → Option (List ByteArray)
 | 0,_,_,_,_=>none
 | k + 1,x3,x7,x8,x9=>if x9 < x8 then (if 0 ≤ x9 then (if x9 < (x7.length:Int) then ((sign_Trim.f (rdOf ByteArray.empty x7 x9)).bind fun t215=>(if t215.toList=([]:List UInt8) then (sign_Split.l0 k x3 x7 x8 (wrap64 (x9 + 1))) else (if x3.length < 8796093022208 then (sign_Split.l0 k (x3 ++ [t215]) x7 x8 (wrap64 (x9 + 1))) else (none)))) else (none)) else (none)) else (some x3)
def sign_Split.f (k:Nat) (a0:ByteArray):Option (List ByteArray):=(strings_Split.f k a0 (⟨#[44]⟩:ByteArray)).bind fun t211=>(sign_Split.l0 k ([]:List ByteArray) t211 (t211.length:Int) 0)
set_option maxHeartbeats 8000000 in
set_option maxRecDepth 100000 in
theorem sign_Split.calls (k:Nat) (a0:ByteArray) (r:List ByteArray) (w:World) (h:sign_Split.f k a0=some r) :
 Calls Tryz.prog 136 #[.string a0] w fun e w' => ∃ v0_:Value,e = .returned (v0_)∧Kd.R Kd.string 9 w' w.heap.size (fun _=>True) v0_ r∧Below w.heap.size w w' := by
 have HB:=Aside0.mk (Below.refl w.heap.size w)
 unfold sign_Split.f at h
 have H:=h
 clear h
 replace H:=Option.bind_eq_some_iff.mp H
 obtain ⟨t211,A20,H⟩:=H
 try dsimp only at H
 have A2:=Aside0.mk A20
 clear A20
 have H' := Aside0.mk H
 clear H
 go_enter Tryz.func136,Tryz.ntmps136
 go_wp2_with (first|((with_reducible refine gate_callee (f:=116) rfl ?_);refine goesL_ (some 7) rfl rfl Tryz.func116 zb10 rfl #[.string a0,.string (⟨#[44]⟩:ByteArray)] rfl zb1 ?_;(with_reducible refine (strings_Split.calls k a0 (⟨#[44]⟩:ByteArray) t211 _ A2.out).mono ?_);rintro e w3 ⟨v212,rfl,ho0,hb⟩;(try clear A2);refine ⟨_,rfl,?_⟩;have HO213:=Aside0.mk (Kd.R_lower ho0 (below_size zb0));replace HB:=Aside0.mk (below_step zb0 hb);try clear hb ho0;obtain ⟨Ao4,co4,eo4⟩:=Kd.R_slice HO213.out;subst eo4))
 go_loopg [3,9] k (fun kq v3 v9 w' => ∃ (x3_1:List ByteArray) (x9_1:Int),v9 = .int .i64 x9_1∧Aside0 (sign_Split.l0 kq x3_1 t211 (t211.length:Int) x9_1=some r)∧Aside0 (kq ≤ k)∧Aside0 (Kd.R Kd.string 9 w' w.heap.size (fun k_=>some k_ ≠ ((.slice Ao4 t211.length co4):Value).ownBlock) v3 x3_1)∧Aside0 (Kd.R Kd.string 9 w' w.heap.size (fun k_=>some k_ ≠ (v3:Value).ownBlock) (.slice Ao4 t211.length co4) t211)∧Aside0 (Below w.heap.size w w'))
 case atStart=>exact ⟨(([]:List ByteArray)),(0),zb4,H',⟨Nat.le_refl _⟩,⟨zb23⟩,⟨by (with_reducible repeat (first|apply Kd.R_alloc|apply Kd.R_drewN|apply Kd.R_drew));exact Kd.R_mono HO213.out (fun _ hk=>(by simp [Value.ownBlock]))⟩,⟨zb0⟩⟩
 case round =>
  clear H'
  try clear c1
  try clear p2
  obtain ⟨x3_1,x9_1,rfl,HA,HK1,HO_3,HO_7,HB⟩:=hrel
  cases gk with
  | zero=>exact absurd HA.out (by simp [sign_Split.l0])
  | succ k1 =>
   have H:=HA.out
   clear HA
   simp only [sign_Split.l0] at H
   by_cases c5:x9_1 < (t211.length:Int);rotate_left
   ·rw [if_neg c5] at H
    have c5b0:=decide_eq_false c5
    clear c5
    obtain rfl:=Option.some.inj H
    go_wp2
    go_ret
    exact ⟨_,zb2,zb89,zb0⟩
   rw [if_pos c5] at H
   have c5b0:=decide_eq_true c5
   clear c5
   by_cases c6:0 ≤ x9_1
   ·rw [if_pos c6] at H
    have c6b0:=decide_eq_true c6
    clear c6
    by_cases c7:x9_1 < (t211.length:Int)
    ·rw [if_pos c7] at H
     have c7b0:=decide_eq_true c7
     clear c7
     replace H:=Option.bind_eq_some_iff.mp H
     obtain ⟨t215,A80,H⟩:=H
     try dsimp only at H
     have A8:=Aside0.mk A80
     clear A80
     by_cases c9:t215.toList=([]:List UInt8)
     ·rw [if_pos c9] at H
      have c9b0:=beq_iff_eq.mpr c9
      have c9b1:=bne_eq_false_iff_eq.mpr c9
      clear c9
      have H' := Aside0.mk H
      clear H
      have p214:0 ≤ (x9_1:Int):=of_decide_eq_true zb5
      have q214:x9_1 < (t211.length:Int):=of_decide_eq_true zb5
      obtain ⟨ad214,e214,hx214_0⟩:=Kd.at_string (Kd.R_reads' HO_7.out).2.2 x9_1 p214 q214
      cases e214
      replace p214:=eq_true p214
      replace q214:=eq_true q214
      go_wp2_with (first|((with_reducible refine gate_callee (f:=153) rfl ?_);refine goesL_ (some 14) rfl rfl Tryz.func153 zb10 rfl #[.string (rdOf ByteArray.empty t211 x9_1)] rfl zb1 ?_;(with_reducible refine (sign_Trim.calls (rdOf ByteArray.empty t211 x9_1) t215 _ A8.out).mono ?_);rintro e w10 ⟨rfl,hb⟩;(try clear A8);refine ⟨_,rfl,?_⟩;replace HO_3:=Aside0.mk (Kd.R_below zb16 hb);replace HO_7:=Aside0.mk (Kd.R_below zb68 hb);replace HB:=Aside0.mk (below_step zb0 hb);(try clear hb)))
      go_roundg k1
      case measure=>have:=HK1.out;omega
      case rel=>exact ⟨(x3_1),(wrap64 (x9_1 + 1)),zb4,H',⟨zb66⟩,⟨zb16⟩,⟨zb68⟩,⟨zb0⟩⟩
     rw [if_neg c9] at H
     have c9b0:=beq_eq_false_iff_ne.mpr c9
     have c9b1:=bne_iff_ne.mpr c9
     by_cases c11:x3_1.length < 8796093022208
     ·rw [if_pos c11] at H
      have LMc11:=Aside0.mk c11
      clear c11
      obtain ⟨y216,hy216⟩ : ∃ y_:List ByteArray,y_=(x3_1 ++ [t215]):=⟨_,rfl⟩
      replace H:(sign_Split.l0 k1 y216 t211 (t211.length:Int) (wrap64 (x9_1 + 1)))=some r:=by first|(rw [hy216];with_reducible exact H)|(have H2_:=(Option.bind_some _ _).symm.trans H;rw [hy216];with_reducible exact H2_)|(have H2_:=(Option.bind_some _ _).symm.trans H;with_reducible exact H2_)|with_reducible exact H|(rw [hy216];exact H)|exact H
      have Ny216:=Aside0.mk hy216
      clear hy216
      have H' := Aside0.mk H
      clear H
      have p214:0 ≤ (x9_1:Int):=of_decide_eq_true zb5
      have q214:x9_1 < (t211.length:Int):=of_decide_eq_true zb5
      obtain ⟨ad214,e214,hx214_0⟩:=Kd.at_string (Kd.R_reads' HO_7.out).2.2 x9_1 p214 q214
      cases e214
      replace p214:=eq_true p214
      replace q214:=eq_true q214
      go_wp2_with (first|((with_reducible refine gate_callee (f:=153) rfl ?_);refine goesL_ (some 14) rfl rfl Tryz.func153 zb10 rfl #[.string (rdOf ByteArray.empty t211 x9_1)] rfl zb1 ?_;(with_reducible refine (sign_Trim.calls (rdOf ByteArray.empty t211 x9_1) t215 _ A8.out).mono ?_);rintro e w12 ⟨rfl,hb⟩;(try clear A8);refine ⟨_,rfl,?_⟩;replace HO_3:=Aside0.mk (Kd.R_below zb16 hb);replace HO_7:=Aside0.mk (Kd.R_below zb68 hb);replace HB:=Aside0.mk (below_step zb0 hb);(try clear hb))|((with_reducible refine gate_builtin (b:=.append) (xs:=#[.tmp 17,.tmp 19]) rfl ?_);at_builtin;refine Kd.R_append Kd.string (w0:=w) w.heap.size rfl (.tmp 17) (.tmp 19) 34 9 (.string ⟨#[]⟩) 16 rfl Tryz.underlying34 info9 rfl zb27 zb18 u3 x3_1 t215 [.string t215] (fun k_=>some k_ ≠ (.slice (some ad214) t211.length co4:Value).ownBlock) (fun _=>False) rfl rfl ?aP (fun _ hk=>hk.elim) ?aF ?aO ?aB ?aS ?aL ?_;(case aP=>exact rfl);(case aB=>exact zb26);(case aF=>exact (fun k_ hk=>Kd.fresh' (Kd.R_lt zb68) k_ hk));(case aO=>exact zb59);(case aS=>exact zb21);(case aL=>have:=LMc11.out;omega);intro v217 w13 ho hb hg hat;rw [← Ny216.out] at ho;replace HO_7:=Aside0.mk (Kd.R_after (ok:=(fun _=>True)) (by (with_reducible repeat (first|apply Kd.R_alloc|apply Kd.R_drewN|apply Kd.R_drew));exact Kd.R_mono HO_7.out (fun _ hk=>⟨trivial,hk⟩)) hg hat);replace HB:=Aside0.mk (hb);have HO218:=Aside0.mk (ho);clear ho hb hg hat))
      go_roundg k1
      case measure=>have:=HK1.out;omega
      case rel=>exact ⟨(y216),(wrap64 (x9_1 + 1)),zb4,H',⟨zb66⟩,⟨by (with_reducible repeat (first|apply Kd.R_alloc|apply Kd.R_drewN|apply Kd.R_drew));exact HO218.out⟩,⟨by (with_reducible repeat (first|apply Kd.R_alloc|apply Kd.R_drewN|apply Kd.R_drew));exact Kd.R_mono HO_7.out (fun _ hk=>hk.2)⟩,⟨zb0⟩⟩
     ·rw [if_neg c11] at H
      exact absurd H zb33
    ·rw [if_neg c7] at H
     exact absurd H zb33
   ·rw [if_neg c6] at H
    exact absurd H zb33
def field_List.l0:Nat → List ByteArray → List ByteArray → Int → Int → Option (List ByteArray)
 | 0,_,_,_,_=>none
 | k + 1,x5,x10,x11,x12=>if x12 < x11 then (if 0 ≤ x12 then (if x12 < (x10.length:Int) then ((sign_Split.f k (rdOf ByteArray.empty x10 x12)).bind fun t223=>(if x5.length + t223.length < 8796093022208 then (field_List.l0 k (x5 ++ t223) x10 x11 (wrap64 (x12 + 1))) else (none))) else (none)) else (none)) else (some x5)
def field_List.f (k:Nat) (l0:List (S36)) (a1:ByteArray):Option (List ByteArray):=(field_Get.f k l0 a1).bind fun t219=>(field_List.l0 k ([]:List ByteArray) t219 (t219.length:Int) 0)
set_option maxHeartbeats 8000000 in
set_option maxRecDepth 100000 in
theorem field_List.calls (k:Nat) (A0:Option Addr) (c0:Nat) (l0:List (S36)) (a1:ByteArray) (r:List ByteArray) (w:World) (hr0:Kd.C k36 w A0 l0.length l0) (hc0:l0.length ≤ c0) (h:field_List.f k l0 a1=some r) :
 Calls Tryz.prog 87 #[.slice A0 l0.length c0,.string a1] w fun e w' => ∃ v0_:Value,e = .returned (v0_)∧Kd.R Kd.string 9 w' w.heap.size (fun _=>True) v0_ r∧Below w.heap.size w w' := by
 have HR0:=Aside0.mk hr0
 have HC0:=Aside0.mk hc0
 clear hr0 hc0
 have HB:=Aside0.mk (Below.refl w.heap.size w)
 unfold field_List.f at h
 have H:=h
 clear h
 replace H:=Option.bind_eq_some_iff.mp H
 obtain ⟨t219,A30,H⟩:=H
 try dsimp only at H
 have A3:=Aside0.mk A30
 clear A30
 have H' := Aside0.mk H
 clear H
 go_enter Tryz.func87,Tryz.ntmps87
 go_wp2_with (first|((with_reducible refine gate_callee (f:=50) rfl ?_);refine goesL_ (some 10) rfl rfl Tryz.func50 zb10 rfl #[.slice A0 l0.length c0,.string a1] rfl zb1 ?_;(with_reducible refine (field_Get.calls k _ _ l0 a1 t219 _ ?side1 ?side2 A3.out).mono ?_);(case side1=>exact zb29);(case side2=>exact HC0.out);rintro e w4 ⟨v220,rfl,ho0,hb⟩;(try clear A3);refine ⟨_,rfl,?_⟩;have HO221:=Aside0.mk (Kd.R_lower ho0 (below_size zb0));replace HB:=Aside0.mk (below_step zb0 hb);try clear hb ho0;obtain ⟨Ao5,co5,eo5⟩:=Kd.R_slice HO221.out;subst eo5))
 go_loopg [5,12] k (fun kq v5 v12 w' => ∃ (x5_1:List ByteArray) (x12_1:Int),v12 = .int .i64 x12_1∧Aside0 (field_List.l0 kq x5_1 t219 (t219.length:Int) x12_1=some r)∧Aside0 (kq ≤ k)∧Aside0 (Kd.R Kd.string 9 w' w.heap.size (fun k_=>some k_ ≠ ((.slice Ao5 t219.length co5):Value).ownBlock) v5 x5_1)∧Aside0 (Kd.R Kd.string 9 w' w.heap.size (fun k_=>some k_ ≠ (v5:Value).ownBlock) (.slice Ao5 t219.length co5) t219)∧Aside0 (Below w.heap.size w w'))
 case atStart=>exact ⟨(([]:List ByteArray)),(0),zb4,H',⟨Nat.le_refl _⟩,⟨zb23⟩,⟨by (with_reducible repeat (first|apply Kd.R_alloc|apply Kd.R_drewN|apply Kd.R_drew));exact Kd.R_mono HO221.out (fun _ hk=>(by simp [Value.ownBlock]))⟩,⟨zb0⟩⟩
 case round =>
  clear H'
  try clear p2
  try clear c5
  obtain ⟨x5_1,x12_1,rfl,HA,HK1,HO_5,HO_10,HB⟩:=hrel
  cases gk with
  | zero=>exact absurd HA.out (by simp [field_List.l0])
  | succ k1 =>
   have H:=HA.out
   clear HA
   simp only [field_List.l0] at H
   by_cases c6:x12_1 < (t219.length:Int);rotate_left
   ·rw [if_neg c6] at H
    have c6b0:=decide_eq_false c6
    clear c6
    obtain rfl:=Option.some.inj H
    go_wp2
    go_ret
    exact ⟨_,zb2,zb90,zb0⟩
   rw [if_pos c6] at H
   have c6b0:=decide_eq_true c6
   clear c6
   by_cases c7:0 ≤ x12_1
   ·rw [if_pos c7] at H
    have c7b0:=decide_eq_true c7
    clear c7
    by_cases c8:x12_1 < (t219.length:Int)
    ·rw [if_pos c8] at H
     have c8b0:=decide_eq_true c8
     clear c8
     replace H:=Option.bind_eq_some_iff.mp H
     obtain ⟨t223,A90,H⟩:=H
     try dsimp only at H
     have A9:=Aside0.mk A90
     clear A90
     by_cases c10:x5_1.length + t223.length < 8796093022208
     ·rw [if_pos c10] at H
      have LMc10:=Aside0.mk c10
      clear c10
      obtain ⟨y226,hy226⟩ : ∃ y_:List ByteArray,y_=(x5_1 ++ t223):=⟨_,rfl⟩
      replace H:(field_List.l0 k1 y226 t219 (t219.length:Int) (wrap64 (x12_1 + 1)))=some r:=by first|(rw [hy226];with_reducible exact H)|(have H2_:=(Option.bind_some _ _).symm.trans H;rw [hy226];with_reducible exact H2_)|(have H2_:=(Option.bind_some _ _).symm.trans H;with_reducible exact H2_)|with_reducible exact H|(rw [hy226];exact H)|exact H
      have Ny226:=Aside0.mk hy226
      clear hy226
      have H' := Aside0.mk H
      clear H
      have p222:0 ≤ (x12_1:Int):=of_decide_eq_true zb5
      have q222:x12_1 < (t219.length:Int):=of_decide_eq_true zb5
      obtain ⟨ad222,e222,hx222_0⟩:=Kd.at_string (Kd.R_reads' HO_10.out).2.2 x12_1 p222 q222
      cases e222
      replace p222:=eq_true p222
      replace q222:=eq_true q222
      go_wp2_with (first|((with_reducible refine gate_callee (f:=136) rfl ?_);refine goesL_ (some 18) rfl rfl Tryz.func136 zb10 rfl #[.string (rdOf ByteArray.empty t219 x12_1)] rfl zb1 ?_;(with_reducible refine (sign_Split.calls k1 (rdOf ByteArray.empty t219 x12_1) t223 _ A9.out).mono ?_);rintro e w11 ⟨v224,rfl,ho0,hb⟩;(try clear A9);refine ⟨_,rfl,?_⟩;have HO225:=Aside0.mk (Kd.R_lower (Kd.R_new' (Kd.R_new' ho0 (Kd.R_lt zb15)) (Kd.R_lt zb80)) (below_size zb0));replace HO_5:=Aside0.mk (Kd.R_elder' zb15 (Kd.R_base ho0) hb);replace HO_10:=Aside0.mk (Kd.R_elder' zb80 (Kd.R_base ho0) hb);replace HB:=Aside0.mk (below_step zb0 hb);try clear hb ho0;obtain ⟨Ao13,co13,eo13⟩:=Kd.R_slice HO225.out;subst eo13)|((with_reducible refine gate_builtin (b:=.append) (xs:=#[.tmp 16,.tmp 18]) rfl ?_);at_builtin;refine Kd.R_append_rows Kd.string (w0:=w) w.heap.size rfl (.tmp 16) (.tmp 18) 34 9 (.string ⟨#[]⟩) 16 rfl Tryz.underlying34 info9 rfl zb27 zb18 u5 x5_1 t223 _ _ _ (fun k_=>some k_ ≠ (.slice (some ad222) t219.length co5:Value).ownBlock∧some k_ ≠ (.slice Ao13 t223.length co13:Value).ownBlock) (fun _=>False) rfl rfl ?aO ?aR (fun _ _ h=>h) (fun _ h=>h.elim) ?aF ?aB ?aS ?aL ?_;(case aR=>repeat (first|exact (Kd.R_reads' HO225.out).2.2|(with_reducible refine Kd.C_alloc ?_ _)|(with_reducible refine Kd.C_drewN ?_ _)|(with_reducible refine Kd.C_drew ?_)));(case aB=>exact zb26);(case aF=>exact (fun k_ hk=>⟨Kd.fresh' (Kd.R_lt zb80) k_ hk,Kd.fresh' (Kd.R_lt (by (with_reducible repeat (first|apply Kd.R_alloc|apply Kd.R_drewN|apply Kd.R_drew));exact HO225.out)) k_ hk⟩));(case aO=>exact zb67);(case aS=>exact zb21);(case aL=>have:=LMc10.out;omega);intro v227 w12 ho hb hg hat;rw [← Ny226.out] at ho;replace HO_10:=Aside0.mk (Kd.R_after (ok:=(fun k_=>some k_ ≠ (.slice Ao13 t223.length co13:Value).ownBlock)) (by (with_reducible repeat (first|apply Kd.R_alloc|apply Kd.R_drewN|apply Kd.R_drew));exact Kd.R_mono HO_10.out (fun _ hk=>⟨hk.2,hk.1⟩)) hg hat);replace HO225:=Aside0.mk (Kd.R_after (ok:=(fun k_=>some k_ ≠ (.slice (some ad222) t219.length co5:Value).ownBlock)) (by (with_reducible repeat (first|apply Kd.R_alloc|apply Kd.R_drewN|apply Kd.R_drew));exact Kd.R_mono HO225.out (fun _ hk=>⟨hk.2,hk.1.2⟩)) hg hat);replace HB:=Aside0.mk (hb);have HO228:=Aside0.mk (ho);clear ho hb hg hat))
      go_roundg k1
      case measure=>have:=HK1.out;omega
      case rel=>exact ⟨(y226),(wrap64 (x12_1 + 1)),zb4,H',⟨zb66⟩,⟨by (with_reducible repeat (first|apply Kd.R_alloc|apply Kd.R_drewN|apply Kd.R_drew));exact Kd.R_mono HO228.out (fun _ hk=>hk.1)⟩,⟨by (with_reducible repeat (first|apply Kd.R_alloc|apply Kd.R_drewN|apply Kd.R_drew));exact Kd.R_mono HO_10.out (fun _ hk=>hk.2)⟩,⟨zb0⟩⟩
     ·rw [if_neg c10] at H
      exact absurd H zb33
    ·rw [if_neg c8] at H
     exact absurd H zb33
   ·rw [if_neg c7] at H
    exact absurd H zb33
def field_Has.f (k:Nat) (l0:List (S36)) (a1 a2:ByteArray):Option Bool:=(field_List.f k l0 a1).bind fun l=>anyO (fun p=>sign_Same.f p a2) l
set_option maxHeartbeats 4000000 in
set_option maxRecDepth 100000 in
theorem field_Has.calls (k:Nat) (A0:Option Addr) (c0:Nat) (l0:List (S36)) (a1:ByteArray) (a2:ByteArray) (r:Bool) (w:World) (hr0:Kd.C k36 w A0 l0.length l0) (hc0:l0.length ≤ c0) (h:field_Has.f k l0 a1 a2=some r) :
 Calls Tryz.prog 48 #[.slice A0 l0.length c0,.string a1,.string a2] w fun e w' => e = .returned (.bool r)∧Below w.heap.size w w' := by
 unfold field_Has.f at h
 obtain ⟨l,hl,h⟩:=Option.bind_eq_some_iff.1 h
 have HR:=Aside0.mk hr0
 have HC:=Aside0.mk hc0
 have HL:=Aside0.mk hl
 have HA:=Aside0.mk h
 have eg : ∀ args w,(callFunc 88 args).run Tryz.prog w = .ok (.enter 88 args) w:=enters_of Tryz.func88 zb10 rfl
 have EG:=Aside0.mk eg
 clear hr0 hc0 hl h eg
 have hcell:(w.alloc (.cells #[.string a2] 9)).cell? ⟨w.heap.size,0,none⟩=some (.string a2):=(blk_cell (blk_new w _) 0).trans rfl
 go_enter Tryz.func48,Tryz.ntmps48
 go_wp2_with (first
  | (go_at_call 87;refine (field_List.calls k A0 c0 l0 a1 l _ (Kd.C_alloc HR.out _) HC.out HL.out).mono ?_;rintro e w1 ⟨v,rfl,hR,hb⟩;obtain ⟨A1,c1,rfl,hc1,hC1⟩:=Kd.R_reads hR;have HC1:=Aside0.mk hC1;have HB1:=Aside0.mk hb;have hcell1:=pw_cell_below hb hcell;clear hR hC1 hb)
  | (go_at_call 86;refine (slices_ContainsFunc_string_string.callsOf (fun p=>sign_Same.f p a2) 88 #[.pointer (some ⟨w.heap.size,0,none⟩)] EG.out A1 c1 l r _ HC1.out hc1 (field_Has_1.callsOf w.heap.size a2 _ hcell1) HA.out).mono ?_;rintro e w2 ⟨rfl,hb2⟩))
 go_ret
 exact ⟨rfl,((Below.refl _ w).alloc (Nat.le_refl _) _).trans (sl_base zb33 (HB1.out.trans (sl_base HB1.out.size hb2)))⟩
def stringslite_HasPrefix.f (a0:ByteArray) (a1:ByteArray):Option (Bool):=if (a0.size:Int) ≥ (a1.size:Int) then (if 0 ≤ (a1.size:Int) then (if (a1.size:Int) ≤ (a0.size:Int) then (some ((a0.extract 0 ((a1.size:Int):Int).toNat).toList == a1.toList)) else (none)) else (none)) else (some false)
set_option maxHeartbeats 8000000 in
set_option maxRecDepth 100000 in
theorem stringslite_HasPrefix.calls (a0:ByteArray) (a1:ByteArray) (r:Bool) (w:World) (h:stringslite_HasPrefix.f a0 a1=some r) :
 Calls Tryz.prog 107 #[.string a0,.string a1] w fun e w' => e = .returned (.bool r)∧Drawn0 w w' := by
 unfold stringslite_HasPrefix.f at h
 have H:=h
 clear h
 by_cases c3:(a0.size:Int) ≥ (a1.size:Int);rotate_left
 ·rw [if_neg c3] at H
  have c3b0:decide ((a1.size:Int) ≤ (a0.size:Int))=false:=decide_eq_false c3
  have c3b1:decide (a1.size ≤ a0.size)=false:=decide_eq_false (fun h=>c3 (Int.ofNat_le.mpr h))
  clear c3
  obtain rfl:=Option.some.inj H
  go_enter Tryz.func107,Tryz.ntmps107
  go_wp2
  go_ret
  exact ⟨zb4,zb8⟩
 rw [if_pos c3] at H
 have c3b0:decide ((a1.size:Int) ≤ (a0.size:Int))=true:=decide_eq_true c3
 have c3b1:decide (a1.size ≤ a0.size)=true:=decide_eq_true (Int.ofNat_le.mp c3)
 clear c3
 by_cases c4:0 ≤ (a1.size:Int)
 ·rw [if_pos c4] at H
  have c4b0:=eq_true c4
  have c4b1:=decide_eq_true c4
  clear c4
  by_cases c5:(a1.size:Int) ≤ (a0.size:Int)
  ·rw [if_pos c5] at H
   have c5b0:=eq_true c5
   have c5b1:=decide_eq_true c5
   clear c5
   obtain rfl:=Option.some.inj H
   go_enter Tryz.func107,Tryz.ntmps107
   go_wp2
   go_ret
   exact ⟨zb4,zb8⟩
  ·rw [if_neg c5] at H
   exact absurd H zb33
 ·rw [if_neg c4] at H
  exact absurd H zb33
def strings_HasPrefix.f (a0:ByteArray) (a1:ByteArray):Option (Bool):=(stringslite_HasPrefix.f a0 a1).bind fun t705=>(some t705)
set_option maxHeartbeats 8000000 in
set_option maxRecDepth 100000 in
theorem strings_HasPrefix.calls (a0:ByteArray) (a1:ByteArray) (r:Bool) (w:World) (h:strings_HasPrefix.f a0 a1=some r) :
 Calls Tryz.prog 66 #[.string a0,.string a1] w fun e w' => e = .returned (.bool r)∧Drawn0 w w' := by
 unfold strings_HasPrefix.f at h
 have H:=h
 clear h
 replace H:=Option.bind_eq_some_iff.mp H
 obtain ⟨t705,A30,H⟩:=H
 try dsimp only at H
 have A3:=Aside0.mk A30
 clear A30
 obtain rfl:=Option.some.inj H
 go_enter Tryz.func66,Tryz.ntmps66
 go_wp2_with (first|((with_reducible refine gate_callee (f:=107) rfl ?_);refine goesL_ (some 7) rfl rfl Tryz.func107 zb10 rfl #[.string a0,.string a1] rfl zb1 ?_;(with_reducible refine (stringslite_HasPrefix.calls a0 a1 t705 _ A3.out).mono ?_);rintro e w' ⟨rfl,⟨nd,rfl⟩⟩;(try clear A3);refine ⟨_,rfl,?_⟩))
 go_ret
 exact ⟨zb4,zb8⟩
def scrub_Hop.f (k:Nat) (l0:List (S36)) (a1:ByteArray):Option (Bool):=(conf_Kept.f a1).bind fun t706=>(if t706=true then (some true) else ((sign_Fold.f a1).bind fun t707=>((strings_HasPrefix.f t707 (⟨#[120,45,116,111,108,108,98,97,114,45]⟩:ByteArray)).bind fun t708=>(if t708=true then (some true) else ((field_Has.f k l0 (⟨#[67,111,110,110,101,99,116,105,111,110]⟩:ByteArray) a1).bind fun t709=>(some t709))))))
set_option maxHeartbeats 8000000 in
set_option maxRecDepth 100000 in
theorem scrub_Hop.calls (k:Nat) (A0:Option Addr) (c0:Nat) (l0:List (S36)) (a1:ByteArray) (r:Bool) (w:World) (hr0:Kd.C k36 w A0 l0.length l0) (hc0:l0.length ≤ c0) (h:scrub_Hop.f k l0 a1=some r) :
 Calls Tryz.prog 35 #[.slice A0 l0.length c0,.string a1] w fun e w' => e = .returned (.bool r)∧Below w.heap.size w w' := by
 have HR0:=Aside0.mk hr0
 have HC0:=Aside0.mk hc0
 clear hr0 hc0
 have HB:=Aside0.mk (Below.refl w.heap.size w)
 unfold scrub_Hop.f at h
 have H:=h
 clear h
 replace H:=Option.bind_eq_some_iff.mp H
 obtain ⟨t706,A30,H⟩:=H
 try dsimp only at H
 have A3:=Aside0.mk A30
 clear A30
 by_cases c4:t706=true
 ·subst c4
  rw [if_pos rfl] at H
  obtain rfl:=Option.some.inj H
  go_enter Tryz.func35,Tryz.ntmps35
  go_wp2_with (first|((with_reducible refine gate_callee (f:=33) rfl ?_);refine goesL_ (some 6) rfl rfl Tryz.func33 zb10 rfl #[.string a1] rfl zb1 ?_;(with_reducible refine (conf_Kept.calls a1 true _ A3.out).mono ?_);rintro e w5 ⟨rfl,hb⟩;(try clear A3);refine ⟨_,rfl,?_⟩;replace HB:=Aside0.mk (below_step zb0 hb);(try clear hb)))
  go_ret
  exact ⟨zb2,zb0⟩
 replace c4:=Bool.eq_false_iff.mpr c4
 subst c4
 rw [if_neg (show ¬ (false=true) by decide)] at H
 replace H:=Option.bind_eq_some_iff.mp H
 obtain ⟨t707,A60,H⟩:=H
 try dsimp only at H
 have A6:=Aside0.mk A60
 clear A60
 replace H:=Option.bind_eq_some_iff.mp H
 obtain ⟨t708,A70,H⟩:=H
 try dsimp only at H
 have A7:=Aside0.mk A70
 clear A70
 by_cases c8:t708=true
 ·subst c8
  rw [if_pos rfl] at H
  obtain rfl:=Option.some.inj H
  go_enter Tryz.func35,Tryz.ntmps35
  go_wp2_with (first|((with_reducible refine gate_callee (f:=33) rfl ?_);refine goesL_ (some 6) rfl rfl Tryz.func33 zb10 rfl #[.string a1] rfl zb1 ?_;(with_reducible refine (conf_Kept.calls a1 false _ A3.out).mono ?_);rintro e w9 ⟨rfl,hb⟩;(try clear A3);refine ⟨_,rfl,?_⟩;replace HB:=Aside0.mk (below_step zb0 hb);(try clear hb))|(go_at_call 64;(with_reducible refine (sign_Fold.calls a1 t707 _ A6.out).mono ?_);rintro e w10 ⟨rfl,hb⟩;(try clear A6);replace HB:=Aside0.mk (below_step zb0 hb);(try clear hb))|(go_at_call 66;(with_reducible refine (strings_HasPrefix.calls t707 (⟨#[120,45,116,111,108,108,98,97,114,45]⟩:ByteArray) true _ A7.out).mono ?_);rintro e w' ⟨rfl,⟨nd,rfl⟩⟩;(try clear A7)))
  go_ret
  exact ⟨zb2,zb0⟩
 replace c8:=Bool.eq_false_iff.mpr c8
 subst c8
 rw [if_neg (show ¬ (false=true) by decide)] at H
 replace H:=Option.bind_eq_some_iff.mp H
 obtain ⟨t709,A110,H⟩:=H
 try dsimp only at H
 have A11:=Aside0.mk A110
 clear A110
 obtain rfl:=Option.some.inj H
 go_enter Tryz.func35,Tryz.ntmps35
 go_wp2_with (first|((with_reducible refine gate_callee (f:=33) rfl ?_);refine goesL_ (some 6) rfl rfl Tryz.func33 zb10 rfl #[.string a1] rfl zb1 ?_;(with_reducible refine (conf_Kept.calls a1 false _ A3.out).mono ?_);rintro e w12 ⟨rfl,hb⟩;(try clear A3);refine ⟨_,rfl,?_⟩;replace HB:=Aside0.mk (below_step zb0 hb);(try clear hb))|(go_at_call 64;(with_reducible refine (sign_Fold.calls a1 t707 _ A6.out).mono ?_);rintro e w13 ⟨rfl,hb⟩;(try clear A6);replace HB:=Aside0.mk (below_step zb0 hb);(try clear hb))|(go_at_call 66;(with_reducible refine (strings_HasPrefix.calls t707 (⟨#[120,45,116,111,108,108,98,97,114,45]⟩:ByteArray) false _ A7.out).mono ?_);rintro e w' ⟨rfl,⟨nd,rfl⟩⟩;(try clear A7))|(go_at_call 48;(with_reducible refine (field_Has.calls k _ _ l0 (⟨#[67,111,110,110,101,99,116,105,111,110]⟩:ByteArray) a1 t709 _ ?side1 ?side2 A11.out).mono ?_);(case side1=>repeat (first|exact (Kd.C_below HR0.out zb0)|(with_reducible refine Kd.C_alloc ?_ _)|(with_reducible refine Kd.C_drewN ?_ _)|(with_reducible refine Kd.C_drew ?_)));(case side2=>exact HC0.out);rintro e w14 ⟨rfl,hb⟩;(try clear A11);replace HB:=Aside0.mk (below_step zb0 hb);(try clear hb)))
 go_ret
 exact ⟨zb2,zb0⟩
end Go.Proofs.YtagffbblalldiaaGreatDoor.P
