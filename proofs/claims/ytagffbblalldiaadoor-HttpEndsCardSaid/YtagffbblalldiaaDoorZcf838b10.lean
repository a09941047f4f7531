/- Each function below answers as its Lean twin says; plain lemmas; a row where its theorem stands. No further condition. (Laid by this repo's pack.py out of its texts and of the print's words.) -/
import Derived.Test.YtagffbblalldiaaDoorZc54eb124
import Derived.Shelf.Strings.SlTrimAscii
import Derived.Shelf.Abstract
import Derived.WalkSpells
import Derived.Deep.RegionHeld3
import Derived.Lib.SlBytesConst
import Derived.Deep.QuietTactic
import Derived.BigQuiet
namespace Go.Proofs.YtagffbblalldiaaDoor.P
open Go.RowKit Go.Proofs.YtagffbblalldiaaDoorW.PrintWords Go.Proofs.YtagffbblalldiaaDoorW.PrintLast Go.Proofs.YtagffbblalldiaaDoorW.PrintMore
attribute [local go_sem] max2_int min2_int max_two min_two max_three min_three max_four min_four
set_option linter.unusedVariables false
set_option linter.unusedSimpArgs false
def foldC (c:Int):Int:=if 65 ≤ c∧c ≤ 90 then c + 32 else c
def sign_Fold.f (a0:ByteArray):Option ByteArray:=if a0.size ≤ 140737488355328 then some (strOfNums ((bytesOf a0).map foldC)) else none
theorem fold_step (l:List Int) (x:Int) (h0:0 ≤ x) (h:x < (l.length:Int)) :
 ((l.take x.toNat).map foldC ++ l.drop x.toNat).set x.toNat (foldC (rd l x))=(l.take (x + 1).toNat).map foldC ++ l.drop (x + 1).toNat:=by
 obtain ⟨n,rfl⟩:=Int.eq_ofNat_of_zero_le h0
 have hl:n < l.length:=by omega
 have e:((n:Int) + 1).toNat=n + 1:=by omega
 have hm:((l.take n).map foldC).length=n:=by rw [List.length_map,List.length_take];omega
 have hr:rd l n=l[n]:=by simp [rd,List.getD_eq_getElem?_getD,List.getElem?_eq_getElem hl]
 rw [e,Int.toNat_natCast,List.set_append_right _ _ (by omega),hm,Nat.sub_self,List.drop_eq_getElem_cons hl,List.set_cons_zero,List.take_succ_eq_append_getElem hl,List.map_append,hr]
 simp only [List.map_cons,List.map_nil,List.append_assoc,List.cons_append,List.nil_append]
theorem fold_same (l:List Int) (x:Int) (h0:0 ≤ x) (h:x < (l.length:Int)) (hs:foldC (rd l x)=rd l x) :
 (l.take x.toNat).map foldC ++ l.drop x.toNat=(l.take (x + 1).toNat).map foldC ++ l.drop (x + 1).toNat:=by
 obtain ⟨n,rfl⟩:=Int.eq_ofNat_of_zero_le h0
 have hl:n < l.length:=by omega
 have e:((n:Int) + 1).toNat=n + 1:=by omega
 have hr:rd l n=l[n]:=by simp [rd,List.getD_eq_getElem?_getD,List.getElem?_eq_getElem hl]
 rw [hr] at hs
 rw [e,Int.toNat_natCast,List.drop_eq_getElem_cons hl,List.take_succ_eq_append_getElem hl,List.map_append]
 simp only [List.map_cons,List.map_nil,List.append_assoc,List.cons_append,List.nil_append,hs]
theorem fold_at (l:List Int) (x:Int) (h0:0 ≤ x) (h:x < (l.length:Int)):rd ((l.take x.toNat).map foldC ++ l.drop x.toNat) x=rd l x:=by
 have hl:x.toNat < l.length:=by omega
 have hm:((l.take x.toNat).map foldC).length=x.toNat:=by simp;omega
 unfold rd
 rw [List.getD_eq_getElem?_getD,List.getD_eq_getElem?_getD,List.getElem?_append_right (by omega),hm]
 simp
theorem fold_len (l:List Int) (x:Int):((l.take x.toNat).map foldC ++ l.drop x.toNat).length=l.length:=by
 simp;omega
set_option maxHeartbeats 2000000 in
theorem sign_Fold.calls (a0:ByteArray) (r:ByteArray) (w:World) (h:sign_Fold.f a0=some r) :
 Calls Tryd.prog 45 #[.string a0] w fun e w' => e = .returned (.string r)∧Below w.heap.size w w' := by
 unfold sign_Fold.f at h
 by_cases h0:a0.size ≤ 140737488355328;rotate_left
 ·rw [if_neg h0] at h
  cases h
 rw [if_pos h0] at h
 obtain rfl:=Option.some.inj h
 clear h
 have kb:=fun W=>print_bytes (P:=Tryd.prog) 9 22 5 Tryd.underlying9 Tryd.underlying22 Tryd.underlying5 a0 W
 go_enter Tryd.func45,Tryd.ntmps45
 go_wp2
 go_loopw [4,5,10] (fun _ _ v wr => ∃ x:Int,v = .int .i64 x∧Aside0 (0 ≤ x∧x ≤ a0.size)∧Aside0 (MRow wr w.heap.size 5 (((bytesOf a0).take x.toNat).map foldC ++ (bytesOf a0).drop x.toNat))∧Aside0 (Below w.heap.size w wr)) (fun _ _ v _=>a0.size - (intOf v).toNat)
 case atStart=>exact ⟨0,rfl,⟨zb26,zb26⟩,⟨by simpa using MRow.bytes w 5 a0⟩,⟨bytes_below (Below.refl _ _) (Nat.le_refl _) _ _⟩⟩
 case round =>
  obtain ⟨x,rfl,HX,HM,HB⟩:=hrel
  have hlen:(((bytesOf a0).take x.toNat).map foldC ++ (bytesOf a0).drop x.toNat).length=a0.size:=(fold_len _ _).trans (bytesOf_length a0)
  by_cases hlt:x < (a0.size:Int);rotate_left
  ·have he:x=(a0.size:Int):=by have:=HX.out;omega
   have hR:=HM.out.reads (by rw [hlen];omega)
   rw [hlen] at hR
   have hcv:=string_of_reads (P:=Tryd.prog) (src:=22) (dst:=9) (c:=grownCap w a0.size 0 5) Tryd.underlying22 Tryd.underlying5 Tryd.underlying9 hR
   rw [show ((bytesOf a0).take x.toNat).map foldC ++ (bytesOf a0).drop x.toNat=(bytesOf a0).map foldC by rw [List.take_of_length_le (by rw [bytesOf_length];omega),List.drop_of_length_le (by rw [bytesOf_length];omega),List.append_nil]] at hcv
   have q2:decide (x < (a0.size:Int))=false:=decide_eq_false hlt
   have HLN:=Aside0.mk hlen
   clear hlt he hlen hR
   go_wp2
   go_ret
   exact ⟨rfl,HB.out⟩
  have hlb:x < ((bytesOf a0).length:Int):=by rw [bytesOf_length];exact hlt
  have hc:=HM.out.cell x HX.out.1 (by rw [hlen];exact hlt)
  have hf:=HM.out.free x HX.out.1 (by rw [hlen];exact hlt)
  rw [fold_at _ x HX.out.1 hlb,rd_bytesOf] at hc
  have hst:=fold_step (bytesOf a0) x HX.out.1 hlb
  have hsm:=fold_same (bytesOf a0) x HX.out.1 hlb
  rw [rd_bytesOf] at hst hsm
  have hr:=bt_range a0 x
  have HR:=Aside0.mk hr
  obtain ⟨c,hcv⟩ : ∃ c,c=bt a0 x:=⟨_,rfl⟩
  rw [← hcv] at hc hst hsm hr
  have p1:(0 ≤ x)=True:=eq_true HX.out.1
  have q1:(x < (a0.size:Int))=True:=eq_true hlt
  have q2:decide (x < (a0.size:Int))=true:=decide_eq_true hlt
  have HLT:=Aside0.mk hlt
  have HST:=Aside0.mk hst
  have HSM:=Aside0.mk hsm
  have HRR:=Aside0.mk hr
  have HLN:=Aside0.mk hlen
  have HCV:=Aside0.mk hcv
  clear hlt hlb hst hsm hr hlen hcv
  have hw:Aside0 (wrap64 (x + 1)=x + 1):=⟨by have:=HX.out;unfold wrap64;omega⟩
  by_cases c1:65 ≤ c
  ·have c1b:decide (c ≥ 65)=true:=decide_eq_true c1
   have c1c:=decide_eq_true c1
   by_cases c2:c ≤ 90
   ·have c2b:=decide_eq_true c2
    have HC1:=Aside0.mk (And.intro c1 c2)
    go_wp2
    refine ⟨⟨x + 1,by rw [hw.out],⟨by have:=HX.out;omega,by have:=HLT.out;omega⟩,⟨?_⟩,⟨HB.out.setCell (Nat.le_refl _) _⟩⟩,?_⟩
    ·rw [← HST.out]
     have hv:foldC c=c + 97 - 65:=by unfold foldC;rw [if_pos HC1.out];omega
     rw [hv]
     exact HM.out.set x _
    have:=HX.out;have:=HLT.out;rw [hw.out];simp [intOf];omega
   ·have c2b:=decide_eq_false c2
    go_wp2
    refine ⟨⟨x + 1,by rw [hw.out],⟨by have:=HX.out;omega,by have:=HLT.out;omega⟩,⟨?_⟩,HB⟩,?_⟩
    ·rw [← HSM.out (if_neg zb26)];exact HM.out
    ·have:=HX.out;have:=HLT.out;rw [hw.out];simp [intOf];omega
  ·have c1b:decide (c ≥ 65)=false:=decide_eq_false c1
   have c1c:=decide_eq_false c1
   go_wp2
   refine ⟨⟨x + 1,by rw [hw.out],⟨by have:=HX.out;omega,by have:=HLT.out;omega⟩,⟨?_⟩,HB⟩,?_⟩
   ·rw [← HSM.out (if_neg zb26)];exact HM.out
   ·have:=HX.out;have:=HLT.out;rw [hw.out];simp [intOf];omega
def sign_Same.f (a0:ByteArray) (a1:ByteArray):Option (Bool):=if (a0.size:Int)=(a1.size:Int) then ((sign_Fold.f a0).bind fun t145=>((sign_Fold.f a1).bind fun t146=>(some (t145.toList == t146.toList)))) else (some false)
set_option maxHeartbeats 8000000 in
set_option maxRecDepth 100000 in
theorem sign_Same.calls (a0:ByteArray) (a1:ByteArray) (r:Bool) (w:World) (h:sign_Same.f a0 a1=some r) :
 Calls Tryd.prog 48 #[.string a0,.string a1] w fun e w' => e = .returned (.bool r)∧Below w.heap.size w w' := by
 have HB:=Aside0.mk (Below.refl w.heap.size w)
 unfold sign_Same.f at h
 have H:=h
 clear h
 by_cases c3:(a0.size:Int)=(a1.size:Int);rotate_left
 ·rw [if_neg c3] at H
  have c3b0:=beq_eq_false_iff_ne.mpr c3
  have c3b1:=bne_iff_ne.mpr c3
  have c3b2:(a0.size == a1.size)=false:=by first|simpa using c3|(simp at c3 ⊢;omega)
  obtain rfl:=Option.some.inj H
  go_enter Tryd.func48,Tryd.ntmps48
  go_wp2
  go_ret
  exact ⟨zb3,zb0⟩
 rw [if_pos c3] at H
 have c3b0:=beq_iff_eq.mpr c3
 have c3b1:=bne_eq_false_iff_eq.mpr c3
 have c3b2:(a0.size == a1.size)=true:=by first|simpa using c3|(simp at c3 ⊢;omega)
 clear c3
 replace H:=Option.bind_eq_some_iff.mp H
 obtain ⟨t145,A40,H⟩:=H
 try dsimp only at H
 have A4:=Aside0.mk A40
 clear A40
 replace H:=Option.bind_eq_some_iff.mp H
 obtain ⟨t146,A50,H⟩:=H
 try dsimp only at H
 have A5:=Aside0.mk A50
 clear A50
 obtain rfl:=Option.some.inj H
 go_enter Tryd.func48,Tryd.ntmps48
 go_wp2_with (first|(go_at_call 45;(with_reducible refine (sign_Fold.calls a0 t145 _ A4.out).mono ?_);rintro e w6 ⟨rfl,hb⟩;(try clear A4);replace HB:=Aside0.mk (below_step zb0 hb);(try clear hb))|(go_at_call 45;(with_reducible refine (sign_Fold.calls a1 t146 _ A5.out).mono ?_);rintro e w7 ⟨rfl,hb⟩;(try clear A5);replace HB:=Aside0.mk (below_step zb0 hb);(try clear hb)))
 go_ret
 exact ⟨zb3,zb0⟩
def field_Get.l0:Nat → ByteArray → List ByteArray → List (S48) → Int → Int → Option (List ByteArray)
 | 0,_,_,_,_,_=>none
 | k + 1,x1,x5,x8,x9,x10=>if x10 < x9 then (if 0 ≤ x10 then (if x10 < (x8.length:Int) then ((sign_Same.f ((rd_T48 x8 x10).f0) x1).bind fun t149=>(if t149=true then (if x5.length < 8796093022208 then (field_Get.l0 k x1 (x5 ++ [(rd_T48 x8 x10).f1]) x8 x9 (wrap64 (x10 + 1))) else (none)) else (field_Get.l0 k x1 x5 x8 x9 (wrap64 (x10 + 1))))) else (none)) else (none)) else (some x5)
def field_Get.f (k:Nat) (l0:List (S48)) (a1:ByteArray):Option (List ByteArray):=field_Get.l0 k a1 ([]:List ByteArray) l0 (l0.length:Int) 0
set_option maxHeartbeats 8000000 in
set_option maxRecDepth 100000 in
theorem field_Get.calls (k:Nat) (A0:Option Addr) (c0:Nat) (l0:List (S48)) (a1:ByteArray) (r:List ByteArray) (w:World) (hr0:Kd.C k48 w A0 l0.length l0) (hc0:l0.length ≤ c0) (h:field_Get.f k l0 a1=some r) :
 Calls Tryd.prog 38 #[.slice A0 l0.length c0,.string a1] w fun e w' => ∃ v0_:Value,e = .returned (v0_)∧Kd.R Kd.string 9 w' w.heap.size (fun _=>True) v0_ r∧Below w.heap.size w w' := by
 have hu48:=Tryd.underlying48
 have HR0:=Aside0.mk hr0
 have HC0:=Aside0.mk hc0
 clear hr0 hc0
 have HB:=Aside0.mk (Below.refl w.heap.size w)
 unfold field_Get.f at h
 have H:=h
 clear h
 have H' := Aside0.mk H
 clear H
 go_enter Tryd.func38,Tryd.ntmps38
 go_wp2
 go_loopg [5,10] k (fun kq v5 v10 w' => ∃ (x5_1:List ByteArray) (x10_1:Int),v10 = .int .i64 x10_1∧Aside0 (field_Get.l0 kq a1 x5_1 l0 (l0.length:Int) x10_1=some r)∧Aside0 (kq ≤ k)∧Aside0 (Kd.R Kd.string 9 w' w.heap.size (fun _=>True) v5 x5_1)∧Aside0 (Below w.heap.size w w'))
 case atStart=>exact ⟨(([]:List ByteArray)),(0),zb6,H',⟨Nat.le_refl _⟩,⟨zb4⟩,⟨zb0⟩⟩
 case round =>
  clear H'
  try clear p2
  obtain ⟨x5_1,x10_1,rfl,HA,HK1,HO_5,HB⟩:=hrel
  cases gk with
  | zero=>exact absurd HA.out (by simp [field_Get.l0])
  | succ k1 =>
   have H:=HA.out
   clear HA
   simp only [field_Get.l0] at H
   by_cases c3:x10_1 < (l0.length:Int);rotate_left
   ·rw [if_neg c3] at H
    have c3b0:=decide_eq_false c3
    clear c3
    obtain rfl:=Option.some.inj H
    go_wp2
    go_ret
    exact ⟨_,zb3,zb27,zb0⟩
   rw [if_pos c3] at H
   have c3b0:=decide_eq_true c3
   clear c3
   by_cases c4:0 ≤ x10_1
   ·rw [if_pos c4] at H
    have c4b0:=decide_eq_true c4
    clear c4
    by_cases c5:x10_1 < (l0.length:Int)
    ·rw [if_pos c5] at H
     have c5b0:=decide_eq_true c5
     clear c5
     replace H:=Option.bind_eq_some_iff.mp H
     obtain ⟨t149,A60,H⟩:=H
     try dsimp only at H
     have A6:=Aside0.mk A60
     clear A60
     by_cases c7:t149=true;rotate_left
     ·replace c7:=Bool.eq_false_iff.mpr c7
      subst c7
      rw [if_neg (show ¬ (false=true) by decide)] at H
      have H' := Aside0.mk H
      clear H
      have p147:0 ≤ (x10_1:Int):=of_decide_eq_true zb7
      have q147:x10_1 < (l0.length:Int):=of_decide_eq_true zb7
      obtain ⟨ad147,e147,hx147_0,hx147_1⟩:=at_T48 HR0.out x10_1 p147 q147
      cases e147
      replace hx147_0:=(HB.out.cell (World.block_lt_of_cell? w _ hx147_0)).trans hx147_0
      replace hx147_1:=(HB.out.cell (World.block_lt_of_cell? w _ hx147_1)).trans hx147_1
      replace p147:=eq_true p147
      replace q147:=eq_true q147
      go_wp2_with (first|((with_reducible refine gate_dst (N:=7) rfl ?_);refine box_event rfl (N:=7) rfl (cs:=#[.string (⟨#[]⟩:ByteArray),.string (⟨#[]⟩:ByteArray)]) (t:=48) zS ?_;intro gb148 hg w14 hbox hb;replace HO_5:=Aside0.mk (Kd.R_below zb27 hb);have BK148:=Aside0.mk (hbox);have GW148:=zG hg zb0;have GE148:=GW148;replace HB:=Aside0.mk (below_step zb0 hb);clear hb hbox hg;obtain ⟨hcz15_0,hcz15_1,hfz15_0,hfz15_1⟩:=zq2 BK148.out)|((with_reducible refine gate_callee (f:=48) rfl ?_);refine goesL_ (some 17) rfl rfl Tryd.func48 zb8 rfl #[.string ((rd_T48 l0 x10_1).f0),.string a1] rfl zb1 ?_;(with_reducible refine (sign_Same.calls ((rd_T48 l0 x10_1).f0) a1 false _ A6.out).mono ?_);rintro e w16 ⟨rfl,hb⟩;(try clear A6);refine ⟨_,rfl,?_⟩;replace HO_5:=Aside0.mk (Kd.R_below zb31 hb);replace BK148:=Aside0.mk (blk_below (g:=gb148) (o:=.cells #[.string ((rd_T48 l0 x10_1).f0),.string ((rd_T48 l0 x10_1).f1)] 48 (0,0)) zb20 hb);replace HB:=Aside0.mk (below_step zb23 hb);(try clear hb)))
      go_roundg k1
      case measure=>have:=HK1.out;omega
      case rel=>exact ⟨(x5_1),(wrap64 (x10_1 + 1)),zb6,H',⟨zb50⟩,⟨zb27⟩,⟨zb23⟩⟩
     subst c7
     rw [if_pos rfl] at H
     by_cases c8:x5_1.length < 8796093022208
     ·rw [if_pos c8] at H
      have LMc8:=Aside0.mk c8
      clear c8
      obtain ⟨y150,hy150⟩ : ∃ y_:List ByteArray,y_=(x5_1 ++ [(rd_T48 l0 x10_1).f1]):=⟨_,rfl⟩
      replace H:(field_Get.l0 k1 a1 y150 l0 (l0.length:Int) (wrap64 (x10_1 + 1)))=some r:=by first|(rw [hy150];with_reducible exact H)|(have H2_:=(Option.bind_some _ _).symm.trans H;rw [hy150];with_reducible exact H2_)|(have H2_:=(Option.bind_some _ _).symm.trans H;with_reducible exact H2_)|with_reducible exact H|(rw [hy150];exact H)|exact H
      have Ny150:=Aside0.mk hy150
      clear hy150
      have H' := Aside0.mk H
      clear H
      have p147:0 ≤ (x10_1:Int):=of_decide_eq_true zb7
      have q147:x10_1 < (l0.length:Int):=of_decide_eq_true zb7
      obtain ⟨ad147,e147,hx147_0,hx147_1⟩:=at_T48 HR0.out x10_1 p147 q147
      cases e147
      replace hx147_0:=(HB.out.cell (World.block_lt_of_cell? w _ hx147_0)).trans hx147_0
      replace hx147_1:=(HB.out.cell (World.block_lt_of_cell? w _ hx147_1)).trans hx147_1
      replace p147:=eq_true p147
      replace q147:=eq_true q147
      go_wp2_with (first|((with_reducible refine gate_dst (N:=7) rfl ?_);refine box_event rfl (N:=7) rfl (cs:=#[.string (⟨#[]⟩:ByteArray),.string (⟨#[]⟩:ByteArray)]) (t:=48) zS ?_;intro gb148 hg w9 hbox hb;replace HO_5:=Aside0.mk (Kd.R_below zb27 hb);have BK148:=Aside0.mk (hbox);have GW148:=zG hg zb0;have GE148:=GW148;replace HB:=Aside0.mk (below_step zb0 hb);clear hb hbox hg;obtain ⟨hcz10_0,hcz10_1,hfz10_0,hfz10_1⟩:=zq2 BK148.out)|((with_reducible refine gate_callee (f:=48) rfl ?_);refine goesL_ (some 17) rfl rfl Tryd.func48 zb8 rfl #[.string ((rd_T48 l0 x10_1).f0),.string a1] rfl zb1 ?_;(with_reducible refine (sign_Same.calls ((rd_T48 l0 x10_1).f0) a1 true _ A6.out).mono ?_);rintro e w11 ⟨rfl,hb⟩;(try clear A6);refine ⟨_,rfl,?_⟩;replace HO_5:=Aside0.mk (Kd.R_below zb31 hb);replace BK148:=Aside0.mk (blk_below (g:=gb148) (o:=.cells #[.string ((rd_T48 l0 x10_1).f0),.string ((rd_T48 l0 x10_1).f1)] 48 (0,0)) zb20 hb);replace HB:=Aside0.mk (below_step zb23 hb);(try clear hb);obtain ⟨hcz12_0,hcz12_1,hfz12_0,hfz12_1⟩:=zq2 BK148.out)|((with_reducible refine gate_builtin (b:=.append) (xs:=#[.tmp 18,.tmp 21]) rfl ?_);at_builtin;refine Kd.R_append Kd.string (w0:=w) w.heap.size rfl (.tmp 18) (.tmp 21) 74 9 (.string ⟨#[]⟩) 16 rfl Tryd.underlying74 info9 rfl zb51 zb26 u5 x5_1 ((rd_T48 l0 x10_1).f1) [.string ((rd_T48 l0 x10_1).f1)] (fun _=>True) (fun _=>False) rfl rfl ?aP (fun _ hk=>hk.elim) ?aF ?aO ?aB ?aS ?aL ?_;(case aP=>exact rfl);(case aB=>exact zb23);(case aF=>exact (fun _ _=>trivial));(case aO=>exact zb27);(case aS=>exact (below_size zb23));(case aL=>have:=LMc8.out;omega);intro v151 w13 ho hb hg hat;rw [← Ny150.out] at ho;replace BK148:=Aside0.mk (blk_grown (g:=gb148) (o:=.cells #[.string ((rd_T48 l0 x10_1).f0),.string ((rd_T48 l0 x10_1).f1)] 48 (0,0)) (by (with_reducible repeat (first|refine blk_drewN ?_ _|refine blk_drew ?_|refine blk_alloc ?_ _));exact BK148.out) hg (Kd.R_ne HO_5.out BK148.out zb51));replace HB:=Aside0.mk (hb);have HO152:=Aside0.mk (ho);clear ho hb hg hat))
      go_roundg k1
      case measure=>have:=HK1.out;omega
      case rel=>exact ⟨(y150),(wrap64 (x10_1 + 1)),zb6,H',⟨zb50⟩,⟨by (with_reducible repeat (first|apply Kd.R_alloc|apply Kd.R_drewN|apply Kd.R_drew));exact HO152.out⟩,⟨zb23⟩⟩
     ·rw [if_neg c8] at H
      exact absurd H zb30
    ·rw [if_neg c5] at H
     exact absurd H zb30
   ·rw [if_neg c4] at H
    exact absurd H zb30
/-- At a cutset of ASCII bytes. -/
def strings_Trim.f (a0 a1:ByteArray):Option ByteArray :=
 if a0.size ≤ 9223372036854775807∧a1.size < 4294967281∧a1.data.toList.all (fun b=>decide (b.toNat < 128))=true then some ⟨(Lib.trimS a0.data.toList a1.data.toList).toArray⟩ else none
theorem strings_Trim.calls (a0 a1:ByteArray) (r:ByteArray) (w:World) (h:strings_Trim.f a0 a1=some r) :
 Calls Tryd.prog 41 #[.string a0,.string a1] w fun e w' => e = .returned (.string r)∧Below w.heap.size w w' := by
 unfold strings_Trim.f at h
 split at h
 ·rename_i hc
  obtain rfl:=Option.some.inj h
  exact Go.Proofs.Any.strings_Trim_laid Tryd.lays160 zb8 a0 a1 w hc.1 hc.2.1 (Go.Proofs.ascii_of_all hc.2.2)
 cases h
def sign_Trim.f (a0:ByteArray):Option (ByteArray):=(strings_Trim.f a0 (⟨#[32,9]⟩:ByteArray)).bind fun t133=>(some t133)
set_option maxHeartbeats 8000000 in
set_option maxRecDepth 100000 in
theorem sign_Trim.calls (a0:ByteArray) (r:ByteArray) (w:World) (h:sign_Trim.f a0=some r) :
 Calls Tryd.prog 29 #[.string a0] w fun e w' => e = .returned (.string r)∧Below w.heap.size w w' := by
 have HB:=Aside0.mk (Below.refl w.heap.size w)
 unfold sign_Trim.f at h
 have H:=h
 clear h
 replace H:=Option.bind_eq_some_iff.mp H
 obtain ⟨t133,A20,H⟩:=H
 try dsimp only at H
 have A2:=Aside0.mk A20
 clear A20
 obtain rfl:=Option.some.inj H
 go_enter Tryd.func29,Tryd.ntmps29
 go_wp2_with (first|((with_reducible refine gate_callee (f:=41) rfl ?_);refine goesL_ (some 4) rfl rfl Tryd.func41 zb8 rfl #[.string a0,.string (⟨#[32,9]⟩:ByteArray)] rfl zb1 ?_;(with_reducible refine (strings_Trim.calls a0 (⟨#[32,9]⟩:ByteArray) t133 _ A2.out).mono ?_);rintro e w3 ⟨rfl,hb⟩;(try clear A2);refine ⟨_,rfl,?_⟩;replace HB:=Aside0.mk (below_step zb0 hb);(try clear hb)))
 go_ret
 exact ⟨zb3,zb0⟩
/-- At a text of one byte alone. -/
def strings_Count.f (a0 a1:ByteArray):Option Int:=match a1.data.toList with
 | [c]=>some (Lib.countByte a0.data.toList c)
 | _=>none
theorem strings_Count.calls (a0 a1:ByteArray) (r:Int) (w:World) (h:strings_Count.f a0 a1=some r) :
 Calls Tryd.prog 94 #[.string a0,.string a1] w fun e w' => e = .returned (.int .i64 r)∧Drawn0 w w' := by
 obtain ⟨⟨l⟩⟩:=a1
 unfold strings_Count.f at h
 split at h
 ·rename_i c hc
  obtain rfl:l=[c]:=hc
  obtain rfl:=Option.some.inj h
  refine (Tryd.strings_Count_one a0 c w).mono ?_
  rintro e w' ⟨rfl,rfl⟩
  exact ⟨rfl,Drawn0.refl _⟩
 cases h
/-- At a text of one byte alone. -/
def strings_Index.f (a0 a1:ByteArray):Option Int:=match a1.data.toList with
 | [c]=>some (Lib.indexByte a0.data.toList c)
 | _=>none
theorem strings_Index.calls (a0 a1:ByteArray) (r:Int) (w:World) (h:strings_Index.f a0 a1=some r) :
 Calls Tryd.prog 95 #[.string a0,.string a1] w fun e w' => e = .returned (.int .i64 r)∧Drawn0 w w' := by
 obtain ⟨⟨l⟩⟩:=a1
 unfold strings_Index.f at h
 split at h
 ·rename_i c hc
  obtain rfl:l=[c]:=hc
  obtain rfl:=Option.some.inj h
  refine (Tryd.strings_Index_one a0 c w).mono ?_
  rintro e w' ⟨rfl,rfl⟩
  exact ⟨rfl,Drawn0.refl _⟩
 cases h
/-- Not followed: no law comes here. -/
def strings_explode.f (a0:ByteArray) (a1:Int):Option (List ByteArray):=none
theorem strings_explode.calls (a0:ByteArray) (a1:Int) (r:List ByteArray) (w:World) (h:strings_explode.f a0 a1=some r) :
 Calls Tryd.prog 93 #[.string a0,.int .i64 a1] w fun e w' => ∃ v0_:Value,e = .returned (v0_)∧Kd.R Kd.string 9 w' w.heap.size (fun _=>True) v0_ r∧Below w.heap.size w w' := by cases h
mutual
def strings_genSplit.j0:Nat → ByteArray → ByteArray → Int → Int → Option (List ByteArray)
 | 0,_,_,_,_=>none
 | k + 1,x0,x1,x2,x3=>if 0 ≤ (mn x3 (wrap64 ((x0.size:Int) + 1))) then (if (mn x3 (wrap64 ((x0.size:Int) + 1)):Int).toNat ≤ 17592186044416 then (strings_genSplit.l0 k x0 x1 x2 (wrap64 ((mn x3 (wrap64 ((x0.size:Int) + 1))) - 1)) (List.replicate (mn x3 (wrap64 ((x0.size:Int) + 1)):Int).toNat (⟨#[]⟩:ByteArray)) 0) else (none)) else (none)
def strings_genSplit.l0:Nat → ByteArray → ByteArray → Int → Int → List ByteArray → Int → Option (List ByteArray)
 | 0,_,_,_,_,_,_=>none
 | k + 1,x0,x1,x2,x3,x9,x10=>if x10 < x3 then ((strings_Index.f x0 x1).bind fun t163=>(if t163 < 0 then (if 0 ≤ x10 then (if x10 < (x9.length:Int) then (if 0 ≤ (wrap64 (x10 + 1)) then (if (wrap64 (x10 + 1)) ≤ (x9.length:Int) then (some ((x9.set (x10:Int).toNat x0).take ((wrap64 (x10 + 1)):Int).toNat)) else (none)) else (none)) else (none)) else (none)) else (if 0 ≤ (wrap64 (t163 + x2)) then (if (wrap64 (t163 + x2)) ≤ (x0.size:Int) then (if 0 ≤ x10 then (if x10 < (x9.length:Int) then (if 0 ≤ (wrap64 (t163 + (x1.size:Int))) then (if (wrap64 (t163 + (x1.size:Int))) ≤ (x0.size:Int) then (strings_genSplit.l0 k (x0.extract ((wrap64 (t163 + (x1.size:Int))):Int).toNat x0.size) x1 x2 x3 (x9.set (x10:Int).toNat (x0.extract 0 ((wrap64 (t163 + x2)):Int).toNat)) (wrap64 (x10 + 1))) else (none)) else (none)) else (none)) else (none)) else (none)) else (none)))) else (if 0 ≤ x10 then (if x10 < (x9.length:Int) then (if 0 ≤ (wrap64 (x10 + 1)) then (if (wrap64 (x10 + 1)) ≤ (x9.length:Int) then (some ((x9.set (x10:Int).toNat x0).take ((wrap64 (x10 + 1)):Int).toNat)) else (none)) else (none)) else (none)) else (none))
end
def strings_genSplit.f (k:Nat) (a0:ByteArray) (a1:ByteArray) (a2:Int) (a3:Int):Option (List ByteArray):=if a3=0 then (some ([]:List ByteArray)) else (if a1.toList=([]:List UInt8) then ((strings_explode.f a0 a3).bind fun t156=>(some t156)) else (if a3 < 0 then ((strings_Count.f a0 a1).bind fun t159=>(strings_genSplit.j0 k a0 a1 a2 (wrap64 (t159 + 1)))) else (strings_genSplit.j0 k a0 a1 a2 a3)))
set_option maxHeartbeats 8000000 in
set_option maxRecDepth 100000 in
theorem strings_genSplit.calls (k:Nat) (a0:ByteArray) (a1:ByteArray) (a2:Int) (a3:Int) (r:List ByteArray) (w:World) (h:strings_genSplit.f k a0 a1 a2 a3=some r) :
 Calls Tryd.prog 89 #[.string a0,.string a1,.int .i64 a2,.int .i64 a3] w fun e w' => ∃ v0_:Value,e = .returned (v0_)∧Kd.R Kd.string 9 w' w.heap.size (fun _=>True) v0_ r∧Below w.heap.size w w' := by
 have HB:=Aside0.mk (Below.refl w.heap.size w)
 unfold strings_genSplit.f at h
 have H:=h
 clear h
 by_cases c5:a3=0
 ·rw [if_pos c5] at H
  have c5b0:=beq_iff_eq.mpr c5
  have c5b1:=bne_eq_false_iff_eq.mpr c5
  clear c5
  obtain rfl:=Option.some.inj H
  go_enter Tryd.func89,Tryd.ntmps89
  go_wp2
  go_ret
  exact ⟨_,zb3,zb4,zb0⟩
 rw [if_neg c5] at H
 have c5b0:=beq_eq_false_iff_ne.mpr c5
 have c5b1:=bne_iff_ne.mpr c5
 by_cases c6:a1.toList=([]:List UInt8)
 ·rw [if_pos c6] at H
  have c6b0:=beq_iff_eq.mpr c6
  have c6b1:=bne_eq_false_iff_eq.mpr c6
  clear c6
  replace H:=Option.bind_eq_some_iff.mp H
  obtain ⟨t58,A70,H⟩:=H
  try dsimp only at H
  have A7:=Aside0.mk A70
  clear A70
  obtain rfl:=Option.some.inj H
  go_enter Tryd.func89,Tryd.ntmps89
  go_wp2_with (first|((with_reducible refine gate_callee (f:=93) rfl ?_);refine goesL_ (some 18) rfl rfl Tryd.func93 zb8 rfl #[.string a0,.int .i64 a3] rfl zb1 ?_;(with_reducible refine (strings_explode.calls a0 a3 t58 _ A7.out).mono ?_);rintro e w8 ⟨v65,rfl,ho0,hb⟩;(try clear A7);refine ⟨_,rfl,?_⟩;have HO62:=Aside0.mk (Kd.R_lower ho0 (below_size zb0));replace HB:=Aside0.mk (below_step zb0 hb);try clear hb ho0))
  go_ret
  exact ⟨_,zb3,by (with_reducible repeat (first|apply Kd.R_alloc|apply Kd.R_drewN|apply Kd.R_drew));exact HO62.out,zb0⟩
 rw [if_neg c6] at H
 have c6b0:=beq_eq_false_iff_ne.mpr c6
 have c6b1:=bne_iff_ne.mpr c6
 have HC9:=Aside0.mk H
 clear H
 go_enter Tryd.func89,Tryd.ntmps89
 go_upto_if 20 with (fail)
 go_cut [3] (fun v3 wc => ∃ (kq:Nat) (x3_8:Int),v3 = .int .i64 x3_8∧Aside0 (strings_genSplit.j0 kq a0 a1 a2 x3_8=some r)∧Aside0 (kq ≤ k)∧Aside0 (Below w.heap.size w wc))
 case first =>
  have H:=HC9.out
  clear HC9
  by_cases c10:a3 < 0;rotate_left
  ·rw [if_neg c10] at H
   have c10b0:=decide_eq_false c10
   clear c10
   (first|rw [c10b0]|(simp only [i64_w,i32_w];rw [c10b0])|skip)
   have H' := Aside0.mk H
   clear H
   go_wp2
   go_meet
   case rel=>exact ⟨_,(a3),zb6,H',⟨zb36⟩,⟨zb0⟩⟩
  rw [if_pos c10] at H
  have c10b0:=decide_eq_true c10
  clear c10
  (first|rw [c10b0]|(simp only [i64_w,i32_w];rw [c10b0])|skip)
  replace H:=Option.bind_eq_some_iff.mp H
  obtain ⟨t57,A60,H⟩:=H
  try dsimp only at H
  have A11:=Aside0.mk A60
  clear A60
  have H' := Aside0.mk H
  clear H
  go_wp2_with (first|((with_reducible refine gate_callee (f:=94) rfl ?_);refine goesL_ (some 23) rfl rfl Tryd.func94 zb8 rfl #[.string a0,.string a1] rfl zb1 ?_;(with_reducible refine (strings_Count.calls a0 a1 t57 _ A11.out).mono ?_);rintro e w' ⟨rfl,⟨nd,rfl⟩⟩;(try clear A11);refine ⟨_,rfl,?_⟩))
  go_meet
  case rel=>exact ⟨_,(wrap64 (t57 + 1)),zb6,H',⟨zb36⟩,⟨zb0⟩⟩
 case rest =>
  clear HC9
  try clear c1
  try clear p2
  try clear c5
  try clear c5b0
  try clear c5b1
  try clear c6
  try clear c6b0
  try clear c6b1
  try clear p6
  try clear c8
  try clear c9
  try clear c10
  try clear c10b0
  obtain ⟨kq,x3_8,rfl,HA,HJ8,HB⟩:=hcut
  cases kq with
  | zero=>exact absurd HA.out (by simp [strings_genSplit.j0])
  | succ kj8 =>
   have H:=HA.out
   clear HA
   simp only [strings_genSplit.j0] at H
   obtain ⟨ji12,hji12⟩ : ∃ j_:Int,(mn x3_8 (wrap64 ((a0.size:Int) + 1)))=j_:=⟨_,rfl⟩
   replace H:(if 0 ≤ (ji12) then (if (ji12:Int).toNat ≤ 17592186044416 then (strings_genSplit.l0 kj8 a0 a1 a2 (wrap64 ((ji12) - 1)) (List.replicate (ji12:Int).toNat (⟨#[]⟩:ByteArray)) 0) else (none)) else (none))=some r:=by first|(rw [hji12] at H;exact H)|(simp only [hji12] at H ⊢;exact H)
   have hji12_:(if (wrap64 ((a0.size:Int) + 1)) < x3_8 then (wrap64 ((a0.size:Int) + 1)) else x3_8)=ji12:=hji12
   by_cases c13:0 ≤ (ji12);rotate_left
   ·rw [if_neg c13] at H
    exact absurd H zb30
   rw [if_pos c13] at H
   have c13b0:=eq_true c13
   have c13b1:=decide_eq_true c13
   clear c13
   by_cases c14:(ji12:Int).toNat ≤ 17592186044416
   ·rw [if_pos c14] at H
    have c14b0:=eq_true c14
    have c14b1:=decide_eq_true c14
    clear c14
    obtain ⟨y54,hy54⟩ : ∃ y_:List ByteArray,y_=(List.replicate (ji12:Int).toNat (⟨#[]⟩:ByteArray)):=⟨_,rfl⟩
    replace H:(strings_genSplit.l0 kj8 a0 a1 a2 (wrap64 ((ji12) - 1)) y54 0)=some r:=by first|(rw [hy54];with_reducible exact H)|(have H2_:=(Option.bind_some _ _).symm.trans H;rw [hy54];with_reducible exact H2_)|(have H2_:=(Option.bind_some _ _).symm.trans H;with_reducible exact H2_)|with_reducible exact H|(rw [hy54];exact H)|exact H
    have Ny54:=Aside0.mk hy54
    clear hy54
    have H' := Aside0.mk H
    clear H
    go_wp2_with (first|((with_reducible refine gate_dst (N:=31) rfl ?_);refine Kd.R_make Kd.string _ 9 rfl (N:=31) rfl 74 _ _ rfl ji12 rfl rfl Tryd.underlying74 (.string ⟨#[]⟩) 16 info9 rfl zb51 zb26 (⟨#[]⟩:ByteArray) (ok:=fun _=>True) (okp:=fun _=>True) rfl (fun _ hk=>hk) trivial (of_decide_eq_true zb7) (Nat.le_trans (Nat.mul_le_mul_right _ (of_decide_eq_true zb7:ji12.toNat ≤ 17592186044416)) zb26) (Below.refl _ _) (Nat.le_refl _) ?_;intro v59 w15 ho16 hb hg_ hnew_;clear hg_ hnew_;(first|rw [← Ny54.out] at ho16|(simp only [Int.reduceToNat] at ho16;rw [← Ny54.out] at ho16));have HO63:=Aside0.mk (Kd.R_lower ho16 (below_size zb0));replace HB:=Aside0.mk (below_step zb0 hb);clear hb ho16))
    go_loopg [0,10] kj8 (fun kq v0 v10 w' => ∃ (x0_2:ByteArray) (x9_2:List ByteArray) (x10_2:Int),v0 = .string x0_2∧v10 = .int .i64 x10_2∧Aside0 (strings_genSplit.l0 kq x0_2 a1 a2 (wrap64 ((ji12) - 1)) x9_2 x10_2=some r)∧Aside0 (kq ≤ kj8)∧Aside0 (Kd.R Kd.string 9 w' w.heap.size (fun _=>True) v59 x9_2)∧Aside0 (Below w.heap.size w w'))
    case atStart=>exact ⟨(a0),(y54),(0),zb6,zb6,H',⟨Nat.le_refl _⟩,⟨by (with_reducible repeat (first|apply Kd.R_alloc|apply Kd.R_drewN|apply Kd.R_drew));exact HO63.out⟩,⟨zb0⟩⟩
    case round =>
     clear H'
     try clear c1
     try clear p2
     try clear c5
     try clear c5b0
     try clear c5b1
     try clear c6
     try clear c6b0
     try clear c6b1
     try clear p6
     try clear c8
     try clear c9
     try clear c10
     try clear c10b0
     try clear c13
     try clear c13b0
     try clear c13b1
     try clear c14
     try clear c14b0
     try clear c14b1
     try clear p2
     try clear p6
     obtain ⟨x0_2,x9_2,x10_2,rfl,rfl,HA,HK2,HO_9,HB⟩:=hrel
     cases gk with
     | zero=>exact absurd HA.out (by simp [strings_genSplit.l0])
     | succ k2 =>
      have H:=HA.out
      clear HA
      simp only [strings_genSplit.l0] at H
      by_cases c17:x10_2 < (wrap64 ((ji12) - 1));rotate_left
      ·rw [if_neg c17] at H
       have c17b0:=decide_eq_false c17
       clear c17
       by_cases c40:0 ≤ x10_2;rotate_left
       ·rw [if_neg c40] at H
        exact absurd H zb30
       rw [if_pos c40] at H
       have c40b0:=decide_eq_true c40
       clear c40
       by_cases c41:x10_2 < (x9_2.length:Int);rotate_left
       ·rw [if_neg c41] at H
        exact absurd H zb30
       rw [if_pos c41] at H
       have c41b0:=decide_eq_true c41
       clear c41
       obtain ⟨y50,hy50⟩ : ∃ y_:List ByteArray,y_=(x9_2.set (x10_2:Int).toNat x0_2):=⟨_,rfl⟩
       replace H:(if 0 ≤ (wrap64 (x10_2 + 1)) then (if (wrap64 (x10_2 + 1)) ≤ (x9_2.length:Int) then (some (y50.take ((wrap64 (x10_2 + 1)):Int).toNat)) else (none)) else (none))=some r:=by first|(rw [hy50];with_reducible exact H)|(have H2_:=(Option.bind_some _ _).symm.trans H;rw [hy50];with_reducible exact H2_)|(have H2_:=(Option.bind_some _ _).symm.trans H;with_reducible exact H2_)|with_reducible exact H|(rw [hy50];exact H)|exact H
       have Ny50:=Aside0.mk hy50
       clear hy50
       obtain ⟨ji43,hji43⟩ : ∃ j_:Int,(wrap64 (x10_2 + 1))=j_:=⟨_,rfl⟩
       replace H:(if 0 ≤ (ji43) then (if (ji43) ≤ (x9_2.length:Int) then (some (y50.take ((ji43):Int).toNat)) else (none)) else (none))=some r:=by first|(rw [hji43] at H;exact H)|(simp only [hji43] at H ⊢;exact H)
       have hji43w:(IntKind.i64.wrap (x10_2 + 1))=ji43:=(i64_w _).trans hji43
       by_cases c44:0 ≤ (ji43);rotate_left
       ·rw [if_neg c44] at H
        exact absurd H zb30
       rw [if_pos c44] at H
       have c44b0:=eq_true c44
       have c44b1:=decide_eq_true c44
       clear c44
       by_cases c45:(ji43) ≤ (x9_2.length:Int)
       ·rw [if_pos c45] at H
        have c45b0:=eq_true c45
        have c45b1:=decide_eq_true c45
        clear c45
        obtain ⟨y53,hy53⟩ : ∃ y_:List ByteArray,y_=(y50.take ((ji43):Int).toNat):=⟨_,rfl⟩
        replace H:(some y53)=some r:=by first|(rw [hy53];with_reducible exact H)|(have H2_:=(Option.bind_some _ _).symm.trans H;rw [hy53];with_reducible exact H2_)|(have H2_:=(Option.bind_some _ _).symm.trans H;with_reducible exact H2_)|with_reducible exact H|(rw [hy53];exact H)|exact H
        have Ny53:=Aside0.mk hy53
        clear hy53
        obtain rfl:=Option.some.inj H
        have p42:0 ≤ (x10_2:Int):=of_decide_eq_true zb7
        have q42:(x10_2:Int) < ((x9_2.length:Int):Int):=of_decide_eq_true zb7
        obtain ⟨go42,co42,eo42,gb42,gl42,cl42,HG42⟩:=Kd.R_form HO_9.out zb26
        (first|cases eo42|(injection eo42 with ea_ en_ ec_;(first|subst ea_|(injection ea_ with ea_;subst ea_));subst ec_;clear en_))
        have GB42:=Aside0.mk gb42
        have GG42:=Aside0.mk HG42
        clear gb42 gl42 HG42
        obtain ⟨hx42_0,hf42_0⟩:=Kd.R_celln (⟨#[]⟩:ByteArray) HO_9.out (x10_2:Int) p42 q42
        replace p42:=eq_true p42
        replace q42:=eq_true q42
        have HP46:=Kd.R_putg HO_9.out (x10_2:Int) x0_2
        have q48:((ji43):Int) ≤ ((x9_2.length:Int):Int):=of_decide_eq_true zb7
        obtain ⟨i56,hi56,_,hsz48,_⟩:=info_parts info9
        have hcut48:=cut_to (P:=Tryd.prog) 74 9 .i64 Tryd.underlying74 hi56 (some ⟨go42,0,none⟩) x9_2.length co42 (ji43) (of_decide_eq_true zb7) q48 (Kd.R_reads' HO_9.out).2.1
        clear hi56 hsz48
        replace q48:=eq_true q48
        go_wp2_with (first|((with_reducible refine gate_store (t:=9) (p:=61) rfl ?_);refine store_event (t:=9) (p:=61) (v:=?vo_w47) (w1:=(wr.setCell ⟨go42,(x10_2:Int).toNat,none⟩ (.string x0_2))) ?hg ?ho ?hn ?hr ?_;(case ho=>rfl);(case hg=>rfl);(case hn=>rfl);(case hr=>first|(go_simp;done)|(go_simp;rfl));intro w47 hw;have hg:wr.grownBy w47 (some go42):=(by rw [hw];exact HP46.2);have hp_:Kd.R Kd.string 9 w47 w.heap.size (fun _=>True) (.slice (some ⟨go42,0,none⟩) x9_2.length co42) y50:=(by rw [hw,Ny50.out];exact HP46.1);clear HP46;replace HO_9:=Aside0.mk (hp_);replace HB:=Aside0.mk ((by rw [hw];exact below_set (HB.out) GB42.out:Below w.heap.size w w47));clear hg hw hp_;have q48:((ji43):Int) ≤ ((x9_2.length:Int):Int):=of_decide_eq_true zb7;obtain ⟨i56,hi56,_,hsz48,_⟩:=info_parts info9;have hcut48:=cut_to (P:=Tryd.prog) 74 9 .i64 Tryd.underlying74 hi56 (some ⟨go42,0,none⟩) x9_2.length co42 (ji43) (of_decide_eq_true zb7) q48 (Kd.R_reads' HO_9.out).2.1;have hr48:=Kd.R_take (m:=((ji43):Int).toNat) HO_9.out zb26;have hy48:y53.length=((ji43):Int).toNat:=(by rw [Ny53.out,List.length_take];omega);rw [← Ny53.out] at hr48;rw [← hy48] at hr48 hcut48;clear hy48 hi56 hsz48 HO_9;have HO67:=Aside0.mk hr48;clear hr48;replace q48:=eq_true q48))
        go_ret
        exact ⟨_,by first|rfl|(simp [errW_none,errW_some] <;> rfl)|(simp only [← hji12,← hji43];first|rfl|(simp [errW_none,errW_some] <;> rfl))|(simp [*,errW_none,errW_some] <;> rfl),(by rw [Ny53.out,Ny50.out];exact Kd.R_take (m:=((ji43):Int).toNat) HP46.1 (by have q_:(ji43:Int) ≤ (x9_2.length:Int):=of_decide_eq_true (by first|(with_reducible assumption)|assumption);rw [List.length_set];omega)),below_set (HB.out) GB42.out⟩
       ·rw [if_neg c45] at H
        exact absurd H zb30
      rw [if_pos c17] at H
      have c17b0:=decide_eq_true c17
      clear c17
      replace H:=Option.bind_eq_some_iff.mp H
      obtain ⟨t4,A61,H⟩:=H
      try dsimp only at H
      have A18:=Aside0.mk A61
      clear A61
      by_cases c19:t4 < 0
      ·rw [if_pos c19] at H
       have c19b0:=decide_eq_true c19
       clear c19
       by_cases c20:0 ≤ x10_2;rotate_left
       ·rw [if_neg c20] at H
        exact absurd H zb30
       rw [if_pos c20] at H
       have c20b0:=decide_eq_true c20
       clear c20
       by_cases c21:x10_2 < (x9_2.length:Int)
       ·rw [if_pos c21] at H
        have c21b0:=decide_eq_true c21
        clear c21
        obtain ⟨y49,hy49⟩ : ∃ y_:List ByteArray,y_=(x9_2.set (x10_2:Int).toNat x0_2):=⟨_,rfl⟩
        replace H:(if 0 ≤ (wrap64 (x10_2 + 1)) then (if (wrap64 (x10_2 + 1)) ≤ (x9_2.length:Int) then (some (y49.take ((wrap64 (x10_2 + 1)):Int).toNat)) else (none)) else (none))=some r:=by first|(rw [hy49];with_reducible exact H)|(have H2_:=(Option.bind_some _ _).symm.trans H;rw [hy49];with_reducible exact H2_)|(have H2_:=(Option.bind_some _ _).symm.trans H;with_reducible exact H2_)|with_reducible exact H|(rw [hy49];exact H)|exact H
        have Ny49:=Aside0.mk hy49
        clear hy49
        obtain ⟨ji23,hji23⟩ : ∃ j_:Int,(wrap64 (x10_2 + 1))=j_:=⟨_,rfl⟩
        replace H:(if 0 ≤ (ji23) then (if (ji23) ≤ (x9_2.length:Int) then (some (y49.take ((ji23):Int).toNat)) else (none)) else (none))=some r:=by first|(rw [hji23] at H;exact H)|(simp only [hji23] at H ⊢;exact H)
        (try rw [hji23] at A18)
        have hji23w:(IntKind.i64.wrap (x10_2 + 1))=ji23:=(i64_w _).trans hji23
        by_cases c24:0 ≤ (ji23);rotate_left
        ·rw [if_neg c24] at H
         exact absurd H zb30
        rw [if_pos c24] at H
        have c24b0:=eq_true c24
        have c24b1:=decide_eq_true c24
        clear c24
        by_cases c25:(ji23) ≤ (x9_2.length:Int)
        ·rw [if_pos c25] at H
         have c25b0:=eq_true c25
         have c25b1:=decide_eq_true c25
         clear c25
         obtain ⟨y51,hy51⟩ : ∃ y_:List ByteArray,y_=(y49.take ((ji23):Int).toNat):=⟨_,rfl⟩
         replace H:(some y51)=some r:=by first|(rw [hy51];with_reducible exact H)|(have H2_:=(Option.bind_some _ _).symm.trans H;rw [hy51];with_reducible exact H2_)|(have H2_:=(Option.bind_some _ _).symm.trans H;with_reducible exact H2_)|with_reducible exact H|(rw [hy51];exact H)|exact H
         have Ny51:=Aside0.mk hy51
         clear hy51
         obtain rfl:=Option.some.inj H
         go_wp2_with (first|((with_reducible refine gate_callee (f:=95) rfl ?_);refine goesL_ (some 39) rfl rfl Tryd.func95 zb8 rfl #[.string x0_2,.string a1] rfl zb1 ?_;(with_reducible refine (strings_Index.calls x0_2 a1 t4 _ A18.out).mono ?_);rintro e w' ⟨rfl,⟨nd,rfl⟩⟩;(try clear A18);refine ⟨_,rfl,?_⟩;(try (rw [drewN_self wr];generalize hq_:World.drewN wr _=wr;have n0_:Aside0 (Kd.R Kd.string 9 wr w.heap.size (fun _=>True) v59 x9_2):=⟨zb52⟩;have n1_:Aside0 (Below w.heap.size w wr):=⟨zb45⟩;clear HO_9 HB hq_;have HO_9:=n0_;have HB:=n1_;clear n0_ n1_));have p22:0 ≤ (x10_2:Int):=of_decide_eq_true zb7;have q22:(x10_2:Int) < ((x9_2.length:Int):Int):=of_decide_eq_true zb7;obtain ⟨go22,co22,eo22,gb22,gl22,cl22,HG22⟩:=Kd.R_form HO_9.out zb26;(first|cases eo22|(injection eo22 with ea_ en_ ec_;(first|subst ea_|(injection ea_ with ea_;subst ea_));subst ec_;clear en_));have GB22:=Aside0.mk gb22;have GG22:=Aside0.mk HG22;clear gb22 gl22 HG22;obtain ⟨hx22_0,hf22_0⟩:=Kd.R_celln (⟨#[]⟩:ByteArray) HO_9.out (x10_2:Int) p22 q22;replace p22:=eq_true p22;replace q22:=eq_true q22;obtain ⟨hy26_,hz26_⟩:=Kd.R_celln (⟨#[]⟩:ByteArray) HO_9.out (x10_2:Int) (of_decide_eq_true zb7) (of_decide_eq_true zb7);have HP26:=Kd.R_putg HO_9.out (x10_2:Int) x0_2;have q28:((ji23):Int) ≤ ((x9_2.length:Int):Int):=of_decide_eq_true zb7;obtain ⟨i55,hi55,_,hsz28,_⟩:=info_parts info9;have hcut28:=cut_to (P:=Tryd.prog) 74 9 .i64 Tryd.underlying74 hi55 (some ⟨go22,0,none⟩) x9_2.length co22 (ji23) (of_decide_eq_true zb7) q28 (Kd.R_reads' HO_9.out).2.1;clear hi55 hsz28;replace q28:=eq_true q28)|((with_reducible refine gate_store (t:=9) (p:=61) rfl ?_);refine store_event (t:=9) (p:=61) (v:=?vo_w27) (w1:=(wr.setCell ⟨go22,(x10_2:Int).toNat,none⟩ (.string x0_2))) ?hg ?ho ?hn ?hr ?_;(case ho=>rfl);(case hg=>rfl);(case hn=>rfl);(case hr=>first|(go_simp;done)|(go_simp;rfl));intro w27 hw;have hg:wr.grownBy w27 (some go22):=(by rw [hw];exact HP26.2);have hp_:Kd.R Kd.string 9 w27 w.heap.size (fun _=>True) (.slice (some ⟨go22,0,none⟩) x9_2.length co22) y49:=(by rw [hw,Ny49.out];exact HP26.1);clear HP26;replace HO_9:=Aside0.mk (hp_);replace HB:=Aside0.mk ((by rw [hw];exact below_set (HB.out) GB22.out:Below w.heap.size w w27));clear hg hw hp_;have q28:((ji23):Int) ≤ ((x9_2.length:Int):Int):=of_decide_eq_true zb7;obtain ⟨i55,hi55,_,hsz28,_⟩:=info_parts info9;have hcut28:=cut_to (P:=Tryd.prog) 74 9 .i64 Tryd.underlying74 hi55 (some ⟨go22,0,none⟩) x9_2.length co22 (ji23) (of_decide_eq_true zb7) q28 (Kd.R_reads' HO_9.out).2.1;have hr28:=Kd.R_take (m:=((ji23):Int).toNat) HO_9.out zb26;have hy28:y51.length=((ji23):Int).toNat:=(by rw [Ny51.out,List.length_take];omega);rw [← Ny51.out] at hr28;rw [← hy28] at hr28 hcut28;clear hy28 hi55 hsz28 HO_9;have HO66:=Aside0.mk hr28;clear hr28;replace q28:=eq_true q28))
         go_ret
         exact ⟨_,by first|rfl|(simp [errW_none,errW_some] <;> rfl)|(simp only [← hji12,← hji23];first|rfl|(simp [errW_none,errW_some] <;> rfl))|(simp [*,errW_none,errW_some] <;> rfl),(by rw [Ny51.out,Ny49.out];exact Kd.R_take (m:=((ji23):Int).toNat) HP26.1 (by have q_:(ji23:Int) ≤ (x9_2.length:Int):=of_decide_eq_true (by first|(with_reducible assumption)|assumption);rw [List.length_set];omega)),below_set (HB.out) GB22.out⟩
        ·rw [if_neg c25] at H
         exact absurd H zb30
       ·rw [if_neg c21] at H
        exact absurd H zb30
      rw [if_neg c19] at H
      have c19b0:=decide_eq_false c19
      clear c19
      obtain ⟨ji29,hji29⟩ : ∃ j_:Int,(wrap64 (t4 + a2))=j_:=⟨_,rfl⟩
      replace H:(if 0 ≤ (ji29) then (if (ji29) ≤ (x0_2.size:Int) then (if 0 ≤ x10_2 then (if x10_2 < (x9_2.length:Int) then (if 0 ≤ (wrap64 (t4 + (a1.size:Int))) then (if (wrap64 (t4 + (a1.size:Int))) ≤ (x0_2.size:Int) then (strings_genSplit.l0 k2 (x0_2.extract ((wrap64 (t4 + (a1.size:Int))):Int).toNat x0_2.size) a1 a2 (wrap64 ((ji12) - 1)) (x9_2.set (x10_2:Int).toNat (x0_2.extract 0 ((ji29):Int).toNat)) (wrap64 (x10_2 + 1))) else (none)) else (none)) else (none)) else (none)) else (none)) else (none))=some r:=by first|(rw [hji29] at H;exact H)|(simp only [hji29] at H ⊢;exact H)
      (try rw [hji29] at A18)
      have hji29w:(IntKind.i64.wrap (t4 + a2))=ji29:=(i64_w _).trans hji29
      by_cases c30:0 ≤ (ji29)
      ·rw [if_pos c30] at H
       have c30b0:=eq_true c30
       have c30b1:=decide_eq_true c30
       clear c30
       by_cases c31:(ji29) ≤ (x0_2.size:Int)
       ·rw [if_pos c31] at H
        have c31b0:=eq_true c31
        have c31b1:=decide_eq_true c31
        clear c31
        by_cases c32:0 ≤ x10_2
        ·rw [if_pos c32] at H
         have c32b0:=decide_eq_true c32
         clear c32
         by_cases c33:x10_2 < (x9_2.length:Int)
         ·rw [if_pos c33] at H
          have c33b0:=decide_eq_true c33
          clear c33
          obtain ⟨y52,hy52⟩ : ∃ y_:List ByteArray,y_=(x9_2.set (x10_2:Int).toNat (x0_2.extract 0 ((ji29):Int).toNat)):=⟨_,rfl⟩
          replace H:(if 0 ≤ (wrap64 (t4 + (a1.size:Int))) then (if (wrap64 (t4 + (a1.size:Int))) ≤ (x0_2.size:Int) then (strings_genSplit.l0 k2 (x0_2.extract ((wrap64 (t4 + (a1.size:Int))):Int).toNat x0_2.size) a1 a2 (wrap64 ((ji12) - 1)) y52 (wrap64 (x10_2 + 1))) else (none)) else (none))=some r:=by first|(rw [hy52];with_reducible exact H)|(have H2_:=(Option.bind_some _ _).symm.trans H;rw [hy52];with_reducible exact H2_)|(have H2_:=(Option.bind_some _ _).symm.trans H;with_reducible exact H2_)|with_reducible exact H|(rw [hy52];exact H)|exact H
          have Ny52:=Aside0.mk hy52
          clear hy52
          obtain ⟨ji35,hji35⟩ : ∃ j_:Int,(wrap64 (t4 + (a1.size:Int)))=j_:=⟨_,rfl⟩
          replace H:(if 0 ≤ (ji35) then (if (ji35) ≤ (x0_2.size:Int) then (strings_genSplit.l0 k2 (x0_2.extract ((ji35):Int).toNat x0_2.size) a1 a2 (wrap64 ((ji12) - 1)) y52 (wrap64 (x10_2 + 1))) else (none)) else (none))=some r:=by first|(rw [hji35] at H;exact H)|(simp only [hji35] at H ⊢;exact H)
          (try rw [hji35] at A18)
          have hji35w:(IntKind.i64.wrap (t4 + (a1.size:Int)))=ji35:=(i64_w _).trans hji35
          by_cases c36:0 ≤ (ji35)
          ·rw [if_pos c36] at H
           have c36b0:=eq_true c36
           have c36b1:=decide_eq_true c36
           clear c36
           by_cases c37:(ji35) ≤ (x0_2.size:Int)
           ·rw [if_pos c37] at H
            have c37b0:=eq_true c37
            have c37b1:=decide_eq_true c37
            clear c37
            have H' := Aside0.mk H
            clear H
            go_wp2_with (first|((with_reducible refine gate_callee (f:=95) rfl ?_);refine goesL_ (some 39) rfl rfl Tryd.func95 zb8 rfl #[.string x0_2,.string a1] rfl zb1 ?_;(with_reducible refine (strings_Index.calls x0_2 a1 t4 _ A18.out).mono ?_);rintro e w' ⟨rfl,⟨nd,rfl⟩⟩;(try clear A18);refine ⟨_,rfl,?_⟩;(try (rw [drewN_self wr];generalize hq_:World.drewN wr _=wr;have n0_:Aside0 (Kd.R Kd.string 9 wr w.heap.size (fun _=>True) v59 x9_2):=⟨zb52⟩;have n1_:Aside0 (Below w.heap.size w wr):=⟨zb45⟩;clear HO_9 HB hq_;have HO_9:=n0_;have HB:=n1_;clear n0_ n1_));have p34:0 ≤ (x10_2:Int):=of_decide_eq_true zb7;have q34:(x10_2:Int) < ((x9_2.length:Int):Int):=of_decide_eq_true zb7;obtain ⟨go34,co34,eo34,gb34,gl34,cl34,HG34⟩:=Kd.R_form HO_9.out zb26;(first|cases eo34|(injection eo34 with ea_ en_ ec_;(first|subst ea_|(injection ea_ with ea_;subst ea_));subst ec_;clear en_));have GB34:=Aside0.mk gb34;have GG34:=Aside0.mk HG34;clear gb34 gl34 HG34;obtain ⟨hx34_0,hf34_0⟩:=Kd.R_celln (⟨#[]⟩:ByteArray) HO_9.out (x10_2:Int) p34 q34;replace p34:=eq_true p34;replace q34:=eq_true q34;obtain ⟨hy38_,hz38_⟩:=Kd.R_celln (⟨#[]⟩:ByteArray) HO_9.out (x10_2:Int) (of_decide_eq_true zb7) (of_decide_eq_true zb7);have HP38:=Kd.R_putg HO_9.out (x10_2:Int) (x0_2.extract 0 ((ji29):Int).toNat))|((with_reducible refine gate_store (t:=9) (p:=49) rfl ?_);refine store_event (t:=9) (p:=49) (v:=?vo_w39) (w1:=(wr.setCell ⟨go34,(x10_2:Int).toNat,none⟩ (.string (x0_2.extract 0 ((ji29):Int).toNat)))) ?hg ?ho ?hn ?hr ?_;(case ho=>rfl);(case hg=>rfl);(case hn=>rfl);(case hr=>first|(go_simp;done)|(go_simp;rfl));intro w39 hw;have hg:wr.grownBy w39 (some go34):=(by rw [hw];exact HP38.2);have hp_:Kd.R Kd.string 9 w39 w.heap.size (fun _=>True) (.slice (some ⟨go34,0,none⟩) x9_2.length co34) y52:=(by rw [hw,Ny52.out];exact HP38.1);clear HP38;replace HO_9:=Aside0.mk (hp_);replace HB:=Aside0.mk ((by rw [hw];exact below_set (HB.out) GB34.out:Below w.heap.size w w39));clear hg hw hp_))
            go_roundg k2
            case measure=>have:=HJ8.out;have:=HK2.out;omega
            case rel=>exact ⟨(x0_2.extract ((ji35):Int).toNat x0_2.size),(y52),(wrap64 (x10_2 + 1)),(by first|rfl|(simp;done)|(simp only [← hji35] <;> (first|rfl|simp))|(simp [*];done)),zb6,H',⟨by have:=HJ8.out;have:=HK2.out;omega⟩,⟨by (with_reducible repeat (first|apply Kd.R_alloc|apply Kd.R_drewN|apply Kd.R_drew));exact HO_9.out⟩,⟨zb0⟩⟩
           ·rw [if_neg c37] at H
            exact absurd H zb30
          ·rw [if_neg c36] at H
           exact absurd H zb30
         ·rw [if_neg c33] at H
          exact absurd H zb30
        ·rw [if_neg c32] at H
         exact absurd H zb30
       ·rw [if_neg c31] at H
        exact absurd H zb30
      ·rw [if_neg c30] at H
       exact absurd H zb30
   ·rw [if_neg c14] at H
    exact absurd H zb30
def strings_Split.f (k:Nat) (a0:ByteArray) (a1:ByteArray):Option (List ByteArray):=(strings_genSplit.f k a0 a1 0 (-1)).bind fun t173=>(some t173)
set_option maxHeartbeats 8000000 in
set_option maxRecDepth 100000 in
theorem strings_Split.calls (k:Nat) (a0:ByteArray) (a1:ByteArray) (r:List ByteArray) (w:World) (h:strings_Split.f k a0 a1=some r) :
 Calls Tryd.prog 80 #[.string a0,.string a1] w fun e w' => ∃ v0_:Value,e = .returned (v0_)∧Kd.R Kd.string 9 w' w.heap.size (fun _=>True) v0_ r∧Below w.heap.size w w' := by
 have HB:=Aside0.mk (Below.refl w.heap.size w)
 unfold strings_Split.f at h
 have H:=h
 clear h
 replace H:=Option.bind_eq_some_iff.mp H
 obtain ⟨t173,A30,H⟩:=H
 try dsimp only at H
 have A3:=Aside0.mk A30
 clear A30
 obtain rfl:=Option.some.inj H
 go_enter Tryd.func80,Tryd.ntmps80
 go_wp2_with (first|((with_reducible refine gate_callee (f:=89) rfl ?_);refine goesL_ (some 7) rfl rfl Tryd.func89 zb8 rfl #[.string a0,.string a1,.int .i64 0,.int .i64 (-1)] rfl zb1 ?_;(with_reducible refine (strings_genSplit.calls k a0 a1 0 (-1) t173 _ A3.out).mono ?_);rintro e w4 ⟨v174,rfl,ho0,hb⟩;(try clear A3);refine ⟨_,rfl,?_⟩;have HO175:=Aside0.mk (Kd.R_lower ho0 (below_size zb0));replace HB:=Aside0.mk (below_step zb0 hb);try clear hb ho0))
 go_ret
 exact ⟨_,zb3,by (with_reducible repeat (first|apply Kd.R_alloc|apply Kd.R_drewN|apply Kd.R_drew));exact HO175.out,zb0⟩
def sign_Split.l0:Nat → List ByteArray → List ByteArray → Int → Int → Option (List ByteArray)
 | 0,_,_,_,_=>none
 | k + 1,x3,x7,x8,x9=>if x9 < x8 then (if 0 ≤ x9 then (if x9 < (x7.length:Int) then ((sign_Trim.f (rdOf ByteArray.empty x7 x9)).bind fun t180=>(if t180.toList=([]:List UInt8) then (sign_Split.l0 k x3 x7 x8 (wrap64 (x9 + 1))) else (if x3.length < 8796093022208 then (sign_Split.l0 k (x3 ++ [t180]) x7 x8 (wrap64 (x9 + 1))) else (none)))) else (none)) else (none)) else (some x3)
def sign_Split.f (k:Nat) (a0:ByteArray):Option (List ByteArray):=(strings_Split.f k a0 (⟨#[44]⟩:ByteArray)).bind fun t176=>(sign_Split.l0 k ([]:List ByteArray) t176 (t176.length:Int) 0)
set_option maxHeartbeats 8000000 in
set_option maxRecDepth 100000 in
theorem sign_Split.calls (k:Nat) (a0:ByteArray) (r:List ByteArray) (w:World) (h:sign_Split.f k a0=some r) :
 Calls Tryd.prog 66 #[.string a0] w fun e w' => ∃ v0_:Value,e = .returned (v0_)∧Kd.R Kd.string 9 w' w.heap.size (fun _=>True) v0_ r∧Below w.heap.size w w' := by
 have HB:=Aside0.mk (Below.refl w.heap.size w)
 unfold sign_Split.f at h
 have H:=h
 clear h
 replace H:=Option.bind_eq_some_iff.mp H
 obtain ⟨t176,A20,H⟩:=H
 try dsimp only at H
 have A2:=Aside0.mk A20
 clear A20
 have H' := Aside0.mk H
 clear H
 go_enter Tryd.func66,Tryd.ntmps66
 go_wp2_with (first|((with_reducible refine gate_callee (f:=80) rfl ?_);refine goesL_ (some 7) rfl rfl Tryd.func80 zb8 rfl #[.string a0,.string (⟨#[44]⟩:ByteArray)] rfl zb1 ?_;(with_reducible refine (strings_Split.calls k a0 (⟨#[44]⟩:ByteArray) t176 _ A2.out).mono ?_);rintro e w3 ⟨v177,rfl,ho0,hb⟩;(try clear A2);refine ⟨_,rfl,?_⟩;have HO178:=Aside0.mk (Kd.R_lower ho0 (below_size zb0));replace HB:=Aside0.mk (below_step zb0 hb);try clear hb ho0;obtain ⟨Ao4,co4,eo4⟩:=Kd.R_slice HO178.out;subst eo4))
 go_loopg [3,9] k (fun kq v3 v9 w' => ∃ (x3_1:List ByteArray) (x9_1:Int),v9 = .int .i64 x9_1∧Aside0 (sign_Split.l0 kq x3_1 t176 (t176.length:Int) x9_1=some r)∧Aside0 (kq ≤ k)∧Aside0 (Kd.R Kd.string 9 w' w.heap.size (fun k_=>some k_ ≠ ((.slice Ao4 t176.length co4):Value).ownBlock) v3 x3_1)∧Aside0 (Kd.R Kd.string 9 w' w.heap.size (fun k_=>some k_ ≠ (v3:Value).ownBlock) (.slice Ao4 t176.length co4) t176)∧Aside0 (Below w.heap.size w w'))
 case atStart=>exact ⟨(([]:List ByteArray)),(0),zb6,H',⟨Nat.le_refl _⟩,⟨zb4⟩,⟨by (with_reducible repeat (first|apply Kd.R_alloc|apply Kd.R_drewN|apply Kd.R_drew));exact Kd.R_mono HO178.out (fun _ hk=>(by simp [Value.ownBlock]))⟩,⟨zb0⟩⟩
 case round =>
  clear H'
  try clear p2
  obtain ⟨x3_1,x9_1,rfl,HA,HK1,HO_3,HO_7,HB⟩:=hrel
  cases gk with
  | zero=>exact absurd HA.out (by simp [sign_Split.l0])
  | succ k1 =>
   have H:=HA.out
   clear HA
   simp only [sign_Split.l0] at H
   by_cases c5:x9_1 < (t176.length:Int);rotate_left
   ·rw [if_neg c5] at H
    have c5b0:=decide_eq_false c5
    clear c5
    obtain rfl:=Option.some.inj H
    go_wp2
    go_ret
    exact ⟨_,zb3,by (with_reducible repeat (first|apply Kd.R_alloc|apply Kd.R_drewN|apply Kd.R_drew));exact Kd.R_mono HO_3.out (fun _ hk=>trivial),zb0⟩
   rw [if_pos c5] at H
   have c5b0:=decide_eq_true c5
   clear c5
   by_cases c6:0 ≤ x9_1
   ·rw [if_pos c6] at H
    have c6b0:=decide_eq_true c6
    clear c6
    by_cases c7:x9_1 < (t176.length:Int)
    ·rw [if_pos c7] at H
     have c7b0:=decide_eq_true c7
     clear c7
     replace H:=Option.bind_eq_some_iff.mp H
     obtain ⟨t180,A80,H⟩:=H
     try dsimp only at H
     have A8:=Aside0.mk A80
     clear A80
     by_cases c9:t180.toList=([]:List UInt8)
     ·rw [if_pos c9] at H
      have c9b0:=beq_iff_eq.mpr c9
      have c9b1:=bne_eq_false_iff_eq.mpr c9
      clear c9
      have H' := Aside0.mk H
      clear H
      have p179:0 ≤ (x9_1:Int):=of_decide_eq_true zb7
      have q179:x9_1 < (t176.length:Int):=of_decide_eq_true zb7
      obtain ⟨ad179,e179,hx179_0⟩:=Kd.at_string (Kd.R_reads' HO_7.out).2.2 x9_1 p179 q179
      cases e179
      replace p179:=eq_true p179
      replace q179:=eq_true q179
      go_wp2_with (first|((with_reducible refine gate_callee (f:=29) rfl ?_);refine goesL_ (some 14) rfl rfl Tryd.func29 zb8 rfl #[.string (rdOf ByteArray.empty t176 x9_1)] rfl zb1 ?_;(with_reducible refine (sign_Trim.calls (rdOf ByteArray.empty t176 x9_1) t180 _ A8.out).mono ?_);rintro e w10 ⟨rfl,hb⟩;(try clear A8);refine ⟨_,rfl,?_⟩;replace HO_3:=Aside0.mk (Kd.R_below zb37 hb);replace HO_7:=Aside0.mk (Kd.R_below zb38 hb);replace HB:=Aside0.mk (below_step zb0 hb);(try clear hb)))
      go_roundg k1
      case measure=>have:=HK1.out;omega
      case rel=>exact ⟨(x3_1),(wrap64 (x9_1 + 1)),zb6,H',⟨zb50⟩,⟨zb37⟩,⟨zb38⟩,⟨zb0⟩⟩
     rw [if_neg c9] at H
     have c9b0:=beq_eq_false_iff_ne.mpr c9
     have c9b1:=bne_iff_ne.mpr c9
     by_cases c11:x3_1.length < 8796093022208
     ·rw [if_pos c11] at H
      have LMc11:=Aside0.mk c11
      clear c11
      obtain ⟨y181,hy181⟩ : ∃ y_:List ByteArray,y_=(x3_1 ++ [t180]):=⟨_,rfl⟩
      replace H:(sign_Split.l0 k1 y181 t176 (t176.length:Int) (wrap64 (x9_1 + 1)))=some r:=by first|(rw [hy181];with_reducible exact H)|(have H2_:=(Option.bind_some _ _).symm.trans H;rw [hy181];with_reducible exact H2_)|(have H2_:=(Option.bind_some _ _).symm.trans H;with_reducible exact H2_)|with_reducible exact H|(rw [hy181];exact H)|exact H
      have Ny181:=Aside0.mk hy181
      clear hy181
      have H' := Aside0.mk H
      clear H
      have p179:0 ≤ (x9_1:Int):=of_decide_eq_true zb7
      have q179:x9_1 < (t176.length:Int):=of_decide_eq_true zb7
      obtain ⟨ad179,e179,hx179_0⟩:=Kd.at_string (Kd.R_reads' HO_7.out).2.2 x9_1 p179 q179
      cases e179
      replace p179:=eq_true p179
      replace q179:=eq_true q179
      go_wp2_with (first|((with_reducible refine gate_callee (f:=29) rfl ?_);refine goesL_ (some 14) rfl rfl Tryd.func29 zb8 rfl #[.string (rdOf ByteArray.empty t176 x9_1)] rfl zb1 ?_;(with_reducible refine (sign_Trim.calls (rdOf ByteArray.empty t176 x9_1) t180 _ A8.out).mono ?_);rintro e w12 ⟨rfl,hb⟩;(try clear A8);refine ⟨_,rfl,?_⟩;replace HO_3:=Aside0.mk (Kd.R_below zb37 hb);replace HO_7:=Aside0.mk (Kd.R_below zb38 hb);replace HB:=Aside0.mk (below_step zb0 hb);(try clear hb))|((with_reducible refine gate_builtin (b:=.append) (xs:=#[.tmp 17,.tmp 19]) rfl ?_);at_builtin;refine Kd.R_append Kd.string (w0:=w) w.heap.size rfl (.tmp 17) (.tmp 19) 74 9 (.string ⟨#[]⟩) 16 rfl Tryd.underlying74 info9 rfl zb51 zb26 u3 x3_1 t180 [.string t180] (fun k_=>some k_ ≠ (.slice (some ad179) t176.length co4:Value).ownBlock) (fun _=>False) rfl rfl ?aP (fun _ hk=>hk.elim) ?aF ?aO ?aB ?aS ?aL ?_;(case aP=>exact rfl);(case aB=>exact zb48);(case aF=>exact (fun k_ hk=>Kd.fresh' (Kd.R_lt zb38) k_ hk));(case aO=>exact zb37);(case aS=>exact zb47);(case aL=>have:=LMc11.out;omega);intro v182 w13 ho hb hg hat;rw [← Ny181.out] at ho;replace HO_7:=Aside0.mk (Kd.R_after (ok:=(fun _=>True)) (by (with_reducible repeat (first|apply Kd.R_alloc|apply Kd.R_drewN|apply Kd.R_drew));exact Kd.R_mono HO_7.out (fun _ hk=>⟨trivial,hk⟩)) hg hat);replace HB:=Aside0.mk (hb);have HO183:=Aside0.mk (ho);clear ho hb hg hat))
      go_roundg k1
      case measure=>have:=HK1.out;omega
      case rel=>exact ⟨(y181),(wrap64 (x9_1 + 1)),zb6,H',⟨zb50⟩,⟨by (with_reducible repeat (first|apply Kd.R_alloc|apply Kd.R_drewN|apply Kd.R_drew));exact HO183.out⟩,⟨by (with_reducible repeat (first|apply Kd.R_alloc|apply Kd.R_drewN|apply Kd.R_drew));exact Kd.R_mono HO_7.out (fun _ hk=>hk.2)⟩,⟨zb0⟩⟩
     ·rw [if_neg c11] at H
      exact absurd H zb30
    ·rw [if_neg c7] at H
     exact absurd H zb30
   ·rw [if_neg c6] at H
    exact absurd H zb30
def field_List.l0:Nat → List ByteArray → List ByteArray → Int → Int → Option (List ByteArray)
 | 0,_,_,_,_=>none
 | k + 1,x5,x10,x11,x12=>if x12 < x11 then (if 0 ≤ x12 then (if x12 < (x10.length:Int) then ((sign_Split.f k (rdOf ByteArray.empty x10 x12)).bind fun t188=>(if x5.length + t188.length < 8796093022208 then (field_List.l0 k (x5 ++ t188) x10 x11 (wrap64 (x12 + 1))) else (none))) else (none)) else (none)) else (some x5)
def field_List.f (k:Nat) (l0:List (S48)) (a1:ByteArray):Option (List ByteArray):=(field_Get.f k l0 a1).bind fun t184=>(field_List.l0 k ([]:List ByteArray) t184 (t184.length:Int) 0)
set_option maxHeartbeats 8000000 in
set_option maxRecDepth 100000 in
theorem field_List.calls (k:Nat) (A0:Option Addr) (c0:Nat) (l0:List (S48)) (a1:ByteArray) (r:List ByteArray) (w:World) (hr0:Kd.C k48 w A0 l0.length l0) (hc0:l0.length ≤ c0) (h:field_List.f k l0 a1=some r) :
 Calls Tryd.prog 47 #[.slice A0 l0.length c0,.string a1] w fun e w' => ∃ v0_:Value,e = .returned (v0_)∧Kd.R Kd.string 9 w' w.heap.size (fun _=>True) v0_ r∧Below w.heap.size w w' := by
 have HR0:=Aside0.mk hr0
 have HC0:=Aside0.mk hc0
 clear hr0 hc0
 have HB:=Aside0.mk (Below.refl w.heap.size w)
 unfold field_List.f at h
 have H:=h
 clear h
 replace H:=Option.bind_eq_some_iff.mp H
 obtain ⟨t184,A30,H⟩:=H
 try dsimp only at H
 have A3:=Aside0.mk A30
 clear A30
 have H' := Aside0.mk H
 clear H
 go_enter Tryd.func47,Tryd.ntmps47
 go_wp2_with (first|((with_reducible refine gate_callee (f:=38) rfl ?_);refine goesL_ (some 10) rfl rfl Tryd.func38 zb8 rfl #[.slice A0 l0.length c0,.string a1] rfl zb1 ?_;(with_reducible refine (field_Get.calls k _ _ l0 a1 t184 _ ?side1 ?side2 A3.out).mono ?_);(case side1=>exact zb14);(case side2=>exact HC0.out);rintro e w4 ⟨v185,rfl,ho0,hb⟩;(try clear A3);refine ⟨_,rfl,?_⟩;have HO186:=Aside0.mk (Kd.R_lower ho0 (below_size zb0));replace HB:=Aside0.mk (below_step zb0 hb);try clear hb ho0;obtain ⟨Ao5,co5,eo5⟩:=Kd.R_slice HO186.out;subst eo5))
 go_loopg [5,12] k (fun kq v5 v12 w' => ∃ (x5_1:List ByteArray) (x12_1:Int),v12 = .int .i64 x12_1∧Aside0 (field_List.l0 kq x5_1 t184 (t184.length:Int) x12_1=some r)∧Aside0 (kq ≤ k)∧Aside0 (Kd.R Kd.string 9 w' w.heap.size (fun k_=>some k_ ≠ ((.slice Ao5 t184.length co5):Value).ownBlock) v5 x5_1)∧Aside0 (Kd.R Kd.string 9 w' w.heap.size (fun k_=>some k_ ≠ (v5:Value).ownBlock) (.slice Ao5 t184.length co5) t184)∧Aside0 (Below w.heap.size w w'))
 case atStart=>exact ⟨(([]:List ByteArray)),(0),zb6,H',⟨Nat.le_refl _⟩,⟨zb4⟩,⟨by (with_reducible repeat (first|apply Kd.R_alloc|apply Kd.R_drewN|apply Kd.R_drew));exact Kd.R_mono HO186.out (fun _ hk=>(by simp [Value.ownBlock]))⟩,⟨zb0⟩⟩
 case round =>
  clear H'
  try clear p2
  try clear c3
  try clear c4
  obtain ⟨x5_1,x12_1,rfl,HA,HK1,HO_5,HO_10,HB⟩:=hrel
  cases gk with
  | zero=>exact absurd HA.out (by simp [field_List.l0])
  | succ k1 =>
   have H:=HA.out
   clear HA
   simp only [field_List.l0] at H
   by_cases c6:x12_1 < (t184.length:Int);rotate_left
   ·rw [if_neg c6] at H
    have c6b0:=decide_eq_false c6
    clear c6
    obtain rfl:=Option.some.inj H
    go_wp2
    go_ret
    exact ⟨_,zb3,by (with_reducible repeat (first|apply Kd.R_alloc|apply Kd.R_drewN|apply Kd.R_drew));exact Kd.R_mono HO_5.out (fun _ hk=>trivial),zb0⟩
   rw [if_pos c6] at H
   have c6b0:=decide_eq_true c6
   clear c6
   by_cases c7:0 ≤ x12_1
   ·rw [if_pos c7] at H
    have c7b0:=decide_eq_true c7
    clear c7
    by_cases c8:x12_1 < (t184.length:Int)
    ·rw [if_pos c8] at H
     have c8b0:=decide_eq_true c8
     clear c8
     replace H:=Option.bind_eq_some_iff.mp H
     obtain ⟨t188,A90,H⟩:=H
     try dsimp only at H
     have A9:=Aside0.mk A90
     clear A90
     by_cases c10:x5_1.length + t188.length < 8796093022208
     ·rw [if_pos c10] at H
      have LMc10:=Aside0.mk c10
      clear c10
      obtain ⟨y191,hy191⟩ : ∃ y_:List ByteArray,y_=(x5_1 ++ t188):=⟨_,rfl⟩
      replace H:(field_List.l0 k1 y191 t184 (t184.length:Int) (wrap64 (x12_1 + 1)))=some r:=by first|(rw [hy191];with_reducible exact H)|(have H2_:=(Option.bind_some _ _).symm.trans H;rw [hy191];with_reducible exact H2_)|(have H2_:=(Option.bind_some _ _).symm.trans H;with_reducible exact H2_)|with_reducible exact H|(rw [hy191];exact H)|exact H
      have Ny191:=Aside0.mk hy191
      clear hy191
      have H' := Aside0.mk H
      clear H
      have p187:0 ≤ (x12_1:Int):=of_decide_eq_true zb7
      have q187:x12_1 < (t184.length:Int):=of_decide_eq_true zb7
      obtain ⟨ad187,e187,hx187_0⟩:=Kd.at_string (Kd.R_reads' HO_10.out).2.2 x12_1 p187 q187
      cases e187
      replace p187:=eq_true p187
      replace q187:=eq_true q187
      go_wp2_with (first|((with_reducible refine gate_callee (f:=66) rfl ?_);refine goesL_ (some 18) rfl rfl Tryd.func66 zb8 rfl #[.string (rdOf ByteArray.empty t184 x12_1)] rfl zb1 ?_;(with_reducible refine (sign_Split.calls k1 (rdOf ByteArray.empty t184 x12_1) t188 _ A9.out).mono ?_);rintro e w11 ⟨v189,rfl,ho0,hb⟩;(try clear A9);refine ⟨_,rfl,?_⟩;have HO190:=Aside0.mk (Kd.R_lower (Kd.R_new' (Kd.R_new' ho0 (Kd.R_lt zb27)) (Kd.R_lt zb44)) (below_size zb0));replace HO_5:=Aside0.mk (Kd.R_elder' zb27 (Kd.R_base ho0) hb);replace HO_10:=Aside0.mk (Kd.R_elder' zb44 (Kd.R_base ho0) hb);replace HB:=Aside0.mk (below_step zb0 hb);try clear hb ho0;obtain ⟨Ao13,co13,eo13⟩:=Kd.R_slice HO190.out;subst eo13)|((with_reducible refine gate_builtin (b:=.append) (xs:=#[.tmp 16,.tmp 18]) rfl ?_);at_builtin;refine Kd.R_append_rows Kd.string (w0:=w) w.heap.size rfl (.tmp 16) (.tmp 18) 74 9 (.string ⟨#[]⟩) 16 rfl Tryd.underlying74 info9 rfl zb51 zb26 u5 x5_1 t188 _ _ _ (fun k_=>some k_ ≠ (.slice (some ad187) t184.length co5:Value).ownBlock∧some k_ ≠ (.slice Ao13 t188.length co13:Value).ownBlock) (fun _=>False) rfl rfl ?aO ?aR (fun _ _ h=>h) (fun _ h=>h.elim) ?aF ?aB ?aS ?aL ?_;(case aR=>repeat (first|exact (Kd.R_reads' HO190.out).2.2|(with_reducible refine Kd.C_alloc ?_ _)|(with_reducible refine Kd.C_drewN ?_ _)|(with_reducible refine Kd.C_drew ?_)));(case aB=>exact zb48);(case aF=>exact (fun k_ hk=>⟨Kd.fresh' (Kd.R_lt zb44) k_ hk,Kd.fresh' (Kd.R_lt (by (with_reducible repeat (first|apply Kd.R_alloc|apply Kd.R_drewN|apply Kd.R_drew));exact HO190.out)) k_ hk⟩));(case aO=>exact zb27);(case aS=>exact zb47);(case aL=>have:=LMc10.out;omega);intro v192 w12 ho hb hg hat;rw [← Ny191.out] at ho;replace HO_10:=Aside0.mk (Kd.R_after (ok:=(fun k_=>some k_ ≠ (.slice Ao13 t188.length co13:Value).ownBlock)) (by (with_reducible repeat (first|apply Kd.R_alloc|apply Kd.R_drewN|apply Kd.R_drew));exact Kd.R_mono HO_10.out (fun _ hk=>⟨hk.2,hk.1⟩)) hg hat);replace HO190:=Aside0.mk (Kd.R_after (ok:=(fun k_=>some k_ ≠ (.slice (some ad187) t184.length co5:Value).ownBlock)) (by (with_reducible repeat (first|apply Kd.R_alloc|apply Kd.R_drewN|apply Kd.R_drew));exact Kd.R_mono HO190.out (fun _ hk=>⟨hk.2,hk.1.2⟩)) hg hat);replace HB:=Aside0.mk (hb);have HO193:=Aside0.mk (ho);clear ho hb hg hat))
      go_roundg k1
      case measure=>have:=HK1.out;omega
      case rel=>exact ⟨(y191),(wrap64 (x12_1 + 1)),zb6,H',⟨zb50⟩,⟨by (with_reducible repeat (first|apply Kd.R_alloc|apply Kd.R_drewN|apply Kd.R_drew));exact Kd.R_mono HO193.out (fun _ hk=>hk.1)⟩,⟨by (with_reducible repeat (first|apply Kd.R_alloc|apply Kd.R_drewN|apply Kd.R_drew));exact Kd.R_mono HO_10.out (fun _ hk=>hk.2)⟩,⟨zb0⟩⟩
     ·rw [if_neg c10] at H
      exact absurd H zb30
    ·rw [if_neg c8] at H
     exact absurd H zb30
   ·rw [if_neg c7] at H
    exact absurd H zb30
def frame_chunked.f (k:Nat) (l0:List (S48)):Option (Bool):=(field_List.f k l0 (⟨#[84,114,97,110,115,102,101,114,45,69,110,99,111,100,105,110,103]⟩:ByteArray)).bind fun t200=>(if (t200.length:Int)=1 then (if 0 < (t200.length:Int) then ((sign_Same.f (rdOf ByteArray.empty t200 0) (⟨#[99,104,117,110,107,101,100]⟩:ByteArray)).bind fun t204=>(some t204)) else (none)) else (some false))
set_option maxHeartbeats 8000000 in
set_option maxRecDepth 100000 in
theorem frame_chunked.calls (k:Nat) (A0:Option Addr) (c0:Nat) (l0:List (S48)) (r:Bool) (w:World) (hr0:Kd.C k48 w A0 l0.length l0) (hc0:l0.length ≤ c0) (h:frame_chunked.f k l0=some r) :
 Calls Tryd.prog 37 #[.slice A0 l0.length c0] w fun e w' => e = .returned (.bool r)∧Below w.heap.size w w' := by
 have HR0:=Aside0.mk hr0
 have HC0:=Aside0.mk hc0
 clear hr0 hc0
 have HB:=Aside0.mk (Below.refl w.heap.size w)
 unfold frame_chunked.f at h
 have H:=h
 clear h
 replace H:=Option.bind_eq_some_iff.mp H
 obtain ⟨t200,A20,H⟩:=H
 try dsimp only at H
 have A2:=Aside0.mk A20
 clear A20
 by_cases c3:(t200.length:Int)=1;rotate_left
 ·rw [if_neg c3] at H
  have c3b0:=beq_eq_false_iff_ne.mpr c3
  have c3b1:=bne_iff_ne.mpr c3
  obtain rfl:=Option.some.inj H
  go_enter Tryd.func37,Tryd.ntmps37
  go_wp2_with (first|((with_reducible refine gate_callee (f:=47) rfl ?_);refine goesL_ (some 5) rfl rfl Tryd.func47 zb8 rfl #[.slice A0 l0.length c0,.string (⟨#[84,114,97,110,115,102,101,114,45,69,110,99,111,100,105,110,103]⟩:ByteArray)] rfl zb1 ?_;(with_reducible refine (field_List.calls k _ _ l0 (⟨#[84,114,97,110,115,102,101,114,45,69,110,99,111,100,105,110,103]⟩:ByteArray) t200 _ ?side1 ?side2 A2.out).mono ?_);(case side1=>exact zb14);(case side2=>exact HC0.out);rintro e w9 ⟨v201,rfl,ho0,hb⟩;(try clear A2);refine ⟨_,rfl,?_⟩;have HO202:=Aside0.mk (Kd.R_lower ho0 (below_size zb0));replace HB:=Aside0.mk (below_step zb0 hb);try clear hb ho0;obtain ⟨Ao10,co10,eo10⟩:=Kd.R_slice HO202.out;subst eo10))
  go_ret
  exact ⟨zb3,zb0⟩
 rw [if_pos c3] at H
 have c3b0:=beq_iff_eq.mpr c3
 have c3b1:=bne_eq_false_iff_eq.mpr c3
 clear c3
 by_cases c4:0 < (t200.length:Int)
 ·rw [if_pos c4] at H
  have c4b0:=decide_eq_true c4
  have c4b1:decide (0 < t200.length)=true:=decide_eq_true zb26
  clear c4
  replace H:=Option.bind_eq_some_iff.mp H
  obtain ⟨t204,A50,H⟩:=H
  try dsimp only at H
  have A5:=Aside0.mk A50
  clear A50
  obtain rfl:=Option.some.inj H
  go_enter Tryd.func37,Tryd.ntmps37
  go_wp2_with (first|((with_reducible refine gate_callee (f:=47) rfl ?_);refine goesL_ (some 5) rfl rfl Tryd.func47 zb8 rfl #[.slice A0 l0.length c0,.string (⟨#[84,114,97,110,115,102,101,114,45,69,110,99,111,100,105,110,103]⟩:ByteArray)] rfl zb1 ?_;(with_reducible refine (field_List.calls k _ _ l0 (⟨#[84,114,97,110,115,102,101,114,45,69,110,99,111,100,105,110,103]⟩:ByteArray) t200 _ ?side1 ?side2 A2.out).mono ?_);(case side1=>exact zb14);(case side2=>exact HC0.out);rintro e w6 ⟨v201,rfl,ho0,hb⟩;(try clear A2);refine ⟨_,rfl,?_⟩;have HO202:=Aside0.mk (Kd.R_lower ho0 (below_size zb0));replace HB:=Aside0.mk (below_step zb0 hb);try clear hb ho0;obtain ⟨Ao7,co7,eo7⟩:=Kd.R_slice HO202.out;subst eo7;have p203:0 ≤ (0:Int):=zb26;have q203:0 < (t200.length:Int):=of_decide_eq_true zb7;obtain ⟨ad203,e203,hx203_0⟩:=Kd.at_string (Kd.R_reads' HO202.out).2.2 0 p203 q203;cases e203;have qi203:(0 < t200.length)=True:=eq_true zb26;(try rw [show ((0:Int)).toNat=0 from rfl] at hx203_0);(try rw [Addr.add_zero'] at hx203_0);replace p203:=eq_true p203;replace q203:=eq_true q203)|(go_at_call 48;(with_reducible refine (sign_Same.calls (rdOf ByteArray.empty t200 0) (⟨#[99,104,117,110,107,101,100]⟩:ByteArray) t204 _ A5.out).mono ?_);rintro e w8 ⟨rfl,hb⟩;(try clear A5);replace HO202:=Aside0.mk (Kd.R_below (by (with_reducible repeat (first|apply Kd.R_alloc|apply Kd.R_drewN|apply Kd.R_drew));exact HO202.out) hb);replace HB:=Aside0.mk (below_step zb0 hb);(try clear hb)))
  go_ret
  exact ⟨zb3,zb0⟩
 ·rw [if_neg c4] at H
  exact absurd H zb30
def strings_IndexByte.f (a0:ByteArray) (a1:Int):Option Int:=some (Lib.indexByte a0.data.toList a1.toNat.toUInt8)
theorem strings_IndexByte.calls (a0:ByteArray) (a1:Int) (r:Int) (w:World) (h:strings_IndexByte.f a0 a1=some r) :
 Calls Tryd.prog 44 #[.string a0,.int .u8 a1] w fun e w' => e = .returned (.int .i64 r)∧Drawn0 w w' := by
 obtain rfl:=Option.some.inj h
 refine (Tryd.strings_IndexByte a0 a1 w).mono ?_
 rintro e w' ⟨rfl,rfl⟩
 exact ⟨rfl,Drawn0.refl _⟩
mutual
def sign_number.l0:Nat → ByteArray → Int → Int → Int → Int → Int → Option (Int × Bool)
 | 0,_,_,_,_,_,_=>none
 | k + 1,x0,x1,x2,x8,x12,x13=>if x13 < x12 then (if 0 ≤ x13 then (if x13 ≤ (wrap64 (x13 + 1)) then (if (wrap64 (x13 + 1)) ≤ (x0.size:Int) then ((sign_Fold.f (x0.extract (x13:Int).toNat ((wrap64 (x13 + 1)):Int).toNat)).bind fun t107=>(if 0 < (t107.size:Int) then ((strings_IndexByte.f (⟨#[48,49,50,51,52,53,54,55,56,57,97,98,99,100,101,102]⟩:ByteArray) (bt t107 0)).bind fun t108=>(if t108 < 0 then (sign_number.j1 k x0 x1 x2 x8 x13 t108 x12 x13 true) else (sign_number.j1 k x0 x1 x2 x8 x13 t108 x12 x13 (decide (t108 ≥ x1))))) else (none))) else (none)) else (none)) else (none)) else (if x0.toList=([]:List UInt8) then (some (0,false)) else (if (x0.size:Int) > x2 then (some (0,false)) else (some (x8,true))))
def sign_number.j1:Nat → ByteArray → Int → Int → Int → Int → Int → Int → Int → Bool → Option (Int × Bool)
 | 0,_,_,_,_,_,_,_,_,_=>none
 | k + 1,x0,x1,x2,x8,x9,x10,x12,x13,x30=>if x30=true then (some (0,false)) else (if x9 < x2 then (sign_number.l0 k x0 x1 x2 (wrap64 ((wrap64 (x8 * x1)) + x10)) x12 (wrap64 (x13 + 1))) else (sign_number.l0 k x0 x1 x2 x8 x12 (wrap64 (x13 + 1))))
end
def sign_number.f (k:Nat) (a0:ByteArray) (a1:Int) (a2:Int):Option (Int × Bool):=sign_number.l0 k a0 a1 a2 0 (a0.size:Int) 0
theorem sign_number.mono_l : ∀ k,(∀ y0 y1 y2 y3 y4 y5,LeO (sign_number.l0 k y0 y1 y2 y3 y4 y5) (sign_number.l0 (k + 1) y0 y1 y2 y3 y4 y5))∧(∀ y0 y1 y2 y3 y4 y5 y6 y7 y8,LeO (sign_number.j1 k y0 y1 y2 y3 y4 y5 y6 y7 y8) (sign_number.j1 (k + 1) y0 y1 y2 y3 y4 y5 y6 y7 y8))
 | 0=>⟨fun _ _ _ _ _ _ r h=>by simp [sign_number.l0] at h,fun _ _ _ _ _ _ _ _ _ r h=>by simp [sign_number.j1] at h⟩
 | k + 1=>by
  obtain ⟨ih0,ih1⟩:=sign_number.mono_l k
  refine ⟨?_,?_⟩
  ·intro y0 y1 y2 y3 y4 y5
   unfold sign_number.l0
   repeat' first
   | (with_reducible exact ih0 _ _ _ _ _ _)
   | (with_reducible exact ih1 _ _ _ _ _ _ _ _ _)
   | (with_reducible exact LeO.refl _)
   | (with_reducible exact LeO.none _)
   | (with_reducible refine LeO.ite ?_ ?_)
   | (with_reducible refine LeO.bind ?_ (fun _=>?_))
   | exact ih0 _ _ _ _ _ _
   | exact ih1 _ _ _ _ _ _ _ _ _
   | exact LeO.none _
   | refine LeO.ite ?_ ?_
   | refine LeO.bind ?_ (fun _=>?_)
  intro y0 y1 y2 y3 y4 y5 y6 y7 y8
  unfold sign_number.j1
  repeat' first
  | (with_reducible exact ih0 _ _ _ _ _ _)
  | (with_reducible exact ih1 _ _ _ _ _ _ _ _ _)
  | (with_reducible exact LeO.refl _)
  | (with_reducible exact LeO.none _)
  | (with_reducible refine LeO.ite ?_ ?_)
  | (with_reducible refine LeO.bind ?_ (fun _=>?_))
  | exact ih0 _ _ _ _ _ _
  | exact ih1 _ _ _ _ _ _ _ _ _
  | exact LeO.none _
  | refine LeO.ite ?_ ?_
  | refine LeO.bind ?_ (fun _=>?_)
theorem sign_number.mono : ∀ a0 a1 a2 k,LeO (sign_number.f k a0 a1 a2) (sign_number.f (k + 1) a0 a1 a2):=by
 intro a0 a1 a2 k
 obtain ⟨ih0,ih1⟩:=sign_number.mono_l k
 unfold sign_number.f
 repeat' first
  | (with_reducible exact ih0 _ _ _ _ _ _)
  | (with_reducible exact ih1 _ _ _ _ _ _ _ _ _)
  | (with_reducible exact LeO.refl _)
  | (with_reducible exact LeO.none _)
  | (with_reducible refine LeO.ite ?_ ?_)
  | (with_reducible refine LeO.bind ?_ (fun _=>?_))
  | exact ih0 _ _ _ _ _ _
  | exact ih1 _ _ _ _ _ _ _ _ _
  | exact LeO.none _
  | refine LeO.ite ?_ ?_
  | refine LeO.bind ?_ (fun _=>?_)
set_option maxHeartbeats 8000000 in
set_option maxRecDepth 100000 in
theorem sign_number.calls (k:Nat) (a0:ByteArray) (a1:Int) (a2:Int) (r1:Int) (r2:Bool) (w:World) (h:sign_number.f k a0 a1 a2=some (r1,r2)) :
 Calls Tryd.prog 32 #[.string a0,.int .i64 a1,.int .i64 a2] w fun e w' => e = .returned (.tuple #[.int .i64 r1,.bool r2])∧Below w.heap.size w w' := by
 have HB:=Aside0.mk (Below.refl w.heap.size w)
 unfold sign_number.f at h
 have H:=h
 clear h
 have H' := Aside0.mk H
 clear H
 go_enter Tryd.func32,Tryd.ntmps32
 go_wp2
 go_loopg [8,13] k (fun kq v8 v13 w' => ∃ (x8_1:Int) (x13_1:Int),v8 = .int .i64 x8_1∧v13 = .int .i64 x13_1∧Aside0 (sign_number.l0 kq a0 a1 a2 x8_1 (a0.size:Int) x13_1=some (r1,r2))∧Aside0 (kq ≤ k)∧Aside0 (Below w.heap.size w w'))
 case atStart=>exact ⟨(0),(0),zb6,zb6,H',⟨Nat.le_refl _⟩,⟨zb0⟩⟩
 case round =>
  clear H'
  try clear p2
  try clear c3
  obtain ⟨x8_1,x13_1,rfl,rfl,HA,HK1,HB⟩:=hrel
  cases gk with
  | zero=>exact absurd HA.out (by simp [sign_number.l0])
  | succ k1 =>
   have H:=HA.out
   clear HA
   simp only [sign_number.l0] at H
   by_cases c4:x13_1 < (a0.size:Int);rotate_left
   ·rw [if_neg c4] at H
    have c4b0:=decide_eq_false c4
    clear c4
    by_cases c17:a0.toList=([]:List UInt8)
    ·rw [if_pos c17] at H
     have c17b0:=beq_iff_eq.mpr c17
     have c17b1:=bne_eq_false_iff_eq.mpr c17
     clear c17
     simp only [Option.some.injEq,Prod.mk.injEq] at H
     obtain ⟨rfl,rfl⟩:=H
     go_wp2
     go_ret2
     exact ⟨zb3,zb0⟩
    rw [if_neg c17] at H
    have c17b0:=beq_eq_false_iff_ne.mpr c17
    have c17b1:=bne_iff_ne.mpr c17
    by_cases c18:(a0.size:Int) > a2
    ·rw [if_pos c18] at H
     have c18b0:decide (a2 < (a0.size:Int))=true:=decide_eq_true c18
     clear c18
     simp only [Option.some.injEq,Prod.mk.injEq] at H
     obtain ⟨rfl,rfl⟩:=H
     go_wp2
     go_ret2
     exact ⟨zb3,zb0⟩
    rw [if_neg c18] at H
    have c18b0:decide (a2 < (a0.size:Int))=false:=decide_eq_false c18
    clear c18
    simp only [Option.some.injEq,Prod.mk.injEq] at H
    obtain ⟨rfl,rfl⟩:=H
    go_wp2
    go_ret2
    exact ⟨zb3,zb0⟩
   rw [if_pos c4] at H
   have c4b0:=decide_eq_true c4
   clear c4
   by_cases c5:0 ≤ x13_1
   ·rw [if_pos c5] at H
    have c5b0:=eq_true c5
    have c5b1:=decide_eq_true c5
    clear c5
    by_cases c6:x13_1 ≤ (wrap64 (x13_1 + 1))
    ·rw [if_pos c6] at H
     have c6b0:=eq_true c6
     have c6b1:=decide_eq_true c6
     by_cases c7:(wrap64 (x13_1 + 1)) ≤ (a0.size:Int)
     ·rw [if_pos c7] at H
      have c7b0:=eq_true c7
      have c7b1:=decide_eq_true c7
      replace H:=Option.bind_eq_some_iff.mp H
      obtain ⟨t107,A80,H⟩:=H
      try dsimp only at H
      have A8:=Aside0.mk A80
      clear A80
      by_cases c9:0 < (t107.size:Int)
      ·rw [if_pos c9] at H
       have c9b0:=decide_eq_true c9
       have c9b1:decide (0 < t107.size)=true:=decide_eq_true zb26
       clear c9
       replace H:=Option.bind_eq_some_iff.mp H
       obtain ⟨t108,A110,H⟩:=H
       try dsimp only at H
       have A11:=Aside0.mk A110
       clear A110
       have HC12:=Aside0.mk H
       clear H
       go_upto_region 6 with (first|((with_reducible refine gate_callee (f:=45) rfl ?_);refine goesL_ (some 21) rfl rfl Tryd.func45 zb8 rfl #[.string (a0.extract (x13_1:Int).toNat ((wrap64 (x13_1 + 1)):Int).toNat)] rfl zb1 ?_;(with_reducible refine (sign_Fold.calls (a0.extract (x13_1:Int).toNat ((wrap64 (x13_1 + 1)):Int).toNat) t107 _ A8.out).mono ?_);rintro e w13 ⟨rfl,hb⟩;refine ⟨_,rfl,?_⟩;replace HB:=Aside0.mk (below_step zb0 hb);(try clear hb);have p10:0 ≤ (0:Int):=zb26;have q10:0 < t107.size:=(by have:(0:Int) < (t107.size:Int):=of_decide_eq_true (by first|(with_reducible assumption)|assumption);omega);have hx10 : ∀ h:0 < t107.size,((t107[0]'h).toNat:Int)=bt t107 0:=bt_at t107 0;clear p10;have qi10:(0 < (t107.size:Int))=True:=eq_true (of_decide_eq_true zb7);replace q10:=eq_true q10)|((with_reducible refine gate_callee (f:=44) rfl ?_);refine goesL_ (some 23) rfl rfl Tryd.func44 zb8 rfl #[.string (⟨#[48,49,50,51,52,53,54,55,56,57,97,98,99,100,101,102]⟩:ByteArray),.int .u8 (bt t107 0)] rfl zb1 ?_;(with_reducible refine (strings_IndexByte.calls (⟨#[48,49,50,51,52,53,54,55,56,57,97,98,99,100,101,102]⟩:ByteArray) (bt t107 0) t108 _ A11.out).mono ?_);rintro e w' ⟨rfl,⟨nd,rfl⟩⟩;refine ⟨_,rfl,?_⟩))
       (try simp only [Act.put,zqA,zqB,zqC])
       go_cut [30] (fun v30 wc => ∃ (kq:Nat) (x30_11:Bool),v30 = .bool x30_11∧Aside0 (sign_number.j1 kq a0 a1 a2 x8_1 x13_1 t108 (a0.size:Int) x13_1 x30_11=some (r1,r2))∧Aside0 (kq ≤ k1)∧Aside0 (Below w.heap.size w wc))
       case first =>
        have H:=HC12.out
        clear HC12
        by_cases c14:t108 < 0
        ·rw [if_pos c14] at H
         have c14b0:=decide_eq_true c14
         clear c14
         (first|rw [c14b0]|(simp only [i64_w,i32_w];rw [c14b0])|skip)
         have H' := Aside0.mk H
         clear H
         go_wp2
         go_meet
         case rel=>exact ⟨_,(true),zb6,H',⟨zb46⟩,⟨zb0⟩⟩
        rw [if_neg c14] at H
        have c14b0:=decide_eq_false c14
        clear c14
        (first|rw [c14b0]|(simp only [i64_w,i32_w];rw [c14b0])|skip)
        have H' := Aside0.mk H
        clear H
        go_wp2
        go_meet
        case rel=>exact ⟨_,(decide (t108 ≥ a1)),zb6,H',⟨zb46⟩,⟨zb0⟩⟩
       case rest =>
        clear HC12
        try clear c1
        try clear p1
        try clear q1
        try clear hx1
        try clear qi1
        try clear p2
        try clear c3
        try clear c4
        try clear c4b0
        try clear c5
        try clear c5b0
        try clear c5b1
        try clear c6
        try clear c6b0
        try clear c6b1
        try clear p6
        try clear c7
        try clear c7b0
        try clear c7b1
        try clear c9
        try clear c9b0
        try clear c9b1
        try clear p10
        try clear q10
        try clear hx10
        try clear qi10
        try clear c14
        try clear c14b0
        try clear p10
        try clear p2
        try clear q10
        obtain ⟨kq,x30_11,rfl,HA,HJ11,HB⟩:=hcut
        cases kq with
        | zero=>exact absurd HA.out (by simp [sign_number.j1])
        | succ kj11 =>
         have H:=HA.out
         clear HA
         simp only [sign_number.j1] at H
         by_cases c15:x30_11=true
         ·subst c15
          rw [if_pos rfl] at H
          simp only [Option.some.injEq,Prod.mk.injEq] at H
          obtain ⟨rfl,rfl⟩:=H
          go_wp2
          go_ret2
          exact ⟨zb3,zb0⟩
         ·replace c15:=Bool.eq_false_iff.mpr c15
          subst c15
          rw [if_neg (show ¬ (false=true) by decide)] at H
          by_cases c16:x13_1 < a2
          ·rw [if_pos c16] at H
           have c16b0:=decide_eq_true c16
           clear c16
           have H' := Aside0.mk H
           clear H
           go_wp2
           go_roundg kj11
           case measure=>have:=HK1.out;have:=HJ11.out;omega
           case rel=>exact ⟨(wrap64 ((wrap64 (x8_1 * a1)) + t108)),(wrap64 (x13_1 + 1)),zb6,zb6,H',⟨by have:=HK1.out;have:=HJ11.out;omega⟩,⟨zb0⟩⟩
          ·rw [if_neg c16] at H
           have c16b0:=decide_eq_false c16
           clear c16
           have H' := Aside0.mk H
           clear H
           go_wp2
           go_roundg kj11
           case measure=>have:=HK1.out;have:=HJ11.out;omega
           case rel=>exact ⟨(x8_1),(wrap64 (x13_1 + 1)),zb6,zb6,H',⟨by have:=HK1.out;have:=HJ11.out;omega⟩,⟨zb0⟩⟩
      ·rw [if_neg c9] at H
       exact absurd H zb30
     ·rw [if_neg c7] at H
      exact absurd H zb30
    ·rw [if_neg c6] at H
     exact absurd H zb30
   ·rw [if_neg c5] at H
    exact absurd H zb30
def sign_Decimal.f (k:Nat) (a0:ByteArray):Option (Int × Bool):=(sign_number.f k a0 10 18).bind fun bt109=>(some (bt109.1,bt109.2))
theorem sign_Decimal.mono : ∀ a0 k,LeO (sign_Decimal.f k a0) (sign_Decimal.f (k + 1) a0):=by
 intro a0 k
 unfold sign_Decimal.f
 repeat' first
  | (with_reducible exact sign_number.mono _ _ _ _)
  | (with_reducible exact LeO.refl _)
  | (with_reducible exact LeO.none _)
  | (with_reducible refine LeO.ite ?_ ?_)
  | (with_reducible refine LeO.bind ?_ (fun _=>?_))
  | exact sign_number.mono _ _ _ _
  | exact LeO.none _
  | refine LeO.ite ?_ ?_
  | refine LeO.bind ?_ (fun _=>?_)
set_option maxHeartbeats 8000000 in
set_option maxRecDepth 100000 in
theorem sign_Decimal.calls (k:Nat) (a0:ByteArray) (r1:Int) (r2:Bool) (w:World) (h:sign_Decimal.f k a0=some (r1,r2)) :
 Calls Tryd.prog 20 #[.string a0] w fun e w' => e = .returned (.tuple #[.int .i64 r1,.bool r2])∧Below w.heap.size w w' := by
 have HB:=Aside0.mk (Below.refl w.heap.size w)
 unfold sign_Decimal.f at h
 have H:=h
 clear h
 replace H:=Option.bind_eq_some_iff.mp H
 obtain ⟨⟨t109,t110⟩,A20,H⟩:=H
 try dsimp only at H
 have A2:=Aside0.mk A20
 clear A20
 simp only [Option.some.injEq,Prod.mk.injEq] at H
 obtain ⟨rfl,rfl⟩:=H
 go_enter Tryd.func20,Tryd.ntmps20
 go_wp2_with (first|((with_reducible refine gate_callee (f:=32) rfl ?_);refine goesL_ (some 5) rfl rfl Tryd.func32 zb8 rfl #[.string a0,.int .i64 10,.int .i64 18] rfl zb1 ?_;(with_reducible refine (sign_number.calls k a0 10 18 t109 t110 _ A2.out).mono ?_);rintro e w3 ⟨rfl,hb⟩;(try clear A2);refine ⟨_,rfl,?_⟩;replace HB:=Aside0.mk (below_step zb0 hb);(try clear hb)))
 go_ret2
 exact ⟨zb3,zb0⟩
def frame_length.l0:Nat → Int → List ByteArray → Int → Int → Option (Int × Bool)
 | 0,_,_,_,_=>none
 | k + 1,x5,x12,x13,x14=>if x14 < x13 then (if 0 ≤ x14 then (if x14 < (x12.length:Int) then ((sign_Decimal.f k (rdOf ByteArray.empty x12 x14)).bind fun bt198=>(if bt198.2=true then (if x5 ≥ 0 then (if bt198.1=x5 then (frame_length.l0 k bt198.1 x12 x13 (wrap64 (x14 + 1))) else (some (0,false))) else (frame_length.l0 k bt198.1 x12 x13 (wrap64 (x14 + 1)))) else (some (0,false)))) else (none)) else (none)) else (some (x5,decide (x5 ≥ 0)))
def frame_length.f (k:Nat) (l0:List (S48)):Option (Int × Bool):=(field_List.f k l0 (⟨#[67,111,110,116,101,110,116,45,76,101,110,103,116,104]⟩:ByteArray)).bind fun t194=>(frame_length.l0 k (-1) t194 (t194.length:Int) 0)
set_option maxHeartbeats 8000000 in
set_option maxRecDepth 100000 in
theorem frame_length.calls (k:Nat) (A0:Option Addr) (c0:Nat) (l0:List (S48)) (r1:Int) (r2:Bool) (w:World) (hr0:Kd.C k48 w A0 l0.length l0) (hc0:l0.length ≤ c0) (h:frame_length.f k l0=some (r1,r2)) :
 Calls Tryd.prog 36 #[.slice A0 l0.length c0] w fun e w' => e = .returned (.tuple #[.int .i64 r1,.bool r2])∧Below w.heap.size w w' := by
 have HR0:=Aside0.mk hr0
 have HC0:=Aside0.mk hc0
 clear hr0 hc0
 have HB:=Aside0.mk (Below.refl w.heap.size w)
 unfold frame_length.f at h
 have H:=h
 clear h
 replace H:=Option.bind_eq_some_iff.mp H
 obtain ⟨t194,A20,H⟩:=H
 try dsimp only at H
 have A2:=Aside0.mk A20
 clear A20
 have H' := Aside0.mk H
 clear H
 go_enter Tryd.func36,Tryd.ntmps36
 go_wp2_with (first|((with_reducible refine gate_callee (f:=47) rfl ?_);refine goesL_ (some 11) rfl rfl Tryd.func47 zb8 rfl #[.slice A0 l0.length c0,.string (⟨#[67,111,110,116,101,110,116,45,76,101,110,103,116,104]⟩:ByteArray)] rfl zb1 ?_;(with_reducible refine (field_List.calls k _ _ l0 (⟨#[67,111,110,116,101,110,116,45,76,101,110,103,116,104]⟩:ByteArray) t194 _ ?side1 ?side2 A2.out).mono ?_);(case side1=>exact zb14);(case side2=>exact HC0.out);rintro e w3 ⟨v195,rfl,ho0,hb⟩;(try clear A2);refine ⟨_,rfl,?_⟩;have HO196:=Aside0.mk (Kd.R_lower ho0 (below_size zb0));replace HB:=Aside0.mk (below_step zb0 hb);try clear hb ho0;obtain ⟨Ao4,co4,eo4⟩:=Kd.R_slice HO196.out;subst eo4))
 go_loopg [5,14] k (fun kq v5 v14 w' => ∃ (x5_1:Int) (x14_1:Int),v5 = .int .i64 x5_1∧v14 = .int .i64 x14_1∧Aside0 (frame_length.l0 kq x5_1 t194 (t194.length:Int) x14_1=some (r1,r2))∧Aside0 (kq ≤ k)∧Aside0 (Kd.R Kd.string 9 w' w.heap.size (fun _=>True) (.slice Ao4 t194.length co4) t194)∧Aside0 (Below w.heap.size w w'))
 case atStart=>exact ⟨((-1)),(0),zb6,zb6,H',⟨Nat.le_refl _⟩,⟨by (with_reducible repeat (first|apply Kd.R_alloc|apply Kd.R_drewN|apply Kd.R_drew));exact HO196.out⟩,⟨zb0⟩⟩
 case round =>
  clear H'
  try clear p2
  try clear c3
  try clear c4
  obtain ⟨x5_1,x14_1,rfl,rfl,HA,HK1,HO_12,HB⟩:=hrel
  cases gk with
  | zero=>exact absurd HA.out (by simp [frame_length.l0])
  | succ k1 =>
   have H:=HA.out
   clear HA
   simp only [frame_length.l0] at H
   by_cases c5:x14_1 < (t194.length:Int);rotate_left
   ·rw [if_neg c5] at H
    have c5b0:=decide_eq_false c5
    clear c5
    simp only [Option.some.injEq,Prod.mk.injEq] at H
    obtain ⟨rfl,rfl⟩:=H
    go_wp2
    go_ret2
    exact ⟨zb3,zb0⟩
   rw [if_pos c5] at H
   have c5b0:=decide_eq_true c5
   clear c5
   by_cases c6:0 ≤ x14_1
   ·rw [if_pos c6] at H
    have c6b0:=decide_eq_true c6
    clear c6
    by_cases c7:x14_1 < (t194.length:Int)
    ·rw [if_pos c7] at H
     have c7b0:=decide_eq_true c7
     clear c7
     replace H:=Option.bind_eq_some_iff.mp H
     obtain ⟨⟨t198,t199⟩,A80,H⟩:=H
     try dsimp only at H
     have A8:=Aside0.mk A80
     clear A80
     by_cases c9:t199=true;rotate_left
     ·replace c9:=Bool.eq_false_iff.mpr c9
      subst c9
      rw [if_neg (show ¬ (false=true) by decide)] at H
      simp only [Option.some.injEq,Prod.mk.injEq] at H
      obtain ⟨rfl,rfl⟩:=H
      have p197:0 ≤ (x14_1:Int):=of_decide_eq_true zb7
      have q197:x14_1 < (t194.length:Int):=of_decide_eq_true zb7
      obtain ⟨ad197,e197,hx197_0⟩:=Kd.at_string (Kd.R_reads' HO_12.out).2.2 x14_1 p197 q197
      cases e197
      replace p197:=eq_true p197
      replace q197:=eq_true q197
      go_wp2_with (first|((with_reducible refine gate_callee (f:=20) rfl ?_);refine goesL_ (some 20) rfl rfl Tryd.func20 zb8 rfl #[.string (rdOf ByteArray.empty t194 x14_1)] rfl zb1 ?_;(with_reducible refine (sign_Decimal.calls k1 (rdOf ByteArray.empty t194 x14_1) t198 false _ A8.out).mono ?_);rintro e w15 ⟨rfl,hb⟩;(try clear A8);refine ⟨_,rfl,?_⟩;replace HO_12:=Aside0.mk (Kd.R_below zb32 hb);replace HB:=Aside0.mk (below_step zb0 hb);(try clear hb)))
      go_ret2
      exact ⟨zb3,zb0⟩
     subst c9
     rw [if_pos rfl] at H
     by_cases c10:x5_1 ≥ 0;rotate_left
     ·rw [if_neg c10] at H
      have c10b0:decide (0 ≤ x5_1)=false:=decide_eq_false c10
      clear c10
      have H' := Aside0.mk H
      clear H
      have p197:0 ≤ (x14_1:Int):=of_decide_eq_true zb7
      have q197:x14_1 < (t194.length:Int):=of_decide_eq_true zb7
      obtain ⟨ad197,e197,hx197_0⟩:=Kd.at_string (Kd.R_reads' HO_12.out).2.2 x14_1 p197 q197
      cases e197
      replace p197:=eq_true p197
      replace q197:=eq_true q197
      go_wp2_with (first|((with_reducible refine gate_callee (f:=20) rfl ?_);refine goesL_ (some 20) rfl rfl Tryd.func20 zb8 rfl #[.string (rdOf ByteArray.empty t194 x14_1)] rfl zb1 ?_;(with_reducible refine (sign_Decimal.calls k1 (rdOf ByteArray.empty t194 x14_1) t198 true _ A8.out).mono ?_);rintro e w14 ⟨rfl,hb⟩;(try clear A8);refine ⟨_,rfl,?_⟩;replace HO_12:=Aside0.mk (Kd.R_below zb32 hb);replace HB:=Aside0.mk (below_step zb0 hb);(try clear hb)))
      go_roundg k1
      case measure=>have:=HK1.out;omega
      case rel=>exact ⟨(t198),(wrap64 (x14_1 + 1)),zb6,zb6,H',⟨zb50⟩,⟨zb32⟩,⟨zb0⟩⟩
     rw [if_pos c10] at H
     have c10b0:decide (0 ≤ x5_1)=true:=decide_eq_true c10
     clear c10
     by_cases c11:t198=x5_1
     ·rw [if_pos c11] at H
      have c11b0:=beq_iff_eq.mpr c11
      have c11b1:=bne_eq_false_iff_eq.mpr c11
      clear c11
      have H' := Aside0.mk H
      clear H
      have p197:0 ≤ (x14_1:Int):=of_decide_eq_true zb7
      have q197:x14_1 < (t194.length:Int):=of_decide_eq_true zb7
      obtain ⟨ad197,e197,hx197_0⟩:=Kd.at_string (Kd.R_reads' HO_12.out).2.2 x14_1 p197 q197
      cases e197
      replace p197:=eq_true p197
      replace q197:=eq_true q197
      go_wp2_with (first|((with_reducible refine gate_callee (f:=20) rfl ?_);refine goesL_ (some 20) rfl rfl Tryd.func20 zb8 rfl #[.string (rdOf ByteArray.empty t194 x14_1)] rfl zb1 ?_;(with_reducible refine (sign_Decimal.calls k1 (rdOf ByteArray.empty t194 x14_1) t198 true _ A8.out).mono ?_);rintro e w12 ⟨rfl,hb⟩;(try clear A8);refine ⟨_,rfl,?_⟩;replace HO_12:=Aside0.mk (Kd.R_below zb32 hb);replace HB:=Aside0.mk (below_step zb0 hb);(try clear hb)))
      go_roundg k1
      case measure=>have:=HK1.out;omega
      case rel=>exact ⟨(t198),(wrap64 (x14_1 + 1)),zb6,zb6,H',⟨zb50⟩,⟨zb32⟩,⟨zb0⟩⟩
     ·rw [if_neg c11] at H
      have c11b0:=beq_eq_false_iff_ne.mpr c11
      have c11b1:=bne_iff_ne.mpr c11
      simp only [Option.some.injEq,Prod.mk.injEq] at H
      obtain ⟨rfl,rfl⟩:=H
      have p197:0 ≤ (x14_1:Int):=of_decide_eq_true zb7
      have q197:x14_1 < (t194.length:Int):=of_decide_eq_true zb7
      obtain ⟨ad197,e197,hx197_0⟩:=Kd.at_string (Kd.R_reads' HO_12.out).2.2 x14_1 p197 q197
      cases e197
      replace p197:=eq_true p197
      replace q197:=eq_true q197
      go_wp2_with (first|((with_reducible refine gate_callee (f:=20) rfl ?_);refine goesL_ (some 20) rfl rfl Tryd.func20 zb8 rfl #[.string (rdOf ByteArray.empty t194 x14_1)] rfl zb1 ?_;(with_reducible refine (sign_Decimal.calls k1 (rdOf ByteArray.empty t194 x14_1) t198 true _ A8.out).mono ?_);rintro e w13 ⟨rfl,hb⟩;(try clear A8);refine ⟨_,rfl,?_⟩;replace HO_12:=Aside0.mk (Kd.R_below zb32 hb);replace HB:=Aside0.mk (below_step zb0 hb);(try clear hb)))
      go_ret2
      exact ⟨zb3,zb0⟩
    ·rw [if_neg c7] at H
     exact absurd H zb30
   ·rw [if_neg c6] at H
    exact absurd H zb30
def frame_there.f (k:Nat) (l0:List (S48)) (a1:ByteArray):Option (Bool):=(field_Get.f k l0 a1).bind fun t153=>(some (decide ((t153.length:Int) > 0)))
set_option maxHeartbeats 8000000 in
set_option maxRecDepth 100000 in
theorem frame_there.calls (k:Nat) (A0:Option Addr) (c0:Nat) (l0:List (S48)) (a1:ByteArray) (r:Bool) (w:World) (hr0:Kd.C k48 w A0 l0.length l0) (hc0:l0.length ≤ c0) (h:frame_there.f k l0 a1=some r) :
 Calls Tryd.prog 24 #[.slice A0 l0.length c0,.string a1] w fun e w' => e = .returned (.bool r)∧Below w.heap.size w w' := by
 have HR0:=Aside0.mk hr0
 have HC0:=Aside0.mk hc0
 clear hr0 hc0
 have HB:=Aside0.mk (Below.refl w.heap.size w)
 unfold frame_there.f at h
 have H:=h
 clear h
 replace H:=Option.bind_eq_some_iff.mp H
 obtain ⟨t153,A30,H⟩:=H
 try dsimp only at H
 have A3:=Aside0.mk A30
 clear A30
 obtain rfl:=Option.some.inj H
 go_enter Tryd.func24,Tryd.ntmps24
 go_wp2_with (first|((with_reducible refine gate_callee (f:=38) rfl ?_);refine goesL_ (some 7) rfl rfl Tryd.func38 zb8 rfl #[.slice A0 l0.length c0,.string a1] rfl zb1 ?_;(with_reducible refine (field_Get.calls k _ _ l0 a1 t153 _ ?side1 ?side2 A3.out).mono ?_);(case side1=>exact zb14);(case side2=>exact HC0.out);rintro e w4 ⟨v154,rfl,ho0,hb⟩;(try clear A3);refine ⟨_,rfl,?_⟩;have HO155:=Aside0.mk (Kd.R_lower ho0 (below_size zb0));replace HB:=Aside0.mk (below_step zb0 hb);try clear hb ho0;obtain ⟨Ao5,co5,eo5⟩:=Kd.R_slice HO155.out;subst eo5))
 go_ret
 exact ⟨zb3,zb0⟩
mutual
def frame_Request.j0:Nat → List (S48) → Bool → Bool → Int → Bool → Bool → Option (Int × Bool × Int)
 | 0,_,_,_,_,_,_=>none
 | k + 1,x0,x7,x8,x9,x10,x20=>if x20=true then (some (0,false,400)) else (if x8=true then ((frame_chunked.f k x0).bind fun t209=>(frame_Request.j1 k x7 x8 x9 x10 (!t209))) else (frame_Request.j1 k x7 x8 x9 x10 false))
def frame_Request.j1:Nat → Bool → Bool → Int → Bool → Bool → Option (Int × Bool × Int)
 | 0,_,_,_,_,_=>none
 | k + 1,x7,x8,x9,x10,x29=>if x29=true then (some (0,false,501)) else (if x8=true then (some (0,true,0)) else (if x7=true then (if x10=true then (if x9 > 4096 then (some (0,false,413)) else (some (x9,false,0))) else (some (0,false,400))) else (some (0,false,0))))
end
def frame_Request.f (k:Nat) (l0:List (S48)) (a1:Int):Option (Int × Bool × Int):=(frame_there.f k l0 (⟨#[67,111,110,116,101,110,116,45,76,101,110,103,116,104]⟩:ByteArray)).bind fun t205=>((frame_there.f k l0 (⟨#[84,114,97,110,115,102,101,114,45,69,110,99,111,100,105,110,103]⟩:ByteArray)).bind fun t206=>((frame_length.f k l0).bind fun bt207=>(if t206=true then (if t205=true then (frame_Request.j0 k l0 t205 t206 bt207.1 bt207.2 true) else (frame_Request.j0 k l0 t205 t206 bt207.1 bt207.2 (a1 == 0))) else (frame_Request.j0 k l0 t205 t206 bt207.1 bt207.2 false))))
set_option maxHeartbeats 8000000 in
set_option maxRecDepth 100000 in
theorem frame_Request.calls (k:Nat) (A0:Option Addr) (c0:Nat) (l0:List (S48)) (a1:Int) (r1:Int) (r2:Bool) (r3:Int) (w:World) (hr0:Kd.C k48 w A0 l0.length l0) (hc0:l0.length ≤ c0) (h:frame_Request.f k l0 a1=some (r1,r2,r3)) :
 Calls Tryd.prog 23 #[.slice A0 l0.length c0,.int .i64 a1] w fun e w' => e = .returned (.tuple #[.int .i64 r1,.bool r2,.int .i64 r3])∧Below w.heap.size w w' := by
 have HR0:=Aside0.mk hr0
 have HC0:=Aside0.mk hc0
 clear hr0 hc0
 have HB:=Aside0.mk (Below.refl w.heap.size w)
 unfold frame_Request.f at h
 have H:=h
 clear h
 replace H:=Option.bind_eq_some_iff.mp H
 obtain ⟨t205,A30,H⟩:=H
 try dsimp only at H
 have A3:=Aside0.mk A30
 clear A30
 replace H:=Option.bind_eq_some_iff.mp H
 obtain ⟨t206,A40,H⟩:=H
 try dsimp only at H
 have A4:=Aside0.mk A40
 clear A40
 replace H:=Option.bind_eq_some_iff.mp H
 obtain ⟨⟨t207,t208⟩,A50,H⟩:=H
 try dsimp only at H
 have A5:=Aside0.mk A50
 clear A50
 have HC6:=Aside0.mk H
 clear H
 go_enter Tryd.func23,Tryd.ntmps23
 go_upto_region 3 with (first|((with_reducible refine gate_callee (f:=24) rfl ?_);refine goesL_ (some 12) rfl rfl Tryd.func24 zb8 rfl #[.slice A0 l0.length c0,.string (⟨#[67,111,110,116,101,110,116,45,76,101,110,103,116,104]⟩:ByteArray)] rfl zb1 ?_;(with_reducible refine (frame_there.calls k _ _ l0 (⟨#[67,111,110,116,101,110,116,45,76,101,110,103,116,104]⟩:ByteArray) t205 _ ?side1 ?side2 A3.out).mono ?_);(case side1=>exact zb14);(case side2=>exact HC0.out);rintro e w7 ⟨rfl,hb⟩;refine ⟨_,rfl,?_⟩;replace HB:=Aside0.mk (below_step zb0 hb);(try clear hb))|((with_reducible refine gate_callee (f:=24) rfl ?_);refine goesL_ (some 14) rfl rfl Tryd.func24 zb8 rfl #[.slice A0 l0.length c0,.string (⟨#[84,114,97,110,115,102,101,114,45,69,110,99,111,100,105,110,103]⟩:ByteArray)] rfl zb1 ?_;(with_reducible refine (frame_there.calls k _ _ l0 (⟨#[84,114,97,110,115,102,101,114,45,69,110,99,111,100,105,110,103]⟩:ByteArray) t206 _ ?side1 ?side2 A4.out).mono ?_);(case side1=>exact zb34);(case side2=>exact HC0.out);rintro e w8 ⟨rfl,hb⟩;refine ⟨_,rfl,?_⟩;replace HB:=Aside0.mk (below_step zb0 hb);(try clear hb))|((with_reducible refine gate_callee (f:=36) rfl ?_);refine goesL_ (some 17) rfl rfl Tryd.func36 zb8 rfl #[.slice A0 l0.length c0] rfl zb1 ?_;(with_reducible refine (frame_length.calls k _ _ l0 t207 t208 _ ?side1 ?side2 A5.out).mono ?_);(case side1=>exact zb34);(case side2=>exact HC0.out);rintro e w9 ⟨rfl,hb⟩;refine ⟨_,rfl,?_⟩;replace HB:=Aside0.mk (below_step zb0 hb);(try clear hb)))
 (try simp only [Act.put,zqA,zqB,zqC])
 go_cut [20] (fun v20 wc => ∃ (kq:Nat) (x20_5:Bool),v20 = .bool x20_5∧Aside0 (frame_Request.j0 kq l0 t205 t206 t207 t208 x20_5=some (r1,r2,r3))∧Aside0 (kq ≤ k)∧Aside0 (Below w.heap.size w wc))
 case first =>
  have H:=HC6.out
  clear HC6
  by_cases c10:t206=true;rotate_left
  ·replace c10:=Bool.eq_false_iff.mpr c10
   subst c10
   rw [if_neg (show ¬ (false=true) by decide)] at H
   have H' := Aside0.mk H
   clear H
   go_wp2
   go_meet
   case rel=>exact ⟨_,(false),zb6,H',⟨zb36⟩,⟨zb0⟩⟩
  subst c10
  rw [if_pos rfl] at H
  by_cases c11:t205=true
  ·subst c11
   rw [if_pos rfl] at H
   have H' := Aside0.mk H
   clear H
   go_wp2
   go_meet
   case rel=>exact ⟨_,(true),zb6,H',⟨zb36⟩,⟨zb0⟩⟩
  ·replace c11:=Bool.eq_false_iff.mpr c11
   subst c11
   rw [if_neg (show ¬ (false=true) by decide)] at H
   have H' := Aside0.mk H
   clear H
   go_wp2
   go_meet
   case rel=>exact ⟨_,((a1 == 0)),zb6,H',⟨zb36⟩,⟨zb0⟩⟩
 case rest =>
  clear HC6
  try clear c1
  try clear c2
  try clear p2
  try clear c3
  try clear c10
  try clear c11
  obtain ⟨kq,x20_5,rfl,HA,HJ5,HB⟩:=hcut
  cases kq with
  | zero=>exact absurd HA.out (by simp [frame_Request.j0])
  | succ kj5 =>
   have H:=HA.out
   clear HA
   simp only [frame_Request.j0] at H
   by_cases c12:x20_5=true
   ·subst c12
    rw [if_pos rfl] at H
    simp only [Option.some.injEq,Prod.mk.injEq] at H
    obtain ⟨rfl,rfl,rfl⟩:=H
    go_wp2
    go_ret3
    exact ⟨zb3,zb0⟩
   replace c12:=Bool.eq_false_iff.mpr c12
   subst c12
   rw [if_neg (show ¬ (false=true) by decide)] at H
   have HC13:=Aside0.mk H
   clear H
   go_upto_region 5 with (fail)
   go_cut [29] (fun v29 wc => ∃ (kq:Nat) (x29_12:Bool),v29 = .bool x29_12∧Aside0 (frame_Request.j1 kq t205 t206 t207 t208 x29_12=some (r1,r2,r3))∧Aside0 (kq ≤ kj5)∧Aside0 (Below w.heap.size w wc))
   case first =>
    have H:=HC13.out
    clear HC13
    by_cases c14:t206=true;rotate_left
    ·replace c14:=Bool.eq_false_iff.mpr c14
     subst c14
     rw [if_neg (show ¬ (false=true) by decide)] at H
     have H' := Aside0.mk H
     clear H
     go_wp2
     go_meet
     case rel=>exact ⟨_,(false),zb6,H',⟨by have:=HJ5.out;first|omega|exact Nat.le_refl _⟩,⟨zb0⟩⟩
    subst c14
    rw [if_pos rfl] at H
    replace H:=Option.bind_eq_some_iff.mp H
    obtain ⟨t209,A150,H⟩:=H
    try dsimp only at H
    have A15:=Aside0.mk A150
    clear A150
    have H' := Aside0.mk H
    clear H
    go_wp2_with (first|(go_at_call 37;(with_reducible refine (frame_chunked.calls kj5 _ _ l0 t209 _ ?side1 ?side2 A15.out).mono ?_);(case side1=>exact zb34);(case side2=>exact HC0.out);rintro e w16 ⟨rfl,hb⟩;(try clear A15);replace HB:=Aside0.mk (below_step zb0 hb);(try clear hb)))
    go_meet
    case rel=>exact ⟨_,(!t209),zb6,H',⟨by have:=HJ5.out;first|omega|exact Nat.le_refl _⟩,⟨zb0⟩⟩
   case rest =>
    clear HC13
    try clear c1
    try clear c2
    try clear p2
    try clear c3
    try clear c10
    try clear c11
    try clear c12
    try clear c14
    try clear p2
    obtain ⟨kq,x29_12,rfl,HA,HJ12,HB⟩:=hcut
    cases kq with
    | zero=>exact absurd HA.out (by simp [frame_Request.j1])
    | succ kj12 =>
     have H:=HA.out
     clear HA
     simp only [frame_Request.j1] at H
     by_cases c17:x29_12=true
     ·subst c17
      rw [if_pos rfl] at H
      simp only [Option.some.injEq,Prod.mk.injEq] at H
      obtain ⟨rfl,rfl,rfl⟩:=H
      go_wp2
      go_ret3
      exact ⟨zb3,zb0⟩
     replace c17:=Bool.eq_false_iff.mpr c17
     subst c17
     rw [if_neg (show ¬ (false=true) by decide)] at H
     by_cases c18:t206=true
     ·subst c18
      rw [if_pos rfl] at H
      simp only [Option.some.injEq,Prod.mk.injEq] at H
      obtain ⟨rfl,rfl,rfl⟩:=H
      go_wp2
      go_ret3
      exact ⟨zb3,zb0⟩
     replace c18:=Bool.eq_false_iff.mpr c18
     subst c18
     rw [if_neg (show ¬ (false=true) by decide)] at H
     by_cases c19:t205=true;rotate_left
     ·replace c19:=Bool.eq_false_iff.mpr c19
      subst c19
      rw [if_neg (show ¬ (false=true) by decide)] at H
      simp only [Option.some.injEq,Prod.mk.injEq] at H
      obtain ⟨rfl,rfl,rfl⟩:=H
      go_wp2
      go_ret3
      exact ⟨zb3,zb0⟩
     subst c19
     rw [if_pos rfl] at H
     by_cases c20:t208=true
     ·subst c20
      rw [if_pos rfl] at H
      by_cases c21:t207 > 4096
      ·rw [if_pos c21] at H
       have c21b0:decide (4096 < t207)=true:=decide_eq_true c21
       clear c21
       simp only [Option.some.injEq,Prod.mk.injEq] at H
       obtain ⟨rfl,rfl,rfl⟩:=H
       go_wp2
       go_ret3
       exact ⟨zb3,zb0⟩
      rw [if_neg c21] at H
      have c21b0:decide (4096 < t207)=false:=decide_eq_false c21
      clear c21
      simp only [Option.some.injEq,Prod.mk.injEq] at H
      obtain ⟨rfl,rfl,rfl⟩:=H
      go_wp2
      go_ret3
      exact ⟨zb3,zb0⟩
     ·replace c20:=Bool.eq_false_iff.mpr c20
      subst c20
      rw [if_neg (show ¬ (false=true) by decide)] at H
      simp only [Option.some.injEq,Prod.mk.injEq] at H
      obtain ⟨rfl,rfl,rfl⟩:=H
      go_wp2
      go_ret3
      exact ⟨zb3,zb0⟩
def frame_Response.j0:Nat → Bool → Int → ByteArray → Int → List (S48) → List Int → Option (Int × Int × Bool)
 | 0,_,_,_,_,_,_=>none
 | k + 1,x26,x211000,x211001,x211002,x211003,x211004=>if x26=true then (some (0,0,true)) else ((frame_Request.f k x211003 x211002).bind fun bt211=>(if bt211.2.2=0 then (if bt211.2.1=true then (some (2,0,true)) else ((frame_there.f k x211003 (⟨#[67,111,110,116,101,110,116,45,76,101,110,103,116,104]⟩:ByteArray)).bind fun t214=>(if t214=true then (some (1,bt211.1,true)) else (some (3,0,true))))) else (some (0,0,false))))
def frame_Response.f (k:Nat) (a0:ByteArray) (a1_0:Int) (a1_1:ByteArray) (a1_2:Int) (l1_3:List (S48)) (l1_4:List Int):Option (Int × Int × Bool):=if a0.toList=([72,69,65,68]:List UInt8) then (frame_Response.j0 k true a1_0 a1_1 a1_2 l1_3 l1_4) else (if a1_0 < 200 then (frame_Response.j0 k true a1_0 a1_1 a1_2 l1_3 l1_4) else (if a1_0=204 then (frame_Response.j0 k true a1_0 a1_1 a1_2 l1_3 l1_4) else (frame_Response.j0 k (a1_0 == 304) a1_0 a1_1 a1_2 l1_3 l1_4)))
set_option maxHeartbeats 8000000 in
set_option maxRecDepth 100000 in
theorem frame_Response.calls (k:Nat) (a0:ByteArray) (a1_0:Int) (a1_1:ByteArray) (a1_2:Int) (A1_3:Option Addr) (c1_3:Nat) (l1_3:List (S48)) (A1_4:Option Addr) (c1_4:Nat) (l1_4:List Int) (r1:Int) (r2:Int) (r3:Bool) (w:World) (hr1_3:Kd.C k48 w A1_3 l1_3.length l1_3) (hc1_3:l1_3.length ≤ c1_3) (hr1_4:Kd.C (Kd.int .u8) w A1_4 l1_4.length l1_4) (hc1_4:l1_4.length ≤ c1_4) (h:frame_Response.f k a0 a1_0 a1_1 a1_2 l1_3 l1_4=some (r1,r2,r3)) :
 Calls Tryd.prog 12 #[.string a0,.agg #[.int .i64 a1_0,.string a1_1,.int .i64 a1_2,.slice A1_3 l1_3.length c1_3,.slice A1_4 l1_4.length c1_4]] w fun e w' => e = .returned (.tuple #[.int .i64 r1,.int .i64 r2,.bool r3])∧Below w.heap.size w w' := by
 have hu27:=Tryd.underlying27
 have HR1_3:=Aside0.mk hr1_3
 have HC1_3:=Aside0.mk hc1_3
 clear hr1_3 hc1_3
 have HR1_4:=Aside0.mk hr1_4
 have HC1_4:=Aside0.mk hc1_4
 clear hr1_4 hc1_4
 have HB:=Aside0.mk (Below.refl w.heap.size w)
 unfold frame_Response.f at h
 have H:=h
 clear h
 have HC3:=Aside0.mk H
 clear H
 go_enter Tryd.func12,Tryd.ntmps12
 go_upto_region 1 with (first|((with_reducible refine gate_dst (N:=3) rfl ?_);refine box_event rfl (N:=3) rfl (cs:=#[.int .i64 a1_0,.string a1_1,.int .i64 a1_2,.slice A1_3 l1_3.length c1_3,.slice A1_4 l1_4.length c1_4]) (t:=27) zS ?_;intro gb29 hg w4 hbox hb;have GW29:=zG hg zb0;have GE29:=GW29;have BK29:=Aside0.mk hbox;replace HB:=Aside0.mk (below_step zb0 hb);clear hb hbox hg))
 (try simp only [Act.put,zqA,zqB,zqC])
 go_cut [26] (fun v26 wc => ∃ (kq:Nat) (x26_2:Bool),v26 = .bool x26_2∧Aside0 (frame_Response.j0 kq x26_2 a1_0 a1_1 a1_2 l1_3 l1_4=some (r1,r2,r3))∧Aside0 (kq ≤ k)∧Aside0 (wc.heap[gb29]? = some (.cells #[.int .i64 a1_0,.string a1_1,.int .i64 a1_2,(.slice A1_3 l1_3.length c1_3),(.slice A1_4 l1_4.length c1_4)] 27 (0,0)))∧Aside0 (Below w.heap.size w wc))
 case first =>
  have H:=HC3.out
  clear HC3
  by_cases c5:a0.toList=([72,69,65,68]:List UInt8)
  ·rw [if_pos c5] at H
   have c5b0:=beq_iff_eq.mpr c5
   have c5b1:=bne_eq_false_iff_eq.mpr c5
   clear c5
   (first|rw [c5b0]|(simp only [i64_w,i32_w];rw [c5b0])|rw [c5b1]|skip)
   have H' := Aside0.mk H
   clear H
   go_wp2
   go_meet
   case rel=>exact ⟨_,(true),zb6,H',⟨zb36⟩,⟨zb18⟩,⟨zb10⟩⟩
  rw [if_neg c5] at H
  have c5b0:=beq_eq_false_iff_ne.mpr c5
  have c5b1:=bne_iff_ne.mpr c5
  (first|rw [c5b0]|(simp only [i64_w,i32_w];rw [c5b0])|rw [c5b1]|skip)
  by_cases c6:a1_0 < 200
  ·rw [if_pos c6] at H
   have c6b0:=decide_eq_true c6
   clear c6
   have H' := Aside0.mk H
   clear H
   obtain ⟨hcz7_0,hcz7_1,hcz7_2,hcz7_3,hcz7_4,hfz7_0,hfz7_1,hfz7_2,hfz7_3,hfz7_4⟩:=zq5 BK29.out
   go_wp2
   go_meet
   case rel=>exact ⟨_,(true),zb6,H',⟨zb36⟩,⟨zb18⟩,⟨zb10⟩⟩
  rw [if_neg c6] at H
  have c6b0:=decide_eq_false c6
  clear c6
  by_cases c8:a1_0=204;rotate_left
  ·rw [if_neg c8] at H
   have c8b0:=beq_eq_false_iff_ne.mpr c8
   have c8b1:=bne_iff_ne.mpr c8
   have H' := Aside0.mk H
   clear H
   obtain ⟨hcz10_0,hcz10_1,hcz10_2,hcz10_3,hcz10_4,hfz10_0,hfz10_1,hfz10_2,hfz10_3,hfz10_4⟩:=zq5 BK29.out
   go_wp2
   go_meet
   case rel=>exact ⟨_,((a1_0 == 304)),zb6,H',⟨zb36⟩,⟨zb18⟩,⟨zb10⟩⟩
  rw [if_pos c8] at H
  have c8b0:=beq_iff_eq.mpr c8
  have c8b1:=bne_eq_false_iff_eq.mpr c8
  clear c8
  have H' := Aside0.mk H
  clear H
  obtain ⟨hcz9_0,hcz9_1,hcz9_2,hcz9_3,hcz9_4,hfz9_0,hfz9_1,hfz9_2,hfz9_3,hfz9_4⟩:=zq5 BK29.out
  go_wp2
  go_meet
  case rel=>exact ⟨_,(true),zb6,H',⟨zb36⟩,⟨zb18⟩,⟨zb10⟩⟩
 case rest =>
  clear HC3
  try clear c1
  try clear p2
  try clear c5
  try clear c5b0
  try clear c5b1
  try clear c6
  try clear c6b0
  try clear c8
  try clear c8b0
  try clear c8b1
  try clear hcz10_0
  try clear hcz10_1
  try clear hcz10_2
  try clear hcz10_3
  try clear hcz10_4
  try clear hcz7_0
  try clear hcz7_1
  try clear hcz7_2
  try clear hcz7_3
  try clear hcz7_4
  try clear hcz9_0
  try clear hcz9_1
  try clear hcz9_2
  try clear hcz9_3
  try clear hcz9_4
  try clear hfz10_0
  try clear hfz10_1
  try clear hfz10_2
  try clear hfz10_3
  try clear hfz10_4
  try clear hfz7_0
  try clear hfz7_1
  try clear hfz7_2
  try clear hfz7_3
  try clear hfz7_4
  try clear hfz9_0
  try clear hfz9_1
  try clear hfz9_2
  try clear hfz9_3
  try clear hfz9_4
  obtain ⟨kq,x26_2,rfl,HA,HJ2,BK29,HB⟩:=hcut
  cases kq with
  | zero=>exact absurd HA.out (by simp [frame_Response.j0])
  | succ kj2 =>
   have H:=HA.out
   clear HA
   simp only [frame_Response.j0] at H
   by_cases c11:x26_2=true
   ·subst c11
    rw [if_pos rfl] at H
    simp only [Option.some.injEq,Prod.mk.injEq] at H
    obtain ⟨rfl,rfl,rfl⟩:=H
    go_wp2
    go_ret3
    exact ⟨zb3,zb10⟩
   replace c11:=Bool.eq_false_iff.mpr c11
   subst c11
   rw [if_neg (show ¬ (false=true) by decide)] at H
   replace H:=Option.bind_eq_some_iff.mp H
   obtain ⟨⟨t30,t34,t31⟩,A35,H⟩:=H
   try dsimp only at H
   have A12:=Aside0.mk A35
   clear A35
   by_cases c13:t31=0;rotate_left
   ·rw [if_neg c13] at H
    have c13b0:=beq_eq_false_iff_ne.mpr c13
    have c13b1:=bne_iff_ne.mpr c13
    simp only [Option.some.injEq,Prod.mk.injEq] at H
    obtain ⟨rfl,rfl,rfl⟩:=H
    obtain ⟨hcz27_0,hcz27_1,hcz27_2,hcz27_3,hcz27_4,hfz27_0,hfz27_1,hfz27_2,hfz27_3,hfz27_4⟩:=zq5 BK29.out
    go_wp2_with (first|((with_reducible refine gate_callee (f:=23) rfl ?_);refine goesL_ (some 32) rfl rfl Tryd.func23 zb8 rfl #[.slice A1_3 l1_3.length c1_3,.int .i64 a1_2] rfl zb1 ?_;(with_reducible refine (frame_Request.calls kj2 _ _ l1_3 a1_2 t30 t34 t31 _ ?side1 ?side2 A12.out).mono ?_);(case side1=>exact zb21);(case side2=>exact HC1_3.out);rintro e w28 ⟨rfl,hb⟩;(try clear A12);refine ⟨_,rfl,?_⟩;replace BK29:=Aside0.mk (blk_below (g:=gb29) (o:=.cells #[.int .i64 a1_0,.string a1_1,.int .i64 a1_2,.slice A1_3 l1_3.length c1_3,.slice A1_4 l1_4.length c1_4] 27 (0,0)) zb18 hb);replace HB:=Aside0.mk (below_step zb10 hb);(try clear hb)))
    go_ret3
    exact ⟨zb3,zb10⟩
   rw [if_pos c13] at H
   have c13b0:=beq_iff_eq.mpr c13
   have c13b1:=bne_eq_false_iff_eq.mpr c13
   clear c13
   by_cases c14:t34=true
   ·subst c14
    rw [if_pos rfl] at H
    simp only [Option.some.injEq,Prod.mk.injEq] at H
    obtain ⟨rfl,rfl,rfl⟩:=H
    obtain ⟨hcz15_0,hcz15_1,hcz15_2,hcz15_3,hcz15_4,hfz15_0,hfz15_1,hfz15_2,hfz15_3,hfz15_4⟩:=zq5 BK29.out
    go_wp2_with (first|((with_reducible refine gate_callee (f:=23) rfl ?_);refine goesL_ (some 32) rfl rfl Tryd.func23 zb8 rfl #[.slice A1_3 l1_3.length c1_3,.int .i64 a1_2] rfl zb1 ?_;(with_reducible refine (frame_Request.calls kj2 _ _ l1_3 a1_2 t30 true t31 _ ?side1 ?side2 A12.out).mono ?_);(case side1=>exact zb21);(case side2=>exact HC1_3.out);rintro e w16 ⟨rfl,hb⟩;(try clear A12);refine ⟨_,rfl,?_⟩;replace BK29:=Aside0.mk (blk_below (g:=gb29) (o:=.cells #[.int .i64 a1_0,.string a1_1,.int .i64 a1_2,.slice A1_3 l1_3.length c1_3,.slice A1_4 l1_4.length c1_4] 27 (0,0)) zb18 hb);replace HB:=Aside0.mk (below_step zb10 hb);(try clear hb)))
    go_ret3
    exact ⟨zb3,zb10⟩
   replace c14:=Bool.eq_false_iff.mpr c14
   subst c14
   rw [if_neg (show ¬ (false=true) by decide)] at H
   replace H:=Option.bind_eq_some_iff.mp H
   obtain ⟨t33,A36,H⟩:=H
   try dsimp only at H
   have A17:=Aside0.mk A36
   clear A36
   by_cases c18:t33=true
   ·subst c18
    rw [if_pos rfl] at H
    simp only [Option.some.injEq,Prod.mk.injEq] at H
    obtain ⟨rfl,rfl,rfl⟩:=H
    obtain ⟨hcz19_0,hcz19_1,hcz19_2,hcz19_3,hcz19_4,hfz19_0,hfz19_1,hfz19_2,hfz19_3,hfz19_4⟩:=zq5 BK29.out
    go_wp2_with (first|((with_reducible refine gate_callee (f:=23) rfl ?_);refine goesL_ (some 32) rfl rfl Tryd.func23 zb8 rfl #[.slice A1_3 l1_3.length c1_3,.int .i64 a1_2] rfl zb1 ?_;(with_reducible refine (frame_Request.calls kj2 _ _ l1_3 a1_2 t30 false t31 _ ?side1 ?side2 A12.out).mono ?_);(case side1=>exact zb21);(case side2=>exact HC1_3.out);rintro e w20 ⟨rfl,hb⟩;(try clear A12);refine ⟨_,rfl,?_⟩;replace BK29:=Aside0.mk (blk_below (g:=gb29) (o:=.cells #[.int .i64 a1_0,.string a1_1,.int .i64 a1_2,.slice A1_3 l1_3.length c1_3,.slice A1_4 l1_4.length c1_4] 27 (0,0)) zb18 hb);replace HB:=Aside0.mk (below_step zb10 hb);(try clear hb);obtain ⟨hcz21_0,hcz21_1,hcz21_2,hcz21_3,hcz21_4,hfz21_0,hfz21_1,hfz21_2,hfz21_3,hfz21_4⟩:=zq5 BK29.out)|((with_reducible refine gate_callee (f:=24) rfl ?_);refine goesL_ (some 44) rfl rfl Tryd.func24 zb8 rfl #[.slice A1_3 l1_3.length c1_3,.string (⟨#[67,111,110,116,101,110,116,45,76,101,110,103,116,104]⟩:ByteArray)] rfl zb1 ?_;(with_reducible refine (frame_there.calls kj2 _ _ l1_3 (⟨#[67,111,110,116,101,110,116,45,76,101,110,103,116,104]⟩:ByteArray) true _ ?side1 ?side2 A17.out).mono ?_);(case side1=>exact zb21);(case side2=>exact HC1_3.out);rintro e w22 ⟨rfl,hb⟩;(try clear A17);refine ⟨_,rfl,?_⟩;replace BK29:=Aside0.mk (blk_below (g:=gb29) (o:=.cells #[.int .i64 a1_0,.string a1_1,.int .i64 a1_2,.slice A1_3 l1_3.length c1_3,.slice A1_4 l1_4.length c1_4] 27 (0,0)) zb18 hb);replace HB:=Aside0.mk (below_step zb10 hb);(try clear hb)))
    go_ret3
    exact ⟨zb3,zb10⟩
   ·replace c18:=Bool.eq_false_iff.mpr c18
    subst c18
    rw [if_neg (show ¬ (false=true) by decide)] at H
    simp only [Option.some.injEq,Prod.mk.injEq] at H
    obtain ⟨rfl,rfl,rfl⟩:=H
    obtain ⟨hcz23_0,hcz23_1,hcz23_2,hcz23_3,hcz23_4,hfz23_0,hfz23_1,hfz23_2,hfz23_3,hfz23_4⟩:=zq5 BK29.out
    go_wp2_with (first|((with_reducible refine gate_callee (f:=23) rfl ?_);refine goesL_ (some 32) rfl rfl Tryd.func23 zb8 rfl #[.slice A1_3 l1_3.length c1_3,.int .i64 a1_2] rfl zb1 ?_;(with_reducible refine (frame_Request.calls kj2 _ _ l1_3 a1_2 t30 false t31 _ ?side1 ?side2 A12.out).mono ?_);(case side1=>exact zb21);(case side2=>exact HC1_3.out);rintro e w24 ⟨rfl,hb⟩;(try clear A12);refine ⟨_,rfl,?_⟩;replace BK29:=Aside0.mk (blk_below (g:=gb29) (o:=.cells #[.int .i64 a1_0,.string a1_1,.int .i64 a1_2,.slice A1_3 l1_3.length c1_3,.slice A1_4 l1_4.length c1_4] 27 (0,0)) zb18 hb);replace HB:=Aside0.mk (below_step zb10 hb);(try clear hb);obtain ⟨hcz25_0,hcz25_1,hcz25_2,hcz25_3,hcz25_4,hfz25_0,hfz25_1,hfz25_2,hfz25_3,hfz25_4⟩:=zq5 BK29.out)|((with_reducible refine gate_callee (f:=24) rfl ?_);refine goesL_ (some 44) rfl rfl Tryd.func24 zb8 rfl #[.slice A1_3 l1_3.length c1_3,.string (⟨#[67,111,110,116,101,110,116,45,76,101,110,103,116,104]⟩:ByteArray)] rfl zb1 ?_;(with_reducible refine (frame_there.calls kj2 _ _ l1_3 (⟨#[67,111,110,116,101,110,116,45,76,101,110,103,116,104]⟩:ByteArray) false _ ?side1 ?side2 A17.out).mono ?_);(case side1=>exact zb21);(case side2=>exact HC1_3.out);rintro e w26 ⟨rfl,hb⟩;(try clear A17);refine ⟨_,rfl,?_⟩;replace BK29:=Aside0.mk (blk_below (g:=gb29) (o:=.cells #[.int .i64 a1_0,.string a1_1,.int .i64 a1_2,.slice A1_3 l1_3.length c1_3,.slice A1_4 l1_4.length c1_4] 27 (0,0)) zb18 hb);replace HB:=Aside0.mk (below_step zb10 hb);(try clear hb)))
    go_ret3
    exact ⟨zb3,zb10⟩
def sign_alnum.f (a0:Int):Option (Bool):=if a0 ≥ 97 then (if a0 ≤ 122 then (some true) else (if a0 ≥ 65 then (if a0 ≤ 90 then (some true) else (if a0 ≥ 48 then (some (decide (a0 ≤ 57))) else (some false))) else (if a0 ≥ 48 then (some (decide (a0 ≤ 57))) else (some false)))) else (if a0 ≥ 65 then (if a0 ≤ 90 then (some true) else (if a0 ≥ 48 then (some (decide (a0 ≤ 57))) else (some false))) else (if a0 ≥ 48 then (some (decide (a0 ≤ 57))) else (some false)))
set_option maxHeartbeats 8000000 in
set_option maxRecDepth 100000 in
theorem sign_alnum.calls (a0:Int) (r:Bool) (w:World) (h:sign_alnum.f a0=some r) :
 Calls Tryd.prog 61 #[.int .u8 a0] w fun e w' => e = .returned (.bool r)∧Drawn0 w w' := by
 unfold sign_alnum.f at h
 have H:=h
 clear h
 by_cases c2:a0 ≥ 97;rotate_left
 ·rw [if_neg c2] at H
  have c2b0:decide (97 ≤ a0)=false:=decide_eq_false c2
  clear c2
  by_cases c8:a0 ≥ 65;rotate_left
  ·rw [if_neg c8] at H
   have c8b0:decide (65 ≤ a0)=false:=decide_eq_false c8
   clear c8
   by_cases c11:a0 ≥ 48
   ·rw [if_pos c11] at H
    have c11b0:decide (48 ≤ a0)=true:=decide_eq_true c11
    clear c11
    obtain rfl:=Option.some.inj H
    go_enter Tryd.func61,Tryd.ntmps61
    go_wp2
    go_ret
    exact ⟨zb6,zb13⟩
   rw [if_neg c11] at H
   have c11b0:decide (48 ≤ a0)=false:=decide_eq_false c11
   clear c11
   obtain rfl:=Option.some.inj H
   go_enter Tryd.func61,Tryd.ntmps61
   go_wp2
   go_ret
   exact ⟨zb6,zb13⟩
  rw [if_pos c8] at H
  have c8b0:decide (65 ≤ a0)=true:=decide_eq_true c8
  clear c8
  by_cases c9:a0 ≤ 90
  ·rw [if_pos c9] at H
   have c9b0:=decide_eq_true c9
   clear c9
   obtain rfl:=Option.some.inj H
   go_enter Tryd.func61,Tryd.ntmps61
   go_wp2
   go_ret
   exact ⟨zb6,zb13⟩
  rw [if_neg c9] at H
  have c9b0:=decide_eq_false c9
  clear c9
  by_cases c10:a0 ≥ 48
  ·rw [if_pos c10] at H
   have c10b0:decide (48 ≤ a0)=true:=decide_eq_true c10
   clear c10
   obtain rfl:=Option.some.inj H
   go_enter Tryd.func61,Tryd.ntmps61
   go_wp2
   go_ret
   exact ⟨zb6,zb13⟩
  rw [if_neg c10] at H
  have c10b0:decide (48 ≤ a0)=false:=decide_eq_false c10
  clear c10
  obtain rfl:=Option.some.inj H
  go_enter Tryd.func61,Tryd.ntmps61
  go_wp2
  go_ret
  exact ⟨zb6,zb13⟩
 rw [if_pos c2] at H
 have c2b0:decide (97 ≤ a0)=true:=decide_eq_true c2
 clear c2
 by_cases c3:a0 ≤ 122
 ·rw [if_pos c3] at H
  have c3b0:=decide_eq_true c3
  clear c3
  obtain rfl:=Option.some.inj H
  go_enter Tryd.func61,Tryd.ntmps61
  go_wp2
  go_ret
  exact ⟨zb6,zb13⟩
 ·rw [if_neg c3] at H
  have c3b0:=decide_eq_false c3
  clear c3
  by_cases c4:a0 ≥ 65
  ·rw [if_pos c4] at H
   have c4b0:decide (65 ≤ a0)=true:=decide_eq_true c4
   clear c4
   by_cases c5:a0 ≤ 90
   ·rw [if_pos c5] at H
    have c5b0:=decide_eq_true c5
    clear c5
    obtain rfl:=Option.some.inj H
    go_enter Tryd.func61,Tryd.ntmps61
    go_wp2
    go_ret
    exact ⟨zb6,zb13⟩
   ·rw [if_neg c5] at H
    have c5b0:=decide_eq_false c5
    clear c5
    by_cases c6:a0 ≥ 48
    ·rw [if_pos c6] at H
     have c6b0:decide (48 ≤ a0)=true:=decide_eq_true c6
     clear c6
     obtain rfl:=Option.some.inj H
     go_enter Tryd.func61,Tryd.ntmps61
     go_wp2
     go_ret
     exact ⟨zb6,zb13⟩
    ·rw [if_neg c6] at H
     have c6b0:decide (48 ≤ a0)=false:=decide_eq_false c6
     clear c6
     obtain rfl:=Option.some.inj H
     go_enter Tryd.func61,Tryd.ntmps61
     go_wp2
     go_ret
     exact ⟨zb6,zb13⟩
  ·rw [if_neg c4] at H
   have c4b0:decide (65 ≤ a0)=false:=decide_eq_false c4
   clear c4
   by_cases c7:a0 ≥ 48
   ·rw [if_pos c7] at H
    have c7b0:decide (48 ≤ a0)=true:=decide_eq_true c7
    clear c7
    obtain rfl:=Option.some.inj H
    go_enter Tryd.func61,Tryd.ntmps61
    go_wp2
    go_ret
    exact ⟨zb6,zb13⟩
   ·rw [if_neg c7] at H
    have c7b0:decide (48 ≤ a0)=false:=decide_eq_false c7
    clear c7
    obtain rfl:=Option.some.inj H
    go_enter Tryd.func61,Tryd.ntmps61
    go_wp2
    go_ret
    exact ⟨zb6,zb13⟩
def sign_Token_1.f (a0:Int):Option (Bool):=(sign_alnum.f a0).bind fun t126=>(if t126=true then (some true) else ((strings_IndexByte.f (⟨#[33,35,36,37,38,39,42,43,45,46,94,95,96,124,126]⟩:ByteArray) a0).bind fun t127=>(some (decide (t127 ≥ 0)))))
set_option maxHeartbeats 8000000 in
set_option maxRecDepth 100000 in
theorem sign_Token_1.calls (a0:Int) (r:Bool) (w:World) (h:sign_Token_1.f a0=some r) :
 Calls Tryd.prog 60 #[.int .u8 a0] w fun e w' => e = .returned (.bool r)∧Drawn0 w w' := by
 unfold sign_Token_1.f at h
 have H:=h
 clear h
 replace H:=Option.bind_eq_some_iff.mp H
 obtain ⟨t126,A20,H⟩:=H
 try dsimp only at H
 have A2:=Aside0.mk A20
 clear A20
 by_cases c3:t126=true
 ·subst c3
  rw [if_pos rfl] at H
  obtain rfl:=Option.some.inj H
  go_enter Tryd.func60,Tryd.ntmps60
  go_wp2_with (first|((with_reducible refine gate_callee (f:=61) rfl ?_);refine goesL_ (some 4) rfl rfl Tryd.func61 zb8 rfl #[.int .u8 a0] rfl zb1 ?_;(with_reducible refine (sign_alnum.calls a0 true _ A2.out).mono ?_);rintro e w' ⟨rfl,⟨nd,rfl⟩⟩;(try clear A2);refine ⟨_,rfl,?_⟩))
  go_ret
  exact ⟨zb6,zb13⟩
 replace c3:=Bool.eq_false_iff.mpr c3
 subst c3
 rw [if_neg (show ¬ (false=true) by decide)] at H
 replace H:=Option.bind_eq_some_iff.mp H
 obtain ⟨t127,A40,H⟩:=H
 try dsimp only at H
 have A4:=Aside0.mk A40
 clear A40
 obtain rfl:=Option.some.inj H
 go_enter Tryd.func60,Tryd.ntmps60
 go_wp2_with (first|((with_reducible refine gate_callee (f:=61) rfl ?_);refine goesL_ (some 4) rfl rfl Tryd.func61 zb8 rfl #[.int .u8 a0] rfl zb1 ?_;(with_reducible refine (sign_alnum.calls a0 false _ A2.out).mono ?_);rintro e w' ⟨rfl,⟨nd,rfl⟩⟩;(try clear A2);refine ⟨_,rfl,?_⟩)|(go_at_call 44;(with_reducible refine (strings_IndexByte.calls (⟨#[33,35,36,37,38,39,42,43,45,46,94,95,96,124,126]⟩:ByteArray) a0 t127 _ A4.out).mono ?_);rintro e w' ⟨rfl,⟨nd,rfl⟩⟩;(try clear A4)))
 go_ret
 exact ⟨zb6,zb13⟩
/-- all,at any function value that tells p of every byte. -/
theorem sign_all.callsOf (K:Nat) (p:Int → Bool) (hK : ∀ args w,(callFunc K args).run Tryd.prog w = .ok (.enter K args) w)
 (hp : ∀ c w,0 ≤ c → c ≤ 255 → Calls Tryd.prog K #[.int .u8 c] w fun e w' => e = .returned (.bool (p c))∧Drawn0 w w')
 (a0:ByteArray) (h0:a0.size ≤ 140737488355328) (w:World) :
 Calls Tryd.prog 34 #[.string a0,.func (.func K) #[] #[]] w fun e w' => e = .returned (.bool ((bytesOf a0).all p))∧Drawn0 w w' := by
 go_enter Tryd.func34,Tryd.ntmps34
 go_wp2
 go_loopw [8] (fun v wr => ∃ x:Int,v = .int .i64 x∧Aside0 (0 ≤ x∧x ≤ a0.size)∧Aside0 ((bytesOf a0).all p=((bytesOf a0).drop x.toNat).all p)∧Drawn0 w wr) (fun v _=>a0.size - (intOf v).toNat)
 case atStart=>exact ⟨0,rfl,⟨zb26,zb26⟩,⟨zb30⟩,Drawn0.refl _⟩
 case round =>
  obtain ⟨x,rfl,HX,HA,⟨m,rfl⟩⟩:=hrel
  by_cases hlt:x < (a0.size:Int);rotate_left
  ·have HE:=Aside0.mk (HA.out)
   clear HA
   have hge:=Aside0.mk hlt
   have q2:decide (x < (a0.size:Int))=false:=decide_eq_false hlt
   clear hlt
   go_wp2
   go_ret
   exact ⟨by have:=hge.out;have:=HX.out;rw [HE.out,List.drop_of_length_le (by rw [bytesOf_length];omega)];rfl,zb13⟩
  have hx:=bt_at a0 x
  have hr:=bt_range a0 x
  have HR:=Aside0.mk hr
  clear hr
  have HN:=Aside0.mk (bytes_drop_all p a0 x HX.out.1 hlt)
  have p1:(0 ≤ x)=True:=eq_true HX.out.1
  have q1:(x < (a0.size:Int))=True:=eq_true hlt
  have q2:decide (x < (a0.size:Int))=true:=decide_eq_true hlt
  have hlt' := Aside0.mk hlt
  clear hlt
  cases hpc:p (bt a0 x)
  ·have HN' := HN.out
   rw [hpc] at HN'
   have HE:=Aside0.mk (HA.out.trans HN')
   clear HN' HN HA
   go_wp2_with ((with_reducible refine (hp (bt a0 x) _ HR.out.1 HR.out.2).mono ?_);rintro e w' ⟨rfl,⟨nd,rfl⟩⟩;rw [hpc])
   go_ret
   exact ⟨by rw [HE.out];rfl,zb13⟩
  have HN' := HN.out
  rw [hpc] at HN'
  have HE:=Aside0.mk (HA.out.trans HN')
  clear HN' HN HA
  go_wp2_with ((with_reducible refine (hp (bt a0 x) _ HR.out.1 HR.out.2).mono ?_);rintro e w' ⟨rfl,⟨nd,rfl⟩⟩;rw [hpc])
  go_roundw
  case rel =>
   have hw:wrap64 (x + 1)=x + 1:=by have:=HX.out;unfold wrap64;omega
   exact ⟨x + 1,by rw [hw],⟨by have:=HX.out;omega,by have:=hlt'.out;omega⟩,⟨by have:=HX.out;rw [HE.out,show (x + 1).toNat=x.toNat + 1 by omega];simp⟩,zb13⟩
  case measure =>
   have hw:wrap64 (x + 1)=x + 1:=by have:=HX.out;unfold wrap64;omega
   have:=HX.out
   have:=hlt'.out
   simp [intOf,hw]
   omega
def sign_Token.f (a0:ByteArray):Option Bool:=if a0.size ≤ 140737488355328 then some (!a0.toList.isEmpty && (bytesOf a0).all fun c=>(sign_Token_1.f c).getD false) else none
theorem sign_Token_1.tells (c:Int) : ∃ b,sign_Token_1.f c=some b:=by
 unfold sign_Token_1.f sign_alnum.f strings_IndexByte.f
 repeat' split
 all_goals first|exact ⟨_,rfl⟩|(simp only [Option.bind_some];split <;> exact ⟨_,rfl⟩)
theorem sign_Token_1.any (c:Int) (w:World):Calls Tryd.prog 60 #[.int .u8 c] w fun e w' => e = .returned (.bool ((sign_Token_1.f c).getD false))∧Drawn0 w w' := by
 obtain ⟨b,hb⟩:=sign_Token_1.tells c
 have:=sign_Token_1.calls c b w hb
 rw [hb]
 exact this
theorem sign_Token.calls (a0:ByteArray) (r:Bool) (w:World) (h:sign_Token.f a0=some r) :
 Calls Tryd.prog 42 #[.string a0] w fun e w' => e = .returned (.bool r)∧Drawn0 w w' := by
 unfold sign_Token.f at h
 by_cases h0:a0.size ≤ 140737488355328;rotate_left
 ·rw [if_neg h0] at h
  cases h
 rw [if_pos h0] at h
 obtain rfl:=Option.some.inj h
 clear h
 have he : ∀ args w,(callFunc 60 args).run Tryd.prog w = .ok (.enter 60 args) w:=fun args w=>enters_ Tryd.func60 zb8 rfl args w
 have HC:=Aside0.mk (fun w' => sign_all.callsOf 60 (fun c=>(sign_Token_1.f c).getD false) he (fun c w _ _=>sign_Token_1.any c w) a0 h0 w')
 clear he h0
 go_enter Tryd.func42,Tryd.ntmps42
 go_wp2_with (go_at_call 34;(with_reducible refine (HC.out _).mono ?_);rintro e w' ⟨rfl,⟨nd,rfl⟩⟩)
 all_goals
  go_ret
  exact ⟨by first|rfl|(simp [*];done),zb13⟩
def sign_Value_1.f (a0:Int):Option (Bool):=if a0 ≥ 32 then (if a0=127 then (some (a0 == 9)) else (some true)) else (some (a0 == 9))
set_option maxHeartbeats 8000000 in
set_option maxRecDepth 100000 in
theorem sign_Value_1.calls (a0:Int) (r:Bool) (w:World) (h:sign_Value_1.f a0=some r) :
 Calls Tryd.prog 35 #[.int .u8 a0] w fun e w' => e = .returned (.bool r)∧Drawn0 w w' := by
 unfold sign_Value_1.f at h
 have H:=h
 clear h
 by_cases c2:a0 ≥ 32;rotate_left
 ·rw [if_neg c2] at H
  have c2b0:decide (32 ≤ a0)=false:=decide_eq_false c2
  clear c2
  obtain rfl:=Option.some.inj H
  go_enter Tryd.func35,Tryd.ntmps35
  go_wp2
  go_ret
  exact ⟨zb6,zb13⟩
 rw [if_pos c2] at H
 have c2b0:decide (32 ≤ a0)=true:=decide_eq_true c2
 clear c2
 by_cases c3:a0=127
 ·rw [if_pos c3] at H
  have c3b0:=beq_iff_eq.mpr c3
  have c3b1:=bne_eq_false_iff_eq.mpr c3
  clear c3
  obtain rfl:=Option.some.inj H
  go_enter Tryd.func35,Tryd.ntmps35
  go_wp2
  go_ret
  exact ⟨zb6,zb13⟩
 ·rw [if_neg c3] at H
  have c3b0:=beq_eq_false_iff_ne.mpr c3
  have c3b1:=bne_iff_ne.mpr c3
  obtain rfl:=Option.some.inj H
  go_enter Tryd.func35,Tryd.ntmps35
  go_wp2
  go_ret
  exact ⟨zb6,zb13⟩
def sign_Value.f (a0:ByteArray):Option Bool:=if a0.size ≤ 140737488355328 then some ((bytesOf a0).all fun c=>(sign_Value_1.f c).getD false) else none
theorem sign_Value_1.tells (c:Int) : ∃ b,sign_Value_1.f c=some b:=by
 unfold sign_Value_1.f
 repeat' split
 all_goals exact ⟨_,rfl⟩
theorem sign_Value_1.any (c:Int) (w:World):Calls Tryd.prog 35 #[.int .u8 c] w fun e w' => e = .returned (.bool ((sign_Value_1.f c).getD false))∧Drawn0 w w' := by
 obtain ⟨b,hb⟩:=sign_Value_1.tells c
 have:=sign_Value_1.calls c b w hb
 rw [hb]
 exact this
theorem sign_Value.calls (a0:ByteArray) (r:Bool) (w:World) (h:sign_Value.f a0=some r) :
 Calls Tryd.prog 22 #[.string a0] w fun e w' => e = .returned (.bool r)∧Drawn0 w w' := by
 unfold sign_Value.f at h
 by_cases h0:a0.size ≤ 140737488355328;rotate_left
 ·rw [if_neg h0] at h
  cases h
 rw [if_pos h0] at h
 obtain rfl:=Option.some.inj h
 clear h
 have he : ∀ args w,(callFunc 35 args).run Tryd.prog w = .ok (.enter 35 args) w:=fun args w=>enters_ Tryd.func35 zb8 rfl args w
 have HC:=Aside0.mk (fun w' => sign_all.callsOf 35 (fun c=>(sign_Value_1.f c).getD false) he (fun c w _ _=>sign_Value_1.any c w) a0 h0 w')
 clear he h0
 go_enter Tryd.func22,Tryd.ntmps22
 go_wp2_with (go_at_call 34;(with_reducible refine (HC.out _).mono ?_);rintro e w' ⟨rfl,⟨nd,rfl⟩⟩)
 go_ret
 exact ⟨rfl,zb13⟩
def field_right.f (a0_0:ByteArray) (a0_1:ByteArray):Option (Bool):=if (a0_0.size:Int) ≤ 100 then ((sign_Token.f a0_0).bind fun t135=>(if t135=true then (if (a0_1.size:Int) ≤ 1000 then ((sign_Value.f a0_1).bind fun t136=>(if t136=true then ((sign_Trim.f a0_1).bind fun t137=>(some (t137.toList == a0_1.toList))) else (some false))) else (some false)) else (some false))) else (some false)
def field_right.T1:Bool × List (List Nat × List Nat):=(true,[([],[]),([0],[0]),([1],[1]),([2],[2]),([3],[3]),([4],[4]),([5,4],[4,5]),([6,4,4],[4,6]),([4,7],[4,7]),([8,7],[8]),([9],[9]),([10,9],[9,10]),([11,9],[9,11]),([12,9],[9,12]),([9,13],[9,13]),([14,9],[14]),([15],[15]),([16,15],[15,16]),([17,15,15],[15,17]),([15,18],[15,18]),([19,18],[19]),([20],[20]),([21,20],[20,21]),([22,20,20],[20,22]),([20],[20]),([24,20],[20,24]),([23,25,20],[20,23,25]),([20,26],[20,26]),([27,23,0,1,2,3,4,5,6,7,8,9,10,11,12,13,14,15,16,17,18,19,20,21,22,23,24,25,26,27],[27])])
def field_right.B1:List Nat:=[0,1,3,7,15,31,63,127,255,511,1023,2047,4095,8191,16383,32767,65535,131071,262143,524287,1048575,2097151,4194303,8388607,2097151,18874367,67108863,134217727,268435455]
theorem field_right.tab1:rtab .any (opsOf Tryd.f30 1)=field_right.T1:=by kernel_rfl
theorem field_right.bits1:waitsOk field_right.T1.2 field_right.B1=true:=by kernel_rfl
set_option maxHeartbeats 8000000 in
set_option maxRecDepth 100000 in
theorem field_right.calls (a0_0:ByteArray) (a0_1:ByteArray) (r:Bool) (w:World) (h:field_right.f a0_0 a0_1=some r) :
 Calls Tryd.prog 30 #[.agg #[.string a0_0,.string a0_1]] w fun e w' => e = .returned (.bool r)∧Below w.heap.size w w' := by
 have hu48:=Tryd.underlying48
 have HB:=Aside0.mk (Below.refl w.heap.size w)
 unfold field_right.f at h
 have H:=h
 clear h
 by_cases c2:(a0_0.size:Int) ≤ 100;rotate_left
 ·rw [if_neg c2] at H
  have c2b0:=decide_eq_false c2
  have c2b1:decide (a0_0.size ≤ 100)=false:=decide_eq_false zb26
  clear c2
  obtain rfl:=Option.some.inj H
  go_enter Tryd.func30,Tryd.ntmps30
  try go_wp2_with (first|((with_reducible refine gate_dst (N:=1) rfl ?_);(try (refine gate_guard (by rfl) ?_;dsimp only));refine box_event rfl (N:=1) rfl (cs:=#[.string a0_0,.string a0_1]) (t:=48) zS ?_;intro gb20 hg w18 hbox hb;have GW20:=zG hg zb0;have GE20:=GW20;have BK20:=Aside0.mk hbox;replace HB:=Aside0.mk (below_step zb0 hb);clear hb hbox hg))
  replace BK20:=Aside0.mk (blk_drew BK20.out)
  replace HB:=Aside0.mk (below_drew1 HB.out)
  refine start_ (n:=29) (S:=fun w' => w'.cell? ⟨gb20,0,none⟩=some (.string a0_0)∧w'.cell? ⟨gb20,1,none⟩=some (.string a0_1)) (ds:=[]) (zl 29 0) zb8 rfl rfl ⟨(blk_cell BK20.out 0).trans rfl,(blk_cell BK20.out 1).trans rfl⟩ (fun hHeld=>?_);refine with_tabW field_right.tab1 field_right.bits1 (fun HT_ HW_=>?_)
  generalize w18.drew=w19 at BK20 HB hHeld ⊢
  refine zpu 0 (N:=some 3) (zl 29 1) HT_.out rfl rfl ?_
  refine take_ (i:=1) (N:=some 4) (v:=?_) (a' := ?_) (zl 29 3) rfl rfl (take_ofW HT_.out HW_.out zb8) (fun _ _ _ h=>h) (Or.inl ⟨by rfl,?_⟩) hHeld ?_ ?_
  rotate_left
  ·rintro w' ⟨s0,s1⟩;go_simp;with_reducible rfl
  rotate_left
  ·simp only [Act.put,zqA,zqB,zqC,i64_w,i32_w];rfl
  refine zpu 2 (N:=some 5) (zl 29 7) HT_.out rfl rfl ?_
  refine zpu 3 (N:=some 6) (zl 29 15) HT_.out rfl rfl ?_
  refine zpu 4 (N:=some 7) (zl 29 31) HT_.out rfl rfl ?_
  refine pure_ (i:=5) (N:=some 8) (v:=undef) (a' := ?_) (zl 29 63) rfl rfl (any_of HT_.out zb8) (fun _ _ _ h=>h) (Or.inr ⟨by rfl,rfl⟩) ?_ ?_
  rotate_left
  ·simp only [Act.put,zqA,zqB,zqC,i64_w,i32_w];rfl
  refine pure_ (i:=6) (N:=some 9) (v:=undef) (a' := ?_) (zl 29 127) rfl rfl (any_of HT_.out zb8) (fun _ _ _ h=>h) (Or.inr ⟨by rfl,rfl⟩) ?_ ?_
  rotate_left
  ·simp only [Act.put,zqA,zqB,zqC,i64_w,i32_w];rfl
  refine pure_ (i:=7) (N:=some 10) (v:=undef) (a' := ?_) (zl 29 255) rfl rfl (any_of HT_.out zb8) (fun _ _ _ h=>h) (Or.inr ⟨by rfl,rfl⟩) ?_ ?_
  rotate_left
  ·simp only [Act.put,zqA,zqB,zqC,i64_w,i32_w];rfl
  refine zpu 8 (N:=some 11) (zl 29 511) HT_.out rfl rfl ?_
  refine zpu 9 (N:=some 12) (zl 29 1023) HT_.out rfl rfl ?_
  refine pure_ (i:=10) (N:=some 13) (v:=undef) (a' := ?_) (zl 29 2047) rfl rfl (any_of HT_.out zb8) (fun _ _ _ h=>h) (Or.inr ⟨by rfl,rfl⟩) ?_ ?_
  rotate_left
  ·simp only [Act.put,zqA,zqB,zqC,i64_w,i32_w];rfl
  refine pure_ (i:=11) (N:=some 14) (v:=undef) (a' := ?_) (zl 29 4095) rfl rfl (any_of HT_.out zb8) (fun _ _ _ h=>h) (Or.inr ⟨by rfl,rfl⟩) ?_ ?_
  rotate_left
  ·simp only [Act.put,zqA,zqB,zqC,i64_w,i32_w];rfl
  refine pure_ (i:=12) (N:=some 15) (v:=undef) (a' := ?_) (zl 29 8191) rfl rfl (any_of HT_.out zb8) (fun _ _ _ h=>h) (Or.inr ⟨by rfl,rfl⟩) ?_ ?_
  rotate_left
  ·simp only [Act.put,zqA,zqB,zqC,i64_w,i32_w];rfl
  refine pure_ (i:=13) (N:=some 16) (v:=undef) (a' := ?_) (zl 29 16383) rfl rfl (any_of HT_.out zb8) (fun _ _ _ h=>h) (Or.inr ⟨by rfl,rfl⟩) ?_ ?_
  rotate_left
  ·simp only [Act.put,zqA,zqB,zqC,i64_w,i32_w];rfl
  refine zpu 14 (N:=some 17) (zl 29 32767) HT_.out rfl rfl ?_
  refine zpu 15 (N:=some 18) (zl 29 65535) HT_.out rfl rfl ?_
  refine pure_ (i:=16) (N:=some 19) (v:=undef) (a' := ?_) (zl 29 131071) rfl rfl (any_of HT_.out zb8) (fun _ _ _ h=>h) (Or.inr ⟨by rfl,rfl⟩) ?_ ?_
  rotate_left
  ·simp only [Act.put,zqA,zqB,zqC,i64_w,i32_w];rfl
  refine pure_ (i:=17) (N:=some 20) (v:=undef) (a' := ?_) (zl 29 262143) rfl rfl (any_of HT_.out zb8) (fun _ _ _ h=>h) (Or.inr ⟨by rfl,rfl⟩) ?_ ?_
  rotate_left
  ·simp only [Act.put,zqA,zqB,zqC,i64_w,i32_w];rfl
  refine pure_ (i:=18) (N:=some 21) (v:=undef) (a' := ?_) (zl 29 524287) rfl rfl (any_of HT_.out zb8) (fun _ _ _ h=>h) (Or.inr ⟨by rfl,rfl⟩) ?_ ?_
  rotate_left
  ·simp only [Act.put,zqA,zqB,zqC,i64_w,i32_w];rfl
  refine zpu 19 (N:=some 22) (zl 29 1048575) HT_.out rfl rfl ?_
  refine zpu 20 (N:=some 23) (zl 29 2097151) HT_.out rfl rfl ?_
  refine pure_ (i:=21) (N:=some 24) (v:=undef) (a' := ?_) (zl 29 4194303) rfl rfl (any_of HT_.out zb8) (fun _ _ _ h=>h) (Or.inr ⟨by rfl,rfl⟩) ?_ ?_
  rotate_left
  ·simp only [Act.put,zqA,zqB,zqC,i64_w,i32_w];rfl
  refine pure_ (i:=22) (N:=some 25) (v:=undef) (a' := ?_) (zl 29 8388607) rfl rfl (any_of HT_.out zb8) (fun _ _ _ h=>h) (Or.inr ⟨by rfl,rfl⟩) ?_ ?_
  rotate_left
  ·simp only [Act.put,zqA,zqB,zqC,i64_w,i32_w];rfl
  refine pure_ (i:=23) (N:=some 26) (v:=undef) (a' := ?_) (zl 29 16777215) rfl rfl (any_of HT_.out zb8) (fun _ _ _ h=>h) (Or.inr ⟨by rfl,rfl⟩) ?_ ?_
  rotate_left
  ·simp only [Act.put,zqA,zqB,zqC,i64_w,i32_w];rfl
  refine pure_ (i:=24) (N:=some 27) (v:=undef) (a' := ?_) (zl 29 33554431) rfl rfl (any_of HT_.out zb8) (fun _ _ _ h=>h) (Or.inr ⟨by rfl,rfl⟩) ?_ ?_
  rotate_left
  ·simp only [Act.put,zqA,zqB,zqC,i64_w,i32_w];rfl
  refine pure_ (i:=25) (N:=some 28) (v:=undef) (a' := ?_) (zl 29 67108863) rfl rfl (any_of HT_.out zb8) (fun _ _ _ h=>h) (Or.inr ⟨by rfl,rfl⟩) ?_ ?_
  rotate_left
  ·simp only [Act.put,zqA,zqB,zqC,i64_w,i32_w];rfl
  refine pure_ (i:=26) (N:=some 29) (v:=undef) (a' := ?_) (zl 29 134217727) rfl rfl (any_of HT_.out zb8) (fun _ _ _ h=>h) (Or.inr ⟨by rfl,rfl⟩) ?_ ?_
  rotate_left
  ·simp only [Act.put,zqA,zqB,zqC,i64_w,i32_w];rfl
  refine zpu 27 (N:=some 30) (zl 29 268435455) HT_.out rfl rfl ?_
  refine zpu 28 (N:=some 2) (zl 29 536870911) HT_.out rfl rfl ?_
  refine done_ (done_of HT_.out zb8) ?_
  try go_wp2
  go_ret
  exact ⟨zb3,zb24⟩
 rw [if_pos c2] at H
 have c2b0:=decide_eq_true c2
 have c2b1:decide (a0_0.size ≤ 100)=true:=decide_eq_true zb26
 clear c2
 replace H:=Option.bind_eq_some_iff.mp H
 obtain ⟨t24,A30,H⟩:=H
 try dsimp only at H
 have A3:=Aside0.mk A30
 clear A30
 by_cases c4:t24=true;rotate_left
 ·replace c4:=Bool.eq_false_iff.mpr c4
  subst c4
  rw [if_neg (show ¬ (false=true) by decide)] at H
  obtain rfl:=Option.some.inj H
  go_enter Tryd.func30,Tryd.ntmps30
  try go_wp2_with (first|((with_reducible refine gate_dst (N:=1) rfl ?_);(try (refine gate_guard (by rfl) ?_;dsimp only));refine box_event rfl (N:=1) rfl (cs:=#[.string a0_0,.string a0_1]) (t:=48) zS ?_;intro gb20 hg w16 hbox hb;have GW20:=zG hg zb0;have GE20:=GW20;have BK20:=Aside0.mk hbox;replace HB:=Aside0.mk (below_step zb0 hb);clear hb hbox hg))
  replace BK20:=Aside0.mk (blk_drew BK20.out)
  replace HB:=Aside0.mk (below_drew1 HB.out)
  refine start_ (n:=29) (S:=fun w' => w'.cell? ⟨gb20,0,none⟩=some (.string a0_0)∧w'.cell? ⟨gb20,1,none⟩=some (.string a0_1)) (ds:=[]) (zl 29 0) zb8 rfl rfl ⟨(blk_cell BK20.out 0).trans rfl,(blk_cell BK20.out 1).trans rfl⟩ (fun hHeld=>?_);refine with_tabW field_right.tab1 field_right.bits1 (fun HT_ HW_=>?_)
  generalize w16.drew=w17 at BK20 HB hHeld ⊢
  refine zpu 0 (N:=some 3) (zl 29 1) HT_.out rfl rfl ?_
  refine take_ (i:=1) (N:=some 4) (v:=?_) (a' := ?_) (zl 29 3) rfl rfl (take_ofW HT_.out HW_.out zb8) (fun _ _ _ h=>h) (Or.inl ⟨by rfl,?_⟩) hHeld ?_ ?_
  rotate_left
  ·rintro w' ⟨s0,s1⟩;go_simp;with_reducible rfl
  rotate_left
  ·simp only [Act.put,zqA,zqB,zqC,i64_w,i32_w];rfl
  refine zpu 2 (N:=some 5) (zl 29 7) HT_.out rfl rfl ?_
  refine zpu 3 (N:=some 6) (zl 29 15) HT_.out rfl rfl ?_
  refine zpu 4 (N:=some 7) (zl 29 31) HT_.out rfl rfl ?_
  refine zpu 5 (N:=some 8) (zl 29 63) HT_.out rfl rfl ?_
  refine take_ (i:=6) (N:=some 9) (v:=?_) (a' := ?_) (zl 29 127) rfl rfl (take_ofW HT_.out HW_.out zb8) (fun _ _ _ h=>h) (Or.inl ⟨by rfl,?_⟩) hHeld ?_ ?_
  rotate_left
  ·rintro w' ⟨s0,s1⟩;go_simp;with_reducible rfl
  rotate_left
  ·simp only [Act.put,zqA,zqB,zqC,i64_w,i32_w];rfl
  refine one_ (i:=7) (N:=some 10) (zl 29 255) rfl rfl (one_of HT_.out zb8) zb51 (fun K hK=>?_)
  refine goes_ Tryd.func42 zb8 rfl #[.string a0_0] (by rfl) rfl rfl zb1 ?_
  with_reducible refine (sign_Token.calls a0_0 false _ A3.out).mono ?_
  rintro e w' ⟨rfl,⟨nd,rfl⟩⟩
  refine ⟨_,rfl,?_⟩
  refine hK.out _ _ ⟨(blk_cell BK20.out 0).trans rfl,(blk_cell BK20.out 1).trans rfl⟩ (fun hHeld=>?_)
  clear hK K
  refine norm_ (a' := ?_) ?_ ?_
  rotate_left
  ·show Act.put _ (some 10) _=_
   simp only [Act.put,zqA,zqB,zqC,i64_w,i32_w]
   rfl
  refine zpu 8 (N:=some 11) (zl 29 511) HT_.out rfl rfl ?_
  refine zpu 9 (N:=some 12) (zl 29 1023) HT_.out rfl rfl ?_
  refine pure_ (i:=10) (N:=some 13) (v:=undef) (a' := ?_) (zl 29 2047) rfl rfl (any_of HT_.out zb8) (fun _ _ _ h=>h) (Or.inr ⟨by rfl,rfl⟩) ?_ ?_
  rotate_left
  ·simp only [Act.put,zqA,zqB,zqC,i64_w,i32_w];rfl
  refine pure_ (i:=11) (N:=some 14) (v:=undef) (a' := ?_) (zl 29 4095) rfl rfl (any_of HT_.out zb8) (fun _ _ _ h=>h) (Or.inr ⟨by rfl,rfl⟩) ?_ ?_
  rotate_left
  ·simp only [Act.put,zqA,zqB,zqC,i64_w,i32_w];rfl
  refine pure_ (i:=12) (N:=some 15) (v:=undef) (a' := ?_) (zl 29 8191) rfl rfl (any_of HT_.out zb8) (fun _ _ _ h=>h) (Or.inr ⟨by rfl,rfl⟩) ?_ ?_
  rotate_left
  ·simp only [Act.put,zqA,zqB,zqC,i64_w,i32_w];rfl
  refine pure_ (i:=13) (N:=some 16) (v:=undef) (a' := ?_) (zl 29 16383) rfl rfl (any_of HT_.out zb8) (fun _ _ _ h=>h) (Or.inr ⟨by rfl,rfl⟩) ?_ ?_
  rotate_left
  ·simp only [Act.put,zqA,zqB,zqC,i64_w,i32_w];rfl
  refine zpu 14 (N:=some 17) (zl 29 32767) HT_.out rfl rfl ?_
  refine zpu 15 (N:=some 18) (zl 29 65535) HT_.out rfl rfl ?_
  refine pure_ (i:=16) (N:=some 19) (v:=undef) (a' := ?_) (zl 29 131071) rfl rfl (any_of HT_.out zb8) (fun _ _ _ h=>h) (Or.inr ⟨by rfl,rfl⟩) ?_ ?_
  rotate_left
  ·simp only [Act.put,zqA,zqB,zqC,i64_w,i32_w];rfl
  refine pure_ (i:=17) (N:=some 20) (v:=undef) (a' := ?_) (zl 29 262143) rfl rfl (any_of HT_.out zb8) (fun _ _ _ h=>h) (Or.inr ⟨by rfl,rfl⟩) ?_ ?_
  rotate_left
  ·simp only [Act.put,zqA,zqB,zqC,i64_w,i32_w];rfl
  refine pure_ (i:=18) (N:=some 21) (v:=undef) (a' := ?_) (zl 29 524287) rfl rfl (any_of HT_.out zb8) (fun _ _ _ h=>h) (Or.inr ⟨by rfl,rfl⟩) ?_ ?_
  rotate_left
  ·simp only [Act.put,zqA,zqB,zqC,i64_w,i32_w];rfl
  refine zpu 19 (N:=some 22) (zl 29 1048575) HT_.out rfl rfl ?_
  refine zpu 20 (N:=some 23) (zl 29 2097151) HT_.out rfl rfl ?_
  refine pure_ (i:=21) (N:=some 24) (v:=undef) (a' := ?_) (zl 29 4194303) rfl rfl (any_of HT_.out zb8) (fun _ _ _ h=>h) (Or.inr ⟨by rfl,rfl⟩) ?_ ?_
  rotate_left
  ·simp only [Act.put,zqA,zqB,zqC,i64_w,i32_w];rfl
  refine pure_ (i:=22) (N:=some 25) (v:=undef) (a' := ?_) (zl 29 8388607) rfl rfl (any_of HT_.out zb8) (fun _ _ _ h=>h) (Or.inr ⟨by rfl,rfl⟩) ?_ ?_
  rotate_left
  ·simp only [Act.put,zqA,zqB,zqC,i64_w,i32_w];rfl
  refine pure_ (i:=23) (N:=some 26) (v:=undef) (a' := ?_) (zl 29 16777215) rfl rfl (any_of HT_.out zb8) (fun _ _ _ h=>h) (Or.inr ⟨by rfl,rfl⟩) ?_ ?_
  rotate_left
  ·simp only [Act.put,zqA,zqB,zqC,i64_w,i32_w];rfl
  refine pure_ (i:=24) (N:=some 27) (v:=undef) (a' := ?_) (zl 29 33554431) rfl rfl (any_of HT_.out zb8) (fun _ _ _ h=>h) (Or.inr ⟨by rfl,rfl⟩) ?_ ?_
  rotate_left
  ·simp only [Act.put,zqA,zqB,zqC,i64_w,i32_w];rfl
  refine pure_ (i:=25) (N:=some 28) (v:=undef) (a' := ?_) (zl 29 67108863) rfl rfl (any_of HT_.out zb8) (fun _ _ _ h=>h) (Or.inr ⟨by rfl,rfl⟩) ?_ ?_
  rotate_left
  ·simp only [Act.put,zqA,zqB,zqC,i64_w,i32_w];rfl
  refine pure_ (i:=26) (N:=some 29) (v:=undef) (a' := ?_) (zl 29 134217727) rfl rfl (any_of HT_.out zb8) (fun _ _ _ h=>h) (Or.inr ⟨by rfl,rfl⟩) ?_ ?_
  rotate_left
  ·simp only [Act.put,zqA,zqB,zqC,i64_w,i32_w];rfl
  refine zpu 27 (N:=some 30) (zl 29 268435455) HT_.out rfl rfl ?_
  refine zpu 28 (N:=some 2) (zl 29 536870911) HT_.out rfl rfl ?_
  refine done_ (done_of HT_.out zb8) ?_
  try go_wp2
  go_ret
  exact ⟨zb3,zb24⟩
 subst c4
 rw [if_pos rfl] at H
 by_cases c5:(a0_1.size:Int) ≤ 1000
 ·rw [if_pos c5] at H
  have c5b0:=decide_eq_true c5
  have c5b1:decide (a0_1.size ≤ 1000)=true:=decide_eq_true zb26
  clear c5
  replace H:=Option.bind_eq_some_iff.mp H
  obtain ⟨t23,A60,H⟩:=H
  try dsimp only at H
  have A6:=Aside0.mk A60
  clear A60
  by_cases c7:t23=true;rotate_left
  ·replace c7:=Bool.eq_false_iff.mpr c7
   subst c7
   rw [if_neg (show ¬ (false=true) by decide)] at H
   obtain rfl:=Option.some.inj H
   go_enter Tryd.func30,Tryd.ntmps30
   try go_wp2_with (first|((with_reducible refine gate_dst (N:=1) rfl ?_);(try (refine gate_guard (by rfl) ?_;dsimp only));refine box_event rfl (N:=1) rfl (cs:=#[.string a0_0,.string a0_1]) (t:=48) zS ?_;intro gb20 hg w12 hbox hb;have GW20:=zG hg zb0;have GE20:=GW20;have BK20:=Aside0.mk hbox;replace HB:=Aside0.mk (below_step zb0 hb);clear hb hbox hg))
   replace BK20:=Aside0.mk (blk_drew BK20.out)
   replace HB:=Aside0.mk (below_drew1 HB.out)
   refine start_ (n:=29) (S:=fun w' => w'.cell? ⟨gb20,0,none⟩=some (.string a0_0)∧w'.cell? ⟨gb20,1,none⟩=some (.string a0_1)) (ds:=[]) (zl 29 0) zb8 rfl rfl ⟨(blk_cell BK20.out 0).trans rfl,(blk_cell BK20.out 1).trans rfl⟩ (fun hHeld=>?_);refine with_tabW field_right.tab1 field_right.bits1 (fun HT_ HW_=>?_)
   generalize w12.drew=w13 at BK20 HB hHeld ⊢
   refine zpu 0 (N:=some 3) (zl 29 1) HT_.out rfl rfl ?_
   refine take_ (i:=1) (N:=some 4) (v:=?_) (a' := ?_) (zl 29 3) rfl rfl (take_ofW HT_.out HW_.out zb8) (fun _ _ _ h=>h) (Or.inl ⟨by rfl,?_⟩) hHeld ?_ ?_
   rotate_left
   ·rintro w' ⟨s0,s1⟩;go_simp;with_reducible rfl
   rotate_left
   ·simp only [Act.put,zqA,zqB,zqC,i64_w,i32_w];rfl
   refine zpu 2 (N:=some 5) (zl 29 7) HT_.out rfl rfl ?_
   refine zpu 3 (N:=some 6) (zl 29 15) HT_.out rfl rfl ?_
   refine zpu 4 (N:=some 7) (zl 29 31) HT_.out rfl rfl ?_
   refine zpu 5 (N:=some 8) (zl 29 63) HT_.out rfl rfl ?_
   refine take_ (i:=6) (N:=some 9) (v:=?_) (a' := ?_) (zl 29 127) rfl rfl (take_ofW HT_.out HW_.out zb8) (fun _ _ _ h=>h) (Or.inl ⟨by rfl,?_⟩) hHeld ?_ ?_
   rotate_left
   ·rintro w' ⟨s0,s1⟩;go_simp;with_reducible rfl
   rotate_left
   ·simp only [Act.put,zqA,zqB,zqC,i64_w,i32_w];rfl
   refine one_ (i:=7) (N:=some 10) (zl 29 255) rfl rfl (one_of HT_.out zb8) zb51 (fun K hK=>?_)
   refine goes_ Tryd.func42 zb8 rfl #[.string a0_0] (by rfl) rfl rfl zb1 ?_
   with_reducible refine (sign_Token.calls a0_0 true _ A3.out).mono ?_
   rintro e w' ⟨rfl,⟨nd,rfl⟩⟩
   refine ⟨_,rfl,?_⟩
   refine hK.out _ _ ⟨(blk_cell BK20.out 0).trans rfl,(blk_cell BK20.out 1).trans rfl⟩ (fun hHeld=>?_)
   clear hK K
   refine norm_ (a' := ?_) ?_ ?_
   rotate_left
   ·show Act.put _ (some 10) _=_
    simp only [Act.put,zqA,zqB,zqC,i64_w,i32_w]
    rfl
   refine zpu 8 (N:=some 11) (zl 29 511) HT_.out rfl rfl ?_
   refine zpu 9 (N:=some 12) (zl 29 1023) HT_.out rfl rfl ?_
   refine zpu 10 (N:=some 13) (zl 29 2047) HT_.out rfl rfl ?_
   refine take_ (i:=11) (N:=some 14) (v:=?_) (a' := ?_) (zl 29 4095) rfl rfl (take_ofW HT_.out HW_.out zb8) (fun _ _ _ h=>h) (Or.inl ⟨by rfl,?_⟩) hHeld ?_ ?_
   rotate_left
   ·rintro w' ⟨s0,s1⟩;go_simp;with_reducible rfl
   rotate_left
   ·simp only [Act.put,zqA,zqB,zqC,i64_w,i32_w];rfl
   refine zpu 12 (N:=some 15) (zl 29 8191) HT_.out rfl rfl ?_
   refine zpu 13 (N:=some 16) (zl 29 16383) HT_.out rfl rfl ?_
   refine zpu 14 (N:=some 17) (zl 29 32767) HT_.out rfl rfl ?_
   refine zpu 15 (N:=some 18) (zl 29 65535) HT_.out rfl rfl ?_
   refine zpu 16 (N:=some 19) (zl 29 131071) HT_.out rfl rfl ?_
   refine take_ (i:=17) (N:=some 20) (v:=?_) (a' := ?_) (zl 29 262143) rfl rfl (take_ofW HT_.out HW_.out zb8) (fun _ _ _ h=>h) (Or.inl ⟨by rfl,?_⟩) hHeld ?_ ?_
   rotate_left
   ·rintro w' ⟨s0,s1⟩;go_simp;with_reducible rfl
   rotate_left
   ·simp only [Act.put,zqA,zqB,zqC,i64_w,i32_w];rfl
   refine one_ (i:=18) (N:=some 21) (zl 29 524287) rfl rfl (one_of HT_.out zb8) zb51 (fun K hK=>?_)
   refine goes_ Tryd.func22 zb8 rfl #[.string a0_1] (by rfl) rfl rfl zb1 ?_
   with_reducible refine (sign_Value.calls a0_1 false _ A6.out).mono ?_
   rintro e w' ⟨rfl,⟨nd,rfl⟩⟩
   refine ⟨_,rfl,?_⟩
   refine hK.out _ _ ⟨(blk_cell BK20.out 0).trans rfl,(blk_cell BK20.out 1).trans rfl⟩ (fun hHeld=>?_)
   clear hK K
   refine norm_ (a' := ?_) ?_ ?_
   rotate_left
   ·show Act.put _ (some 21) _=_
    simp only [Act.put,zqA,zqB,zqC,i64_w,i32_w]
    rfl
   refine zpu 19 (N:=some 22) (zl 29 1048575) HT_.out rfl rfl ?_
   refine zpu 20 (N:=some 23) (zl 29 2097151) HT_.out rfl rfl ?_
   refine pure_ (i:=21) (N:=some 24) (v:=undef) (a' := ?_) (zl 29 4194303) rfl rfl (any_of HT_.out zb8) (fun _ _ _ h=>h) (Or.inr ⟨by rfl,rfl⟩) ?_ ?_
   rotate_left
   ·simp only [Act.put,zqA,zqB,zqC,i64_w,i32_w];rfl
   refine pure_ (i:=22) (N:=some 25) (v:=undef) (a' := ?_) (zl 29 8388607) rfl rfl (any_of HT_.out zb8) (fun _ _ _ h=>h) (Or.inr ⟨by rfl,rfl⟩) ?_ ?_
   rotate_left
   ·simp only [Act.put,zqA,zqB,zqC,i64_w,i32_w];rfl
   refine pure_ (i:=23) (N:=some 26) (v:=undef) (a' := ?_) (zl 29 16777215) rfl rfl (any_of HT_.out zb8) (fun _ _ _ h=>h) (Or.inr ⟨by rfl,rfl⟩) ?_ ?_
   rotate_left
   ·simp only [Act.put,zqA,zqB,zqC,i64_w,i32_w];rfl
   refine pure_ (i:=24) (N:=some 27) (v:=undef) (a' := ?_) (zl 29 33554431) rfl rfl (any_of HT_.out zb8) (fun _ _ _ h=>h) (Or.inr ⟨by rfl,rfl⟩) ?_ ?_
   rotate_left
   ·simp only [Act.put,zqA,zqB,zqC,i64_w,i32_w];rfl
   refine pure_ (i:=25) (N:=some 28) (v:=undef) (a' := ?_) (zl 29 67108863) rfl rfl (any_of HT_.out zb8) (fun _ _ _ h=>h) (Or.inr ⟨by rfl,rfl⟩) ?_ ?_
   rotate_left
   ·simp only [Act.put,zqA,zqB,zqC,i64_w,i32_w];rfl
   refine pure_ (i:=26) (N:=some 29) (v:=undef) (a' := ?_) (zl 29 134217727) rfl rfl (any_of HT_.out zb8) (fun _ _ _ h=>h) (Or.inr ⟨by rfl,rfl⟩) ?_ ?_
   rotate_left
   ·simp only [Act.put,zqA,zqB,zqC,i64_w,i32_w];rfl
   refine zpu 27 (N:=some 30) (zl 29 268435455) HT_.out rfl rfl ?_
   refine zpu 28 (N:=some 2) (zl 29 536870911) HT_.out rfl rfl ?_
   refine done_ (done_of HT_.out zb8) ?_
   try go_wp2
   go_ret
   exact ⟨zb3,zb24⟩
  subst c7
  rw [if_pos rfl] at H
  replace H:=Option.bind_eq_some_iff.mp H
  obtain ⟨t21,A80,H⟩:=H
  try dsimp only at H
  have A8:=Aside0.mk A80
  clear A80
  obtain rfl:=Option.some.inj H
  go_enter Tryd.func30,Tryd.ntmps30
  try go_wp2_with (first|((with_reducible refine gate_dst (N:=1) rfl ?_);(try (refine gate_guard (by rfl) ?_;dsimp only));refine box_event rfl (N:=1) rfl (cs:=#[.string a0_0,.string a0_1]) (t:=48) zS ?_;intro gb20 hg w9 hbox hb;have GW20:=zG hg zb0;have GE20:=GW20;have BK20:=Aside0.mk hbox;replace HB:=Aside0.mk (below_step zb0 hb);clear hb hbox hg))
  replace BK20:=Aside0.mk (blk_drew BK20.out)
  replace HB:=Aside0.mk (below_drew1 HB.out)
  refine start_ (n:=29) (S:=fun w' => w'.cell? ⟨gb20,0,none⟩=some (.string a0_0)∧w'.cell? ⟨gb20,1,none⟩=some (.string a0_1)) (ds:=[]) (zl 29 0) zb8 rfl rfl ⟨(blk_cell BK20.out 0).trans rfl,(blk_cell BK20.out 1).trans rfl⟩ (fun hHeld=>?_);refine with_tabW field_right.tab1 field_right.bits1 (fun HT_ HW_=>?_)
  generalize w9.drew=w10 at BK20 HB hHeld ⊢
  refine zpu 0 (N:=some 3) (zl 29 1) HT_.out rfl rfl ?_
  refine take_ (i:=1) (N:=some 4) (v:=?_) (a' := ?_) (zl 29 3) rfl rfl (take_ofW HT_.out HW_.out zb8) (fun _ _ _ h=>h) (Or.inl ⟨by rfl,?_⟩) hHeld ?_ ?_
  rotate_left
  ·rintro w' ⟨s0,s1⟩;go_simp;with_reducible rfl
  rotate_left
  ·simp only [Act.put,zqA,zqB,zqC,i64_w,i32_w];rfl
  refine zpu 2 (N:=some 5) (zl 29 7) HT_.out rfl rfl ?_
  refine zpu 3 (N:=some 6) (zl 29 15) HT_.out rfl rfl ?_
  refine zpu 4 (N:=some 7) (zl 29 31) HT_.out rfl rfl ?_
  refine zpu 5 (N:=some 8) (zl 29 63) HT_.out rfl rfl ?_
  refine take_ (i:=6) (N:=some 9) (v:=?_) (a' := ?_) (zl 29 127) rfl rfl (take_ofW HT_.out HW_.out zb8) (fun _ _ _ h=>h) (Or.inl ⟨by rfl,?_⟩) hHeld ?_ ?_
  rotate_left
  ·rintro w' ⟨s0,s1⟩;go_simp;with_reducible rfl
  rotate_left
  ·simp only [Act.put,zqA,zqB,zqC,i64_w,i32_w];rfl
  refine one_ (i:=7) (N:=some 10) (zl 29 255) rfl rfl (one_of HT_.out zb8) zb51 (fun K hK=>?_)
  refine goes_ Tryd.func42 zb8 rfl #[.string a0_0] (by rfl) rfl rfl zb1 ?_
  with_reducible refine (sign_Token.calls a0_0 true _ A3.out).mono ?_
  rintro e w' ⟨rfl,⟨nd,rfl⟩⟩
  refine ⟨_,rfl,?_⟩
  refine hK.out _ _ ⟨(blk_cell BK20.out 0).trans rfl,(blk_cell BK20.out 1).trans rfl⟩ (fun hHeld=>?_)
  clear hK K
  refine norm_ (a' := ?_) ?_ ?_
  rotate_left
  ·show Act.put _ (some 10) _=_
   simp only [Act.put,zqA,zqB,zqC,i64_w,i32_w]
   rfl
  refine zpu 8 (N:=some 11) (zl 29 511) HT_.out rfl rfl ?_
  refine zpu 9 (N:=some 12) (zl 29 1023) HT_.out rfl rfl ?_
  refine zpu 10 (N:=some 13) (zl 29 2047) HT_.out rfl rfl ?_
  refine take_ (i:=11) (N:=some 14) (v:=?_) (a' := ?_) (zl 29 4095) rfl rfl (take_ofW HT_.out HW_.out zb8) (fun _ _ _ h=>h) (Or.inl ⟨by rfl,?_⟩) hHeld ?_ ?_
  rotate_left
  ·rintro w' ⟨s0,s1⟩;go_simp;with_reducible rfl
  rotate_left
  ·simp only [Act.put,zqA,zqB,zqC,i64_w,i32_w];rfl
  refine zpu 12 (N:=some 15) (zl 29 8191) HT_.out rfl rfl ?_
  refine zpu 13 (N:=some 16) (zl 29 16383) HT_.out rfl rfl ?_
  refine zpu 14 (N:=some 17) (zl 29 32767) HT_.out rfl rfl ?_
  refine zpu 15 (N:=some 18) (zl 29 65535) HT_.out rfl rfl ?_
  refine zpu 16 (N:=some 19) (zl 29 131071) HT_.out rfl rfl ?_
  refine take_ (i:=17) (N:=some 20) (v:=?_) (a' := ?_) (zl 29 262143) rfl rfl (take_ofW HT_.out HW_.out zb8) (fun _ _ _ h=>h) (Or.inl ⟨by rfl,?_⟩) hHeld ?_ ?_
  rotate_left
  ·rintro w' ⟨s0,s1⟩;go_simp;with_reducible rfl
  rotate_left
  ·simp only [Act.put,zqA,zqB,zqC,i64_w,i32_w];rfl
  refine one_ (i:=18) (N:=some 21) (zl 29 524287) rfl rfl (one_of HT_.out zb8) zb51 (fun K hK=>?_)
  refine goes_ Tryd.func22 zb8 rfl #[.string a0_1] (by rfl) rfl rfl zb1 ?_
  with_reducible refine (sign_Value.calls a0_1 true _ A6.out).mono ?_
  rintro e w' ⟨rfl,⟨nd,rfl⟩⟩
  refine ⟨_,rfl,?_⟩
  refine hK.out _ _ ⟨(blk_cell BK20.out 0).trans rfl,(blk_cell BK20.out 1).trans rfl⟩ (fun hHeld=>?_)
  clear hK K
  refine norm_ (a' := ?_) ?_ ?_
  rotate_left
  ·show Act.put _ (some 21) _=_
   simp only [Act.put,zqA,zqB,zqC,i64_w,i32_w]
   rfl
  refine zpu 19 (N:=some 22) (zl 29 1048575) HT_.out rfl rfl ?_
  refine zpu 20 (N:=some 23) (zl 29 2097151) HT_.out rfl rfl ?_
  refine zpu 21 (N:=some 24) (zl 29 4194303) HT_.out rfl rfl ?_
  refine zpu 24 (N:=some 27) (zl 29 20971519) HT_.out rfl rfl ?_
  refine take_ (i:=22) (N:=some 25) (v:=?_) (a' := ?_) (zl 29 25165823) rfl rfl (take_ofW HT_.out HW_.out zb8) (fun _ _ _ h=>h) (Or.inl ⟨by rfl,?_⟩) hHeld ?_ ?_
  rotate_left
  ·rintro w' ⟨s0,s1⟩;go_simp;with_reducible rfl
  rotate_left
  ·simp only [Act.put,zqA,zqB,zqC,i64_w,i32_w];rfl
  refine take_ (i:=25) (N:=some 28) (v:=?_) (a' := ?_) (zl 29 58720255) rfl rfl (take_ofW HT_.out HW_.out zb8) (fun _ _ _ h=>h) (Or.inl ⟨by rfl,?_⟩) hHeld ?_ ?_
  rotate_left
  ·rintro w' ⟨s0,s1⟩;go_simp;with_reducible rfl
  rotate_left
  ·simp only [Act.put,zqA,zqB,zqC,i64_w,i32_w];rfl
  refine one_ (i:=23) (N:=some 26) (zl 29 67108863) rfl rfl (one_of HT_.out zb8) zb51 (fun K hK=>?_)
  refine goes_ Tryd.func29 zb8 rfl #[.string a0_1] (by rfl) rfl rfl zb1 ?_
  with_reducible refine (sign_Trim.calls a0_1 t21 _ A8.out).mono ?_
  rintro e w11 ⟨rfl,hb⟩
  refine ⟨_,rfl,?_⟩
  replace BK20:=Aside0.mk (blk_below (g:=gb20) (o:=.cells #[.string a0_0,.string a0_1] 48 (0,0)) (by (with_reducible repeat (first|refine blk_drewN ?_ _|refine blk_drew ?_|refine blk_alloc ?_ _));exact BK20.out) hb)
  replace HB:=Aside0.mk (below_step zb24 hb)
  (try clear hb)
  (try clear hb2)
  (try clear hk)
  (try clear hi)
  refine hK.out _ _ ⟨(blk_cell BK20.out 0).trans rfl,(blk_cell BK20.out 1).trans rfl⟩ (fun hHeld=>?_)
  clear hK K
  refine norm_ (a' := ?_) ?_ ?_
  rotate_left
  ·show Act.put _ (some 26) _=_
   simp only [Act.put,zqA,zqB,zqC,i64_w,i32_w]
   rfl
  refine zpu 26 (N:=some 29) (zl 29 134217727) HT_.out rfl rfl ?_
  refine zpu 27 (N:=some 30) (zl 29 268435455) HT_.out rfl rfl ?_
  refine zpu 28 (N:=some 2) (zl 29 536870911) HT_.out rfl rfl ?_
  refine done_ (done_of HT_.out zb8) ?_
  try go_wp2
  go_ret
  exact ⟨zb3,zb24⟩
 ·rw [if_neg c5] at H
  have c5b0:=decide_eq_false c5
  have c5b1:decide (a0_1.size ≤ 1000)=false:=decide_eq_false zb26
  clear c5
  obtain rfl:=Option.some.inj H
  go_enter Tryd.func30,Tryd.ntmps30
  try go_wp2_with (first|((with_reducible refine gate_dst (N:=1) rfl ?_);(try (refine gate_guard (by rfl) ?_;dsimp only));refine box_event rfl (N:=1) rfl (cs:=#[.string a0_0,.string a0_1]) (t:=48) zS ?_;intro gb20 hg w14 hbox hb;have GW20:=zG hg zb0;have GE20:=GW20;have BK20:=Aside0.mk hbox;replace HB:=Aside0.mk (below_step zb0 hb);clear hb hbox hg))
  replace BK20:=Aside0.mk (blk_drew BK20.out)
  replace HB:=Aside0.mk (below_drew1 HB.out)
  refine start_ (n:=29) (S:=fun w' => w'.cell? ⟨gb20,0,none⟩=some (.string a0_0)∧w'.cell? ⟨gb20,1,none⟩=some (.string a0_1)) (ds:=[]) (zl 29 0) zb8 rfl rfl ⟨(blk_cell BK20.out 0).trans rfl,(blk_cell BK20.out 1).trans rfl⟩ (fun hHeld=>?_);refine with_tabW field_right.tab1 field_right.bits1 (fun HT_ HW_=>?_)
  generalize w14.drew=w15 at BK20 HB hHeld ⊢
  refine zpu 0 (N:=some 3) (zl 29 1) HT_.out rfl rfl ?_
  refine take_ (i:=1) (N:=some 4) (v:=?_) (a' := ?_) (zl 29 3) rfl rfl (take_ofW HT_.out HW_.out zb8) (fun _ _ _ h=>h) (Or.inl ⟨by rfl,?_⟩) hHeld ?_ ?_
  rotate_left
  ·rintro w' ⟨s0,s1⟩;go_simp;with_reducible rfl
  rotate_left
  ·simp only [Act.put,zqA,zqB,zqC,i64_w,i32_w];rfl
  refine zpu 2 (N:=some 5) (zl 29 7) HT_.out rfl rfl ?_
  refine zpu 3 (N:=some 6) (zl 29 15) HT_.out rfl rfl ?_
  refine zpu 4 (N:=some 7) (zl 29 31) HT_.out rfl rfl ?_
  refine zpu 5 (N:=some 8) (zl 29 63) HT_.out rfl rfl ?_
  refine take_ (i:=6) (N:=some 9) (v:=?_) (a' := ?_) (zl 29 127) rfl rfl (take_ofW HT_.out HW_.out zb8) (fun _ _ _ h=>h) (Or.inl ⟨by rfl,?_⟩) hHeld ?_ ?_
  rotate_left
  ·rintro w' ⟨s0,s1⟩;go_simp;with_reducible rfl
  rotate_left
  ·simp only [Act.put,zqA,zqB,zqC,i64_w,i32_w];rfl
  refine one_ (i:=7) (N:=some 10) (zl 29 255) rfl rfl (one_of HT_.out zb8) zb51 (fun K hK=>?_)
  refine goes_ Tryd.func42 zb8 rfl #[.string a0_0] (by rfl) rfl rfl zb1 ?_
  with_reducible refine (sign_Token.calls a0_0 true _ A3.out).mono ?_
  rintro e w' ⟨rfl,⟨nd,rfl⟩⟩
  refine ⟨_,rfl,?_⟩
  refine hK.out _ _ ⟨(blk_cell BK20.out 0).trans rfl,(blk_cell BK20.out 1).trans rfl⟩ (fun hHeld=>?_)
  clear hK K
  refine norm_ (a' := ?_) ?_ ?_
  rotate_left
  ·show Act.put _ (some 10) _=_
   simp only [Act.put,zqA,zqB,zqC,i64_w,i32_w]
   rfl
  refine zpu 8 (N:=some 11) (zl 29 511) HT_.out rfl rfl ?_
  refine zpu 9 (N:=some 12) (zl 29 1023) HT_.out rfl rfl ?_
  refine zpu 10 (N:=some 13) (zl 29 2047) HT_.out rfl rfl ?_
  refine take_ (i:=11) (N:=some 14) (v:=?_) (a' := ?_) (zl 29 4095) rfl rfl (take_ofW HT_.out HW_.out zb8) (fun _ _ _ h=>h) (Or.inl ⟨by rfl,?_⟩) hHeld ?_ ?_
  rotate_left
  ·rintro w' ⟨s0,s1⟩;go_simp;with_reducible rfl
  rotate_left
  ·simp only [Act.put,zqA,zqB,zqC,i64_w,i32_w];rfl
  refine zpu 12 (N:=some 15) (zl 29 8191) HT_.out rfl rfl ?_
  refine zpu 13 (N:=some 16) (zl 29 16383) HT_.out rfl rfl ?_
  refine zpu 14 (N:=some 17) (zl 29 32767) HT_.out rfl rfl ?_
  refine zpu 15 (N:=some 18) (zl 29 65535) HT_.out rfl rfl ?_
  refine pure_ (i:=16) (N:=some 19) (v:=undef) (a' := ?_) (zl 29 131071) rfl rfl (any_of HT_.out zb8) (fun _ _ _ h=>h) (Or.inr ⟨by rfl,rfl⟩) ?_ ?_
  rotate_left
  ·simp only [Act.put,zqA,zqB,zqC,i64_w,i32_w];rfl
  refine pure_ (i:=17) (N:=some 20) (v:=undef) (a' := ?_) (zl 29 262143) rfl rfl (any_of HT_.out zb8) (fun _ _ _ h=>h) (Or.inr ⟨by rfl,rfl⟩) ?_ ?_
  rotate_left
  ·simp only [Act.put,zqA,zqB,zqC,i64_w,i32_w];rfl
  refine pure_ (i:=18) (N:=some 21) (v:=undef) (a' := ?_) (zl 29 524287) rfl rfl (any_of HT_.out zb8) (fun _ _ _ h=>h) (Or.inr ⟨by rfl,rfl⟩) ?_ ?_
  rotate_left
  ·simp only [Act.put,zqA,zqB,zqC,i64_w,i32_w];rfl
  refine zpu 19 (N:=some 22) (zl 29 1048575) HT_.out rfl rfl ?_
  refine zpu 20 (N:=some 23) (zl 29 2097151) HT_.out rfl rfl ?_
  refine pure_ (i:=21) (N:=some 24) (v:=undef) (a' := ?_) (zl 29 4194303) rfl rfl (any_of HT_.out zb8) (fun _ _ _ h=>h) (Or.inr ⟨by rfl,rfl⟩) ?_ ?_
  rotate_left
  ·simp only [Act.put,zqA,zqB,zqC,i64_w,i32_w];rfl
  refine pure_ (i:=22) (N:=some 25) (v:=undef) (a' := ?_) (zl 29 8388607) rfl rfl (any_of HT_.out zb8) (fun _ _ _ h=>h) (Or.inr ⟨by rfl,rfl⟩) ?_ ?_
  rotate_left
  ·simp only [Act.put,zqA,zqB,zqC,i64_w,i32_w];rfl
  refine pure_ (i:=23) (N:=some 26) (v:=undef) (a' := ?_) (zl 29 16777215) rfl rfl (any_of HT_.out zb8) (fun _ _ _ h=>h) (Or.inr ⟨by rfl,rfl⟩) ?_ ?_
  rotate_left
  ·simp only [Act.put,zqA,zqB,zqC,i64_w,i32_w];rfl
  refine pure_ (i:=24) (N:=some 27) (v:=undef) (a' := ?_) (zl 29 33554431) rfl rfl (any_of HT_.out zb8) (fun _ _ _ h=>h) (Or.inr ⟨by rfl,rfl⟩) ?_ ?_
  rotate_left
  ·simp only [Act.put,zqA,zqB,zqC,i64_w,i32_w];rfl
  refine pure_ (i:=25) (N:=some 28) (v:=undef) (a' := ?_) (zl 29 67108863) rfl rfl (any_of HT_.out zb8) (fun _ _ _ h=>h) (Or.inr ⟨by rfl,rfl⟩) ?_ ?_
  rotate_left
  ·simp only [Act.put,zqA,zqB,zqC,i64_w,i32_w];rfl
  refine pure_ (i:=26) (N:=some 29) (v:=undef) (a' := ?_) (zl 29 134217727) rfl rfl (any_of HT_.out zb8) (fun _ _ _ h=>h) (Or.inr ⟨by rfl,rfl⟩) ?_ ?_
  rotate_left
  ·simp only [Act.put,zqA,zqB,zqC,i64_w,i32_w];rfl
  refine zpu 27 (N:=some 30) (zl 29 268435455) HT_.out rfl rfl ?_
  refine zpu 28 (N:=some 2) (zl 29 536870911) HT_.out rfl rfl ?_
  refine done_ (done_of HT_.out zb8) ?_
  try go_wp2
  go_ret
  exact ⟨zb3,zb24⟩
/-- At a text of one byte alone. -/
def stringslite_Index.f (a0 a1:ByteArray):Option Int:=match a1.data.toList with
 | [c]=>some (Lib.indexByte a0.data.toList c)
 | _=>none
theorem stringslite_Index.calls (a0 a1:ByteArray) (r:Int) (w:World) (h:stringslite_Index.f a0 a1=some r) :
 Calls Tryd.prog 43 #[.string a0,.string a1] w fun e w' => e = .returned (.int .i64 r)∧Drawn0 w w' := by
 obtain ⟨⟨l⟩⟩:=a1
 unfold stringslite_Index.f at h
 split at h
 ·rename_i c hc
  obtain rfl:l=[c]:=hc
  obtain rfl:=Option.some.inj h
  refine (Tryd.stringslite_Index_one a0 c w).mono ?_
  rintro e w' ⟨rfl,rfl⟩
  exact ⟨rfl,Drawn0.refl _⟩
 cases h
def stringslite_Cut.f (a0:ByteArray) (a1:ByteArray):Option (ByteArray × ByteArray × Bool):=(stringslite_Index.f a0 a1).bind fun t103=>(if t103 ≥ 0 then (if 0 ≤ t103 then (if t103 ≤ (a0.size:Int) then (if 0 ≤ (wrap64 (t103 + (a1.size:Int))) then (if (wrap64 (t103 + (a1.size:Int))) ≤ (a0.size:Int) then (some (a0.extract 0 (t103:Int).toNat,a0.extract ((wrap64 (t103 + (a1.size:Int))):Int).toNat a0.size,true)) else (none)) else (none)) else (none)) else (none)) else (some (a0,(⟨#[]⟩:ByteArray),false)))
set_option maxHeartbeats 8000000 in
set_option maxRecDepth 100000 in
theorem stringslite_Cut.calls (a0:ByteArray) (a1:ByteArray) (r1:ByteArray) (r2:ByteArray) (r3:Bool) (w:World) (h:stringslite_Cut.f a0 a1=some (r1,r2,r3)) :
 Calls Tryd.prog 31 #[.string a0,.string a1] w fun e w' => e = .returned (.tuple #[.string r1,.string r2,.bool r3])∧Drawn0 w w' := by
 unfold stringslite_Cut.f at h
 have H:=h
 clear h
 replace H:=Option.bind_eq_some_iff.mp H
 obtain ⟨t103,A30,H⟩:=H
 try dsimp only at H
 have A3:=Aside0.mk A30
 clear A30
 by_cases c4:t103 ≥ 0;rotate_left
 ·rw [if_neg c4] at H
  have c4b0:decide (0 ≤ t103)=false:=decide_eq_false c4
  clear c4
  simp only [Option.some.injEq,Prod.mk.injEq] at H
  obtain ⟨rfl,rfl,rfl⟩:=H
  go_enter Tryd.func31,Tryd.ntmps31
  go_wp2_with (first|(go_at_call 43;(with_reducible refine (stringslite_Index.calls a0 a1 t103 _ A3.out).mono ?_);rintro e w' ⟨rfl,⟨nd,rfl⟩⟩;(try clear A3);(try first|exact ⟨rfl,_,World.drewN_drewN _ _ _⟩|exact ⟨rfl,_,Eq.trans (World.drewN_drewN _ _ _) (congrArg (World.drewN _) (Nat.add_assoc _ _ _))⟩)))
  repeat (go_quiet (first|(go_at_call 43;(with_reducible refine (stringslite_Index.calls a0 a1 t103 _ A3.out).mono ?_);rintro e w' ⟨rfl,⟨nd,rfl⟩⟩;(try clear A3);(try first|exact ⟨rfl,_,World.drewN_drewN _ _ _⟩|exact ⟨rfl,_,Eq.trans (World.drewN_drewN _ _ _) (congrArg (World.drewN _) (Nat.add_assoc _ _ _))⟩)));try go_wp2_with (first|(go_at_call 43;(with_reducible refine (stringslite_Index.calls a0 a1 t103 _ A3.out).mono ?_);rintro e w' ⟨rfl,⟨nd,rfl⟩⟩;(try clear A3);(try first|exact ⟨rfl,_,World.drewN_drewN _ _ _⟩|exact ⟨rfl,_,Eq.trans (World.drewN_drewN _ _ _) (congrArg (World.drewN _) (Nat.add_assoc _ _ _))⟩))))
  go_ret3
  exact ⟨zb6,zb13⟩
 rw [if_pos c4] at H
 have c4b0:decide (0 ≤ t103)=true:=decide_eq_true c4
 clear c4
 by_cases c5:0 ≤ t103
 ·rw [if_pos c5] at H
  have c5b0:=eq_true c5
  have c5b1:=decide_eq_true c5
  clear c5
  by_cases c6:t103 ≤ (a0.size:Int)
  ·rw [if_pos c6] at H
   have c6b0:=eq_true c6
   have c6b1:=decide_eq_true c6
   clear c6
   obtain ⟨ji7,hji7⟩ : ∃ j_:Int,(wrap64 (t103 + (a1.size:Int)))=j_:=⟨_,rfl⟩
   replace H:(if 0 ≤ (ji7) then (if (ji7) ≤ (a0.size:Int) then (some (a0.extract 0 (t103:Int).toNat,a0.extract ((ji7):Int).toNat a0.size,true)) else (none)) else (none))=some (r1,r2,r3):=by first|(rw [hji7] at H;exact H)|(simp only [hji7] at H ⊢;exact H)
   (try rw [hji7] at A3)
   have hji7w:(IntKind.i64.wrap (t103 + (a1.size:Int)))=ji7:=(i64_w _).trans hji7
   by_cases c8:0 ≤ (ji7)
   ·rw [if_pos c8] at H
    have c8b0:=eq_true c8
    have c8b1:=decide_eq_true c8
    clear c8
    by_cases c9:(ji7) ≤ (a0.size:Int)
    ·rw [if_pos c9] at H
     have c9b0:=eq_true c9
     have c9b1:=decide_eq_true c9
     clear c9
     simp only [Option.some.injEq,Prod.mk.injEq] at H
     obtain ⟨rfl,rfl,rfl⟩:=H
     go_enter Tryd.func31,Tryd.ntmps31
     go_wp2_with (first|(go_at_call 43;(with_reducible refine (stringslite_Index.calls a0 a1 t103 _ A3.out).mono ?_);rintro e w' ⟨rfl,⟨nd,rfl⟩⟩;(try clear A3);(try first|exact ⟨rfl,_,World.drewN_drewN _ _ _⟩|exact ⟨rfl,_,Eq.trans (World.drewN_drewN _ _ _) (congrArg (World.drewN _) (Nat.add_assoc _ _ _))⟩)))
     repeat (go_quiet (first|(go_at_call 43;(with_reducible refine (stringslite_Index.calls a0 a1 t103 _ A3.out).mono ?_);rintro e w' ⟨rfl,⟨nd,rfl⟩⟩;(try clear A3);(try first|exact ⟨rfl,_,World.drewN_drewN _ _ _⟩|exact ⟨rfl,_,Eq.trans (World.drewN_drewN _ _ _) (congrArg (World.drewN _) (Nat.add_assoc _ _ _))⟩)));try go_wp2_with (first|(go_at_call 43;(with_reducible refine (stringslite_Index.calls a0 a1 t103 _ A3.out).mono ?_);rintro e w' ⟨rfl,⟨nd,rfl⟩⟩;(try clear A3);(try first|exact ⟨rfl,_,World.drewN_drewN _ _ _⟩|exact ⟨rfl,_,Eq.trans (World.drewN_drewN _ _ _) (congrArg (World.drewN _) (Nat.add_assoc _ _ _))⟩))))
     go_ret3
     exact ⟨by first|rfl|(simp;done)|(simp only [← hji7] <;> (first|rfl|simp))|(simp [*];done),zb13⟩
    ·rw [if_neg c9] at H
     exact absurd H zb30
   ·rw [if_neg c8] at H
    exact absurd H zb30
  ·rw [if_neg c6] at H
   exact absurd H zb30
 ·rw [if_neg c5] at H
  exact absurd H zb30
def strings_Cut.f (a0:ByteArray) (a1:ByteArray):Option (ByteArray × ByteArray × Bool):=(stringslite_Cut.f a0 a1).bind fun bt104=>(some (bt104.1,bt104.2.1,bt104.2.2))
set_option maxHeartbeats 8000000 in
set_option maxRecDepth 100000 in
theorem strings_Cut.calls (a0:ByteArray) (a1:ByteArray) (r1:ByteArray) (r2:ByteArray) (r3:Bool) (w:World) (h:strings_Cut.f a0 a1=some (r1,r2,r3)) :
 Calls Tryd.prog 18 #[.string a0,.string a1] w fun e w' => e = .returned (.tuple #[.string r1,.string r2,.bool r3])∧Drawn0 w w' := by
 unfold strings_Cut.f at h
 have H:=h
 clear h
 replace H:=Option.bind_eq_some_iff.mp H
 obtain ⟨⟨t104,t105,t106⟩,A30,H⟩:=H
 try dsimp only at H
 have A3:=Aside0.mk A30
 clear A30
 simp only [Option.some.injEq,Prod.mk.injEq] at H
 obtain ⟨rfl,rfl,rfl⟩:=H
 go_enter Tryd.func18,Tryd.ntmps18
 go_wp2_with (first|((with_reducible refine gate_callee (f:=31) rfl ?_);refine goesL_ (some 9) rfl rfl Tryd.func31 zb8 rfl #[.string a0,.string a1] rfl zb1 ?_;(with_reducible refine (stringslite_Cut.calls a0 a1 t104 t105 t106 _ A3.out).mono ?_);rintro e w' ⟨rfl,⟨nd,rfl⟩⟩;(try clear A3);refine ⟨_,rfl,?_⟩))
 go_ret3
 exact ⟨zb6,zb13⟩
def field_Parse.f (a0:ByteArray):Option (ByteArray × ByteArray × Int):=(strings_Cut.f a0 (⟨#[58]⟩:ByteArray)).bind fun bt139=>((sign_Trim.f bt139.2.1).bind fun t142=>(if bt139.2.2=true then ((field_right.f bt139.1 t142).bind fun t144=>(if t144=true then (some (bt139.1,t142,0)) else (some ((⟨#[]⟩:ByteArray),(⟨#[]⟩:ByteArray),20)))) else (some ((⟨#[]⟩:ByteArray),(⟨#[]⟩:ByteArray),20))))
set_option maxHeartbeats 8000000 in
set_option maxRecDepth 100000 in
theorem field_Parse.calls (a0:ByteArray) (r1:ByteArray) (r2:ByteArray) (r3:Int) (w:World) (h:field_Parse.f a0=some (r1,r2,r3)) :
 Calls Tryd.prog 17 #[.string a0] w fun e w' => e = .returned (.tuple #[.agg #[.string r1,.string r2],.int .i64 r3])∧Below w.heap.size w w' := by
 have hu48:=Tryd.underlying48
 have HB:=Aside0.mk (Below.refl w.heap.size w)
 unfold field_Parse.f at h
 have H:=h
 clear h
 replace H:=Option.bind_eq_some_iff.mp H
 obtain ⟨⟨t32,t34,t36⟩,A20,H⟩:=H
 try dsimp only at H
 have A2:=Aside0.mk A20
 clear A20
 replace H:=Option.bind_eq_some_iff.mp H
 obtain ⟨t33,A30,H⟩:=H
 try dsimp only at H
 have A3:=Aside0.mk A30
 clear A30
 by_cases c4:t36=true;rotate_left
 ·replace c4:=Bool.eq_false_iff.mpr c4
  subst c4
  rw [if_neg (show ¬ (false=true) by decide)] at H
  simp only [Option.some.injEq,Prod.mk.injEq] at H
  obtain ⟨rfl,rfl,rfl⟩:=H
  go_enter Tryd.func17,Tryd.ntmps17
  go_wp2_with (first|((with_reducible refine gate_dst (N:=2) rfl ?_);refine box_event rfl (N:=2) rfl (cs:=#[.string (⟨#[]⟩:ByteArray),.string (⟨#[]⟩:ByteArray)]) (t:=48) zS ?_;intro gb28 hg w22 hbox hb;have GW28:=zG hg zb0;have GE28:=GW28;have BK28:=Aside0.mk hbox;replace HB:=Aside0.mk (below_step zb0 hb);clear hb hbox hg)|((with_reducible refine gate_callee (f:=18) rfl ?_);refine goesL_ (some 10) rfl rfl Tryd.func18 zb8 rfl #[.string a0,.string (⟨#[58]⟩:ByteArray)] rfl zb1 ?_;(with_reducible refine (strings_Cut.calls a0 (⟨#[58]⟩:ByteArray) t32 t34 false _ A2.out).mono ?_);rintro e w' ⟨rfl,⟨nd,rfl⟩⟩;(try clear A2);refine ⟨_,rfl,?_⟩;(try (rw [drewN_self w22];generalize hq_:World.drewN w22 _=w22;have n0_:Aside0 (w22.heap[gb28]? = some (.cells #[.string (⟨#[]⟩:ByteArray),.string (⟨#[]⟩:ByteArray)] 48 (0,0))):=⟨zb39⟩;have n1_:Aside0 (Below w.heap.size w w22):=⟨zb33⟩;clear BK28 HB hq_;have BK28:=n0_;have HB:=n1_;clear n0_ n1_)))|((with_reducible refine gate_callee (f:=29) rfl ?_);refine goesL_ (some 16) rfl rfl Tryd.func29 zb8 rfl #[.string t34] rfl zb1 ?_;(with_reducible refine (sign_Trim.calls t34 t33 _ A3.out).mono ?_);rintro e w23 ⟨rfl,hb⟩;(try clear A3);refine ⟨_,rfl,?_⟩;replace BK28:=Aside0.mk (blk_below (g:=gb28) (o:=.cells #[.string (⟨#[]⟩:ByteArray),.string (⟨#[]⟩:ByteArray)] 48 (0,0)) zb17 hb);replace HB:=Aside0.mk (below_step zb16 hb);(try clear hb))|((with_reducible refine gate_dst (N:=7) rfl ?_);refine box_event rfl (N:=7) rfl (cs:=#[.string (⟨#[]⟩:ByteArray),.string (⟨#[]⟩:ByteArray)]) (t:=48) zS ?_;intro gb31 hg w24 hbox hb;have BK31:=Aside0.mk (hbox);have GW31:=zG hg zb16;have GE31:=GW31;replace HB:=Aside0.mk (below_step zb16 hb);have NB28_143:=Aside0.mk ((by rw [hg];exact Nat.ne_of_lt (blk_lt (g:=gb28) (o:=.cells #[.string (⟨#[]⟩:ByteArray),.string (⟨#[]⟩:ByteArray)] 48 (0,0)) zb17):gb28 ≠ gb31));have NB31_138:=Aside0.mk ((by rw [hg];exact Nat.ne_of_gt (blk_lt (g:=gb28) (o:=.cells #[.string (⟨#[]⟩:ByteArray),.string (⟨#[]⟩:ByteArray)] 48 (0,0)) zb17):gb31 ≠ gb28));replace BK28:=Aside0.mk (blk_below (g:=gb28) (o:=.cells #[.string (⟨#[]⟩:ByteArray),.string (⟨#[]⟩:ByteArray)] 48 (0,0)) zb17 hb);clear hb hbox hg;have hnb25:=NB31_138.out;have hnc25:=NB28_143.out;obtain ⟨hcz26_0,hcz26_1,hfz26_0,hfz26_1⟩:=zq2 BK31.out;obtain ⟨hcz27_0,hcz27_1,hfz27_0,hfz27_1⟩:=zq2 BK28.out))
  refine bodyPost_ret (results_ct rfl _ _ gb28 48 #[.string (⟨#[]⟩:ByteArray),.string (⟨#[]⟩:ByteArray)] (0,0) _ rfl (by (with_reducible repeat (first|refine blk_drewN ?_ _|refine blk_drew ?_|refine blk_alloc ?_ _));refine blk_put (cs:=#[.string (⟨#[]⟩:ByteArray),.string (⟨#[]⟩:ByteArray)]) ?_ 1 _ rfl;(with_reducible repeat (first|refine blk_drewN ?_ _|refine blk_drew ?_|refine blk_alloc ?_ _));refine blk_put (cs:=#[.string (⟨#[]⟩:ByteArray),.string (⟨#[]⟩:ByteArray)]) ?_ 0 _ rfl;(with_reducible repeat (first|refine blk_drewN ?_ _|refine blk_drew ?_|refine blk_alloc ?_ _));refine blk_far ?_ NB28_143.out _;(with_reducible repeat (first|refine blk_drewN ?_ _|refine blk_drew ?_|refine blk_alloc ?_ _));refine blk_far ?_ NB28_143.out _;(with_reducible repeat (first|refine blk_drewN ?_ _|refine blk_drew ?_|refine blk_alloc ?_ _));exact BK28.out) Tryd.underlying48 rfl zb8) rfl ?_
  exact ⟨zb3,zb25⟩
 subst c4
 rw [if_pos rfl] at H
 replace H:=Option.bind_eq_some_iff.mp H
 obtain ⟨t35,A50,H⟩:=H
 try dsimp only at H
 have A5:=Aside0.mk A50
 clear A50
 by_cases c6:t35=true
 ·subst c6
  rw [if_pos rfl] at H
  simp only [Option.some.injEq,Prod.mk.injEq] at H
  obtain ⟨rfl,rfl,rfl⟩:=H
  go_enter Tryd.func17,Tryd.ntmps17
  go_wp2_with (first|((with_reducible refine gate_dst (N:=2) rfl ?_);refine box_event rfl (N:=2) rfl (cs:=#[.string (⟨#[]⟩:ByteArray),.string (⟨#[]⟩:ByteArray)]) (t:=48) zS ?_;intro gb28 hg w7 hbox hb;have GW28:=zG hg zb0;have GE28:=GW28;have BK28:=Aside0.mk hbox;replace HB:=Aside0.mk (below_step zb0 hb);clear hb hbox hg)|((with_reducible refine gate_callee (f:=18) rfl ?_);refine goesL_ (some 10) rfl rfl Tryd.func18 zb8 rfl #[.string a0,.string (⟨#[58]⟩:ByteArray)] rfl zb1 ?_;(with_reducible refine (strings_Cut.calls a0 (⟨#[58]⟩:ByteArray) t32 t34 true _ A2.out).mono ?_);rintro e w' ⟨rfl,⟨nd,rfl⟩⟩;(try clear A2);refine ⟨_,rfl,?_⟩;(try (rw [drewN_self w7];generalize hq_:World.drewN w7 _=w7;have n0_:Aside0 (w7.heap[gb28]? = some (.cells #[.string (⟨#[]⟩:ByteArray),.string (⟨#[]⟩:ByteArray)] 48 (0,0))):=⟨zb39⟩;have n1_:Aside0 (Below w.heap.size w w7):=⟨zb33⟩;clear BK28 HB hq_;have BK28:=n0_;have HB:=n1_;clear n0_ n1_)))|((with_reducible refine gate_callee (f:=29) rfl ?_);refine goesL_ (some 16) rfl rfl Tryd.func29 zb8 rfl #[.string t34] rfl zb1 ?_;(with_reducible refine (sign_Trim.calls t34 t33 _ A3.out).mono ?_);rintro e w8 ⟨rfl,hb⟩;(try clear A3);refine ⟨_,rfl,?_⟩;replace BK28:=Aside0.mk (blk_below (g:=gb28) (o:=.cells #[.string (⟨#[]⟩:ByteArray),.string (⟨#[]⟩:ByteArray)] 48 (0,0)) zb17 hb);replace HB:=Aside0.mk (below_step zb16 hb);(try clear hb))|((with_reducible refine gate_dst (N:=7) rfl ?_);refine box_event rfl (N:=7) rfl (cs:=#[.string (⟨#[]⟩:ByteArray),.string (⟨#[]⟩:ByteArray)]) (t:=48) zS ?_;intro gb31 hg w9 hbox hb;have BK31:=Aside0.mk (hbox);have GW31:=zG hg zb16;have GE31:=GW31;replace HB:=Aside0.mk (below_step zb16 hb);have NB28_143:=Aside0.mk ((by rw [hg];exact Nat.ne_of_lt (blk_lt (g:=gb28) (o:=.cells #[.string (⟨#[]⟩:ByteArray),.string (⟨#[]⟩:ByteArray)] 48 (0,0)) zb17):gb28 ≠ gb31));have NB31_138:=Aside0.mk ((by rw [hg];exact Nat.ne_of_gt (blk_lt (g:=gb28) (o:=.cells #[.string (⟨#[]⟩:ByteArray),.string (⟨#[]⟩:ByteArray)] 48 (0,0)) zb17):gb31 ≠ gb28));replace BK28:=Aside0.mk (blk_below (g:=gb28) (o:=.cells #[.string (⟨#[]⟩:ByteArray),.string (⟨#[]⟩:ByteArray)] 48 (0,0)) zb17 hb);clear hb hbox hg;have hnb10:=NB31_138.out;have hnc10:=NB28_143.out;obtain ⟨hcz11_0,hcz11_1,hfz11_0,hfz11_1⟩:=zq2 BK31.out)|(go_at_call 30;(with_reducible refine (field_right.calls t32 t33 true _ A5.out).mono ?_);rintro e w12 ⟨rfl,hb⟩;(try clear A5);replace BK28:=Aside0.mk (blk_below (g:=gb28) (o:=.cells #[.string (⟨#[]⟩:ByteArray),.string (⟨#[]⟩:ByteArray)] 48 (0,0)) zb28 hb);replace BK31:=Aside0.mk (blk_below (g:=gb31) (o:=.cells #[.string t32,.string t33] 48 (0,0)) zb22 hb);replace HB:=Aside0.mk (below_step zb25 hb);(try clear hb);obtain ⟨hcz13_0,hcz13_1,hfz13_0,hfz13_1⟩:=zq2 BK31.out;obtain ⟨hcz14_0,hcz14_1,hfz14_0,hfz14_1⟩:=zq2 BK28.out))
  refine bodyPost_ret (results_ct rfl _ _ gb28 48 #[.string t32,.string t33] (0,0) _ rfl (by (with_reducible repeat (first|refine blk_drewN ?_ _|refine blk_drew ?_|refine blk_alloc ?_ _));refine blk_put (cs:=#[.string t32,.string (⟨#[]⟩:ByteArray)]) ?_ 1 _ rfl;(with_reducible repeat (first|refine blk_drewN ?_ _|refine blk_drew ?_|refine blk_alloc ?_ _));refine blk_put (cs:=#[.string (⟨#[]⟩:ByteArray),.string (⟨#[]⟩:ByteArray)]) ?_ 0 _ rfl;(with_reducible repeat (first|refine blk_drewN ?_ _|refine blk_drew ?_|refine blk_alloc ?_ _));exact BK28.out) Tryd.underlying48 rfl zb8) rfl ?_
  exact ⟨zb3,zb25⟩
 ·replace c6:=Bool.eq_false_iff.mpr c6
  subst c6
  rw [if_neg (show ¬ (false=true) by decide)] at H
  simp only [Option.some.injEq,Prod.mk.injEq] at H
  obtain ⟨rfl,rfl,rfl⟩:=H
  go_enter Tryd.func17,Tryd.ntmps17
  go_wp2_with (first|((with_reducible refine gate_dst (N:=2) rfl ?_);refine box_event rfl (N:=2) rfl (cs:=#[.string (⟨#[]⟩:ByteArray),.string (⟨#[]⟩:ByteArray)]) (t:=48) zS ?_;intro gb28 hg w15 hbox hb;have GW28:=zG hg zb0;have GE28:=GW28;have BK28:=Aside0.mk hbox;replace HB:=Aside0.mk (below_step zb0 hb);clear hb hbox hg)|((with_reducible refine gate_callee (f:=18) rfl ?_);refine goesL_ (some 10) rfl rfl Tryd.func18 zb8 rfl #[.string a0,.string (⟨#[58]⟩:ByteArray)] rfl zb1 ?_;(with_reducible refine (strings_Cut.calls a0 (⟨#[58]⟩:ByteArray) t32 t34 true _ A2.out).mono ?_);rintro e w' ⟨rfl,⟨nd,rfl⟩⟩;(try clear A2);refine ⟨_,rfl,?_⟩;(try (rw [drewN_self w15];generalize hq_:World.drewN w15 _=w15;have n0_:Aside0 (w15.heap[gb28]? = some (.cells #[.string (⟨#[]⟩:ByteArray),.string (⟨#[]⟩:ByteArray)] 48 (0,0))):=⟨zb39⟩;have n1_:Aside0 (Below w.heap.size w w15):=⟨zb33⟩;clear BK28 HB hq_;have BK28:=n0_;have HB:=n1_;clear n0_ n1_)))|((with_reducible refine gate_callee (f:=29) rfl ?_);refine goesL_ (some 16) rfl rfl Tryd.func29 zb8 rfl #[.string t34] rfl zb1 ?_;(with_reducible refine (sign_Trim.calls t34 t33 _ A3.out).mono ?_);rintro e w16 ⟨rfl,hb⟩;(try clear A3);refine ⟨_,rfl,?_⟩;replace BK28:=Aside0.mk (blk_below (g:=gb28) (o:=.cells #[.string (⟨#[]⟩:ByteArray),.string (⟨#[]⟩:ByteArray)] 48 (0,0)) zb17 hb);replace HB:=Aside0.mk (below_step zb16 hb);(try clear hb))|((with_reducible refine gate_dst (N:=7) rfl ?_);refine box_event rfl (N:=7) rfl (cs:=#[.string (⟨#[]⟩:ByteArray),.string (⟨#[]⟩:ByteArray)]) (t:=48) zS ?_;intro gb31 hg w17 hbox hb;have BK31:=Aside0.mk (hbox);have GW31:=zG hg zb16;have GE31:=GW31;replace HB:=Aside0.mk (below_step zb16 hb);have NB28_143:=Aside0.mk ((by rw [hg];exact Nat.ne_of_lt (blk_lt (g:=gb28) (o:=.cells #[.string (⟨#[]⟩:ByteArray),.string (⟨#[]⟩:ByteArray)] 48 (0,0)) zb17):gb28 ≠ gb31));have NB31_138:=Aside0.mk ((by rw [hg];exact Nat.ne_of_gt (blk_lt (g:=gb28) (o:=.cells #[.string (⟨#[]⟩:ByteArray),.string (⟨#[]⟩:ByteArray)] 48 (0,0)) zb17):gb31 ≠ gb28));replace BK28:=Aside0.mk (blk_below (g:=gb28) (o:=.cells #[.string (⟨#[]⟩:ByteArray),.string (⟨#[]⟩:ByteArray)] 48 (0,0)) zb17 hb);clear hb hbox hg;have hnb18:=NB31_138.out;have hnc18:=NB28_143.out;obtain ⟨hcz19_0,hcz19_1,hfz19_0,hfz19_1⟩:=zq2 BK31.out)|(go_at_call 30;(with_reducible refine (field_right.calls t32 t33 false _ A5.out).mono ?_);rintro e w20 ⟨rfl,hb⟩;(try clear A5);replace BK28:=Aside0.mk (blk_below (g:=gb28) (o:=.cells #[.string (⟨#[]⟩:ByteArray),.string (⟨#[]⟩:ByteArray)] 48 (0,0)) zb28 hb);replace BK31:=Aside0.mk (blk_below (g:=gb31) (o:=.cells #[.string t32,.string t33] 48 (0,0)) zb22 hb);replace HB:=Aside0.mk (below_step zb25 hb);(try clear hb);obtain ⟨hcz21_0,hcz21_1,hfz21_0,hfz21_1⟩:=zq2 BK28.out))
  refine bodyPost_ret (results_ct rfl _ _ gb28 48 #[.string (⟨#[]⟩:ByteArray),.string (⟨#[]⟩:ByteArray)] (0,0) _ rfl (by (with_reducible repeat (first|refine blk_drewN ?_ _|refine blk_drew ?_|refine blk_alloc ?_ _));refine blk_put (cs:=#[.string (⟨#[]⟩:ByteArray),.string (⟨#[]⟩:ByteArray)]) ?_ 1 _ rfl;(with_reducible repeat (first|refine blk_drewN ?_ _|refine blk_drew ?_|refine blk_alloc ?_ _));refine blk_put (cs:=#[.string (⟨#[]⟩:ByteArray),.string (⟨#[]⟩:ByteArray)]) ?_ 0 _ rfl;(with_reducible repeat (first|refine blk_drewN ?_ _|refine blk_drew ?_|refine blk_alloc ?_ _));exact BK28.out) Tryd.underlying48 rfl zb8) rfl ?_
  exact ⟨zb3,zb25⟩
mutual
def line_Cut.l0:Nat → List Int → Int → List Int → Int → Int → Option (ByteArray × Int × Int)
 | 0,_,_,_,_,_=>none
 | k + 1,x0,x1,x9,x10,x11=>if x11 < x10 then (if 0 ≤ x11 then (if x11 < (x9.length:Int) then (if (rd x9 x11)=10 then (line_Cut.j1 k x0 x1 x11 (rd x9 x11) x9 x10 x11 true) else (if (rd x9 x11)=13 then (if (wrap64 (x11 + 1)) < (x0.length:Int) then (if 0 ≤ (wrap64 (x11 + 1)) then (line_Cut.j1 k x0 x1 x11 (rd x9 x11) x9 x10 x11 ((rd x0 (wrap64 (x11 + 1))) != 10)) else (none)) else (line_Cut.j1 k x0 x1 x11 (rd x9 x11) x9 x10 x11 false)) else (line_Cut.j1 k x0 x1 x11 (rd x9 x11) x9 x10 x11 false))) else (none)) else (none)) else (some ((⟨#[]⟩:ByteArray),0,0))
def line_Cut.j1:Nat → List Int → Int → Int → Int → List Int → Int → Int → Bool → Option (ByteArray × Int × Int)
 | 0,_,_,_,_,_,_,_,_=>none
 | k + 1,x0,x1,x7,x8,x9,x10,x11,x16=>if x16=true then (some ((⟨#[]⟩:ByteArray),0,20)) else (if x8=13 then (line_Cut.j2 k x0 x1 x7 x8 x9 x10 x11 ((wrap64 (x7 + 1)) == (x0.length:Int))) else (line_Cut.j2 k x0 x1 x7 x8 x9 x10 x11 false))
def line_Cut.j2:Nat → List Int → Int → Int → Int → List Int → Int → Int → Bool → Option (ByteArray × Int × Int)
 | 0,_,_,_,_,_,_,_,_=>none
 | k + 1,x0,x1,x7,x8,x9,x10,x11,x38=>if x38=true then (some ((⟨#[]⟩:ByteArray),0,0)) else (if x8=13 then (if 0 ≤ x7 then (if x7 ≤ (x0.length:Int) then (some (strOfNums (x0.take (x7:Int).toNat),wrap64 (x7 + 2),0)) else (none)) else (none)) else (if x7 ≥ (mx x1 0) then (some ((⟨#[]⟩:ByteArray),0,2)) else (line_Cut.l0 k x0 x1 x9 x10 (wrap64 (x11 + 1)))))
end
def line_Cut.f (k:Nat) (l0:List Int) (a1:Int):Option (ByteArray × Int × Int):=line_Cut.l0 k l0 a1 l0 (l0.length:Int) 0
set_option maxHeartbeats 8000000 in
set_option maxRecDepth 100000 in
theorem line_Cut.calls (k:Nat) (A0:Option Addr) (c0:Nat) (l0:List Int) (a1:Int) (r1:ByteArray) (r2:Int) (r3:Int) (w:World) (hr0:Kd.C (Kd.int .u8) w A0 l0.length l0) (hc0:l0.length ≤ c0) (h:line_Cut.f k l0 a1=some (r1,r2,r3)) :
 Calls Tryd.prog 16 #[.slice A0 l0.length c0,.int .i64 a1] w fun e w' => e = .returned (.tuple #[.string r1,.int .i64 r2,.int .i64 r3])∧Below w.heap.size w w' := by
 have HR0:=Aside0.mk hr0
 have HC0:=Aside0.mk hc0
 clear hr0 hc0
 have HB:=Aside0.mk (Below.refl w.heap.size w)
 unfold line_Cut.f at h
 have H:=h
 clear h
 have H' := Aside0.mk H
 clear H
 go_enter Tryd.func16,Tryd.ntmps16
 go_wp2
 go_loopg [11] k (fun kq v11 w' => ∃ (x11_1:Int),v11 = .int .i64 x11_1∧Aside0 (line_Cut.l0 kq l0 a1 l0 (l0.length:Int) x11_1=some (r1,r2,r3))∧Aside0 (kq ≤ k)∧Aside0 (Below w.heap.size w w'))
 case atStart=>exact ⟨(0),zb6,H',⟨Nat.le_refl _⟩,⟨zb0⟩⟩
 case round =>
  clear H'
  try clear c1
  try clear p2
  obtain ⟨x11_1,rfl,HA,HK1,HB⟩:=hrel
  cases gk with
  | zero=>exact absurd HA.out (by simp [line_Cut.l0])
  | succ k1 =>
   have H:=HA.out
   clear HA
   simp only [line_Cut.l0] at H
   by_cases c3:x11_1 < (l0.length:Int);rotate_left
   ·rw [if_neg c3] at H
    have c3b0:=decide_eq_false c3
    clear c3
    simp only [Option.some.injEq,Prod.mk.injEq] at H
    obtain ⟨rfl,rfl,rfl⟩:=H
    go_wp2
    go_ret3
    exact ⟨zb3,zb0⟩
   rw [if_pos c3] at H
   have c3b0:=decide_eq_true c3
   clear c3
   by_cases c4:0 ≤ x11_1
   ·rw [if_pos c4] at H
    have c4b0:=decide_eq_true c4
    clear c4
    by_cases c5:x11_1 < (l0.length:Int)
    ·rw [if_pos c5] at H
     have c5b0:=decide_eq_true c5
     clear c5
     have HC6:=Aside0.mk H
     clear H
     have p128:0 ≤ (x11_1:Int):=of_decide_eq_true zb7
     have q128:x11_1 < (l0.length:Int):=of_decide_eq_true zb7
     obtain ⟨ad128,e128,hx128_0⟩:=Kd.at_int HR0.out x11_1 p128 q128
     cases e128
     replace hx128_0:=(HB.out.cell (World.block_lt_of_cell? w _ hx128_0)).trans hx128_0
     replace p128:=eq_true p128
     replace q128:=eq_true q128
     go_upto_region 4 with (fail)
     go_cut [16] (fun v16 wc => ∃ (kq:Nat) (x16_5:Bool),v16 = .bool x16_5∧Aside0 (line_Cut.j1 kq l0 a1 x11_1 (rd l0 x11_1) l0 (l0.length:Int) x11_1 x16_5=some (r1,r2,r3))∧Aside0 (kq ≤ k1)∧Aside0 (Below w.heap.size w wc))
     case first =>
      have H:=HC6.out
      clear HC6
      by_cases c7:(rd l0 x11_1)=10
      ·rw [if_pos c7] at H
       have c7b0:=beq_iff_eq.mpr c7
       have c7b1:=bne_eq_false_iff_eq.mpr c7
       clear c7
       (first|rw [c7b0]|(simp only [i64_w,i32_w];rw [c7b0])|rw [c7b1]|skip)
       have H' := Aside0.mk H
       clear H
       go_wp2
       go_meet
       case rel=>exact ⟨_,(true),zb6,H',⟨zb46⟩,⟨zb0⟩⟩
      rw [if_neg c7] at H
      have c7b0:=beq_eq_false_iff_ne.mpr c7
      have c7b1:=bne_iff_ne.mpr c7
      (first|rw [c7b0]|(simp only [i64_w,i32_w];rw [c7b0])|rw [c7b1]|skip)
      by_cases c8:(rd l0 x11_1)=13;rotate_left
      ·rw [if_neg c8] at H
       have c8b0:=beq_eq_false_iff_ne.mpr c8
       have c8b1:=bne_iff_ne.mpr c8
       have H' := Aside0.mk H
       clear H
       go_wp2
       go_meet
       case rel=>exact ⟨_,(false),zb6,H',⟨zb46⟩,⟨zb0⟩⟩
      rw [if_pos c8] at H
      have c8b0:=beq_iff_eq.mpr c8
      have c8b1:=bne_eq_false_iff_eq.mpr c8
      clear c8
      by_cases c9:(wrap64 (x11_1 + 1)) < (l0.length:Int)
      ·rw [if_pos c9] at H
       have c9b0:=decide_eq_true c9
       clear c9
       obtain ⟨ji10,hji10⟩ : ∃ j_:Int,(wrap64 (x11_1 + 1))=j_:=⟨_,rfl⟩
       replace H:(if 0 ≤ (ji10) then (line_Cut.j1 k1 l0 a1 x11_1 (rd l0 x11_1) l0 (l0.length:Int) x11_1 ((rd l0 (ji10)) != 10)) else (none))=some (r1,r2,r3):=by first|(rw [hji10] at H;exact H)|(simp only [hji10] at H ⊢;exact H)
       (try rw [hji10] at c9b0)
       have hji10w:(IntKind.i64.wrap (x11_1 + 1))=ji10:=(i64_w _).trans hji10
       by_cases c11:0 ≤ (ji10);rotate_left
       ·rw [if_neg c11] at H
        exact absurd H zb30
       rw [if_pos c11] at H
       have c11b0:=decide_eq_true c11
       clear c11
       have H' := Aside0.mk H
       clear H
       have p129:0 ≤ ((ji10):Int):=of_decide_eq_true zb7
       have q129:(ji10) < (l0.length:Int):=of_decide_eq_true zb7
       obtain ⟨ad129,e129,hx129_0⟩:=Kd.at_int HR0.out (ji10) p129 q129
       obtain rfl:ad128=ad129:=(by injection e129)
       replace hx129_0:=(HB.out.cell (World.block_lt_of_cell? w _ hx129_0)).trans hx129_0
       replace p129:=eq_true p129
       replace q129:=eq_true q129
       go_wp2
       go_meet
       case rel=>exact ⟨_,(((rd l0 (ji10)) != 10)),(by first|rfl|(simp;done)|(simp only [← hji10] <;> (first|rfl|simp))|(simp [*];done)),H',⟨zb46⟩,⟨zb0⟩⟩
      ·rw [if_neg c9] at H
       have c9b0:=decide_eq_false c9
       clear c9
       have H' := Aside0.mk H
       clear H
       go_wp2
       go_meet
       case rel=>exact ⟨_,(false),zb6,H',⟨zb46⟩,⟨zb0⟩⟩
     case rest =>
      clear HC6
      try clear c1
      try clear p1
      try clear q1
      try clear hx1
      try clear p2
      try clear c3
      try clear c3b0
      try clear c4
      try clear c4b0
      try clear c5
      try clear c5b0
      try clear p6
      try clear c7
      try clear c7b0
      try clear c7b1
      try clear c8
      try clear c8b0
      try clear c8b1
      try clear c9
      try clear c9b0
      try clear c11
      try clear c11b0
      try clear hx128_0
      try clear hx129_0
      try clear p128
      try clear p129
      try clear p2
      try clear q128
      try clear q129
      obtain ⟨kq,x16_5,rfl,HA,HJ5,HB⟩:=hcut
      cases kq with
      | zero=>exact absurd HA.out (by simp [line_Cut.j1])
      | succ kj5 =>
       have H:=HA.out
       clear HA
       simp only [line_Cut.j1] at H
       by_cases c12:x16_5=true
       ·subst c12
        rw [if_pos rfl] at H
        simp only [Option.some.injEq,Prod.mk.injEq] at H
        obtain ⟨rfl,rfl,rfl⟩:=H
        go_wp2
        go_ret3
        exact ⟨zb3,zb0⟩
       replace c12:=Bool.eq_false_iff.mpr c12
       subst c12
       rw [if_neg (show ¬ (false=true) by decide)] at H
       have HC13:=Aside0.mk H
       clear H
       go_upto_region 6 with (fail)
       go_cut [38] (fun v38 wc => ∃ (kq:Nat) (x38_12:Bool),v38 = .bool x38_12∧Aside0 (line_Cut.j2 kq l0 a1 x11_1 (rd l0 x11_1) l0 (l0.length:Int) x11_1 x38_12=some (r1,r2,r3))∧Aside0 (kq ≤ kj5)∧Aside0 (Below w.heap.size w wc))
       case first =>
        have H:=HC13.out
        clear HC13
        by_cases c14:(rd l0 x11_1)=13;rotate_left
        ·rw [if_neg c14] at H
         have c14b0:=beq_eq_false_iff_ne.mpr c14
         have c14b1:=bne_iff_ne.mpr c14
         (first|rw [c14b0]|(simp only [i64_w,i32_w];rw [c14b0])|rw [c14b1]|skip)
         have H' := Aside0.mk H
         clear H
         go_wp2
         go_meet
         case rel=>exact ⟨_,(false),zb6,H',⟨by have:=HK1.out;have:=HJ5.out;first|omega|exact Nat.le_refl _⟩,⟨zb0⟩⟩
        rw [if_pos c14] at H
        have c14b0:=beq_iff_eq.mpr c14
        have c14b1:=bne_eq_false_iff_eq.mpr c14
        clear c14
        (first|rw [c14b0]|(simp only [i64_w,i32_w];rw [c14b0])|rw [c14b1]|skip)
        have H' := Aside0.mk H
        clear H
        go_wp2
        go_meet
        case rel=>exact ⟨_,(((wrap64 (x11_1 + 1)) == (l0.length:Int))),zb6,H',⟨by have:=HK1.out;have:=HJ5.out;first|omega|exact Nat.le_refl _⟩,⟨zb0⟩⟩
       case rest =>
        clear HC13
        try clear c1
        try clear p1
        try clear q1
        try clear hx1
        try clear p2
        try clear c3
        try clear c3b0
        try clear c4
        try clear c4b0
        try clear c5
        try clear c5b0
        try clear p6
        try clear c7
        try clear c7b0
        try clear c7b1
        try clear c8
        try clear c8b0
        try clear c8b1
        try clear c9
        try clear c9b0
        try clear c11
        try clear c11b0
        try clear c12
        try clear p12
        try clear q12
        try clear hx12
        try clear c14
        try clear c14b0
        try clear c14b1
        try clear hx128_0
        try clear hx129_0
        try clear p1
        try clear p128
        try clear p129
        try clear p2
        try clear p6
        try clear q1
        try clear q128
        try clear q129
        obtain ⟨kq,x38_12,rfl,HA,HJ12,HB⟩:=hcut
        cases kq with
        | zero=>exact absurd HA.out (by simp [line_Cut.j2])
        | succ kj12 =>
         have H:=HA.out
         clear HA
         simp only [line_Cut.j2] at H
         by_cases c15:x38_12=true
         ·subst c15
          rw [if_pos rfl] at H
          simp only [Option.some.injEq,Prod.mk.injEq] at H
          obtain ⟨rfl,rfl,rfl⟩:=H
          go_wp2
          go_ret3
          exact ⟨zb3,zb0⟩
         replace c15:=Bool.eq_false_iff.mpr c15
         subst c15
         rw [if_neg (show ¬ (false=true) by decide)] at H
         by_cases c16:(rd l0 x11_1)=13;rotate_left
         ·rw [if_neg c16] at H
          have c16b0:=beq_eq_false_iff_ne.mpr c16
          have c16b1:=bne_iff_ne.mpr c16
          obtain ⟨ji21,hji21⟩ : ∃ j_:Int,(mx a1 0)=j_:=⟨_,rfl⟩
          replace H:(if x11_1 ≥ (ji21) then (some ((⟨#[]⟩:ByteArray),0,2)) else (line_Cut.l0 kj12 l0 a1 l0 (l0.length:Int) (wrap64 (x11_1 + 1))))=some (r1,r2,r3):=by first|(rw [hji21] at H;exact H)|(simp only [hji21] at H ⊢;exact H)
          have hji21_:(if a1 < 0 then 0 else a1)=ji21:=hji21
          by_cases c22:x11_1 ≥ (ji21)
          ·rw [if_pos c22] at H
           have c22b0:decide ((ji21) ≤ x11_1)=true:=decide_eq_true c22
           clear c22
           simp only [Option.some.injEq,Prod.mk.injEq] at H
           obtain ⟨rfl,rfl,rfl⟩:=H
           go_wp2
           go_ret3
           exact ⟨by first|rfl|(simp [errW_none,errW_some] <;> rfl)|(simp only [← hji21];first|rfl|(simp [errW_none,errW_some] <;> rfl))|(simp [*,errW_none,errW_some] <;> rfl),zb0⟩
          rw [if_neg c22] at H
          have c22b0:decide ((ji21) ≤ x11_1)=false:=decide_eq_false c22
          clear c22
          have H' := Aside0.mk H
          clear H
          go_wp2
          go_roundg kj12
          case measure=>have:=HK1.out;have:=HJ5.out;have:=HJ12.out;omega
          case rel=>exact ⟨(wrap64 (x11_1 + 1)),zb6,H',⟨by have:=HK1.out;have:=HJ5.out;have:=HJ12.out;omega⟩,⟨zb0⟩⟩
         rw [if_pos c16] at H
         have c16b0:=beq_iff_eq.mpr c16
         have c16b1:=bne_eq_false_iff_eq.mpr c16
         clear c16
         by_cases c17:0 ≤ x11_1
         ·rw [if_pos c17] at H
          have c17b0:=eq_true c17
          have c17b1:=decide_eq_true c17
          clear c17
          by_cases c18:x11_1 ≤ (l0.length:Int)
          ·rw [if_pos c18] at H
           have c18b0:=eq_true c18
           have c18b1:=decide_eq_true c18
           clear c18
           simp only [Option.some.injEq,Prod.mk.injEq] at H
           obtain ⟨rfl,rfl,rfl⟩:=H
           obtain ⟨i019,hi019,_,hsz19,_⟩:=info_parts info5
           obtain ⟨hcut19,hA19,hC19⟩:=print_take_of (P:=Tryd.prog) (Value.int .u8) 0 22 5 .i64 Tryd.underlying22 hi019 hsz19 (some ad128) c0 l0 x11_1 (of_decide_eq_true zb7) (of_decide_eq_true zb7) HC0.out
           have HR130:=Aside0.mk (Kd.C_of_reads (h1:=fun _=>rfl) (hA19 _ (Kd.reads_of_C HR0.out)))
           have HC130:=Aside0.mk hC19
           clear hA19 hC19 hi019 hsz19
           have hcv20:=Kd.C_string (P:=Tryd.prog) (A:=(some ad128)) (c:=c0) Tryd.underlying22 Tryd.underlying5 Tryd.underlying9 (Kd.C_below HR130.out HB.out)
           have hlen20:(l0.take (x11_1:Int).toNat).length=(x11_1:Int).toNat:=by have q1_:(x11_1:Int) ≤ (l0.length:Int):=of_decide_eq_true zb7;have q2_:0 ≤ (x11_1:Int):=of_decide_eq_true zb7;rw [List.length_take];omega
           rw [hlen20] at hcv20
           clear hlen20
           go_wp2
           go_ret3
           exact ⟨zb3,zb0⟩
          ·rw [if_neg c18] at H
           exact absurd H zb30
         ·rw [if_neg c17] at H
          exact absurd H zb30
    ·rw [if_neg c5] at H
     exact absurd H zb30
   ·rw [if_neg c4] at H
    exact absurd H zb30
/-- A head from a place on;'fst': what the first line's test answers;the text that the test was handed last is told too. -/
def http_head.l (fst:Nat → ByteArray → Option Int):Nat → List Int → List (S48) → Int → Option ByteArray → Option (List (S48) × Int × Int × Option ByteArray)
 | 0,_,_,_,_=>none
 | k + 1,b,fs,at_,st=>if 0 ≤ at_ then (if at_ ≤ ((b.take (mn (b.length:Int) 2048).toNat).length:Int) then ((line_Cut.f k ((b.take (mn (b.length:Int) 2048).toNat).drop at_.toNat) 2048).bind fun c =>
  if c.2.2=20 then some ([],0,400,st)
  else if c.2.1=0 then (if 2048 ≤ (b.length:Int) then some ([],0,431,st) else some ([],0,0,st))
  else if at_=0 then ((fst k c.1).bind fun code=>if code=0 then http_head.l fst k b fs (wrap64 (at_ + c.2.1)) (some c.1) else some ([],0,code,some c.1))
  else if c.1.toList=[] then some (fs,wrap64 (at_ + c.2.1),0,st)
  else ((field_Parse.f c.1).bind fun p=>if p.2.2=0 then (if (fs.length:Int)=40 then some ([],0,431,st) else if fs.length < 4398046511104 then http_head.l fst k b (fs ++ [(⟨p.1,p.2.1⟩:S48)]) (wrap64 (at_ + c.2.1)) st else none) else some ([],0,400,st))) else none) else none
def http_head.f (fst:Nat → ByteArray → Option Int) (k:Nat) (b:List Int):Option (List (S48) × Int × Int × Option ByteArray):=http_head.l fst k b [] 0 none
/-- The block that the first line's test writes: what it holds,by the text that it was handed last. -/
def HBlk (G T:Nat) (Val:Option ByteArray → Array Value → Prop) (x:Option ByteArray) (W:World):Prop := ∃ cs,Val x cs∧W.heap[G]? = some (.cells cs T (0,0))
theorem HBlk.lt {G T:Nat} {Val:Option ByteArray → Array Value → Prop} {x:Option ByteArray} {W:World} (h:HBlk G T Val x W):G < W.heap.size:=by obtain ⟨cs,_,h⟩:=h;exact blk_lt h
theorem HBlk.below {G T:Nat} {Val:Option ByteArray → Array Value → Prop} {x:Option ByteArray} {W W' : World} (h:HBlk G T Val x W) (hb:Below W.heap.size W W'):HBlk G T Val x W' := by obtain ⟨cs,hv,h⟩:=h;exact ⟨cs,hv,blk_below h hb⟩
theorem HBlk.alloc {G T:Nat} {Val:Option ByteArray → Array Value → Prop} {x:Option ByteArray} {W:World} (h:HBlk G T Val x W) (o:Obj):HBlk G T Val x (W.alloc o):=by obtain ⟨cs,hv,h⟩:=h;exact ⟨cs,hv,blk_alloc h o⟩
theorem HBlk.grown {G T:Nat} {Val:Option ByteArray → Array Value → Prop} {x:Option ByteArray} {W W' : World} {row:Option Nat} (h:HBlk G T Val x W) (hg:W.grownBy W' row) (hn:some G ≠ row):HBlk G T Val x W' := by obtain ⟨cs,hv,h⟩:=h;exact ⟨cs,hv,blk_grown h hg hn⟩
/-- What is asked of the first line's test: its answer;it turns its own block alone. -/
def FirstOf (g:Nat) (lb:Array Value) (fst:Nat → ByteArray → Option Int) (G T:Nat) (Val:Option ByteArray → Array Value → Prop):Prop :=
 ∀ (k:Nat) (W:World) (x:Option ByteArray) (s:ByteArray) (c:Int),HBlk G T Val x W → fst k s=some c → Calls Tryd.prog g (#[.string s] ++ lb) W fun e W' => e = .returned (.int .i64 c)∧HBlk G T Val (some s) W' ∧ Below G W W' ∧ KeepBut W W' G none
/-- The loop's state. -/
def HSt (w0 wr:World) (G T:Nat) (Val:Option ByteArray → Array Value → Prop) (st:Option ByteArray) (v:Value) (fs:List (S48)):Prop:=HBlk G T Val st wr∧Below w0.heap.size w0 wr∧Kd.R k48 48 wr w0.heap.size (fun k=>k ≠ G) v fs
theorem hbase {w w1:World} {b g:Nat} (hg:b ≤ g) (h:Below g w w1):Below b w w1:=⟨h.os,h.tape,h.output,h.size,fun i hi=>h.block i (Nat.lt_of_lt_of_le hi hg)⟩
theorem HSt.below {w0 wr w1:World} {G T:Nat} {Val:Option ByteArray → Array Value → Prop} {st:Option ByteArray} {v:Value} {fs:List (S48)} (h:HSt w0 wr G T Val st v fs) (hb:Below wr.heap.size wr w1):HSt w0 w1 G T Val st v fs :=
 ⟨h.1.below hb,h.2.1.trans (hbase h.2.1.size hb),Kd.R_below h.2.2 hb⟩
theorem HSt.alloc {w0 wr:World} {G T:Nat} {Val:Option ByteArray → Array Value → Prop} {st:Option ByteArray} {v:Value} {fs:List (S48)} (h:HSt w0 wr G T Val st v fs) (o:Obj):HSt w0 (wr.alloc o) G T Val st v fs:=h.below (below_alloc (Below.refl _ _) o)
theorem HSt.turned {w0 wr w1:World} {G T:Nat} {Val:Option ByteArray → Array Value → Prop} {st st' : Option ByteArray} {v:Value} {fs:List (S48)} (h:HSt w0 wr G T Val st v fs) (hG:w0.heap.size ≤ G) (hB:HBlk G T Val st' w1) (hb:Below G wr w1) (hk:KeepBut wr w1 G none):HSt w0 w1 G T Val st' v fs :=
 ⟨hB,h.2.1.trans (hbase hG hb),Kd.R_keep h.2.2 hk (fun _ hk=>hk)⟩
/-- What head hands back. -/
def HPost (w0:World) (G T:Nat) (Val:Option ByteArray → Array Value → Prop) (r1:List (S48)) (r2 r3:Int) (st:Option ByteArray) (E:Ending) (w' : World):Prop := ∃ v0_:Value,E = .returned (.tuple #[v0_,.int .i64 r2,.int .i64 r3])∧HSt w0 w' G T Val st v0_ r1
theorem hpost_none {w0 wr:World} {G T:Nat} {Val:Option ByteArray → Array Value → Prop} {r2 r3:Int} {st:Option ByteArray} {v:Value} {fs:List (S48)} (h:HSt w0 wr G T Val st v fs):HPost w0 G T Val [] r2 r3 st (.returned (.tuple #[.slice none 0 0,.int .i64 r2,.int .i64 r3])) wr:=⟨_,rfl,h.1,h.2.1,Kd.R_nil _ _ _ _ _⟩
theorem http_head.inf:(Tryd.prog.info? 48).map (fun i=>(i.zero,i.size,i.bytes))=some (some (.agg #[(.string ⟨#[]⟩),(.string ⟨#[]⟩)]),2,32):=by kernel_rfl
set_option maxHeartbeats 16000000 in
set_option maxRecDepth 100000 in
theorem http_head.callsOf (fst:Nat → ByteArray → Option Int) (g:Nat) (lb:Array Value) (eg : ∀ args w,(callFunc g args).run Tryd.prog w = .ok (.enter g args) w) (G T:Nat) (Val:Option ByteArray → Array Value → Prop) (w0:World) (k:Nat) (A0:Option Addr) (c0:Nat) (l0:List Int) (r1:List (S48)) (r2 r3:Int) (st:Option ByteArray) (w:World)
 (hC:Kd.C (Kd.int .u8) w0 A0 l0.length l0) (hc0:l0.length ≤ c0) (hG:w0.heap.size ≤ G) (hB:HBlk G T Val none w) (hb:Below w0.heap.size w0 w) (hF:FirstOf g lb fst G T Val) (h:http_head.f fst k l0=some (r1,r2,r3,st)) :
 Calls Tryd.prog 9 #[.slice A0 l0.length c0,.func (.func g) #[] lb] w (HPost w0 G T Val r1 r2 r3 st):=by
 have hu:=Tryd.underlying48
 have D0:=Aside0.mk (show HSt w0 w G T Val none (.slice none 0 0) [] from ⟨hB,hb,Kd.R_nil _ _ _ _ _⟩)
 have HG:=Aside0.mk hG
 have HF:=Aside0.mk hF
 have hm0:0 ≤ mn (l0.length:Int) 2048:=by unfold mn;split <;> omega
 have hm1:mn (l0.length:Int) 2048 ≤ (l0.length:Int):=by unfold mn;split <;> omega
 obtain ⟨i0,hi0,_,hsz,_⟩:=info_parts info5
 obtain ⟨hsl,hrd,hcc⟩:=print_take_of (P:=Tryd.prog) (Value.int .u8) 0 22 5 .i64 Tryd.underlying22 hi0 hsz A0 c0 l0 _ hm0 hm1 hc0
 have hr:=Kd.C_of_reads (h1:=fun _=>rfl) (hrd w0 (Kd.reads_of_C hC))
 have H0:=Aside0.mk (show http_head.l fst k l0 [] 0 none=some (r1,r2,r3,st) from h)
 obtain ⟨bd,hbd⟩ : ∃ bd,bd=l0.take (mn (l0.length:Int) 2048).toNat:=⟨_,rfl⟩
 rw [← hbd] at hsl hcc hr
 have HBD:=Aside0.mk hbd
 have HR:=Aside0.mk hr
 have HCC:=Aside0.mk hcc
 have HI:=Aside0.mk (And.intro hi0 hsz)
 clear hrd hr hcc hbd hC hc0 hG hB hb hF h hm0 hm1 hi0 hsz
 have hcase:((2048:Int) < (l0.length:Int)∧mn (l0.length:Int) 2048=2048) ∨ (¬ (2048:Int) < (l0.length:Int)∧mn (l0.length:Int) 2048=(l0.length:Int)):=by unfold mn;split <;> omega
 rcases hcase with ⟨hlt,he⟩|⟨hlt,he⟩
 all_goals
  rw [he] at hsl
  clear he
  first
   | (have m1:((2048:Int) < (l0.length:Int))=True:=eq_true hlt;have m2:(2048 < l0.length)=True:=eq_true zb26;clear hlt;go_enter Tryd.func9,Tryd.ntmps9;go_wp2_with fail;clear m1 m2)
   | (have m1:((2048:Int) < (l0.length:Int))=False:=eq_false hlt;have m2:(2048 < l0.length)=False:=eq_false zb26;clear hlt;go_enter Tryd.func9,Tryd.ntmps9;go_wp2_with fail;clear m1 m2)
  go_loopg [7,9,10,11,12,13,14,15] k (fun kq v7 v9 _ _ _ _ _ _ wr => ∃ (at_:Int) (fs:List (S48)) (st' : Option ByteArray),v9 = .int .i64 at_∧Aside0 (http_head.l fst kq l0 fs at_ st' = some (r1,r2,r3,st))∧Aside0 (HSt w0 wr G T Val st' v7 fs))
  case atStart=>exact ⟨0,[],none,rfl,H0,D0⟩
  case round =>
   obtain ⟨at_,fs,st',rfl,H,D⟩:=hrel
   clear H0 D0 hsl
   cases gk with
   | zero=>exact absurd H.out (by simp [http_head.l])
   | succ k =>
    have h:=H.out
    clear H
    simp only [http_head.l] at h
    rw [← HBD.out] at h
    by_cases b0:0 ≤ at_;rotate_left
    ·rw [if_neg b0] at h
     cases h
    rw [if_pos b0] at h
    by_cases b1:at_ ≤ (bd.length:Int)
    ·rw [if_pos b1] at h
     obtain ⟨⟨s,n,e⟩,hcut,h⟩:=Option.bind_eq_some_iff.1 h
     simp only at h
     obtain ⟨A',hsl,hrd,hcc⟩:=print_drop_of (P:=Tryd.prog) (Value.int .u8) 0 22 5 .i64 Tryd.underlying22 HI.out.1 HI.out.2 A0 c0 bd at_ b0 b1 HCC.out
     have CALL:=Aside0.mk (fun (_:Unit)=>line_Cut.calls k A' _ (bd.drop at_.toNat) 2048 s n e wr (Kd.C_below (Kd.C_of_reads (h1:=fun _=>rfl) (hrd w0 (Kd.reads_of_C HR.out))) D.out.2.1) hcc hcut)
     clear hrd hcc hcut b0 b1
     by_cases a0:e=20
     ·rw [if_pos a0] at h
      simp only [Option.some.injEq,Prod.mk.injEq] at h
      obtain ⟨rfl,rfl,rfl,rfl⟩:=h
      subst a0
      go_wp2_with (first|(go_at_call 16;(try rw [← List.length_drop]);(with_reducible refine (CALL.out ()).mono ?_);rintro E w1 ⟨rfl,hb1⟩;have D1:=Aside0.mk (D.out.below hb1);clear hb1))
      go_ret3
      exact hpost_none D1.out
     rw [if_neg a0] at h
     have d0:(e == 20)=false:=beq_eq_false_iff_ne.2 a0
     clear a0
     by_cases a1:n=0
     ·rw [if_pos a1] at h
      subst a1
      by_cases a2:2048 ≤ (l0.length:Int)
      ·rw [if_pos a2] at h
       simp only [Option.some.injEq,Prod.mk.injEq] at h
       obtain ⟨rfl,rfl,rfl,rfl⟩:=h
       have d2:(2048 ≤ l0.length)=True:=eq_true zb26
       have d3:(2048 ≤ (l0.length:Int))=True:=eq_true a2
       clear a2
       go_wp2_with (first|(go_at_call 16;(try rw [← List.length_drop]);(with_reducible refine (CALL.out ()).mono ?_);rintro E w1 ⟨rfl,hb1⟩;have D1:=Aside0.mk (D.out.below hb1);clear hb1))
       go_ret3
       exact hpost_none D1.out
      rw [if_neg a2] at h
      simp only [Option.some.injEq,Prod.mk.injEq] at h
      obtain ⟨rfl,rfl,rfl,rfl⟩:=h
      have d2:(2048 ≤ l0.length)=False:=eq_false zb26
      have d3:(2048 ≤ (l0.length:Int))=False:=eq_false a2
      clear a2
      go_wp2_with (first|(go_at_call 16;(try rw [← List.length_drop]);(with_reducible refine (CALL.out ()).mono ?_);rintro E w1 ⟨rfl,hb1⟩;have D1:=Aside0.mk (D.out.below hb1);clear hb1))
      go_ret3
      exact hpost_none D1.out
     rw [if_neg a1] at h
     have d1:(n == 0)=false:=beq_eq_false_iff_ne.2 a1
     clear a1
     by_cases a3:at_=0
     ·rw [if_pos a3] at h
      have d3:(at_ == 0)=true:=beq_iff_eq.2 a3
      clear a3
      obtain ⟨code,hf,h⟩:=Option.bind_eq_some_iff.1 h
      have FCALL:=Aside0.mk (fun (W:World) (hW:HBlk G T Val st' W)=>HF.out k W st' s code hW hf)
      clear hf
      by_cases a4:code=0
      ·rw [if_pos a4] at h
       subst a4
       have H2:=Aside0.mk h
       clear h
       go_wp2_with (first|(go_at_call 16;(try rw [← List.length_drop]);(with_reducible refine (CALL.out ()).mono ?_);rintro E w1 ⟨rfl,hb1⟩;have D1:=Aside0.mk (D.out.below hb1);clear hb1)|(go_at_fn g;refine (FCALL.out _ D1.out.1).mono ?_;rintro E w2 ⟨rfl,hB2,hb2,hk2⟩;have D2:=Aside0.mk (D1.out.turned HG.out hB2 hb2 hk2);clear hB2 hb2 hk2))
       go_roundg k
       case rel=>exact ⟨wrap64 (at_ + n),fs,some s,(by first|rfl|(simp;done)),H2,D2⟩
       case measure=>exact Nat.lt_succ_self k
      rw [if_neg a4] at h
      simp only [Option.some.injEq,Prod.mk.injEq] at h
      obtain ⟨rfl,rfl,rfl,rfl⟩:=h
      have d4:(code != 0)=true:=bne_iff_ne.2 a4
      have d5:(code == 0)=false:=beq_eq_false_iff_ne.2 a4
      clear a4
      go_wp2_with (first|(go_at_call 16;(try rw [← List.length_drop]);(with_reducible refine (CALL.out ()).mono ?_);rintro E w1 ⟨rfl,hb1⟩;have D1:=Aside0.mk (D.out.below hb1);clear hb1)|(go_at_fn g;refine (FCALL.out _ D1.out.1).mono ?_;rintro E w2 ⟨rfl,hB2,hb2,hk2⟩;have D2:=Aside0.mk (D1.out.turned HG.out hB2 hb2 hk2);clear hB2 hb2 hk2))
      go_ret3
      exact hpost_none D2.out
     rw [if_neg a3] at h
     have d3:(at_ == 0)=false:=beq_eq_false_iff_ne.2 a3
     clear a3
     by_cases a4:s.toList=[]
     ·rw [if_pos a4] at h
      simp only [Option.some.injEq,Prod.mk.injEq] at h
      obtain ⟨rfl,rfl,rfl,rfl⟩:=h
      have d4:(s.toList == [])=true:=by rw [a4];rfl
      clear a4
      go_wp2_with (first|(go_at_call 16;(try rw [← List.length_drop]);(with_reducible refine (CALL.out ()).mono ?_);rintro E w1 ⟨rfl,hb1⟩;have D1:=Aside0.mk (D.out.below hb1);clear hb1))
      go_ret3
      exact ⟨_,rfl,D1.out⟩
     rw [if_neg a4] at h
     have d4:(s.toList == [])=false:=beq_eq_false_iff_ne.2 a4
     clear a4
     obtain ⟨⟨p1,p2,p3⟩,hp,h⟩:=Option.bind_eq_some_iff.1 h
     simp only at h
     have HP:=Aside0.mk hp
     clear hp
     by_cases a5:p3=0;rotate_left
     ·rw [if_neg a5] at h
      simp only [Option.some.injEq,Prod.mk.injEq] at h
      obtain ⟨rfl,rfl,rfl,rfl⟩:=h
      have d5:(p3 != 0)=true:=bne_iff_ne.2 a5
      have d6:(p3 == 0)=false:=beq_eq_false_iff_ne.2 a5
      clear a5
      go_wp2_with (first|(go_at_call 16;(try rw [← List.length_drop]);(with_reducible refine (CALL.out ()).mono ?_);rintro E w1 ⟨rfl,hb1⟩;have D1:=Aside0.mk (D.out.below hb1);clear hb1)|(go_at_call 17;refine (field_Parse.calls s p1 p2 _ _ HP.out).mono ?_;rintro E w2 ⟨rfl,hb2⟩;have D2:=Aside0.mk ((D1.out.below hb2).alloc (.cells #[.string p1,.string p2] 48));have hy0:(w2.alloc (.cells #[.string p1,.string p2] 48)).cell? ⟨w2.heap.size,0,none⟩=some (.string p1):=(blk_cell (blk_new w2 _) 0).trans rfl;have hy1:(w2.alloc (.cells #[.string p1,.string p2] 48)).cell? ⟨w2.heap.size,1,none⟩=some (.string p2):=(blk_cell (blk_new w2 _) 1).trans rfl;clear hb2))
      go_ret3
      exact hpost_none D2.out
     rw [if_pos a5] at h
     subst a5
     by_cases a6:(fs.length:Int)=40
     ·rw [if_pos a6] at h
      simp only [Option.some.injEq,Prod.mk.injEq] at h
      obtain ⟨rfl,rfl,rfl,rfl⟩:=h
      have d6:((fs.length:Int) == 40)=true:=beq_iff_eq.2 a6
      have d7:(fs.length == 40)=true:=beq_iff_eq.2 zb26
      clear a6
      obtain ⟨Af,cf,ef⟩:=Kd.R_slice D.out.2.2
      subst ef
      go_wp2_with (first|(go_at_call 16;(try rw [← List.length_drop]);(with_reducible refine (CALL.out ()).mono ?_);rintro E w1 ⟨rfl,hb1⟩;have D1:=Aside0.mk (D.out.below hb1);clear hb1)|(go_at_call 17;refine (field_Parse.calls s p1 p2 _ _ HP.out).mono ?_;rintro E w2 ⟨rfl,hb2⟩;have D2:=Aside0.mk ((D1.out.below hb2).alloc (.cells #[.string p1,.string p2] 48));have hy0:(w2.alloc (.cells #[.string p1,.string p2] 48)).cell? ⟨w2.heap.size,0,none⟩=some (.string p1):=(blk_cell (blk_new w2 _) 0).trans rfl;have hy1:(w2.alloc (.cells #[.string p1,.string p2] 48)).cell? ⟨w2.heap.size,1,none⟩=some (.string p2):=(blk_cell (blk_new w2 _) 1).trans rfl;clear hb2))
      go_ret3
      exact hpost_none D2.out
     rw [if_neg a6] at h
     have d6:((fs.length:Int) == 40)=false:=beq_eq_false_iff_ne.2 a6
     clear a6
     by_cases a7:fs.length < 4398046511104
     ·rw [if_pos a7] at h
      have LM:=Aside0.mk a7
      have H2:=Aside0.mk h
      clear a7 h
      obtain ⟨Af,cf,ef⟩:=Kd.R_slice D.out.2.2
      have hlen : ∀ W:World,(Builtin.len_ #[25] 3 #[u7]).run Tryd.prog W = .ok (.int .i64 (fs.length:Int)) W:=fun W=>by rw [ef];first|(go_simp;done)|(simp [Builtin.len_,go_sem];done)|rfl
      clear ef
      go_wp2_with (first|(go_at_call 16;(try rw [← List.length_drop]);(with_reducible refine (CALL.out ()).mono ?_);rintro E w1 ⟨rfl,hb1⟩;have D1:=Aside0.mk (D.out.below hb1);clear hb1)|(go_at_call 17;refine (field_Parse.calls s p1 p2 _ _ HP.out).mono ?_;rintro E w2 ⟨rfl,hb2⟩;have D2:=Aside0.mk ((D1.out.below hb2).alloc (.cells #[.string p1,.string p2] 48));have hy0:(w2.alloc (.cells #[.string p1,.string p2] 48)).cell? ⟨w2.heap.size,0,none⟩=some (.string p1):=(blk_cell (blk_new w2 _) 0).trans rfl;have hy1:(w2.alloc (.cells #[.string p1,.string p2] 48)).cell? ⟨w2.heap.size,1,none⟩=some (.string p2):=(blk_cell (blk_new w2 _) 1).trans rfl;clear hb2)|((with_reducible refine gate_builtin (b:=.append) (xs:=#[.tmp 75,.tmp 77]) rfl ?_);at_builtin;refine Kd.R_append k48 (w0:=w0) w0.heap.size rfl (.tmp 75) (.tmp 77) 25 48 (.agg #[(.string ⟨#[]⟩),(.string ⟨#[]⟩)]) 32 rfl Tryd.underlying25 http_head.inf rfl zb51 zb26 u7 fs (⟨p1,p2⟩:S48) [.string p1,.string p2] (fun k_=>k_ ≠ G) (fun _=>False) ?x1 ?x2 ?aP (fun _ hk=>hk.elim) ?aF ?aO ?aB ?aS ?aL ?_;(case x1=>first|rfl|(go_simp;done));(case x2=>first|rfl|(go_simp;done));(case aP=>exact k48_mkM _ _ _ (⟨p1,p2⟩:S48));(case aB=>exact D2.out.2.1);(case aF=>intro k_ hk e_;have:=D2.out.1.lt;omega);(case aO=>exact D2.out.2.2);(case aS=>exact D2.out.2.1.size);(case aL=>have:=LM.out;omega);intro v3 w3 ho hb hg hat;have D3:=Aside0.mk (show HSt w0 w3 G T Val st' v3 (fs ++ [(⟨p1,p2⟩:S48)]) from ⟨D2.out.1.grown hg (fun e=>D2.out.2.2.1 _ e.symm rfl),hb,ho⟩);clear ho hb hg hat))
      go_roundg k
      case rel=>exact ⟨wrap64 (at_ + n),_,st',(by first|rfl|(simp;done)),H2,D3⟩
      case measure=>exact Nat.lt_succ_self k
     ·rw [if_neg a7] at h
      cases h
    ·rw [if_neg b1] at h
     cases h
def line_minor.f (a0:ByteArray):Option (Int × Bool):=if a0.toList=([72,84,84,80,47,49,46,48]:List UInt8) then (some (0,true)) else (if a0.toList=([72,84,84,80,47,49,46,49]:List UInt8) then (some (1,true)) else (some (0,false)))
set_option maxHeartbeats 8000000 in
set_option maxRecDepth 100000 in
theorem line_minor.calls (a0:ByteArray) (r1:Int) (r2:Bool) (w:World) (h:line_minor.f a0=some (r1,r2)) :
 Calls Tryd.prog 19 #[.string a0] w fun e w' => e = .returned (.tuple #[.int .i64 r1,.bool r2])∧Drawn0 w w' := by
 unfold line_minor.f at h
 have H:=h
 clear h
 by_cases c2:a0.toList=([72,84,84,80,47,49,46,48]:List UInt8)
 ·rw [if_pos c2] at H
  have c2b0:=beq_iff_eq.mpr c2
  have c2b1:=bne_eq_false_iff_eq.mpr c2
  clear c2
  simp only [Option.some.injEq,Prod.mk.injEq] at H
  obtain ⟨rfl,rfl⟩:=H
  go_enter Tryd.func19,Tryd.ntmps19
  go_wp2
  go_ret2
  exact ⟨zb6,zb13⟩
 rw [if_neg c2] at H
 have c2b0:=beq_eq_false_iff_ne.mpr c2
 have c2b1:=bne_iff_ne.mpr c2
 by_cases c3:a0.toList=([72,84,84,80,47,49,46,49]:List UInt8);rotate_left
 ·rw [if_neg c3] at H
  have c3b0:=beq_eq_false_iff_ne.mpr c3
  have c3b1:=bne_iff_ne.mpr c3
  simp only [Option.some.injEq,Prod.mk.injEq] at H
  obtain ⟨rfl,rfl⟩:=H
  go_enter Tryd.func19,Tryd.ntmps19
  go_wp2
  go_ret2
  exact ⟨zb6,zb13⟩
 rw [if_pos c3] at H
 have c3b0:=beq_iff_eq.mpr c3
 have c3b1:=bne_eq_false_iff_eq.mpr c3
 clear c3
 simp only [Option.some.injEq,Prod.mk.injEq] at H
 obtain ⟨rfl,rfl⟩:=H
 go_enter Tryd.func19,Tryd.ntmps19
 go_wp2
 go_ret2
 exact ⟨zb6,zb13⟩
def stringslite_HasPrefix.f (a0:ByteArray) (a1:ByteArray):Option (Bool):=if (a0.size:Int) ≥ (a1.size:Int) then (if 0 ≤ (a1.size:Int) then (if (a1.size:Int) ≤ (a0.size:Int) then (some ((a0.extract 0 ((a1.size:Int):Int).toNat).toList == a1.toList)) else (none)) else (none)) else (some false)
set_option maxHeartbeats 8000000 in
set_option maxRecDepth 100000 in
theorem stringslite_HasPrefix.calls (a0:ByteArray) (a1:ByteArray) (r:Bool) (w:World) (h:stringslite_HasPrefix.f a0 a1=some r) :
 Calls Tryd.prog 46 #[.string a0,.string a1] w fun e w' => e = .returned (.bool r)∧Drawn0 w w' := by
 unfold stringslite_HasPrefix.f at h
 have H:=h
 clear h
 by_cases c3:(a0.size:Int) ≥ (a1.size:Int);rotate_left
 ·rw [if_neg c3] at H
  have c3b0:decide ((a1.size:Int) ≤ (a0.size:Int))=false:=decide_eq_false c3
  have c3b1:decide (a1.size ≤ a0.size)=false:=decide_eq_false (fun h=>c3 (Int.ofNat_le.mpr h))
  clear c3
  obtain rfl:=Option.some.inj H
  go_enter Tryd.func46,Tryd.ntmps46
  go_wp2
  go_ret
  exact ⟨zb6,zb13⟩
 rw [if_pos c3] at H
 have c3b0:decide ((a1.size:Int) ≤ (a0.size:Int))=true:=decide_eq_true c3
 have c3b1:decide (a1.size ≤ a0.size)=true:=decide_eq_true (Int.ofNat_le.mp c3)
 clear c3
 by_cases c4:0 ≤ (a1.size:Int)
 ·rw [if_pos c4] at H
  have c4b0:=eq_true c4
  have c4b1:=decide_eq_true c4
  clear c4
  by_cases c5:(a1.size:Int) ≤ (a0.size:Int)
  ·rw [if_pos c5] at H
   have c5b0:=eq_true c5
   have c5b1:=decide_eq_true c5
   clear c5
   obtain rfl:=Option.some.inj H
   go_enter Tryd.func46,Tryd.ntmps46
   go_wp2
   go_ret
   exact ⟨zb6,zb13⟩
  ·rw [if_neg c5] at H
   exact absurd H zb30
 ·rw [if_neg c4] at H
  exact absurd H zb30
def stringslite_CutPrefix.f (a0:ByteArray) (a1:ByteArray):Option (ByteArray × Bool):=(stringslite_HasPrefix.f a0 a1).bind fun t111=>(if t111=true then (if 0 ≤ (a1.size:Int) then (if (a1.size:Int) ≤ (a0.size:Int) then (some (a0.extract ((a1.size:Int):Int).toNat a0.size,true)) else (none)) else (none)) else (some (a0,false)))
set_option maxHeartbeats 8000000 in
set_option maxRecDepth 100000 in
theorem stringslite_CutPrefix.calls (a0:ByteArray) (a1:ByteArray) (r1:ByteArray) (r2:Bool) (w:World) (h:stringslite_CutPrefix.f a0 a1=some (r1,r2)) :
 Calls Tryd.prog 33 #[.string a0,.string a1] w fun e w' => e = .returned (.tuple #[.string r1,.bool r2])∧Drawn0 w w' := by
 unfold stringslite_CutPrefix.f at h
 have H:=h
 clear h
 replace H:=Option.bind_eq_some_iff.mp H
 obtain ⟨t111,A30,H⟩:=H
 try dsimp only at H
 have A3:=Aside0.mk A30
 clear A30
 by_cases c4:t111=true;rotate_left
 ·replace c4:=Bool.eq_false_iff.mpr c4
  subst c4
  rw [if_neg (show ¬ (false=true) by decide)] at H
  simp only [Option.some.injEq,Prod.mk.injEq] at H
  obtain ⟨rfl,rfl⟩:=H
  go_enter Tryd.func33,Tryd.ntmps33
  go_wp2_with (first|((with_reducible refine gate_callee (f:=46) rfl ?_);refine goesL_ (some 8) rfl rfl Tryd.func46 zb8 rfl #[.string a0,.string a1] rfl zb1 ?_;(with_reducible refine (stringslite_HasPrefix.calls a0 a1 false _ A3.out).mono ?_);rintro e w' ⟨rfl,⟨nd,rfl⟩⟩;(try clear A3);refine ⟨_,rfl,?_⟩))
  go_ret2
  exact ⟨zb6,zb13⟩
 subst c4
 rw [if_pos rfl] at H
 by_cases c5:0 ≤ (a1.size:Int)
 ·rw [if_pos c5] at H
  have c5b0:=eq_true c5
  have c5b1:=decide_eq_true c5
  clear c5
  by_cases c6:(a1.size:Int) ≤ (a0.size:Int)
  ·rw [if_pos c6] at H
   have c6b0:=eq_true c6
   have c6b1:=decide_eq_true c6
   clear c6
   simp only [Option.some.injEq,Prod.mk.injEq] at H
   obtain ⟨rfl,rfl⟩:=H
   go_enter Tryd.func33,Tryd.ntmps33
   go_wp2_with (first|((with_reducible refine gate_callee (f:=46) rfl ?_);refine goesL_ (some 8) rfl rfl Tryd.func46 zb8 rfl #[.string a0,.string a1] rfl zb1 ?_;(with_reducible refine (stringslite_HasPrefix.calls a0 a1 true _ A3.out).mono ?_);rintro e w' ⟨rfl,⟨nd,rfl⟩⟩;(try clear A3);refine ⟨_,rfl,?_⟩))
   go_ret2
   exact ⟨zb6,zb13⟩
  ·rw [if_neg c6] at H
   exact absurd H zb30
 ·rw [if_neg c5] at H
  exact absurd H zb30
def strings_CutPrefix.f (a0:ByteArray) (a1:ByteArray):Option (ByteArray × Bool):=(stringslite_CutPrefix.f a0 a1).bind fun bt112=>(some (bt112.1,bt112.2))
set_option maxHeartbeats 8000000 in
set_option maxRecDepth 100000 in
theorem strings_CutPrefix.calls (a0:ByteArray) (a1:ByteArray) (r1:ByteArray) (r2:Bool) (w:World) (h:strings_CutPrefix.f a0 a1=some (r1,r2)) :
 Calls Tryd.prog 21 #[.string a0,.string a1] w fun e w' => e = .returned (.tuple #[.string r1,.bool r2])∧Drawn0 w w' := by
 unfold strings_CutPrefix.f at h
 have H:=h
 clear h
 replace H:=Option.bind_eq_some_iff.mp H
 obtain ⟨⟨t112,t113⟩,A30,H⟩:=H
 try dsimp only at H
 have A3:=Aside0.mk A30
 clear A30
 simp only [Option.some.injEq,Prod.mk.injEq] at H
 obtain ⟨rfl,rfl⟩:=H
 go_enter Tryd.func21,Tryd.ntmps21
 go_wp2_with (first|((with_reducible refine gate_callee (f:=33) rfl ?_);refine goesL_ (some 8) rfl rfl Tryd.func33 zb8 rfl #[.string a0,.string a1] rfl zb1 ?_;(with_reducible refine (stringslite_CutPrefix.calls a0 a1 t112 t113 _ A3.out).mono ?_);rintro e w' ⟨rfl,⟨nd,rfl⟩⟩;(try clear A3);refine ⟨_,rfl,?_⟩))
 go_ret2
 exact ⟨zb6,zb13⟩
def line_Status.j0:Nat → ByteArray → Int → Bool → Option (Int × ByteArray × Int × (List (S48)) × List Int × Bool)
 | 0,_,_,_=>none
 | k + 1,x5,x7,x34=>if x34=true then (some (0,(⟨#[]⟩:ByteArray),0,([]:List (S48)),([]:List Int),false)) else (if 0 ≤ 3 then (if 3 ≤ (x5.size:Int) then ((sign_Decimal.f k (x5.extract 0 3)).bind fun bt120=>((strings_CutPrefix.f (x5.extract 3 x5.size) (⟨#[32]⟩:ByteArray)).bind fun bt122=>(if bt120.2=true then (if bt120.1 < 100 then (some (0,(⟨#[]⟩:ByteArray),0,([]:List (S48)),([]:List Int),false)) else (if bt120.1 > 599 then (some (0,(⟨#[]⟩:ByteArray),0,([]:List (S48)),([]:List Int),false)) else (if bt122.2=true then ((sign_Value.f bt122.1).bind fun t124=>(if t124=true then (if (bt122.1.size:Int) > 100 then (some (0,(⟨#[]⟩:ByteArray),0,([]:List (S48)),([]:List Int),false)) else (some (bt120.1,bt122.1,x7,([]:List (S48)),([]:List Int),true))) else (some (0,(⟨#[]⟩:ByteArray),0,([]:List (S48)),([]:List Int),false)))) else (if (x5.extract 3 x5.size).toList=([]:List UInt8) then ((sign_Value.f bt122.1).bind fun t125=>(if t125=true then (if (bt122.1.size:Int) > 100 then (some (0,(⟨#[]⟩:ByteArray),0,([]:List (S48)),([]:List Int),false)) else (some (bt120.1,bt122.1,x7,([]:List (S48)),([]:List Int),true))) else (some (0,(⟨#[]⟩:ByteArray),0,([]:List (S48)),([]:List Int),false)))) else (some (0,(⟨#[]⟩:ByteArray),0,([]:List (S48)),([]:List Int),false)))))) else (some (0,(⟨#[]⟩:ByteArray),0,([]:List (S48)),([]:List Int),false))))) else (none)) else (none))
def line_Status.f (k:Nat) (a0:ByteArray):Option (Int × ByteArray × Int × (List (S48)) × List Int × Bool):=(strings_Cut.f a0 (⟨#[32]⟩:ByteArray)).bind fun bt115=>((line_minor.f bt115.1).bind fun bt118=>(if bt115.2.2=true then (if bt118.2=true then (line_Status.j0 k bt115.2.1 bt118.1 (decide ((bt115.2.1.size:Int) < 3))) else (line_Status.j0 k bt115.2.1 bt118.1 true)) else (line_Status.j0 k bt115.2.1 bt118.1 true)))
theorem line_Status.mono_l : ∀ k,(∀ y0 y1 y2,LeO (line_Status.j0 k y0 y1 y2) (line_Status.j0 (k + 1) y0 y1 y2))
 | 0=>fun _ _ _ r h=>by simp [line_Status.j0] at h
 | k + 1=>by
  have ih0:=line_Status.mono_l k
  ·intro y0 y1 y2
   unfold line_Status.j0
   repeat' first
   | (with_reducible exact ih0 _ _ _)
   | (with_reducible exact sign_Decimal.mono _ _)
   | (with_reducible exact LeO.refl _)
   | (with_reducible exact LeO.none _)
   | (with_reducible refine LeO.ite ?_ ?_)
   | (with_reducible refine LeO.bind ?_ (fun _=>?_))
   | exact ih0 _ _ _
   | exact sign_Decimal.mono _ _
   | exact LeO.none _
   | refine LeO.ite ?_ ?_
   | refine LeO.bind ?_ (fun _=>?_)
theorem line_Status.mono : ∀ a0 k,LeO (line_Status.f k a0) (line_Status.f (k + 1) a0):=by
 intro a0 k
 have ih0:=line_Status.mono_l k
 unfold line_Status.f
 repeat' first
  | (with_reducible exact ih0 _ _ _)
  | (with_reducible exact sign_Decimal.mono _ _)
  | (with_reducible exact LeO.refl _)
  | (with_reducible exact LeO.none _)
  | (with_reducible refine LeO.ite ?_ ?_)
  | (with_reducible refine LeO.bind ?_ (fun _=>?_))
  | exact ih0 _ _ _
  | exact sign_Decimal.mono _ _
  | exact LeO.none _
  | refine LeO.ite ?_ ?_
  | refine LeO.bind ?_ (fun _=>?_)
set_option maxHeartbeats 8000000 in
set_option maxRecDepth 100000 in
theorem line_Status.calls (k:Nat) (a0:ByteArray) (r1:Int) (r2:ByteArray) (r3:Int) (r4:List (S48)) (r5:List Int) (r6:Bool) (w:World) (h:line_Status.f k a0=some (r1,r2,r3,r4,r5,r6)) :
 Calls Tryd.prog 11 #[.string a0] w fun e w' => ∃ v3_ v4_:Value,e = .returned (.tuple #[.agg #[.int .i64 r1,.string r2,.int .i64 r3,v3_,v4_],.bool r6])∧Kd.R k48 48 w' w.heap.size (fun _=>True) v3_ r4∧Kd.R (Kd.int .u8) 5 w' w.heap.size (fun _=>True) v4_ r5∧Below w.heap.size w w' := by
 have hu27:=Tryd.underlying27
 have HB:=Aside0.mk (Below.refl w.heap.size w)
 unfold line_Status.f at h
 have H:=h
 clear h
 replace H:=Option.bind_eq_some_iff.mp H
 obtain ⟨⟨t55,t49,t57⟩,A20,H⟩:=H
 try dsimp only at H
 have A2:=Aside0.mk A20
 clear A20
 replace H:=Option.bind_eq_some_iff.mp H
 obtain ⟨⟨t52,t58⟩,A30,H⟩:=H
 try dsimp only at H
 have A3:=Aside0.mk A30
 clear A30
 have HC4:=Aside0.mk H
 clear H
 go_enter Tryd.func11,Tryd.ntmps11
 go_upto_region 3 with (first|((with_reducible refine gate_dst (N:=2) rfl ?_);(try (refine gate_guard (by rfl) ?_;dsimp only));refine box_event rfl (N:=2) rfl (cs:=#[.int .i64 0,.string (⟨#[]⟩:ByteArray),.int .i64 0,.slice none 0 0,.slice none 0 0]) (t:=27) zS ?_;intro gb47 hg w5 hbox hb;have GW47:=zG hg zb0;have GE47:=GW47;have BK47:=Aside0.mk hbox;replace HB:=Aside0.mk (below_step zb0 hb);clear hb hbox hg)|((with_reducible refine gate_callee (f:=18) rfl ?_);refine goesL_ (some 15) rfl rfl Tryd.func18 zb8 rfl #[.string a0,.string (⟨#[32]⟩:ByteArray)] rfl zb1 ?_;(with_reducible refine (strings_Cut.calls a0 (⟨#[32]⟩:ByteArray) t55 t49 t57 _ A2.out).mono ?_);rintro e w' ⟨rfl,⟨nd,rfl⟩⟩;refine ⟨_,rfl,?_⟩)|((with_reducible refine gate_callee (f:=19) rfl ?_);refine goesL_ (some 21) rfl rfl Tryd.func19 zb8 rfl #[.string t55] rfl zb1 ?_;(with_reducible refine (line_minor.calls t55 t52 t58 _ A3.out).mono ?_);rintro e w' ⟨rfl,⟨nd,rfl⟩⟩;refine ⟨_,rfl,?_⟩))
 (try simp only [Act.put,zqA,zqB,zqC])
 go_cut [34] (fun v34 wc => ∃ (kq:Nat) (x34_3:Bool),v34 = .bool x34_3∧Aside0 (line_Status.j0 kq t49 t52 x34_3=some (r1,r2,r3,r4,r5,r6))∧Aside0 (kq ≤ k)∧Aside0 (wc.heap[gb47]? = some (.cells #[.int .i64 0,.string (⟨#[]⟩:ByteArray),.int .i64 0,(.slice none 0 0),(.slice none 0 0)] 27 (0,0)))∧Aside0 (Below w.heap.size w wc))
 case first =>
  have H:=HC4.out
  clear HC4
  by_cases c6:t57=true;rotate_left
  ·replace c6:=Bool.eq_false_iff.mpr c6
   subst c6
   rw [if_neg (show ¬ (false=true) by decide)] at H
   have H' := Aside0.mk H
   clear H
   go_wp2
   go_meet
   case rel=>exact ⟨_,(true),zb6,H',⟨zb36⟩,⟨zb15⟩,⟨zb5⟩⟩
  subst c6
  rw [if_pos rfl] at H
  by_cases c7:t58=true
  ·subst c7
   rw [if_pos rfl] at H
   have H' := Aside0.mk H
   clear H
   go_wp2
   go_meet
   case rel=>exact ⟨_,(decide ((t49.size:Int) < 3)),zb6,H',⟨zb36⟩,⟨zb15⟩,⟨zb5⟩⟩
  ·replace c7:=Bool.eq_false_iff.mpr c7
   subst c7
   rw [if_neg (show ¬ (false=true) by decide)] at H
   have H' := Aside0.mk H
   clear H
   go_wp2
   go_meet
   case rel=>exact ⟨_,(true),zb6,H',⟨zb36⟩,⟨zb15⟩,⟨zb5⟩⟩
 case rest =>
  clear HC4
  try clear c1
  try clear p2
  try clear c6
  try clear c7
  obtain ⟨kq,x34_3,rfl,HA,HJ3,BK47,HB⟩:=hcut
  cases kq with
  | zero=>exact absurd HA.out (by simp [line_Status.j0])
  | succ kj3 =>
   have H:=HA.out
   clear HA
   simp only [line_Status.j0] at H
   by_cases c8:x34_3=true
   ·subst c8
    rw [if_pos rfl] at H
    simp only [Option.some.injEq,Prod.mk.injEq] at H
    obtain ⟨rfl,rfl,rfl,rfl,rfl,rfl⟩:=H
    obtain ⟨hcz9_0,hcz9_1,hcz9_2,hcz9_3,hcz9_4,hfz9_0,hfz9_1,hfz9_2,hfz9_3,hfz9_4⟩:=zq5 BK47.out
    go_wp2
    refine bodyPost_ret (results_ct rfl _ _ gb47 27 #[.int .i64 0,.string (⟨#[]⟩:ByteArray),.int .i64 0,.slice none 0 0,.slice none 0 0] (0,0) _ rfl zb2 Tryd.underlying27 rfl zb8) rfl ?_
    exact ⟨_,_,zb3,zb4,zb4,zb5⟩
   replace c8:=Bool.eq_false_iff.mpr c8
   subst c8
   rw [if_neg (show ¬ (false=true) by decide)] at H
   by_cases c10:0 ≤ 3;rotate_left
   ·exact absurd c10 zb51
   rw [if_pos c10] at H
   have c10b0:=eq_true c10
   have c10b1:=decide_eq_true c10
   clear c10
   by_cases c11:3 ≤ (t49.size:Int);rotate_left
   ·rw [if_neg c11] at H
    exact absurd H zb30
   rw [if_pos c11] at H
   have c11b0:=eq_true c11
   have c11b1:=decide_eq_true c11
   clear c11
   replace H:=Option.bind_eq_some_iff.mp H
   obtain ⟨⟨t51,t59⟩,A51,H⟩:=H
   try dsimp only at H
   have A12:=Aside0.mk A51
   clear A51
   have c13b0:=eq_true (of_decide_eq_true zb7:3 ≤ (t49.size:Int))
   replace H:=Option.bind_eq_some_iff.mp H
   obtain ⟨⟨t50,t56⟩,A60,H⟩:=H
   try dsimp only at H
   have A14:=Aside0.mk A60
   clear A60
   by_cases c15:t59=true;rotate_left
   ·replace c15:=Bool.eq_false_iff.mpr c15
    subst c15
    rw [if_neg (show ¬ (false=true) by decide)] at H
    simp only [Option.some.injEq,Prod.mk.injEq] at H
    obtain ⟨rfl,rfl,rfl,rfl,rfl,rfl⟩:=H
    go_wp2_with (first|((with_reducible refine gate_callee (f:=20) rfl ?_);refine goesL_ (some 39) rfl rfl Tryd.func20 zb8 rfl #[.string (t49.extract 0 3)] rfl zb1 ?_;(with_reducible refine (sign_Decimal.calls kj3 (t49.extract 0 3) t51 false _ A12.out).mono ?_);rintro e w45 ⟨rfl,hb⟩;(try clear A12);refine ⟨_,rfl,?_⟩;replace BK47:=Aside0.mk (blk_below (g:=gb47) (o:=.cells #[.int .i64 0,.string (⟨#[]⟩:ByteArray),.int .i64 0,.slice none 0 0,.slice none 0 0] 27 (0,0)) zb15 hb);replace HB:=Aside0.mk (below_step zb5 hb);(try clear hb))|((with_reducible refine gate_callee (f:=21) rfl ?_);refine goesL_ (some 45) rfl rfl Tryd.func21 zb8 rfl #[.string (t49.extract 3 t49.size),.string (⟨#[32]⟩:ByteArray)] rfl zb1 ?_;(with_reducible refine (strings_CutPrefix.calls (t49.extract 3 t49.size) (⟨#[32]⟩:ByteArray) t50 t56 _ A14.out).mono ?_);rintro e w' ⟨rfl,⟨nd,rfl⟩⟩;(try clear A14);refine ⟨_,rfl,?_⟩;(try (rw [drewN_self w45];generalize hq_:World.drewN w45 _=w45;have n0_:Aside0 (w45.heap[gb47]? = some (.cells #[.int .i64 0,.string (⟨#[]⟩:ByteArray),.int .i64 0,.slice none 0 0,.slice none 0 0] 27 (0,0))):=⟨zb12⟩;have n1_:Aside0 (Below w.heap.size w w45):=⟨zb9⟩;clear BK47 HB hq_;have BK47:=n0_;have HB:=n1_;clear n0_ n1_));obtain ⟨hcz46_0,hcz46_1,hcz46_2,hcz46_3,hcz46_4,hfz46_0,hfz46_1,hfz46_2,hfz46_3,hfz46_4⟩:=zq5 BK47.out))
    refine bodyPost_ret (results_ct rfl _ _ gb47 27 #[.int .i64 0,.string (⟨#[]⟩:ByteArray),.int .i64 0,.slice none 0 0,.slice none 0 0] (0,0) _ rfl zb2 Tryd.underlying27 rfl zb8) rfl ?_
    exact ⟨_,_,zb3,zb4,zb4,zb5⟩
   subst c15
   rw [if_pos rfl] at H
   by_cases c16:t51 < 100
   ·rw [if_pos c16] at H
    have c16b0:=decide_eq_true c16
    clear c16
    simp only [Option.some.injEq,Prod.mk.injEq] at H
    obtain ⟨rfl,rfl,rfl,rfl,rfl,rfl⟩:=H
    go_wp2_with (first|((with_reducible refine gate_callee (f:=20) rfl ?_);refine goesL_ (some 39) rfl rfl Tryd.func20 zb8 rfl #[.string (t49.extract 0 3)] rfl zb1 ?_;(with_reducible refine (sign_Decimal.calls kj3 (t49.extract 0 3) t51 true _ A12.out).mono ?_);rintro e w17 ⟨rfl,hb⟩;(try clear A12);refine ⟨_,rfl,?_⟩;replace BK47:=Aside0.mk (blk_below (g:=gb47) (o:=.cells #[.int .i64 0,.string (⟨#[]⟩:ByteArray),.int .i64 0,.slice none 0 0,.slice none 0 0] 27 (0,0)) zb15 hb);replace HB:=Aside0.mk (below_step zb5 hb);(try clear hb))|((with_reducible refine gate_callee (f:=21) rfl ?_);refine goesL_ (some 45) rfl rfl Tryd.func21 zb8 rfl #[.string (t49.extract 3 t49.size),.string (⟨#[32]⟩:ByteArray)] rfl zb1 ?_;(with_reducible refine (strings_CutPrefix.calls (t49.extract 3 t49.size) (⟨#[32]⟩:ByteArray) t50 t56 _ A14.out).mono ?_);rintro e w' ⟨rfl,⟨nd,rfl⟩⟩;(try clear A14);refine ⟨_,rfl,?_⟩;(try (rw [drewN_self w17];generalize hq_:World.drewN w17 _=w17;have n0_:Aside0 (w17.heap[gb47]? = some (.cells #[.int .i64 0,.string (⟨#[]⟩:ByteArray),.int .i64 0,.slice none 0 0,.slice none 0 0] 27 (0,0))):=⟨zb12⟩;have n1_:Aside0 (Below w.heap.size w w17):=⟨zb9⟩;clear BK47 HB hq_;have BK47:=n0_;have HB:=n1_;clear n0_ n1_));obtain ⟨hcz18_0,hcz18_1,hcz18_2,hcz18_3,hcz18_4,hfz18_0,hfz18_1,hfz18_2,hfz18_3,hfz18_4⟩:=zq5 BK47.out))
    refine bodyPost_ret (results_ct rfl _ _ gb47 27 #[.int .i64 0,.string (⟨#[]⟩:ByteArray),.int .i64 0,.slice none 0 0,.slice none 0 0] (0,0) _ rfl zb2 Tryd.underlying27 rfl zb8) rfl ?_
    exact ⟨_,_,zb3,zb4,zb4,zb5⟩
   rw [if_neg c16] at H
   have c16b0:=decide_eq_false c16
   clear c16
   by_cases c19:t51 > 599
   ·rw [if_pos c19] at H
    have c19b0:decide (599 < t51)=true:=decide_eq_true c19
    clear c19
    simp only [Option.some.injEq,Prod.mk.injEq] at H
    obtain ⟨rfl,rfl,rfl,rfl,rfl,rfl⟩:=H
    go_wp2_with (first|((with_reducible refine gate_callee (f:=20) rfl ?_);refine goesL_ (some 39) rfl rfl Tryd.func20 zb8 rfl #[.string (t49.extract 0 3)] rfl zb1 ?_;(with_reducible refine (sign_Decimal.calls kj3 (t49.extract 0 3) t51 true _ A12.out).mono ?_);rintro e w20 ⟨rfl,hb⟩;(try clear A12);refine ⟨_,rfl,?_⟩;replace BK47:=Aside0.mk (blk_below (g:=gb47) (o:=.cells #[.int .i64 0,.string (⟨#[]⟩:ByteArray),.int .i64 0,.slice none 0 0,.slice none 0 0] 27 (0,0)) zb15 hb);replace HB:=Aside0.mk (below_step zb5 hb);(try clear hb))|((with_reducible refine gate_callee (f:=21) rfl ?_);refine goesL_ (some 45) rfl rfl Tryd.func21 zb8 rfl #[.string (t49.extract 3 t49.size),.string (⟨#[32]⟩:ByteArray)] rfl zb1 ?_;(with_reducible refine (strings_CutPrefix.calls (t49.extract 3 t49.size) (⟨#[32]⟩:ByteArray) t50 t56 _ A14.out).mono ?_);rintro e w' ⟨rfl,⟨nd,rfl⟩⟩;(try clear A14);refine ⟨_,rfl,?_⟩;(try (rw [drewN_self w20];generalize hq_:World.drewN w20 _=w20;have n0_:Aside0 (w20.heap[gb47]? = some (.cells #[.int .i64 0,.string (⟨#[]⟩:ByteArray),.int .i64 0,.slice none 0 0,.slice none 0 0] 27 (0,0))):=⟨zb12⟩;have n1_:Aside0 (Below w.heap.size w w20):=⟨zb9⟩;clear BK47 HB hq_;have BK47:=n0_;have HB:=n1_;clear n0_ n1_));obtain ⟨hcz21_0,hcz21_1,hcz21_2,hcz21_3,hcz21_4,hfz21_0,hfz21_1,hfz21_2,hfz21_3,hfz21_4⟩:=zq5 BK47.out))
    refine bodyPost_ret (results_ct rfl _ _ gb47 27 #[.int .i64 0,.string (⟨#[]⟩:ByteArray),.int .i64 0,.slice none 0 0,.slice none 0 0] (0,0) _ rfl zb2 Tryd.underlying27 rfl zb8) rfl ?_
    exact ⟨_,_,zb3,zb4,zb4,zb5⟩
   rw [if_neg c19] at H
   have c19b0:decide (599 < t51)=false:=decide_eq_false c19
   clear c19
   by_cases c22:t56=true
   ·subst c22
    rw [if_pos rfl] at H
    replace H:=Option.bind_eq_some_iff.mp H
    obtain ⟨t53,A61,H⟩:=H
    try dsimp only at H
    have A23:=Aside0.mk A61
    clear A61
    by_cases c24:t53=true;rotate_left
    ·replace c24:=Bool.eq_false_iff.mpr c24
     subst c24
     rw [if_neg (show ¬ (false=true) by decide)] at H
     simp only [Option.some.injEq,Prod.mk.injEq] at H
     obtain ⟨rfl,rfl,rfl,rfl,rfl,rfl⟩:=H
     go_wp2_with (first|((with_reducible refine gate_callee (f:=20) rfl ?_);refine goesL_ (some 39) rfl rfl Tryd.func20 zb8 rfl #[.string (t49.extract 0 3)] rfl zb1 ?_;(with_reducible refine (sign_Decimal.calls kj3 (t49.extract 0 3) t51 true _ A12.out).mono ?_);rintro e w30 ⟨rfl,hb⟩;(try clear A12);refine ⟨_,rfl,?_⟩;replace BK47:=Aside0.mk (blk_below (g:=gb47) (o:=.cells #[.int .i64 0,.string (⟨#[]⟩:ByteArray),.int .i64 0,.slice none 0 0,.slice none 0 0] 27 (0,0)) zb15 hb);replace HB:=Aside0.mk (below_step zb5 hb);(try clear hb))|((with_reducible refine gate_callee (f:=21) rfl ?_);refine goesL_ (some 45) rfl rfl Tryd.func21 zb8 rfl #[.string (t49.extract 3 t49.size),.string (⟨#[32]⟩:ByteArray)] rfl zb1 ?_;(with_reducible refine (strings_CutPrefix.calls (t49.extract 3 t49.size) (⟨#[32]⟩:ByteArray) t50 true _ A14.out).mono ?_);rintro e w' ⟨rfl,⟨nd,rfl⟩⟩;(try clear A14);refine ⟨_,rfl,?_⟩;(try (rw [drewN_self w30];generalize hq_:World.drewN w30 _=w30;have n0_:Aside0 (w30.heap[gb47]? = some (.cells #[.int .i64 0,.string (⟨#[]⟩:ByteArray),.int .i64 0,.slice none 0 0,.slice none 0 0] 27 (0,0))):=⟨zb12⟩;have n1_:Aside0 (Below w.heap.size w w30):=⟨zb9⟩;clear BK47 HB hq_;have BK47:=n0_;have HB:=n1_;clear n0_ n1_)))|(go_at_call 22;(with_reducible refine (sign_Value.calls t50 false _ A23.out).mono ?_);rintro e w' ⟨rfl,⟨nd,rfl⟩⟩;(try clear A23);(try (rw [drewN_self w30];generalize hq_:World.drewN w30 _=w30;have n0_:Aside0 (w30.heap[gb47]? = some (.cells #[.int .i64 0,.string (⟨#[]⟩:ByteArray),.int .i64 0,.slice none 0 0,.slice none 0 0] 27 (0,0))):=⟨zb12⟩;have n1_:Aside0 (Below w.heap.size w w30):=⟨zb9⟩;clear BK47 HB hq_;have BK47:=n0_;have HB:=n1_;clear n0_ n1_));obtain ⟨hcz31_0,hcz31_1,hcz31_2,hcz31_3,hcz31_4,hfz31_0,hfz31_1,hfz31_2,hfz31_3,hfz31_4⟩:=zq5 BK47.out))
     refine bodyPost_ret (results_ct rfl _ _ gb47 27 #[.int .i64 0,.string (⟨#[]⟩:ByteArray),.int .i64 0,.slice none 0 0,.slice none 0 0] (0,0) _ rfl zb2 Tryd.underlying27 rfl zb8) rfl ?_
     exact ⟨_,_,zb3,zb4,zb4,zb5⟩
    subst c24
    rw [if_pos rfl] at H
    by_cases c25:(t50.size:Int) > 100
    ·rw [if_pos c25] at H
     have c25b0:decide (100 < (t50.size:Int))=true:=decide_eq_true c25
     have c25b1:decide (100 < t50.size)=true:=decide_eq_true zb26
     clear c25
     simp only [Option.some.injEq,Prod.mk.injEq] at H
     obtain ⟨rfl,rfl,rfl,rfl,rfl,rfl⟩:=H
     go_wp2_with (first|((with_reducible refine gate_callee (f:=20) rfl ?_);refine goesL_ (some 39) rfl rfl Tryd.func20 zb8 rfl #[.string (t49.extract 0 3)] rfl zb1 ?_;(with_reducible refine (sign_Decimal.calls kj3 (t49.extract 0 3) t51 true _ A12.out).mono ?_);rintro e w26 ⟨rfl,hb⟩;(try clear A12);refine ⟨_,rfl,?_⟩;replace BK47:=Aside0.mk (blk_below (g:=gb47) (o:=.cells #[.int .i64 0,.string (⟨#[]⟩:ByteArray),.int .i64 0,.slice none 0 0,.slice none 0 0] 27 (0,0)) zb15 hb);replace HB:=Aside0.mk (below_step zb5 hb);(try clear hb))|((with_reducible refine gate_callee (f:=21) rfl ?_);refine goesL_ (some 45) rfl rfl Tryd.func21 zb8 rfl #[.string (t49.extract 3 t49.size),.string (⟨#[32]⟩:ByteArray)] rfl zb1 ?_;(with_reducible refine (strings_CutPrefix.calls (t49.extract 3 t49.size) (⟨#[32]⟩:ByteArray) t50 true _ A14.out).mono ?_);rintro e w' ⟨rfl,⟨nd,rfl⟩⟩;(try clear A14);refine ⟨_,rfl,?_⟩;(try (rw [drewN_self w26];generalize hq_:World.drewN w26 _=w26;have n0_:Aside0 (w26.heap[gb47]? = some (.cells #[.int .i64 0,.string (⟨#[]⟩:ByteArray),.int .i64 0,.slice none 0 0,.slice none 0 0] 27 (0,0))):=⟨zb12⟩;have n1_:Aside0 (Below w.heap.size w w26):=⟨zb9⟩;clear BK47 HB hq_;have BK47:=n0_;have HB:=n1_;clear n0_ n1_)))|(go_at_call 22;(with_reducible refine (sign_Value.calls t50 true _ A23.out).mono ?_);rintro e w' ⟨rfl,⟨nd,rfl⟩⟩;(try clear A23);(try (rw [drewN_self w26];generalize hq_:World.drewN w26 _=w26;have n0_:Aside0 (w26.heap[gb47]? = some (.cells #[.int .i64 0,.string (⟨#[]⟩:ByteArray),.int .i64 0,.slice none 0 0,.slice none 0 0] 27 (0,0))):=⟨zb12⟩;have n1_:Aside0 (Below w.heap.size w w26):=⟨zb9⟩;clear BK47 HB hq_;have BK47:=n0_;have HB:=n1_;clear n0_ n1_));obtain ⟨hcz27_0,hcz27_1,hcz27_2,hcz27_3,hcz27_4,hfz27_0,hfz27_1,hfz27_2,hfz27_3,hfz27_4⟩:=zq5 BK47.out))
     refine bodyPost_ret (results_ct rfl _ _ gb47 27 #[.int .i64 0,.string (⟨#[]⟩:ByteArray),.int .i64 0,.slice none 0 0,.slice none 0 0] (0,0) _ rfl zb2 Tryd.underlying27 rfl zb8) rfl ?_
     exact ⟨_,_,zb3,zb4,zb4,zb5⟩
    rw [if_neg c25] at H
    have c25b0:decide (100 < (t50.size:Int))=false:=decide_eq_false c25
    have c25b1:decide (100 < t50.size)=false:=decide_eq_false zb26
    clear c25
    simp only [Option.some.injEq,Prod.mk.injEq] at H
    obtain ⟨rfl,rfl,rfl,rfl,rfl,rfl⟩:=H
    go_wp2_with (first|((with_reducible refine gate_callee (f:=20) rfl ?_);refine goesL_ (some 39) rfl rfl Tryd.func20 zb8 rfl #[.string (t49.extract 0 3)] rfl zb1 ?_;(with_reducible refine (sign_Decimal.calls kj3 (t49.extract 0 3) t51 true _ A12.out).mono ?_);rintro e w28 ⟨rfl,hb⟩;(try clear A12);refine ⟨_,rfl,?_⟩;replace BK47:=Aside0.mk (blk_below (g:=gb47) (o:=.cells #[.int .i64 0,.string (⟨#[]⟩:ByteArray),.int .i64 0,.slice none 0 0,.slice none 0 0] 27 (0,0)) zb15 hb);replace HB:=Aside0.mk (below_step zb5 hb);(try clear hb))|((with_reducible refine gate_callee (f:=21) rfl ?_);refine goesL_ (some 45) rfl rfl Tryd.func21 zb8 rfl #[.string (t49.extract 3 t49.size),.string (⟨#[32]⟩:ByteArray)] rfl zb1 ?_;(with_reducible refine (strings_CutPrefix.calls (t49.extract 3 t49.size) (⟨#[32]⟩:ByteArray) t50 true _ A14.out).mono ?_);rintro e w' ⟨rfl,⟨nd,rfl⟩⟩;(try clear A14);refine ⟨_,rfl,?_⟩;(try (rw [drewN_self w28];generalize hq_:World.drewN w28 _=w28;have n0_:Aside0 (w28.heap[gb47]? = some (.cells #[.int .i64 0,.string (⟨#[]⟩:ByteArray),.int .i64 0,.slice none 0 0,.slice none 0 0] 27 (0,0))):=⟨zb12⟩;have n1_:Aside0 (Below w.heap.size w w28):=⟨zb9⟩;clear BK47 HB hq_;have BK47:=n0_;have HB:=n1_;clear n0_ n1_)))|(go_at_call 22;(with_reducible refine (sign_Value.calls t50 true _ A23.out).mono ?_);rintro e w' ⟨rfl,⟨nd,rfl⟩⟩;(try clear A23);(try (rw [drewN_self w28];generalize hq_:World.drewN w28 _=w28;have n0_:Aside0 (w28.heap[gb47]? = some (.cells #[.int .i64 0,.string (⟨#[]⟩:ByteArray),.int .i64 0,.slice none 0 0,.slice none 0 0] 27 (0,0))):=⟨zb12⟩;have n1_:Aside0 (Below w.heap.size w w28):=⟨zb9⟩;clear BK47 HB hq_;have BK47:=n0_;have HB:=n1_;clear n0_ n1_));obtain ⟨hcz29_0,hcz29_1,hcz29_2,hcz29_3,hcz29_4,hfz29_0,hfz29_1,hfz29_2,hfz29_3,hfz29_4⟩:=zq5 BK47.out))
    refine bodyPost_ret (results_ct rfl _ _ gb47 27 #[.int .i64 t51,.string t50,.int .i64 t52,.slice none 0 0,.slice none 0 0] (0,0) _ rfl zb11 Tryd.underlying27 rfl zb8) rfl ?_
    exact ⟨_,_,zb3,zb4,zb4,zb5⟩
   replace c22:=Bool.eq_false_iff.mpr c22
   subst c22
   rw [if_neg (show ¬ (false=true) by decide)] at H
   have c32b0:=eq_true (of_decide_eq_true zb7:3 ≤ (t49.size:Int))
   by_cases c33:(t49.extract 3 t49.size).toList=([]:List UInt8)
   ·rw [if_pos c33] at H
    have c33b0:=beq_iff_eq.mpr c33
    have c33b1:=bne_eq_false_iff_eq.mpr c33
    clear c33
    replace H:=Option.bind_eq_some_iff.mp H
    obtain ⟨t54,A62,H⟩:=H
    try dsimp only at H
    have A34:=Aside0.mk A62
    clear A62
    by_cases c35:t54=true;rotate_left
    ·replace c35:=Bool.eq_false_iff.mpr c35
     subst c35
     rw [if_neg (show ¬ (false=true) by decide)] at H
     simp only [Option.some.injEq,Prod.mk.injEq] at H
     obtain ⟨rfl,rfl,rfl,rfl,rfl,rfl⟩:=H
     go_wp2_with (first|((with_reducible refine gate_callee (f:=20) rfl ?_);refine goesL_ (some 39) rfl rfl Tryd.func20 zb8 rfl #[.string (t49.extract 0 3)] rfl zb1 ?_;(with_reducible refine (sign_Decimal.calls kj3 (t49.extract 0 3) t51 true _ A12.out).mono ?_);rintro e w41 ⟨rfl,hb⟩;(try clear A12);refine ⟨_,rfl,?_⟩;replace BK47:=Aside0.mk (blk_below (g:=gb47) (o:=.cells #[.int .i64 0,.string (⟨#[]⟩:ByteArray),.int .i64 0,.slice none 0 0,.slice none 0 0] 27 (0,0)) zb15 hb);replace HB:=Aside0.mk (below_step zb5 hb);(try clear hb))|((with_reducible refine gate_callee (f:=21) rfl ?_);refine goesL_ (some 45) rfl rfl Tryd.func21 zb8 rfl #[.string (t49.extract 3 t49.size),.string (⟨#[32]⟩:ByteArray)] rfl zb1 ?_;(with_reducible refine (strings_CutPrefix.calls (t49.extract 3 t49.size) (⟨#[32]⟩:ByteArray) t50 false _ A14.out).mono ?_);rintro e w' ⟨rfl,⟨nd,rfl⟩⟩;(try clear A14);refine ⟨_,rfl,?_⟩;(try (rw [drewN_self w41];generalize hq_:World.drewN w41 _=w41;have n0_:Aside0 (w41.heap[gb47]? = some (.cells #[.int .i64 0,.string (⟨#[]⟩:ByteArray),.int .i64 0,.slice none 0 0,.slice none 0 0] 27 (0,0))):=⟨zb12⟩;have n1_:Aside0 (Below w.heap.size w w41):=⟨zb9⟩;clear BK47 HB hq_;have BK47:=n0_;have HB:=n1_;clear n0_ n1_)))|(go_at_call 22;(with_reducible refine (sign_Value.calls t50 false _ A34.out).mono ?_);rintro e w' ⟨rfl,⟨nd,rfl⟩⟩;(try clear A34);(try (rw [drewN_self w41];generalize hq_:World.drewN w41 _=w41;have n0_:Aside0 (w41.heap[gb47]? = some (.cells #[.int .i64 0,.string (⟨#[]⟩:ByteArray),.int .i64 0,.slice none 0 0,.slice none 0 0] 27 (0,0))):=⟨zb12⟩;have n1_:Aside0 (Below w.heap.size w w41):=⟨zb9⟩;clear BK47 HB hq_;have BK47:=n0_;have HB:=n1_;clear n0_ n1_));obtain ⟨hcz42_0,hcz42_1,hcz42_2,hcz42_3,hcz42_4,hfz42_0,hfz42_1,hfz42_2,hfz42_3,hfz42_4⟩:=zq5 BK47.out))
     refine bodyPost_ret (results_ct rfl _ _ gb47 27 #[.int .i64 0,.string (⟨#[]⟩:ByteArray),.int .i64 0,.slice none 0 0,.slice none 0 0] (0,0) _ rfl zb2 Tryd.underlying27 rfl zb8) rfl ?_
     exact ⟨_,_,zb3,zb4,zb4,zb5⟩
    subst c35
    rw [if_pos rfl] at H
    by_cases c36:(t50.size:Int) > 100
    ·rw [if_pos c36] at H
     have c36b0:decide (100 < (t50.size:Int))=true:=decide_eq_true c36
     have c36b1:decide (100 < t50.size)=true:=decide_eq_true zb26
     clear c36
     simp only [Option.some.injEq,Prod.mk.injEq] at H
     obtain ⟨rfl,rfl,rfl,rfl,rfl,rfl⟩:=H
     go_wp2_with (first|((with_reducible refine gate_callee (f:=20) rfl ?_);refine goesL_ (some 39) rfl rfl Tryd.func20 zb8 rfl #[.string (t49.extract 0 3)] rfl zb1 ?_;(with_reducible refine (sign_Decimal.calls kj3 (t49.extract 0 3) t51 true _ A12.out).mono ?_);rintro e w37 ⟨rfl,hb⟩;(try clear A12);refine ⟨_,rfl,?_⟩;replace BK47:=Aside0.mk (blk_below (g:=gb47) (o:=.cells #[.int .i64 0,.string (⟨#[]⟩:ByteArray),.int .i64 0,.slice none 0 0,.slice none 0 0] 27 (0,0)) zb15 hb);replace HB:=Aside0.mk (below_step zb5 hb);(try clear hb))|((with_reducible refine gate_callee (f:=21) rfl ?_);refine goesL_ (some 45) rfl rfl Tryd.func21 zb8 rfl #[.string (t49.extract 3 t49.size),.string (⟨#[32]⟩:ByteArray)] rfl zb1 ?_;(with_reducible refine (strings_CutPrefix.calls (t49.extract 3 t49.size) (⟨#[32]⟩:ByteArray) t50 false _ A14.out).mono ?_);rintro e w' ⟨rfl,⟨nd,rfl⟩⟩;(try clear A14);refine ⟨_,rfl,?_⟩;(try (rw [drewN_self w37];generalize hq_:World.drewN w37 _=w37;have n0_:Aside0 (w37.heap[gb47]? = some (.cells #[.int .i64 0,.string (⟨#[]⟩:ByteArray),.int .i64 0,.slice none 0 0,.slice none 0 0] 27 (0,0))):=⟨zb12⟩;have n1_:Aside0 (Below w.heap.size w w37):=⟨zb9⟩;clear BK47 HB hq_;have BK47:=n0_;have HB:=n1_;clear n0_ n1_)))|(go_at_call 22;(with_reducible refine (sign_Value.calls t50 true _ A34.out).mono ?_);rintro e w' ⟨rfl,⟨nd,rfl⟩⟩;(try clear A34);(try (rw [drewN_self w37];generalize hq_:World.drewN w37 _=w37;have n0_:Aside0 (w37.heap[gb47]? = some (.cells #[.int .i64 0,.string (⟨#[]⟩:ByteArray),.int .i64 0,.slice none 0 0,.slice none 0 0] 27 (0,0))):=⟨zb12⟩;have n1_:Aside0 (Below w.heap.size w w37):=⟨zb9⟩;clear BK47 HB hq_;have BK47:=n0_;have HB:=n1_;clear n0_ n1_));obtain ⟨hcz38_0,hcz38_1,hcz38_2,hcz38_3,hcz38_4,hfz38_0,hfz38_1,hfz38_2,hfz38_3,hfz38_4⟩:=zq5 BK47.out))
     refine bodyPost_ret (results_ct rfl _ _ gb47 27 #[.int .i64 0,.string (⟨#[]⟩:ByteArray),.int .i64 0,.slice none 0 0,.slice none 0 0] (0,0) _ rfl zb2 Tryd.underlying27 rfl zb8) rfl ?_
     exact ⟨_,_,zb3,zb4,zb4,zb5⟩
    rw [if_neg c36] at H
    have c36b0:decide (100 < (t50.size:Int))=false:=decide_eq_false c36
    have c36b1:decide (100 < t50.size)=false:=decide_eq_false zb26
    clear c36
    simp only [Option.some.injEq,Prod.mk.injEq] at H
    obtain ⟨rfl,rfl,rfl,rfl,rfl,rfl⟩:=H
    go_wp2_with (first|((with_reducible refine gate_callee (f:=20) rfl ?_);refine goesL_ (some 39) rfl rfl Tryd.func20 zb8 rfl #[.string (t49.extract 0 3)] rfl zb1 ?_;(with_reducible refine (sign_Decimal.calls kj3 (t49.extract 0 3) t51 true _ A12.out).mono ?_);rintro e w39 ⟨rfl,hb⟩;(try clear A12);refine ⟨_,rfl,?_⟩;replace BK47:=Aside0.mk (blk_below (g:=gb47) (o:=.cells #[.int .i64 0,.string (⟨#[]⟩:ByteArray),.int .i64 0,.slice none 0 0,.slice none 0 0] 27 (0,0)) zb15 hb);replace HB:=Aside0.mk (below_step zb5 hb);(try clear hb))|((with_reducible refine gate_callee (f:=21) rfl ?_);refine goesL_ (some 45) rfl rfl Tryd.func21 zb8 rfl #[.string (t49.extract 3 t49.size),.string (⟨#[32]⟩:ByteArray)] rfl zb1 ?_;(with_reducible refine (strings_CutPrefix.calls (t49.extract 3 t49.size) (⟨#[32]⟩:ByteArray) t50 false _ A14.out).mono ?_);rintro e w' ⟨rfl,⟨nd,rfl⟩⟩;(try clear A14);refine ⟨_,rfl,?_⟩;(try (rw [drewN_self w39];generalize hq_:World.drewN w39 _=w39;have n0_:Aside0 (w39.heap[gb47]? = some (.cells #[.int .i64 0,.string (⟨#[]⟩:ByteArray),.int .i64 0,.slice none 0 0,.slice none 0 0] 27 (0,0))):=⟨zb12⟩;have n1_:Aside0 (Below w.heap.size w w39):=⟨zb9⟩;clear BK47 HB hq_;have BK47:=n0_;have HB:=n1_;clear n0_ n1_)))|(go_at_call 22;(with_reducible refine (sign_Value.calls t50 true _ A34.out).mono ?_);rintro e w' ⟨rfl,⟨nd,rfl⟩⟩;(try clear A34);(try (rw [drewN_self w39];generalize hq_:World.drewN w39 _=w39;have n0_:Aside0 (w39.heap[gb47]? = some (.cells #[.int .i64 0,.string (⟨#[]⟩:ByteArray),.int .i64 0,.slice none 0 0,.slice none 0 0] 27 (0,0))):=⟨zb12⟩;have n1_:Aside0 (Below w.heap.size w w39):=⟨zb9⟩;clear BK47 HB hq_;have BK47:=n0_;have HB:=n1_;clear n0_ n1_));obtain ⟨hcz40_0,hcz40_1,hcz40_2,hcz40_3,hcz40_4,hfz40_0,hfz40_1,hfz40_2,hfz40_3,hfz40_4⟩:=zq5 BK47.out))
    refine bodyPost_ret (results_ct rfl _ _ gb47 27 #[.int .i64 t51,.string t50,.int .i64 t52,.slice none 0 0,.slice none 0 0] (0,0) _ rfl zb11 Tryd.underlying27 rfl zb8) rfl ?_
    exact ⟨_,_,zb3,zb4,zb4,zb5⟩
   ·rw [if_neg c33] at H
    have c33b0:=beq_eq_false_iff_ne.mpr c33
    have c33b1:=bne_iff_ne.mpr c33
    simp only [Option.some.injEq,Prod.mk.injEq] at H
    obtain ⟨rfl,rfl,rfl,rfl,rfl,rfl⟩:=H
    go_wp2_with (first|((with_reducible refine gate_callee (f:=20) rfl ?_);refine goesL_ (some 39) rfl rfl Tryd.func20 zb8 rfl #[.string (t49.extract 0 3)] rfl zb1 ?_;(with_reducible refine (sign_Decimal.calls kj3 (t49.extract 0 3) t51 true _ A12.out).mono ?_);rintro e w43 ⟨rfl,hb⟩;(try clear A12);refine ⟨_,rfl,?_⟩;replace BK47:=Aside0.mk (blk_below (g:=gb47) (o:=.cells #[.int .i64 0,.string (⟨#[]⟩:ByteArray),.int .i64 0,.slice none 0 0,.slice none 0 0] 27 (0,0)) zb15 hb);replace HB:=Aside0.mk (below_step zb5 hb);(try clear hb))|((with_reducible refine gate_callee (f:=21) rfl ?_);refine goesL_ (some 45) rfl rfl Tryd.func21 zb8 rfl #[.string (t49.extract 3 t49.size),.string (⟨#[32]⟩:ByteArray)] rfl zb1 ?_;(with_reducible refine (strings_CutPrefix.calls (t49.extract 3 t49.size) (⟨#[32]⟩:ByteArray) t50 false _ A14.out).mono ?_);rintro e w' ⟨rfl,⟨nd,rfl⟩⟩;(try clear A14);refine ⟨_,rfl,?_⟩;(try (rw [drewN_self w43];generalize hq_:World.drewN w43 _=w43;have n0_:Aside0 (w43.heap[gb47]? = some (.cells #[.int .i64 0,.string (⟨#[]⟩:ByteArray),.int .i64 0,.slice none 0 0,.slice none 0 0] 27 (0,0))):=⟨zb12⟩;have n1_:Aside0 (Below w.heap.size w w43):=⟨zb9⟩;clear BK47 HB hq_;have BK47:=n0_;have HB:=n1_;clear n0_ n1_));obtain ⟨hcz44_0,hcz44_1,hcz44_2,hcz44_3,hcz44_4,hfz44_0,hfz44_1,hfz44_2,hfz44_3,hfz44_4⟩:=zq5 BK47.out))
    refine bodyPost_ret (results_ct rfl _ _ gb47 27 #[.int .i64 0,.string (⟨#[]⟩:ByteArray),.int .i64 0,.slice none 0 0,.slice none 0 0] (0,0) _ rfl zb2 Tryd.underlying27 rfl zb8) rfl ?_
    exact ⟨_,_,zb3,zb4,zb4,zb5⟩
/-- What the response's first line tells: 0,or 400. -/
def statusFst (k:Nat) (s:ByteArray):Option Int:=(line_Status.f k s).bind fun x=>if x.2.2.2.1.length=0∧x.2.2.2.2.1.length=0 then (if x.2.2.2.2.2=true then some 0 else some 400) else none
/-- What its block holds: nothing,or the line that was read last. -/
def StatusVal (x:Option ByteArray) (cs:Array Value):Prop:=match x with
 | none=>cs=#[.int .i64 0,.string ⟨#[]⟩,.int .i64 0,.slice none 0 0,.slice none 0 0]
 | some s => ∃ (k:Nat) (r1:Int) (r2:ByteArray) (r3:Int) (r6:Bool) (A3:Option Addr) (c3:Nat) (A4:Option Addr) (c4:Nat),line_Status.f k s=some (r1,r2,r3,[],[],r6)∧cs=#[.int .i64 r1,.string r2,.int .i64 r3,.slice A3 0 c3,.slice A4 0 c4]
theorem StatusVal.form {x:Option ByteArray} {cs:Array Value} (h:StatusVal x cs) : ∃ (m:Int) (t:ByteArray) (mi:Int) (A3:Option Addr) (c3:Nat) (A4:Option Addr) (c4:Nat),cs=#[.int .i64 m,.string t,.int .i64 mi,.slice A3 0 c3,.slice A4 0 c4]:=by
 cases x with
 | none=>exact ⟨_,_,_,_,_,_,_,h⟩
 | some s=>obtain ⟨_,m,t,mi,_,_,_,_,_,_,h⟩:=h;exact ⟨m,t,mi,_,_,_,_,h⟩
theorem stKeep {W w1:World} (G:Nat) (o:Obj) (hb:Below W.heap.size W w1):KeepBut W (w1.alloc o) G none:=keep_alloc ⟨hb.size,fun i hi _ _=>hb.block i hi⟩ o
theorem stSet {w w1:World} {g:Nat} (h:KeepBut w w1 g none) (j:Nat) (u:Value):KeepBut w (w1.setCell ⟨g,j,none⟩ u) g none :=
 ⟨by simpa [World.setCell] using h.1,fun i hi hg hr=>(Below.heap_setCell w1 ⟨g,j,none⟩ u i hg).trans (h.2 i hi hg hr)⟩
set_option maxHeartbeats 4000000 in
set_option maxRecDepth 100000 in
theorem http_Response_1.callsOf (G:Nat):FirstOf 10 #[.pointer (some ⟨G,0,none⟩)] statusFst G 27 StatusVal:=by
 intro k W x s c hB h
 unfold statusFst at h
 obtain ⟨⟨r1,r2,r3,r4,r5,r6⟩,hs,h⟩:=Option.bind_eq_some_iff.1 h
 simp only at h
 by_cases hl:r4.length=0∧r5.length=0;rotate_left
 ·rw [if_neg hl] at h
  cases h
 rw [if_pos hl] at h
 obtain ⟨hl4,hl5⟩:=hl
 have e4:=List.eq_nil_of_length_eq_zero hl4
 have e5:=List.eq_nil_of_length_eq_zero hl5
 subst e4 e5
 clear hl4 hl5
 obtain ⟨cs,hv,hcs⟩:=hB
 obtain ⟨m0,t0,mi0,B3,d3,B4,d4,rfl⟩:=hv.form
 have hu:=Tryd.underlying27
 have HS:=Aside0.mk hs
 have HCS:=Aside0.mk hcs
 clear hs hcs hv
 show Calls Tryd.prog 10 #[.string s,.pointer (some ⟨G,0,none⟩)] W _
 cases r6 with
 | true =>
  rw [if_pos rfl] at h
  simp only [Option.some.injEq] at h
  subst h
  go_enter Tryd.func10,Tryd.ntmps10
  go_wp2_with (go_at_call 11;refine (line_Status.calls k s r1 r2 r3 [] [] true W HS.out).mono ?_;rintro E w1 ⟨v3,v4,rfl,h3,h4,hb⟩;obtain ⟨A3,c3,rfl⟩:=Kd.R_slice h3;obtain ⟨A4,c4,rfl⟩:=Kd.R_slice h4;simp only [List.length_nil] at *;have HB:=Aside0.mk hb;have BG:=Aside0.mk (blk_alloc (blk_below HCS.out hb) (.cells #[.int .i64 r1,.string r2,.int .i64 r3,.slice A3 0 c3,.slice A4 0 c4] 27 (0,0)));obtain ⟨q0,q1,q2,q3,q4,f0,f1,f2,f3,f4⟩:=zq5 (w:=(w1.alloc (.cells #[.int .i64 r1,.string r2,.int .i64 r3,.slice A3 0 c3,.slice A4 0 c4] 27 (0,0)))) (g:=G) (x0:=.int .i64 m0) (x1:=.string t0) (x2:=.int .i64 mi0) (x3:=.slice B3 0 d3) (x4:=.slice B4 0 d4) BG.out;clear hb h3 h4)
  go_ret
  refine ⟨rfl,⟨_,⟨k,r1,r2,r3,true,A3,c3,A4,c4,HS.out,rfl⟩,blk_put (blk_put (blk_put (blk_put (blk_put BG.out 0 _ rfl) 1 _ rfl) 2 _ rfl) 3 _ rfl) 4 _ rfl⟩,?_,stSet (stSet (stSet (stSet (stSet (stKeep G _ HB.out) 0 _) 1 _) 2 _) 3 _) 4 _⟩
  exact (((((hbase (Nat.le_of_lt (blk_lt HCS.out)) (below_alloc HB.out _)).setCell (Nat.le_refl _) _).setCell (Nat.le_refl _) _).setCell (Nat.le_refl _) _).setCell (Nat.le_refl _) _).setCell (Nat.le_refl _) _
 | false =>
  rw [if_neg zb30] at h
  simp only [Option.some.injEq] at h
  subst h
  go_enter Tryd.func10,Tryd.ntmps10
  go_wp2_with (go_at_call 11;refine (line_Status.calls k s r1 r2 r3 [] [] false W HS.out).mono ?_;rintro E w1 ⟨v3,v4,rfl,h3,h4,hb⟩;obtain ⟨A3,c3,rfl⟩:=Kd.R_slice h3;obtain ⟨A4,c4,rfl⟩:=Kd.R_slice h4;simp only [List.length_nil] at *;have HB:=Aside0.mk hb;have BG:=Aside0.mk (blk_alloc (blk_below HCS.out hb) (.cells #[.int .i64 r1,.string r2,.int .i64 r3,.slice A3 0 c3,.slice A4 0 c4] 27 (0,0)));obtain ⟨q0,q1,q2,q3,q4,f0,f1,f2,f3,f4⟩:=zq5 (w:=(w1.alloc (.cells #[.int .i64 r1,.string r2,.int .i64 r3,.slice A3 0 c3,.slice A4 0 c4] 27 (0,0)))) (g:=G) (x0:=.int .i64 m0) (x1:=.string t0) (x2:=.int .i64 mi0) (x3:=.slice B3 0 d3) (x4:=.slice B4 0 d4) BG.out;clear hb h3 h4)
  go_ret
  refine ⟨rfl,⟨_,⟨k,r1,r2,r3,false,A3,c3,A4,c4,HS.out,rfl⟩,blk_put (blk_put (blk_put (blk_put (blk_put BG.out 0 _ rfl) 1 _ rfl) 2 _ rfl) 3 _ rfl) 4 _ rfl⟩,?_,stSet (stSet (stSet (stSet (stSet (stKeep G _ HB.out) 0 _) 1 _) 2 _) 3 _) 4 _⟩
  exact (((((hbase (Nat.le_of_lt (blk_lt HCS.out)) (below_alloc HB.out _)).setCell (Nat.le_refl _) _).setCell (Nat.le_refl _) _).setCell (Nat.le_refl _) _).setCell (Nat.le_refl _) _).setCell (Nat.le_refl _) _
def bytes_Clone.f (l0:List Int):Option (List Int):=if l0.length ≤ 140737488355328 then some l0 else none
set_option maxHeartbeats 4000000 in
set_option maxRecDepth 100000 in
theorem bytes_Clone.calls (A0:Option Addr) (c0:Nat) (l0:List Int) (r:List Int) (w:World) (hr0:Kd.C (Kd.int .u8) w A0 l0.length l0) (hc0:l0.length ≤ c0) (h:bytes_Clone.f l0=some r) :
 Calls Tryd.prog 26 #[.slice A0 l0.length c0] w fun e w' => ∃ v0_:Value,e = .returned (v0_)∧Kd.R (Kd.int .u8) 5 w' w.heap.size (fun _=>True) v0_ r∧Below w.heap.size w w' := by
 have hl:l0.length ≤ 140737488355328∧l0=r:=by
  unfold bytes_Clone.f at h
  split at h
  ·exact ⟨by assumption,by simpa using h⟩
  cases h
 obtain ⟨hl,rfl⟩:=hl
 clear h
 have HR:=Aside0.mk hr0
 cases A0 with
 | none =>
  have he:l0=[]:=by
   cases l0 with
   | nil=>rfl
   | cons x y=>obtain ⟨ad,e,_⟩:=hr0.2.2 zb30;cases e
  subst he
  clear HR hr0
  have hnil : ∀ W:World,(binOp .eql 22 (.slice none 0 c0) (.slice none 0 0)).run Tryd.prog W = .ok (.bool true) W:=fun W=>by
   simp only [binOp]
   simp [Op.equal,Op.maxDepth,Lib.run_equalIn_slice_nil W 9999 22 _ none 0 c0 0 0 Tryd.underlying22]
  go_enter Tryd.func26,Tryd.ntmps26
  go_wp2
  go_ret
  exact ⟨_,rfl,Kd.R_nil _ _ _ _ _,Below.refl _ _⟩
 | some ad =>
  have HL:=Aside0.mk hl
  have hnil : ∀ W:World,(binOp .eql 22 (.slice (some ad) l0.length c0) (.slice none 0 0)).run Tryd.prog W = .ok (.bool false) W:=fun W=>by
   simp only [binOp]
   simp [Op.equal,Op.maxDepth,Lib.run_equalIn_slice_nil W 9999 22 _ (some ad) l0.length c0 0 0 Tryd.underlying22]
  have HB:=Aside0.mk (Below.refl w.heap.size w)
  clear hr0 hl hc0
  go_enter Tryd.func26,Tryd.ntmps26
  go_wp2_with (first
   | ((with_reducible refine gate_dst (N:=5) rfl ?_);refine Kd.R_lit (Kd.int .u8) _ 5 ?hg (N:=5) ?hd (xs:=([]:List Int)) (inner:=[]) (ok:=fun _=>True) (okp:=fun _=>True) ?hr ?hp (fun _ hk=>hk) trivial (Below.refl _ _) (Nat.le_refl _) zb30 ?_;(case hd=>rfl);(case hg=>rfl);(case hr=>first|(go_simp;done)|(go_simp;rfl));(case hp=>exact (Reps.none _ _));intro v5 w2 ho3 hb hg_ hnew_;clear hg_ hnew_;have HO5:=Aside0.mk (Kd.R_lower ho3 (below_size zb0));have n1_:=Aside0.mk (below_step zb0 hb);clear HB;have HB:=n1_;clear n1_;clear hb ho3)
   | ((with_reducible refine gate_builtin (b:=.append) (xs:=#[.tmp 5,.tmp 6]) rfl ?_);at_builtin;refine Kd.R_append_rows (Kd.int .u8) (w0:=w) w.heap.size rfl (.tmp 5) (.tmp 6) 22 5 (.int .u8 0) 1 rfl Tryd.underlying22 info5 rfl zb51 zb26 v5 [] l0 _ _ _ (fun _=>True) (fun _=>False) rfl rfl ?aO ?aR (fun _ _ h=>h) (fun _ h=>h.elim) (fun _ _=>trivial) ?aB ?aS ?aL ?_;(case aO=>exact HO5.out);(case aR=>exact Kd.C_below HR.out HB.out);(case aB=>exact HB.out);(case aS=>exact HB.out.size);(case aL=>have:=HL.out;simp only [List.length_nil];omega);intro v3 w3 ho hb3 hg3 hat;have HO7:=Aside0.mk ho;have HB7:=Aside0.mk hb3;clear ho hb3 hg3 hat))
  go_ret
  exact ⟨_,by first|rfl|(simp;done),HO7.out,HB7.out⟩
/-- The reader's block: its bytes,its place,and whether more are needed. -/
def Rdr (w:World) (g:Nat) (A:Option Addr) (n c:Nat) (p:Int) (m:Bool):Prop:=w.heap[g]? = some (.cells #[.slice A n c,.int .i64 p,.bool m] 85 (0,0))
theorem keep_set {w w1:World} {g:Nat} (h:KeepBut w w1 g none) (j:Nat) (u:Value):KeepBut w (w1.setCell ⟨g,j,none⟩ u) g none :=
 ⟨by simpa [World.setCell] using h.1,fun i hi hg hr=>(Below.heap_setCell w1 ⟨g,j,none⟩ u i hg).trans (h.2 i hi hg hr)⟩
theorem keep_trans {w w1 w2:World} {g:Nat} (h:KeepBut w w1 g none) (k:KeepBut w1 w2 g none):KeepBut w w2 g none :=
 ⟨Nat.le_trans h.1 k.1,fun i hi hg hr=>(k.2 i (Nat.lt_of_lt_of_le hi h.1) hg hr).trans (h.2 i hi hg hr)⟩
theorem keep_below {w w1:World} (g:Nat) (h:Below w.heap.size w w1):KeepBut w w1 g none:=⟨h.size,fun i hi _ _=>h.block i hi⟩
theorem below_less {w w1:World} {g:Nat} (hg:g ≤ w.heap.size) (h:Below w.heap.size w w1):Below g w w1:=⟨h.os,h.tape,h.output,h.size,fun b hb=>h.block b (Nat.lt_of_lt_of_le hb hg)⟩
theorem below_base {w w1:World} {b g:Nat} (hg:b ≤ g) (h:Below g w w1):Below b w w1:=⟨h.os,h.tape,h.output,h.size,fun i hi=>h.block i (Nat.lt_of_lt_of_le hi hg)⟩
/-- What a call of the reader's has turned: its own block alone;new blocks. -/
def Went (w w' : World) (g:Nat) (A:Option Addr) (n c:Nat) (p:Int) (m:Bool):Prop:=Rdr w' g A n c p m∧Below g w w' ∧ KeepBut w w' g none
theorem Went.step {w w1 w2:World} {g:Nat} {A:Option Addr} {n c:Nat} {p:Int} {m:Bool} (h:Went w w1 g A n c p m) (hb:Below w1.heap.size w1 w2):Went w w2 g A n c p m :=
 ⟨blk_below h.1 hb,h.2.1.trans (below_less (Nat.le_of_lt (blk_lt h.1)) hb),keep_trans h.2.2 (keep_below g hb)⟩
theorem Went.then_ {w w1 w2:World} {g:Nat} {A:Option Addr} {n c:Nat} {p q:Int} {m m2:Bool} (h:Went w w1 g A n c p m) (k:Went w1 w2 g A n c q m2):Went w w2 g A n c q m2 :=
 ⟨k.1,h.2.1.trans k.2.1,keep_trans h.2.2 k.2.2⟩
theorem Went.more {w w1:World} {g:Nat} {A:Option Addr} {n c:Nat} {p:Int} {m:Bool} (h:Went w w1 g A n c p m):w1.cell? ⟨g,2,none⟩=some (.bool m):=(blk_cell h.1 2).trans rfl
theorem Went.place {w w1:World} {g:Nat} {A:Option Addr} {n c:Nat} {p:Int} {m:Bool} (h:Went w w1 g A n c p m):w1.cell? ⟨g,1,none⟩=some (.int .i64 p):=(blk_cell h.1 1).trans rfl
theorem Went.bytes {w w1:World} {g:Nat} {A:Option Addr} {n c:Nat} {p:Int} {m:Bool} (h:Went w w1 g A n c p m):w1.cell? ⟨g,0,none⟩=some (.slice A n c):=(blk_cell h.1 0).trans rfl
/-- What line tells: the text,the error,the new place,whether more are needed. -/
def chunk_reader_line.f (k:Nat) (l:List Int) (p:Int):Option (ByteArray × Int × Int × Bool) :=
 if 0 ≤ p then (if p ≤ (l.length:Int) then ((line_Cut.f k (l.drop p.toNat) 256).bind fun c=>some (c.1,c.2.2,wrap64 (p + c.2.1),(decide (c.2.1=0) && decide (c.2.2=0)))) else none) else none
set_option maxHeartbeats 4000000 in
set_option maxRecDepth 100000 in
theorem chunk_reader_line.calls (k:Nat) (g:Nat) (A:Option Addr) (c:Nat) (l:List Int) (p:Int) (m:Bool) (s:ByteArray) (e q:Int) (m' : Bool) (w:World) (hr:Rdr w g A l.length c p m) (hC:Kd.C (Kd.int .u8) w A l.length l) (hc:l.length ≤ c) (h:chunk_reader_line.f k l p=some (s,e,q,m')) :
 Calls Tryd.prog 67 #[.pointer (some ⟨g,0,none⟩)] w fun E w' => E = .returned (.tuple #[.string s,.int .i64 e])∧Went w w' g A l.length c q m' := by
 unfold chunk_reader_line.f at h
 by_cases h0:0 ≤ p;rotate_left
 ·rw [if_neg h0] at h
  cases h
 rw [if_pos h0] at h
 by_cases h1:p ≤ (l.length:Int)
 ·rw [if_pos h1] at h
  obtain ⟨⟨s1,n,e1⟩,hcut,h⟩:=Option.bind_eq_some_iff.1 h
  simp only [Option.some.injEq,Prod.mk.injEq] at h
  obtain ⟨rfl,rfl,hq,hm⟩:=h
  have HQ:=Aside0.mk hq
  have HM:=Aside0.mk hm
  have HK:=Aside0.mk hcut
  clear hq hm hcut
  have hg:=blk_lt hr
  have hc0:w.cell? ⟨g,0,none⟩=some (.slice A l.length c):=(blk_cell hr 0).trans rfl
  have hc1:w.cell? ⟨g,1,none⟩=some (.int .i64 p):=(blk_cell hr 1).trans rfl
  obtain ⟨i011,hi011,_,hsz11,_⟩:=info_parts info5
  obtain ⟨A',hsl,hrd,hcc⟩:=print_drop_of (P:=Tryd.prog) (Value.int .u8) 0 22 5 .i64 Tryd.underlying22 hi011 hsz11 A c l p h0 h1 hc
  have HR:=Aside0.mk (Kd.C_of_reads (h1:=fun _=>rfl) (hrd _ (Kd.reads_of_C hC)))
  have HCC:=Aside0.mk hcc
  have HRR:=Aside0.mk hr
  clear hrd hcc hi011 hsz11 hr hC hc h0 h1
  go_enter Tryd.func67,Tryd.ntmps67
  go_wp2_with fail
  go_region_held3 (fun w' => w'.cell? ⟨g,0,none⟩=some (.slice A l.length c)∧w'.cell? ⟨g,1,none⟩=some (.int .i64 p))
   (first|go_keep)
   (first|(go_at_call 16;(try rw [← List.length_drop]);refine (line_Cut.calls k A' _ (l.drop p.toNat) 256 s1 n e1 _ (Kd.C_drew HR.out) HCC.out HK.out).mono ?_;rintro E w1 ⟨rfl,hb⟩;have k0:=pw_cell_below hb hc0;have k1:=pw_cell_below hb hc1))
  have R1:Rdr w1 g A l.length c p m:=blk_below (w:=w.drew) HRR.out hb
  have B1:Below g w w1:=⟨hb.os,hb.tape,hb.output,hb.size,fun b hb' => hb.block b (Nat.lt_trans hb' hg)⟩
  have K1:KeepBut w w1 g none:=⟨hb.size,fun i hi _ _=>hb.block i hi⟩
  have f1:=blk_frozen R1 1
  have f2:=blk_frozen R1 2
  have k2:w1.cell? ⟨g,2,none⟩=some (.bool m):=(blk_cell R1 2).trans rfl
  have R1' := Aside0.mk R1
  have B1' := Aside0.mk B1
  have K1' := Aside0.mk K1
  clear R1 B1 K1 h hb HR HCC HRR HK hsl hc0 hc1
  by_cases c0:n=0;rotate_left
  ·have d0:(n == 0)=false:=beq_eq_false_iff_ne.2 c0
   have hm:Aside0 (m' = false):=⟨by rw [← HM.out,decide_eq_false c0,Bool.false_and]⟩
   clear HM c0
   go_wp2
   go_ret2
   refine ⟨rfl,?_,(B1'.out.setCell (Nat.le_refl _) _).setCell (Nat.le_refl _) _,keep_set (keep_set K1'.out 1 _) 2 _⟩
   exact blk_put (blk_put R1'.out 1 _ rfl) 2 _ (by rw [hm.out,← HQ.out];rfl)
  have d0:(n == 0)=true:=beq_iff_eq.2 c0
  by_cases c1:e1=0
  ·have d1:(e1 == 0)=true:=beq_iff_eq.2 c1
   have hm:Aside0 (m' = true):=⟨by rw [← HM.out,decide_eq_true c0,decide_eq_true c1];rfl⟩
   clear HM c0 c1
   go_wp2
   go_ret2
   refine ⟨rfl,?_,(B1'.out.setCell (Nat.le_refl _) _).setCell (Nat.le_refl _) _,keep_set (keep_set K1'.out 1 _) 2 _⟩
   exact blk_put (blk_put R1'.out 1 _ rfl) 2 _ (by rw [hm.out,← HQ.out];rfl)
  ·have d1:(e1 == 0)=false:=beq_eq_false_iff_ne.2 c1
   have hm:Aside0 (m' = false):=⟨by rw [← HM.out,decide_eq_false c1,Bool.and_false]⟩
   clear HM c0 c1
   go_wp2
   go_ret2
   refine ⟨rfl,?_,(B1'.out.setCell (Nat.le_refl _) _).setCell (Nat.le_refl _) _,keep_set (keep_set K1'.out 1 _) 2 _⟩
   exact blk_put (blk_put R1'.out 1 _ rfl) 2 _ (by rw [hm.out,← HQ.out];rfl)
 ·rw [if_neg h1] at h
  cases h
/-- What data tells: the bytes,the error,the new place,whether more bytes are needed. -/
def dataOf (rest:List Int) (p n:Int) (m:Bool):List Int × Int × Int × Bool :=
 if n < (rest.length:Int) then
  (if rd rest n=13 then
   (if n + 1 < (rest.length:Int) then (if rd rest (n + 1)=10 then (rest.take n.toNat,0,wrap64 (p + (n + 2)),m) else ([],20,p,m)) else ([],0,p,true))
  else ([],20,p,m))
 else ([],0,p,true)
def chunk_reader_data.f (l:List Int) (p n:Int) (m:Bool):Option (List Int × Int × Int × Bool) :=
 if 0 ≤ p∧p ≤ (l.length:Int)∧0 ≤ n∧n ≤ 4611686018427387904 then some (dataOf (l.drop p.toNat) p n m) else none
/-- What data hands back: a piece of the bytes;and what it has turned. -/
def DataPost (w00 w:World) (g:Nat) (A:Option Addr) (n c:Nat) (r:List Int) (e q:Int) (m:Bool) (E:Ending) (w' : World):Prop := ∃ A2 c2,E = .returned (.tuple #[.slice A2 r.length c2,.int .i64 e])∧Kd.C (Kd.int .u8) w00 A2 r.length r∧r.length ≤ c2∧Went w w' g A n c q m
theorem data_none {w00 w w' : World} {g:Nat} {A:Option Addr} {n c:Nat} {e q:Int} {m:Bool} (h:Went w w' g A n c q m):DataPost w00 w g A n c [] e q m (.returned (.tuple #[.slice none 0 0,.int .i64 e])) w' := ⟨none,0,rfl,Kd.C_nil _ _,Nat.le_refl _,h⟩
theorem data_some {w00 w w' : World} {g:Nat} {A:Option Addr} {n c:Nat} {e q:Int} {m:Bool} {A2:Option Addr} {c2 j:Nat} {r:List Int} (h:Went w w' g A n c q m) (hj:r.length=j) (hC:Kd.C (Kd.int .u8) w00 A2 r.length r) (hc:r.length ≤ c2):DataPost w00 w g A n c r e q m (.returned (.tuple #[.slice A2 j c2,.int .i64 e])) w' := ⟨A2,c2,by rw [hj],hC,hc,h⟩
set_option maxHeartbeats 8000000 in
set_option maxRecDepth 100000 in
theorem chunk_reader_data.calls (g:Nat) (A:Option Addr) (c:Nat) (l:List Int) (p n:Int) (m:Bool) (r:List Int) (e q:Int) (m' : Bool) (w00 w:World) (hr:Rdr w g A l.length c p m) (hC:Kd.C (Kd.int .u8) w00 A l.length l) (hB0:Below w00.heap.size w00 w) (hg0:w00.heap.size ≤ g) (hc:l.length ≤ c) (h:chunk_reader_data.f l p n m=some (r,e,q,m')) :
 Calls Tryd.prog 50 #[.pointer (some ⟨g,0,none⟩),.int .i64 n] w (DataPost w00 w g A l.length c r e q m'):=by
 unfold chunk_reader_data.f at h
 by_cases hb:0 ≤ p∧p ≤ (l.length:Int)∧0 ≤ n∧n ≤ 4611686018427387904;rotate_left
 ·rw [if_neg hb] at h
  cases h
 rw [if_pos hb] at h
 obtain ⟨h0,h1,n0,n1⟩:=hb
 have H:=Aside0.mk (Option.some.inj h)
 clear h
 have hg:=blk_lt hr
 have hB00:=Aside0.mk hB0
 have hg00:=Aside0.mk hg0
 have hc0:w.cell? ⟨g,0,none⟩=some (.slice A l.length c):=(blk_cell hr 0).trans rfl
 have hc1:w.cell? ⟨g,1,none⟩=some (.int .i64 p):=(blk_cell hr 1).trans rfl
 have hc2:w.cell? ⟨g,2,none⟩=some (.bool m):=(blk_cell hr 2).trans rfl
 have f1:=blk_frozen hr 1
 have f2:=blk_frozen hr 2
 obtain ⟨i011,hi011,_,hsz11,_⟩:=info_parts info5
 obtain ⟨A',hsl,hrd,hcc⟩:=print_drop_of (P:=Tryd.prog) (Value.int .u8) 0 22 5 .i64 Tryd.underlying22 hi011 hsz11 A c l p h0 h1 hc
 have hCr:=Kd.C_of_reads (h1:=fun _=>rfl) (hrd _ (Kd.reads_of_C hC))
 obtain ⟨rest,hrest⟩ : ∃ rest,rest=l.drop p.toNat:=⟨_,rfl⟩
 rw [← hrest] at hsl hCr hcc H
 have hrl:rest.length=l.length - p.toNat:=by rw [hrest,List.length_drop]
 rw [hrl] at hsl
 obtain ⟨cc,hcc'⟩ : ∃ cc,cc=c - p.toNat:=⟨_,rfl⟩
 rw [← hcc'] at hsl hcc
 rw [← hrl] at hsl
 have HR:=Aside0.mk hCr
 have HCC:=Aside0.mk hcc
 have HRR:=Aside0.mk hr
 have HN:=Aside0.mk (And.intro n0 n1)
 clear hrd hCr hcc hsz11 hr hC hc hrest hrl hcc'
 have kc:=fun (w:World) (C:Array Value) (n c:Nat)=>Lib.run_convert_bytes_const (P:=Tryd.prog) w 22 5 C n c Tryd.underlying22 Tryd.underlying5
 clear hB0 hg0
 go_enter Tryd.func50,Tryd.ntmps50
 go_wp2_with fail
 go_quiet (fail)
 obtain ⟨w0,hw0⟩ : ∃ w0,w0=w.drewN nq:=⟨_,rfl⟩
 rw [← hw0]
 have hb0:Below w.heap.size w w0:=by rw [hw0];exact pw_below_drewN (Below.refl _ _) nq
 have W0:Went w w0 g A l.length c p m:=Went.step ⟨HRR.out,Below.refl _ _,keep_below g (Below.refl _ _)⟩ hb0
 have hz:w0.heap.size=w.heap.size:=by rw [hw0];simp
 have k1:=W0.place
 have k2:=W0.more
 have g1:=blk_frozen W0.1 1
 have g2:=blk_frozen W0.1 2
 have W0' := Aside0.mk W0
 have HB0:=Aside0.mk hb0
 clear W0 hc0 hc1 hc2 f1 f2 hw0 hb0 hz
 have W1:=Aside0.mk (W0'.out.step (below_alloc (Below.refl _ _) (.cells #[.int .u8 13,.int .u8 10] 5 (2,3))))
 have c13:(w0.alloc (.cells #[.int .u8 13,.int .u8 10] 5 (2,3))).cell? ⟨w0.heap.size,0,none⟩=some (.int .u8 13):=by rw [cell_of_row _ _ _ _ _ _ (blk_new _ _)];rfl
 have c10:(w0.alloc (.cells #[.int .u8 13,.int .u8 10] 5 (2,3))).cell? ⟨w0.heap.size,1,none⟩=some (.int .u8 10):=by rw [cell_of_row _ _ _ _ _ _ (blk_new _ _)];rfl
 have HC1:=Aside0.mk (Kd.C_below HR.out (hB00.out.trans (below_base hg00.out W1.out.2.1)))
 obtain ⟨w1,hw1⟩ : ∃ w1,w1=w0.alloc (.cells #[.int .u8 13,.int .u8 10] 5 (2,3)):=⟨_,rfl⟩
 rw [← hw1] at W1 c13 c10 HC1
 have hww:=hw1.symm
 clear hw1
 have hwn:wrap64 n=n:=by unfold wrap64;omega
 have hw1:wrap64 (n + 1)=n + 1:=by unfold wrap64;omega
 have hw2:wrap64 (n + 2)=n + 2:=by unfold wrap64;omega
 go_wp2_with fail
 go_loopw [7,8,21] (fun _ _ v wr => ∃ i:Int,v = .int .i64 i∧w1=wr∧Aside0 ((i=0 ∨ i=1 ∨ i=2)∧(i ≠ 0 → n < (rest.length:Int) → rd rest n=13)∧(i=2 → n + 1 < (rest.length:Int) → rd rest (n + 1)=10))) (fun _ _ v _=>(2 - intOf v).toNat)
 case atStart=>exact ⟨0,rfl,rfl,⟨zb26,fun h=>absurd rfl h,fun h=>by omega⟩⟩
 case round =>
  obtain ⟨i,rfl,rfl,HI⟩:=hrel
  obtain ⟨hi,_,_⟩:=HI.out
  rcases hi with rfl|rfl|rfl
  ·skip
   by_cases a0:n < (rest.length:Int);rotate_left
   ·have q1:(n < (rest.length:Int))=False:=eq_false a0
    have q2:decide (n < (rest.length:Int))=false:=decide_eq_false a0
    have HX:Aside0 (((1:Int)=0 ∨ (1:Int)=1 ∨ (1:Int)=2)∧((1:Int) ≠ 0 → n < (rest.length:Int) → rd rest n=13)∧((1:Int)=2 → n + 1 < (rest.length:Int) → rd rest (n + 1)=10)):=⟨⟨zb26,fun _ h=>absurd h a0,fun h=>by omega⟩⟩
    clear a0 HI
    go_wp2_with fail
    go_roundw
    case rel=>exact ⟨1,rfl,(by first|rfl|trivial),HX⟩
    case measure=>simp [intOf]
   obtain ⟨ad,e0,hx⟩:=Kd.at_int HC1.out n n0 a0
   subst e0
   have p1:(0 ≤ n)=True:=eq_true zb26
   have q1:(n < (rest.length:Int))=True:=eq_true a0
   have q2:decide (n < (rest.length:Int))=true:=decide_eq_true a0
   by_cases b1:rd rest n=13
   ·have d1:(rd rest n == 13)=true:=beq_iff_eq.2 b1
    have d2:(rd rest n != 13)=false:=bne_eq_false_iff_eq.2 b1
    have HI2:=Aside0.mk (And.intro b1 a0)
    have HI3:Aside0 ((1:Int)=0 ∨ (1:Int)=1 ∨ (1:Int)=2):=⟨zb26⟩
    have HX:Aside0 (((1:Int)=0 ∨ (1:Int)=1 ∨ (1:Int)=2)∧((1:Int) ≠ 0 → n < (rest.length:Int) → rd rest n=13)∧((1:Int)=2 → n + 1 < (rest.length:Int) → rd rest (n + 1)=10)):=⟨⟨zb26,fun _ _=>b1,fun h=>by omega⟩⟩
    clear b1 a0 HI HI2 HI3
    go_wp2_with fail
    go_roundw
    case rel=>exact ⟨1,rfl,(by first|rfl|trivial),HX⟩
    case measure=>simp [intOf]
   have d1:(rd rest n == 13)=false:=beq_eq_false_iff_ne.2 b1
   have d2:(rd rest n != 13)=true:=bne_iff_ne.2 b1
   have HD:Aside0 (dataOf rest p n m=([],20,p,m)):=⟨by unfold dataOf;rw [if_pos a0,if_neg b1]⟩
   rw [HD.out] at H
   have HE:=H.out
   simp only [Prod.mk.injEq] at HE
   obtain ⟨rfl,rfl,rfl,rfl⟩:=HE
   clear b1 a0 HI HD H
   go_wp2_with fail
   go_ret2
   exact data_none W1.out
  ·skip
   by_cases a0:n + 1 < (rest.length:Int);rotate_left
   ·have q1:(n + 1 < (rest.length:Int))=False:=eq_false a0
    have q2:decide (n + 1 < (rest.length:Int))=false:=decide_eq_false a0
    have HX:Aside0 (((2:Int)=0 ∨ (2:Int)=1 ∨ (2:Int)=2)∧((2:Int) ≠ 0 → n < (rest.length:Int) → rd rest n=13)∧((2:Int)=2 → n + 1 < (rest.length:Int) → rd rest (n + 1)=10)):=⟨⟨zb26,fun _ h=>HI.out.2.1 zb26 h,fun _ h=>absurd h a0⟩⟩
    clear a0 HI
    go_wp2_with fail
    go_roundw
    case rel=>exact ⟨2,rfl,(by first|rfl|trivial),HX⟩
    case measure=>simp [intOf]
   obtain ⟨ad,e0,hx⟩:=Kd.at_int HC1.out (n + 1) zb26 a0
   subst e0
   have p1:(0 ≤ n + 1)=True:=eq_true zb26
   have q1:(n + 1 < (rest.length:Int))=True:=eq_true a0
   have q2:decide (n + 1 < (rest.length:Int))=true:=decide_eq_true a0
   by_cases b1:rd rest (n + 1)=10
   ·have d1:(rd rest (n + 1) == 10)=true:=beq_iff_eq.2 b1
    have d2:(rd rest (n + 1) != 10)=false:=bne_eq_false_iff_eq.2 b1
    have HI2:=Aside0.mk (And.intro b1 a0)
    have HI3:Aside0 ((2:Int)=0 ∨ (2:Int)=1 ∨ (2:Int)=2):=⟨zb26⟩
    have HX:Aside0 (((2:Int)=0 ∨ (2:Int)=1 ∨ (2:Int)=2)∧((2:Int) ≠ 0 → n < (rest.length:Int) → rd rest n=13)∧((2:Int)=2 → n + 1 < (rest.length:Int) → rd rest (n + 1)=10)):=⟨⟨zb26,fun _ h=>HI.out.2.1 zb26 h,fun _ _=>b1⟩⟩
    clear b1 a0 HI HI2 HI3
    go_wp2_with fail
    go_roundw
    case rel=>exact ⟨2,rfl,(by first|rfl|trivial),HX⟩
    case measure=>simp [intOf]
   have d1:(rd rest (n + 1) == 10)=false:=beq_eq_false_iff_ne.2 b1
   have d2:(rd rest (n + 1) != 10)=true:=bne_iff_ne.2 b1
   have HD:Aside0 (dataOf rest p n m=([],20,p,m)):=⟨by unfold dataOf;rw [if_pos (by omega),if_pos (HI.out.2.1 (by omega) (by omega)),if_pos a0,if_neg b1]⟩
   rw [HD.out] at H
   have HE:=H.out
   simp only [Prod.mk.injEq] at HE
   obtain ⟨rfl,rfl,rfl,rfl⟩:=HE
   clear b1 a0 HI HD H
   go_wp2_with fail
   go_ret2
   exact data_none W1.out
  obtain ⟨_,i1,i2⟩:=HI.out
  have I1:=Aside0.mk (i1 zb26)
  have I2:=Aside0.mk (i2 rfl)
  clear i1 i2 HI
  by_cases a0:(rest.length:Int) < n + 2
  ·have q1:((rest.length:Int) < n + 2)=True:=eq_true a0
   have q2:decide ((rest.length:Int) < n + 2)=true:=decide_eq_true a0
   have HD:Aside0 (dataOf rest p n m=([],0,p,true)):=⟨by
    unfold dataOf
    by_cases e1:n < (rest.length:Int)
    ·rw [if_pos e1,if_pos (I1.out e1),if_neg zb26]
    rw [if_neg e1]⟩
   rw [HD.out] at H
   have HE:=H.out
   simp only [Prod.mk.injEq] at HE
   obtain ⟨rfl,rfl,rfl,rfl⟩:=HE
   clear a0 HD H I1 I2
   have k2' := W1.out.more
   have g2' := blk_frozen W1.out.1 2
   go_wp2_with fail
   go_ret2
   exact data_none ⟨blk_put W1.out.1 2 _ rfl,W1.out.2.1.setCell (Nat.le_refl _) _,keep_set W1.out.2.2 2 _⟩
  have q1:((rest.length:Int) < n + 2)=False:=eq_false a0
  have q2:decide ((rest.length:Int) < n + 2)=false:=decide_eq_false a0
  have q3:(n ≤ (rest.length:Int))=True:=eq_true zb26
  have HD:Aside0 (dataOf rest p n m=(rest.take n.toNat,0,wrap64 (p + (n + 2)),m)):=⟨by
   unfold dataOf
   rw [if_pos zb26,if_pos (I1.out zb26),if_pos zb26,if_pos (I2.out zb26)]⟩
  rw [HD.out] at H
  have HE:=H.out
  simp only [Prod.mk.injEq] at HE
  obtain ⟨rfl,rfl,rfl,rfl⟩:=HE
  have hnn:n.toNat ≤ rest.length:=by omega
  have q4:(n ≤ (cc:Int))=True:=eq_true (by have:=HCC.out;omega)
  have q5:(0 ≤ n)=True:=eq_true n0
  have HT:=Aside0.mk (Kd.C_of_reads (h1:=fun _=>rfl) ((Kd.reads_of_C (d:=(0:Int)) HR.out).take_ n.toNat hnn))
  have hlt:(rest.take n.toNat).length=n.toNat:=by rw [List.length_take];omega
  have HLT:=Aside0.mk hlt
  clear a0 HD H I1 I2 hnn hlt
  have k1' := W1.out.place
  have g1' := blk_frozen W1.out.1 1
  go_wp2_with fail
  go_ret2
  refine data_some (j:=n.toNat) ⟨?_,W1.out.2.1.setCell (Nat.le_refl _) _,keep_set W1.out.2.2 1 _⟩ HLT.out (by rw [HLT.out];exact HT.out) (by have:=HCC.out;have:=HLT.out;have h1:=HT.out.1;rw [List.length_take];omega)
  exact blk_put W1.out.1 1 _ rfl
def sign_Hex.f (k:Nat) (a0:ByteArray):Option (Int × Bool):=(sign_number.f k a0 16 15).bind fun bt215=>(some (bt215.1,bt215.2))
set_option maxHeartbeats 8000000 in
set_option maxRecDepth 100000 in
theorem sign_Hex.calls (k:Nat) (a0:ByteArray) (r1:Int) (r2:Bool) (w:World) (h:sign_Hex.f k a0=some (r1,r2)) :
 Calls Tryd.prog 68 #[.string a0] w fun e w' => e = .returned (.tuple #[.int .i64 r1,.bool r2])∧Below w.heap.size w w' := by
 have HB:=Aside0.mk (Below.refl w.heap.size w)
 unfold sign_Hex.f at h
 have H:=h
 clear h
 replace H:=Option.bind_eq_some_iff.mp H
 obtain ⟨⟨t215,t216⟩,A20,H⟩:=H
 try dsimp only at H
 have A2:=Aside0.mk A20
 clear A20
 simp only [Option.some.injEq,Prod.mk.injEq] at H
 obtain ⟨rfl,rfl⟩:=H
 go_enter Tryd.func68,Tryd.ntmps68
 go_wp2_with (first|((with_reducible refine gate_callee (f:=32) rfl ?_);refine goesL_ (some 5) rfl rfl Tryd.func32 zb8 rfl #[.string a0,.int .i64 16,.int .i64 15] rfl zb1 ?_;(with_reducible refine (sign_number.calls k a0 16 15 t215 t216 _ A2.out).mono ?_);rintro e w3 ⟨rfl,hb⟩;(try clear A2);refine ⟨_,rfl,?_⟩;replace HB:=Aside0.mk (below_step zb0 hb);(try clear hb)))
 go_ret2
 exact ⟨zb3,zb0⟩
/-- At a cutset of ASCII bytes. -/
def strings_TrimRight.f (a0 a1:ByteArray):Option ByteArray :=
 if a0.size ≤ 9223372036854775807∧a1.size < 4294967281∧a1.data.toList.all (fun b=>decide (b.toNat < 128))=true then some ⟨(Lib.trimRightS a0.data.toList a1.data.toList).toArray⟩ else none
theorem strings_TrimRight.calls (a0 a1:ByteArray) (r:ByteArray) (w:World) (h:strings_TrimRight.f a0 a1=some r) :
 Calls Tryd.prog 69 #[.string a0,.string a1] w fun e w' => e = .returned (.string r)∧Below w.heap.size w w' := by
 unfold strings_TrimRight.f at h
 split at h
 ·rename_i hc
  obtain rfl:=Option.some.inj h
  exact Go.Proofs.Any.strings_TrimRight_laid Tryd.lays162 zb8 a0 a1 w hc.1 hc.2.1 (Go.Proofs.ascii_of_all hc.2.2)
 cases h
end Go.Proofs.YtagffbblalldiaaDoor.P
