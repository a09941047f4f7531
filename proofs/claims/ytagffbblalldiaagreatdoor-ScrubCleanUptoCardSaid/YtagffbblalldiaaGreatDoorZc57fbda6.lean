/- Each function below answers as its Lean twin says; plain lemmas; a row where its theorem stands. No further condition. (Laid by this repo's pack.py out of its texts and of the print's words.) -/
import Derived.Test.YtagffbblalldiaaGreatDoorZ920b1e89
import Derived.Test.YtagffbblalldiaaGreatDoorZ27a02a94
import Derived.WalkSpells
import Derived.Lib.LastIndexByte
import Derived.Laws.RangeString
import Derived.Laws.RangeAny
import Derived.Lib.SlTrimSet
import Derived.Deep.RegionHeld3
import Derived.Lib.SlBytesConst
import Derived.Deep.QuietTactic
import Derived.BigQuiet
import Derived.Shelf.Strings.SlTrimAscii
import Derived.Shelf.Abstract
import Derived.Lib.AppendStr
import Derived.Laws.Append
namespace Go.Proofs.YtagffbblalldiaaGreatDoor.P
open Go.RowKit Go.Proofs.YtagffbblalldiaaGreatDoorW.PrintWords Go.Proofs.YtagffbblalldiaaGreatDoorW.PrintLast Go.Proofs.YtagffbblalldiaaGreatDoorW.PrintMore
attribute [local go_sem] max2_int min2_int max_two min_two max_three min_three max_four min_four
set_option linter.unusedVariables false
set_option linter.unusedSimpArgs false
def bytes_Clone.f (l0:List Int):Option (List Int):=if l0.length ≤ 140737488355328 then some l0 else none
set_option maxHeartbeats 4000000 in
set_option maxRecDepth 100000 in
theorem bytes_Clone.calls (A0:Option Addr) (c0:Nat) (l0:List Int) (r:List Int) (w:World) (hr0:Kd.C (Kd.int .u8) w A0 l0.length l0) (hc0:l0.length ≤ c0) (h:bytes_Clone.f l0=some r) :
 Calls Tryz.prog 62 #[.slice A0 l0.length c0] w fun e w' => ∃ v0_:Value,e = .returned (v0_)∧Kd.R (Kd.int .u8) 5 w' w.heap.size (fun _=>True) v0_ r∧Below w.heap.size w w' := by
 have hl:l0.length ≤ 140737488355328∧l0=r:=by
  unfold bytes_Clone.f at h
  split at h
  ·exact ⟨by assumption,by simpa using h⟩
  cases h
 obtain ⟨hl,rfl⟩:=hl
 clear h
 have HR:=Aside0.mk hr0
 cases A0 with
 | none =>
  have he:l0=[]:=by
   cases l0 with
   | nil=>rfl
   | cons x y=>obtain ⟨ad,e,_⟩:=hr0.2.2 zb33;cases e
  subst he
  clear HR hr0
  have hnil : ∀ W:World,(binOp .eql 22 (.slice none 0 c0) (.slice none 0 0)).run Tryz.prog W = .ok (.bool true) W:=fun W=>by
   simp only [binOp]
   simp [Op.equal,Op.maxDepth,Lib.run_equalIn_slice_nil W 9999 22 _ none 0 c0 0 0 Tryz.underlying22]
  go_enter Tryz.func62,Tryz.ntmps62
  go_wp2
  go_ret
  exact ⟨_,rfl,Kd.R_nil _ _ _ _ _,Below.refl _ _⟩
 | some ad =>
  have HL:=Aside0.mk hl
  have hnil : ∀ W:World,(binOp .eql 22 (.slice (some ad) l0.length c0) (.slice none 0 0)).run Tryz.prog W = .ok (.bool false) W:=fun W=>by
   simp only [binOp]
   simp [Op.equal,Op.maxDepth,Lib.run_equalIn_slice_nil W 9999 22 _ (some ad) l0.length c0 0 0 Tryz.underlying22]
  have HB:=Aside0.mk (Below.refl w.heap.size w)
  clear hr0 hl hc0
  go_enter Tryz.func62,Tryz.ntmps62
  go_wp2_with (first
   | ((with_reducible refine gate_dst (N:=5) rfl ?_);refine Kd.R_lit (Kd.int .u8) _ 5 ?hg (N:=5) ?hd (xs:=([]:List Int)) (inner:=[]) (ok:=fun _=>True) (okp:=fun _=>True) ?hr ?hp (fun _ hk=>hk) trivial (Below.refl _ _) (Nat.le_refl _) zb33 ?_;(case hd=>rfl);(case hg=>rfl);(case hr=>first|(go_simp;done)|(go_simp;rfl));(case hp=>exact (Reps.none _ _));intro v5 w2 ho3 hb hg_ hnew_;clear hg_ hnew_;have HO5:=Aside0.mk (Kd.R_lower ho3 (below_size zb0));have n1_:=Aside0.mk (below_step zb0 hb);clear HB;have HB:=n1_;clear n1_;clear hb ho3)
   | ((with_reducible refine gate_builtin (b:=.append) (xs:=#[.tmp 5,.tmp 6]) rfl ?_);at_builtin;refine Kd.R_append_rows (Kd.int .u8) (w0:=w) w.heap.size rfl (.tmp 5) (.tmp 6) 22 5 (.int .u8 0) 1 rfl Tryz.underlying22 info5 rfl zb27 zb18 v5 [] l0 _ _ _ (fun _=>True) (fun _=>False) rfl rfl ?aO ?aR (fun _ _ h=>h) (fun _ h=>h.elim) (fun _ _=>trivial) ?aB ?aS ?aL ?_;(case aO=>exact HO5.out);(case aR=>exact Kd.C_below HR.out HB.out);(case aB=>exact HB.out);(case aS=>exact HB.out.size);(case aL=>have:=HL.out;simp only [List.length_nil];omega);intro v3 w3 ho hb3 hg3 hat;have HO7:=Aside0.mk ho;have HB7:=Aside0.mk hb3;clear ho hb3 hg3 hat))
  go_ret
  exact ⟨_,zb20,HO7.out,HB7.out⟩
set_option maxHeartbeats 4000000 in
set_option maxRecDepth 100000 in
theorem field_Without_1.callsOf (B:Nat) (name:ByteArray) (w:World) (hc:w.cell? ⟨B,0,none⟩=some (.string name)):TestOf 105 #[.pointer (some ⟨B,0,none⟩)] Value.string (fun n=>sign_Same.f n name) w:=fun W x b hb h=>by
 have hB:B < w.heap.size:=World.block_lt_of_cell? w _ hc
 have hcell:W.cell? ⟨B,0,none⟩=some (.string name):=(hb.cell (p:=⟨B,0,none⟩) hB).trans hc
 have HS:=Aside0.mk h
 clear hc h hb
 show Calls Tryz.prog 105 #[.string x,.pointer (some ⟨B,0,none⟩)] W _
 go_enter Tryz.func105,Tryz.ntmps105
 go_wp2_with (go_at_call 89;refine (sign_Same.calls x name b W HS.out).mono ?_;rintro e w' ⟨rfl,hb'⟩)
 go_ret
 exact ⟨rfl,hb'⟩
def field_Without.l0:Nat → List (S36) → List ByteArray → List (S36) → Int → Option (List (S36))
 | 0,_,_,_,_=>none
 | k + 1,x0,x1,x5,x10=>if x10 < (x0.length:Int) then (if 0 ≤ x10 then ((anyO (fun n=>sign_Same.f n (rd_T36 x0 x10).f0) x1).bind fun t=>(if t=true then (field_Without.l0 k x0 x1 x5 (wrap64 (x10 + 1))) else (if x5.length < 4398046511104 then (field_Without.l0 k x0 x1 (x5 ++ [(⟨(rd_T36 x0 x10).f0,(rd_T36 x0 x10).f1⟩:S36)]) (wrap64 (x10 + 1))) else (none)))) else (none)) else (some x5)
def field_Without.f (k:Nat) (l0:List (S36)) (l1:List ByteArray):Option (List (S36)):=field_Without.l0 k l0 l1 [] 0
set_option maxHeartbeats 8000000 in
set_option maxRecDepth 100000 in
theorem field_Without.calls (k:Nat) (A0:Option Addr) (c0:Nat) (l0:List (S36)) (A1:Option Addr) (c1:Nat) (l1:List ByteArray) (r:List (S36)) (w:World) (hr0:Kd.C k36 w A0 l0.length l0) (hc0:l0.length ≤ c0) (hr1:Kd.C Kd.string w A1 l1.length l1) (hc1:l1.length ≤ c1) (h:field_Without.f k l0 l1=some r) :
 Calls Tryz.prog 59 #[.slice A0 l0.length c0,.slice A1 l1.length c1] w fun e w' => ∃ v0_:Value,e = .returned (v0_)∧Kd.R k36 36 w' w.heap.size (fun _=>True) v0_ r∧Below w.heap.size w w' := by
 have hu:=Tryz.underlying36
 have HR0:=Aside0.mk hr0
 have HR1:=Aside0.mk hr1
 have HC1:=Aside0.mk hc1
 have H' := Aside0.mk (show field_Without.l0 k l0 l1 [] 0=some r from h)
 have EG:=Aside0.mk (show ∀ args w,(callFunc 105 args).run Tryz.prog w = .ok (.enter 105 args) w from enters_of Tryz.func105 zb10 rfl)
 clear hr0 hr1 hc1 h
 go_enter Tryz.func59,Tryz.ntmps59
 go_wp2_with fail
 go_loopg [5,10] k (fun kq v5 v10 w' => ∃ (x5:List (S36)) (x10:Int),v10 = .int .i64 x10∧Aside0 (field_Without.l0 kq l0 l1 x5 x10=some r)∧Aside0 (kq ≤ k)∧Aside0 (Kd.R k36 36 w' w.heap.size (fun _=>True) v5 x5)∧Aside0 (Below w.heap.size w w'))
 case atStart=>exact ⟨[],0,rfl,H',⟨Nat.le_refl _⟩,⟨Kd.R_nil _ _ _ _ _⟩,⟨Below.refl _ _⟩⟩
 case round =>
  clear H'
  obtain ⟨x5,x10,rfl,HA,HK1,HO,HB⟩:=hrel
  cases gk with
  | zero=>exact absurd HA.out (by simp [field_Without.l0])
  | succ k1 =>
   have H:=HA.out
   clear HA
   simp only [field_Without.l0] at H
   by_cases c4:x10 < (l0.length:Int);rotate_left
   ·rw [if_neg c4] at H
    have c4b0:=decide_eq_false c4
    clear c4
    obtain rfl:=Option.some.inj H
    go_wp2
    go_ret
    exact ⟨_,zb20,HO.out,HB.out⟩
   rw [if_pos c4] at H
   have c4b0:=decide_eq_true c4
   by_cases c5:0 ≤ x10
   ·rw [if_pos c5] at H
    obtain ⟨t,hany,H⟩:=Option.bind_eq_some_iff.mp H
    have HANY:=Aside0.mk hany
    have HN:=Aside0.mk H
    clear hany H
    obtain ⟨ad,e0,hx0,hx1⟩:=at_T36 HR0.out x10 c5 c4
    cases e0
    replace hx0:=(HB.out.cell (World.block_lt_of_cell? w _ hx0)).trans hx0
    replace hx1:=(HB.out.cell (World.block_lt_of_cell? w _ hx1)).trans hx1
    replace c4:=eq_true c4
    replace c5:=eq_true c5
    have hcell:(wr.alloc (.cells #[.string (rd_T36 l0 x10).f0,.string (rd_T36 l0 x10).f1] 36)).cell? ⟨wr.heap.size,0,none⟩=some (.string (rd_T36 l0 x10).f0):=(blk_cell (blk_new wr _) 0).trans rfl
    have hcell2:(wr.alloc (.cells #[.string (rd_T36 l0 x10).f0,.string (rd_T36 l0 x10).f1] 36)).cell? ⟨wr.heap.size,1,none⟩=some (.string (rd_T36 l0 x10).f1):=(blk_cell (blk_new wr _) 1).trans rfl
    have HCE:=Aside0.mk hcell
    have HCE2:=Aside0.mk hcell2
    clear hcell hcell2
    cases t with
    | true =>
     have H1:field_Without.l0 k1 l0 l1 x5 (wrap64 (x10 + 1))=some r:=by have h:=HN.out;rw [if_pos rfl] at h;exact h
     have H' := Aside0.mk H1
     clear H1 HN
     go_wp2_with (go_at_call 86;refine (slices_ContainsFunc_string_string.callsOf (fun n=>sign_Same.f n (rd_T36 l0 x10).f0) 105 #[.pointer (some ⟨wr.heap.size,0,none⟩)] EG.out A1 c1 l1 true _ (Kd.C_alloc (Kd.C_below HR1.out HB.out) _) HC1.out (field_Without_1.callsOf wr.heap.size _ _ HCE.out) HANY.out).mono ?_;rintro e w1 ⟨rfl,hb⟩;have n0:=Aside0.mk (Kd.R_below (Kd.R_alloc HO.out _) hb);have n1:=Aside0.mk (below_step (below_alloc HB.out _) hb);clear HO HB;have HO:=n0;have HB:=n1;clear n0 n1 hb)
     go_roundg k1
     case measure=>have:=HK1.out;omega
     case rel=>exact ⟨x5,wrap64 (x10 + 1),zb20,H',⟨zb66⟩,HO,HB⟩
    | false =>
     have H1:(if x5.length < 4398046511104 then (field_Without.l0 k1 l0 l1 (x5 ++ [(⟨(rd_T36 l0 x10).f0,(rd_T36 l0 x10).f1⟩:S36)]) (wrap64 (x10 + 1))) else none)=some r:=by have h:=HN.out;rw [if_neg zb27] at h;exact h
     clear HN
     by_cases c9:x5.length < 4398046511104
     ·rw [if_pos c9] at H1
      have LM:=Aside0.mk c9
      have H' := Aside0.mk H1
      clear H1 c9
      go_wp2_with (first
       | (go_at_call 86;refine (slices_ContainsFunc_string_string.callsOf (fun n=>sign_Same.f n (rd_T36 l0 x10).f0) 105 #[.pointer (some ⟨wr.heap.size,0,none⟩)] EG.out A1 c1 l1 false _ (Kd.C_alloc (Kd.C_below HR1.out HB.out) _) HC1.out (field_Without_1.callsOf wr.heap.size _ _ HCE.out) HANY.out).mono ?_;rintro e w1 ⟨rfl,hb⟩;have n0:=Aside0.mk (Kd.R_below (Kd.R_alloc HO.out _) hb);have n1:=Aside0.mk (below_step (below_alloc HB.out _) hb);have hy0:=pw_cell_below hb HCE.out;have hy1:=pw_cell_below hb HCE2.out;clear HO HB;have HO:=n0;have HB:=n1;clear n0 n1 hb)
       | ((with_reducible refine gate_builtin (b:=.append) (xs:=#[.tmp 18,.tmp 20]) rfl ?_);at_builtin;refine Kd.R_append k36 (w0:=w) w.heap.size rfl (.tmp 18) (.tmp 20) 24 36 (.agg #[(.string ⟨#[]⟩),(.string ⟨#[]⟩)]) 32 rfl Tryz.underlying24 info36 rfl zb27 zb18 u5 x5 (⟨(rd_T36 l0 x10).f0,(rd_T36 l0 x10).f1⟩:S36) [.string ((rd_T36 l0 x10).f0),.string ((rd_T36 l0 x10).f1)] (fun _=>True) (fun _=>False) rfl rfl ?aP (fun _ hk=>hk.elim) ?aF ?aO ?aB ?aS ?aL ?_;(case aP=>exact k36_mkM _ _ _ (⟨(rd_T36 l0 x10).f0,(rd_T36 l0 x10).f1⟩:S36));(case aB=>exact zb26);(case aF=>exact (fun _ _=>trivial));(case aO=>exact (by (with_reducible repeat (first|apply Kd.R_alloc|apply Kd.R_drewN|apply Kd.R_drew));exact HO.out));(case aS=>exact zb21);(case aL=>have:=LM.out;omega);intro v3 w3 ho hb hg hat;have n0_:=Aside0.mk (hb);have n1_:=Aside0.mk (ho);clear HB;clear HO;have HB:=n0_;have HO:=n1_;clear n0_ n1_;clear ho hb hg hat))
      go_roundg k1
      case measure=>have:=HK1.out;omega
      case rel=>exact ⟨_,wrap64 (x10 + 1),zb20,H',⟨zb66⟩,HO,HB⟩
     ·rw [if_neg c9] at H1
      cases H1
   ·rw [if_neg c5] at H
    exact absurd H zb33
theorem tz64_16 (w:World) (ht:Tabs w):Calls Tryz.prog 207 #[.int .u64 16] w fun e w' => e = .returned (.int .i64 4)∧Drawn0 w w' := by
 have hc:w.cell? ⟨5,15,none⟩=some (.int .u8 4):=ht.2.cell globalDeBruijn64 15 (by decide)
 have hb:Go.bits .and .u64 16 18446744073709551600=16:=by decide +kernel
 have hw1:IntKind.u64.wrap (-16)=18446744073709551600:=by decide +kernel
 have hw2:IntKind.u64.wrap (16 * 285870213051353865)=4573923408821661840:=by decide +kernel
 have hw3:IntKind.u64.wrap 4573923408821661840=4573923408821661840:=by decide +kernel
 have hw4:(4573923408821661840:Int) / 288230376151711744=15:=by decide +kernel
 clear ht
 go_enter Tryz.func207,Tryz.ntmps207
 go_wp2
 go_ret
 exact ⟨rfl,by repeat (first|exact Drawn0.refl _|apply Drawn0.step)⟩
theorem tz_16 (w:World) (ht:Tabs w):Calls Tryz.prog 197 #[.int .u64 16] w fun e w' => e = .returned (.int .i64 4)∧Drawn0 w w' := by
 go_enter Tryz.func197,Tryz.ntmps197
 go_wp2_with (go_at_call 207;(with_reducible refine (tz64_16 _ ht).mono ?_);rintro e w' ⟨rfl,⟨nd,rfl⟩⟩)
 go_ret
 exact ⟨rfl,by repeat (first|exact Drawn0.refl _|apply Drawn0.step)⟩
def strconv_isPowerOfTwo.f (a0:Int):Option (Bool):=some ((Go.bits .and .i64 a0 (wrap64 (a0 - 1))) == 0)
set_option maxHeartbeats 8000000 in
set_option maxRecDepth 100000 in
theorem strconv_isPowerOfTwo.calls (a0:Int) (r:Bool) (w:World) (h:strconv_isPowerOfTwo.f a0=some r) :
 Calls Tryz.prog 196 #[.int .i64 a0] w fun e w' => e = .returned (.bool r)∧Drawn0 w w' := by
 unfold strconv_isPowerOfTwo.f at h
 have H:=h
 clear h
 obtain rfl:=Option.some.inj H
 go_enter Tryz.func196,Tryz.ntmps196
 go_wp2
 go_ret
 exact ⟨zb4,zb8⟩
/-- A digit of the base 16. -/
def hexd (d:Nat):Int:=if d < 10 then 48 + d else 87 + d
/-- The digits of the base 16. -/
def hexD (u:Nat):List Int:=if h:u < 16 then [hexd u] else hexD (u / 16) ++ [hexd (u % 16)]
termination_by u
decreasing_by omega
theorem hexD_small (u:Nat) (h:u < 16):hexD u=[hexd u]:=by rw [hexD,dif_pos h]
theorem hexD_big (u:Nat) (h:16 ≤ u):hexD u=hexD (u / 16) ++ [hexd (u % 16)]:=by rw [hexD,dif_neg (by omega)]
/-- The last cells of the array of 65. -/
def Row65 (w:World) (g:Nat) (suf:List Int):Prop := ∃ cs,w.heap[g]? = some (.cells cs 193 (0,0))∧cs.size=65∧cs.toList.drop (65 - suf.length)=nums .u8 suf
theorem Row65.cell {w:World} {g:Nat} {suf:List Int} (h:Row65 w g suf) (j:Nat) (hj:j < 65) : ∃ v,w.cell? ⟨g,j,none⟩=some v:=by
 obtain ⟨cs,hb,hs,_⟩:=h
 rw [cell_of_row _ _ _ _ _ _ hb]
 exact ⟨_,Array.getElem?_eq_getElem (by omega)⟩
theorem Row65.free {w:World} {g:Nat} {suf:List Int} (h:Row65 w g suf) (j:Nat):w.frozen? ⟨g,j,none⟩=false:=by
 obtain ⟨cs,hb,_,_⟩:=h
 simp [World.frozen?,hb]
theorem Row65.set {w:World} {g:Nat} {suf:List Int} (h:Row65 w g suf) (hl:suf.length < 65) (v:Int):Row65 (w.setCell ⟨g,64 - suf.length,none⟩ (.int .u8 v)) g (v :: suf):=by
 obtain ⟨cs,hb,hs,hd⟩:=h
 refine ⟨cs.setIfInBounds (64 - suf.length) (.int .u8 v),by simp [World.setCell,Array.getElem?_modify,hb],by simpa using hs,?_⟩
 have hlen:cs.toList.length=65:=by rw [Array.length_toList];exact hs
 rw [Array.toList_setIfInBounds,List.length_cons,show 65 - (suf.length + 1)=64 - suf.length by omega,List.drop_set,if_neg (by omega),Nat.sub_self,List.drop_eq_getElem_cons (by omega),List.set_cons_zero,show 64 - suf.length + 1=65 - suf.length by omega,hd]
 rfl
theorem Row65.reads {w:World} {g:Nat} {suf:List Int} (h:Row65 w g suf) (hl:suf.length ≤ 65):ReadsInt w .u8 (some ⟨g,65 - suf.length,none⟩) suf.length suf:=by
 obtain ⟨cs,hb,hs,hd⟩:=h
 refine ⟨rfl,by omega,fun _=>⟨_,rfl,fun j hj=>?_⟩⟩
 have ha:(⟨g,65 - suf.length,none⟩:Addr).add j=⟨g,65 - suf.length + j,none⟩:=by
  unfold Addr.add;split <;> simp_all
 rw [ha,cell_of_row _ _ _ _ _ _ hb]
 have h1:(cs.toList.drop (65 - suf.length))[j]? = (nums .u8 suf)[j]?:=by rw [hd]
 rw [List.getElem?_drop] at h1
 rw [← Array.getElem?_toList,h1]
 simp [nums,List.getD_eq_getElem?_getD,List.getElem?_eq_getElem hj]
theorem pow_step (u l:Nat) (hl:l ≤ 15) (h:u < 16 ^ (16 - l)) (hu:16 ≤ u):l ≤ 14∧u / 16 < 16 ^ (16 - (l + 1)):=by
 have h14:l ≤ 14:=by
  rcases Nat.lt_or_ge l 15 with h1|h1
  ·omega
  obtain rfl:l=15:=by omega
  simp at h
  omega
 refine ⟨h14,?_⟩
 have e:16 ^ (16 - l)=16 ^ (16 - (l + 1)) * 16:=by rw [← Nat.pow_succ];congr 1;omega
 rw [e] at h
 exact (Nat.div_lt_iff_lt_mul (by decide)).2 h
theorem hexd_at (d:Int) (h0:0 ≤ d) (h1:d < 16):bt (⟨#[48,49,50,51,52,53,54,55,56,57,97,98,99,100,101,102,103,104,105,106,107,108,109,110,111,112,113,114,115,116,117,118,119,120,121,122]⟩:ByteArray) d=hexd d.toNat:=by
 obtain ⟨n,rfl⟩:=Int.eq_ofNat_of_zero_le h0
 have h : ∀ m:Fin 16,bt (⟨#[48,49,50,51,52,53,54,55,56,57,97,98,99,100,101,102,103,104,105,106,107,108,109,110,111,112,113,114,115,116,117,118,119,120,121,122]⟩:ByteArray) (m.val:Int)=hexd m.val:=by decide +kernel
 exact h ⟨n,by omega⟩
set_option maxHeartbeats 8000000 in
set_option maxRecDepth 100000 in
theorem formatBits_16 (n:Nat) (hn:n < 18446744073709551616) (w:World) (ht:Tabs w) :
 Calls Tryz.prog 180 #[.slice none 0 0,.int .u64 n,.int .i64 16,.bool false,.bool false] w fun e w' => e = .returned (.tuple #[.slice none 0 0,.string (strOfNums (hexD n))])∧Below w.heap.size w w' := by
 have HT:=Aside0.mk ht
 clear ht
 have HB:=Aside0.mk (Below.refl w.heap.size w)
 have HN:=Aside0.mk hn
 clear hn
 go_enter Tryz.func180,Tryz.ntmps180
 go_wp2_with (first
  | (go_at_call 196;(with_reducible refine (strconv_isPowerOfTwo.calls 16 true _ (by decide +kernel)).mono ?_);rintro e w1 ⟨rfl,⟨nd,rfl⟩⟩)
  | (go_at_call 197;(with_reducible refine (tz_16 _ ?ht).mono ?_);(case ht=>exact HT.out.below (by repeat (first|exact HB.out|apply below_alloc|apply pw_below_drewN)));rintro e w2 ⟨rfl,⟨nd2,rfl⟩⟩))
 go_loopw [1,13] (fun v1 v13 wr => ∃ (u i:Int) (suf:List Int),v1 = .int .u64 u∧v13 = .int .i64 i∧Aside0 (0 ≤ u∧i=65 - suf.length∧suf.length ≤ 15∧u.toNat < 16 ^ (16 - suf.length))∧Aside0 (hexD n=hexD u.toNat ++ suf)∧Aside0 (Row65 wr w.heap.size suf)∧Aside0 (Below w.heap.size w wr)) (fun v1 _ _=>(intOf v1).toNat)
 case atStart =>
  refine ⟨n,65,[],rfl,rfl,⟨by omega,by simp,by simp,by have:=HN.out;simpa using this⟩,⟨by simp⟩,⟨⟨Tryz.zeroCells193,?_,by kernel_rfl,by kernel_rfl⟩⟩,⟨by repeat (first|exact HB.out|apply below_alloc|apply pw_below_drewN)⟩⟩
  show (w.heap.push _)[w.heap.size]? = _
  simp
 case round =>
  obtain ⟨u,i,suf,rfl,rfl,HU,HE,HR,HB2⟩:=hrel
  clear HB
  have hu0:0 ≤ u:=HU.out.1
  have hi0:1 ≤ i:=by have:=HU.out;omega
  have hi1:i ≤ 65:=by have:=HU.out;omega
  have hu1:u ≤ 18446744073709551615:=by
   have h1:=HU.out.2.2.2
   have h2:16 ^ (16 - suf.length) ≤ 16 ^ 16:=Nat.pow_le_pow_right (by decide) (by omega)
   have h3:(16:Nat) ^ 16=18446744073709551616:=by decide
   omega
  have hj:i - 1=((64 - suf.length:Nat):Int):=by have:=HU.out;omega
  obtain ⟨cv,hc⟩:=HR.out.cell (64 - suf.length) (by omega)
  have hf:=HR.out.free (64 - suf.length)
  have hjt:i.toNat - 1=64 - suf.length:=by omega
  rw [← hjt] at hc hf
  by_cases hb:16 ≤ u
  ·have hb1:decide (16 ≤ u)=true:=decide_eq_true hb
   have hb2:decide (u ≥ 16)=true:=decide_eq_true hb
   obtain ⟨D,hD⟩ : ∃ D,Go.bits .and .u64 u 15=D:=⟨_,rfl⟩
   have hDm:D=u % 16:=by rw [← hD];exact bits_mask .u64 64 (by decide) (by intro x h0 h1;simp [IntKind.wrap,IntKind.bits,IntKind.signed];omega) 4 (by decide) u hu0 (by omega)
   have hD0:0 ≤ D:=by omega
   have hD1:D < 16:=by omega
   have hx:=bt_at (⟨#[48,49,50,51,52,53,54,55,56,57,97,98,99,100,101,102,103,104,105,106,107,108,109,110,111,112,113,114,115,116,117,118,119,120,121,122]⟩:ByteArray) D
   have HD:=Aside0.mk hDm
   have HX:=hexd_at D hD0 hD1
   have HX' := Aside0.mk HX
   have HJ:=Aside0.mk (And.intro hj hjt)
   have HB' := Aside0.mk hb
   clear HX hDm hj hjt hb
   go_wp2
   refine ⟨⟨u / 16,i - 1,hexd D.toNat :: suf,rfl,rfl,?_,⟨?_⟩,⟨?_⟩,⟨HB2.out.setCell (Nat.le_refl _) _⟩⟩,?_⟩
   ·obtain ⟨h14,hp⟩:=pow_step u.toNat suf.length HU.out.2.2.1 HU.out.2.2.2 (by have:=HB'.out;omega)
    have hq:(u / 16).toNat=u.toNat / 16:=by omega
    exact ⟨by omega,by have:=HU.out;rw [List.length_cons];omega,by rw [List.length_cons];omega,by rw [hq,List.length_cons];exact hp⟩
   ·rw [HE.out,hexD_big u.toNat (by have:=HB'.out;omega),show (u / 16).toNat=u.toNat / 16 by omega,show D.toNat=u.toNat % 16 by have:=HD.out;omega,List.append_assoc]
    rfl
   ·rw [HJ.out.2,HX'.out]
    exact HR.out.set (by have:=HU.out;omega) _
   have:=HB'.out
   simp only [intOf]
   omega
  have hb1:decide (16 ≤ u)=false:=decide_eq_false hb
  have hb2:decide (u ≥ 16)=false:=decide_eq_false hb
  have hu2:u < 16:=by omega
  have hx:=bt_at (⟨#[48,49,50,51,52,53,54,55,56,57,97,98,99,100,101,102,103,104,105,106,107,108,109,110,111,112,113,114,115,116,117,118,119,120,121,122]⟩:ByteArray) u
  have HX' := Aside0.mk (hexd_at u hu0 hu2)
  have HJ:=Aside0.mk (And.intro hj hjt)
  have HB' := Aside0.mk hb
  have hal:Tryz.prog.arrayLen 193=65:=by simp [Program.arrayLen,Tryz.underlying193]
  have hsl : ∀ W,(Instr.sliceAt 193 (.pointer (some ⟨w.heap.size,0,none⟩)) (some (.int .i64 (i - 1))) none none).run Tryz.prog W = .ok (.slice (some ⟨w.heap.size,64 - suf.length,none⟩) (suf.length + 1) (suf.length + 1)) W:=by
   intro W
   have hl65:64 - suf.length + (suf.length + 1)=65:=by have:=HU.out;omega
   rw [hj,run_sliceAt_array_l W 193 ⟨w.heap.size,0,none⟩ (by simp [Program.arrayLen,Program.elem,Tryz.underlying193]) .i64 _ (by omega) (by rw [hal];omega),hal,Int.toNat_natCast]
   have he:Tryz.prog.elem 193=5:=by simp [Program.elem,Tryz.underlying193]
   rw [he,(show (sizeOf 5).run Tryz.prog W = .ok 1 W by kernel_rfl)]
   show Result.ok (slicedAt ⟨w.heap.size,0,none⟩ (64 - suf.length) 65 65 1) W=_
   unfold slicedAt
   rw [if_neg (by omega),Nat.mul_one,add_plain,show 65 - (64 - suf.length)=suf.length + 1 by omega]
  have hR2:=(HR.out.set (by have:=HU.out;omega) (bt (⟨#[48,49,50,51,52,53,54,55,56,57,97,98,99,100,101,102,103,104,105,106,107,108,109,110,111,112,113,114,115,116,117,118,119,120,121,122]⟩:ByteArray) u)).reads (by rw [List.length_cons];have:=HU.out;omega)
  rw [List.length_cons,show 65 - (suf.length + 1)=64 - suf.length by omega,← hjt] at hR2
  have hcv:=string_of_reads (P:=Tryz.prog) (src:=22) (dst:=9) (c:=suf.length + 1) Tryz.underlying22 Tryz.underlying5 Tryz.underlying9 hR2
  rw [hjt] at hcv
  rw [← hjt] at hsl hcv
  have HE2:=Aside0.mk (show strOfNums (bt (⟨#[48,49,50,51,52,53,54,55,56,57,97,98,99,100,101,102,103,104,105,106,107,108,109,110,111,112,113,114,115,116,117,118,119,120,121,122]⟩:ByteArray) u :: suf)=strOfNums (hexD n) by rw [HE.out,hexD_small u.toNat (by omega),HX'.out];rfl)
  have q3:(u < 36)=True:=eq_true (by omega)
  have q4:(36 ≤ u)=False:=eq_false (by omega)
  clear hj hjt hb hR2 hal hu2
  go_wp2
  go_ret2
  exact ⟨by first|rfl|(rw [HE2.out];rfl),HB2.out.setCell (Nat.le_refl _) _⟩
/-- At the base 10,and of a number from 0 on at the base 16. -/
def strconv_FormatInt_145.f (a0 a1:Int):Option ByteArray :=
 if a1=10 then (if -9223372036854775808 ≤ a0∧a0 ≤ 9223372036854775807 then some ⟨(Lib.itoa a0).toArray⟩ else none)
 else if a1=16 then (if 0 ≤ a0∧a0 ≤ 9223372036854775807 then some (strOfNums (hexD a0.toNat)) else none)
 else none
theorem below_grow {w:World} (k:Nat) (os:Array Obj):Below w.heap.size w (Go.Sort.grow (w.drewN k) os) :=
 ⟨rfl,rfl,rfl,by simp [Go.Sort.grow],fun b hb=>by simp only [Go.Sort.grow];rw [Array.getElem?_append_left (by simpa using hb)];rfl⟩
set_option maxHeartbeats 4000000 in
theorem formatInt_16 (a0:Int) (h0:0 ≤ a0) (h1:a0 ≤ 9223372036854775807) (w:World) (ht:Tabs w) :
 Calls Tryz.prog 145 #[.int .i64 a0,.int .i64 16] w fun e w' => e = .returned (.string (strOfNums (hexD a0.toNat)))∧Below w.heap.size w w' := by
 have HT:=Aside0.mk ht
 clear ht
 have hw:IntKind.u64.wrap a0=a0:=by simp [IntKind.wrap,IntKind.bits,IntKind.signed];omega
 have HF:=Aside0.mk (formatBits_16 a0.toNat (by omega))
 have hn:((a0.toNat:Nat):Int)=a0:=by omega
 rw [hn] at HF
 clear hn
 have hneg:decide (a0 < 0)=false:=decide_eq_false (by omega)
 go_enter Tryz.func145,Tryz.ntmps145
 go_wp2_with (go_at_call 180;(with_reducible refine (HF.out _ HT.out).mono ?_);rintro e w1 ⟨rfl,hb⟩)
 go_ret
 exact ⟨rfl,hb⟩
theorem strconv_FormatInt_145.calls (a0 a1:Int) (r:ByteArray) (w:World) (h:strconv_FormatInt_145.f a0 a1=some r) (ht:Tabs w) :
 Calls Tryz.prog 145 #[.int .i64 a0,.int .i64 a1] w fun e w' => e = .returned (.string r)∧Below w.heap.size w w' := by
 unfold strconv_FormatInt_145.f at h
 split at h
 ·rename_i h10
  subst h10
  split at h
  ·rename_i hr
   obtain rfl:=Option.some.inj h
   refine (Tryz.internal_strconv_FormatInt_10 a0 hr.1 hr.2 w ht.1).mono ?_
   rintro e w' ⟨rfl,k,os,rfl⟩
   exact ⟨rfl,below_grow k os⟩
  cases h
 split at h
 ·rename_i h16
  subst h16
  split at h
  ·rename_i hr
   obtain rfl:=Option.some.inj h
   exact formatInt_16 a0 hr.1 hr.2 w ht
  cases h
 cases h
def strconv_FormatInt_93.f (a0:Int) (a1:Int):Option (ByteArray):=(strconv_FormatInt_145.f a0 a1).bind fun t324=>(some t324)
set_option maxHeartbeats 8000000 in
set_option maxRecDepth 100000 in
theorem strconv_FormatInt_93.calls (a0:Int) (a1:Int) (r:ByteArray) (w:World) (h:strconv_FormatInt_93.f a0 a1=some r) (ht:Tabs w) :
 Calls Tryz.prog 93 #[.int .i64 a0,.int .i64 a1] w fun e w' => e = .returned (.string r)∧Below w.heap.size w w' := by
 have HTB:=Aside0.mk ht
 clear ht
 have HB:=Aside0.mk (Below.refl w.heap.size w)
 unfold strconv_FormatInt_93.f at h
 have H:=h
 clear h
 replace H:=Option.bind_eq_some_iff.mp H
 obtain ⟨t324,A30,H⟩:=H
 try dsimp only at H
 have A3:=Aside0.mk A30
 clear A30
 obtain rfl:=Option.some.inj H
 go_enter Tryz.func93,Tryz.ntmps93
 go_wp2_with (first|((with_reducible refine gate_callee (f:=145) rfl ?_);refine goesL_ (some 7) rfl rfl Tryz.func145 zb10 rfl #[.int .i64 a0,.int .i64 a1] rfl zb1 ?_;(with_reducible refine (strconv_FormatInt_145.calls a0 a1 t324 _ A3.out ?hT).mono ?_);(case hT=>exact HTB.out.below zb0);rintro e w4 ⟨rfl,hb⟩;(try clear A3);refine ⟨_,rfl,?_⟩;replace HB:=Aside0.mk (below_step zb0 hb);(try clear hb)))
 go_ret
 exact ⟨zb2,zb0⟩
def sign_Text.f (a0:Int):Option (ByteArray):=(strconv_FormatInt_93.f a0 10).bind fun t325=>(some t325)
set_option maxHeartbeats 8000000 in
set_option maxRecDepth 100000 in
theorem sign_Text.calls (a0:Int) (r:ByteArray) (w:World) (h:sign_Text.f a0=some r) (ht:Tabs w) :
 Calls Tryz.prog 95 #[.int .i64 a0] w fun e w' => e = .returned (.string r)∧Below w.heap.size w w' := by
 have HTB:=Aside0.mk ht
 clear ht
 have HB:=Aside0.mk (Below.refl w.heap.size w)
 unfold sign_Text.f at h
 have H:=h
 clear h
 replace H:=Option.bind_eq_some_iff.mp H
 obtain ⟨t325,A20,H⟩:=H
 try dsimp only at H
 have A2:=Aside0.mk A20
 clear A20
 obtain rfl:=Option.some.inj H
 go_enter Tryz.func95,Tryz.ntmps95
 go_wp2_with (first|((with_reducible refine gate_callee (f:=93) rfl ?_);refine goesL_ (some 4) rfl rfl Tryz.func93 zb10 rfl #[.int .i64 a0,.int .i64 10] rfl zb1 ?_;(with_reducible refine (strconv_FormatInt_93.calls a0 10 t325 _ A2.out ?hT).mono ?_);(case hT=>exact HTB.out.below zb0);rintro e w3 ⟨rfl,hb⟩;(try clear A2);refine ⟨_,rfl,?_⟩;replace HB:=Aside0.mk (below_step zb0 hb);(try clear hb)))
 go_ret
 exact ⟨zb2,zb0⟩
def scrub_length.f (a0:Int):Option (ByteArray × ByteArray):=(sign_Text.f a0).bind fun t717=>(some ((⟨#[67,111,110,116,101,110,116,45,76,101,110,103,116,104]⟩:ByteArray),t717))
set_option maxHeartbeats 8000000 in
set_option maxRecDepth 100000 in
theorem scrub_length.calls (a0:Int) (r1:ByteArray) (r2:ByteArray) (w:World) (h:scrub_length.f a0=some (r1,r2)) (ht:Tabs w) :
 Calls Tryz.prog 61 #[.int .i64 a0] w fun e w' => e = .returned (.agg #[.string r1,.string r2])∧Below w.heap.size w w' := by
 have HTB:=Aside0.mk ht
 clear ht
 have hu36:=Tryz.underlying36
 have HB:=Aside0.mk (Below.refl w.heap.size w)
 unfold scrub_length.f at h
 have H:=h
 clear h
 replace H:=Option.bind_eq_some_iff.mp H
 obtain ⟨t717,A20,H⟩:=H
 try dsimp only at H
 have A2:=Aside0.mk A20
 clear A20
 simp only [Option.some.injEq,Prod.mk.injEq] at H
 obtain ⟨rfl,rfl⟩:=H
 go_enter Tryz.func61,Tryz.ntmps61
 go_wp2_with (first|((with_reducible refine gate_dst (N:=2) rfl ?_);refine box_event rfl (N:=2) rfl (cs:=#[.string (⟨#[]⟩:ByteArray),.string (⟨#[]⟩:ByteArray)]) (t:=36) zS ?_;intro gb716 hg w3 hbox hb;have GW716:=zG hg zb0;have GE716:=GW716;have BK716:=Aside0.mk hbox;replace HB:=Aside0.mk (below_step zb0 hb);clear hb hbox hg)|((with_reducible refine gate_callee (f:=95) rfl ?_);refine goesL_ (some 4) rfl rfl Tryz.func95 zb10 rfl #[.int .i64 a0] rfl zb1 ?_;(with_reducible refine (sign_Text.calls a0 t717 _ A2.out ?hT).mono ?_);(case hT=>exact HTB.out.below zb65);rintro e w4 ⟨rfl,hb⟩;(try clear A2);refine ⟨_,rfl,?_⟩;replace BK716:=Aside0.mk (blk_below (g:=gb716) (o:=.cells #[.string (⟨#[]⟩:ByteArray),.string (⟨#[]⟩:ByteArray)] 36 (0,0)) (by (with_reducible repeat (first|refine blk_drewN ?_ _|refine blk_drew ?_|refine blk_alloc ?_ _));exact BK716.out) hb);replace HB:=Aside0.mk (below_step zb65 hb);(try clear hb);obtain ⟨hcz5_0,hcz5_1,hfz5_0,hfz5_1⟩:=zq2 BK716.out))
 refine bodyPost_ret (results_cell_row rfl _ _ gb716 36 #[.string (⟨#[67,111,110,116,101,110,116,45,76,101,110,103,116,104]⟩:ByteArray),.string t717] (0,0) _ rfl (by (with_reducible repeat (first|refine blk_drewN ?_ _|refine blk_drew ?_|refine blk_alloc ?_ _));refine blk_put (cs:=#[.string (⟨#[67,111,110,116,101,110,116,45,76,101,110,103,116,104]⟩:ByteArray),.string (⟨#[]⟩:ByteArray)]) ?_ 1 _ rfl;(with_reducible repeat (first|refine blk_drewN ?_ _|refine blk_drew ?_|refine blk_alloc ?_ _));refine blk_put (cs:=#[.string (⟨#[]⟩:ByteArray),.string (⟨#[]⟩:ByteArray)]) ?_ 0 _ rfl;(with_reducible repeat (first|refine blk_drewN ?_ _|refine blk_drew ?_|refine blk_alloc ?_ _));exact BK716.out) Tryz.underlying36 rfl zb10) rfl ?_
 exact ⟨zb2,zb65⟩
def scrub_onward.l0:Nat → List (S36) → List (S36) → List (S36) → Int → Int → Option ((List (S36)))
 | 0,_,_,_,_,_=>none
 | k + 1,x0,x3,x6,x7,x8=>if x8 < x7 then (if 0 ≤ x8 then (if x8 < (x6.length:Int) then ((scrub_Hop.f k x0 ((rd_T36 x6 x8).f0)).bind fun t712=>(if t712=true then (scrub_onward.l0 k x0 x3 x6 x7 (wrap64 (x8 + 1))) else (if x3.length < 4398046511104 then (scrub_onward.l0 k x0 (x3 ++ [(⟨(rd_T36 x6 x8).f0,(rd_T36 x6 x8).f1⟩:S36)]) x6 x7 (wrap64 (x8 + 1))) else (none)))) else (none)) else (none)) else (some x3)
def scrub_onward.f (k:Nat) (l0:List (S36)):Option ((List (S36))):=scrub_onward.l0 k l0 ([]:List (S36)) l0 (l0.length:Int) 0
set_option maxHeartbeats 8000000 in
set_option maxRecDepth 100000 in
theorem scrub_onward.calls (k:Nat) (A0:Option Addr) (c0:Nat) (l0:List (S36)) (r:List (S36)) (w:World) (hr0:Kd.C k36 w A0 l0.length l0) (hc0:l0.length ≤ c0) (h:scrub_onward.f k l0=some r) :
 Calls Tryz.prog 60 #[.slice A0 l0.length c0] w fun e w' => ∃ v0_:Value,e = .returned (v0_)∧Kd.R k36 36 w' w.heap.size (fun _=>True) v0_ r∧Below w.heap.size w w' := by
 have hu36:=Tryz.underlying36
 have HR0:=Aside0.mk hr0
 have HC0:=Aside0.mk hc0
 clear hr0 hc0
 have HB:=Aside0.mk (Below.refl w.heap.size w)
 unfold scrub_onward.f at h
 have H:=h
 clear h
 have H' := Aside0.mk H
 clear H
 go_enter Tryz.func60,Tryz.ntmps60
 go_wp2
 go_loopg [3,8] k (fun kq v3 v8 w' => ∃ (x3_1:List (S36)) (x8_1:Int),v8 = .int .i64 x8_1∧Aside0 (scrub_onward.l0 kq l0 x3_1 l0 (l0.length:Int) x8_1=some r)∧Aside0 (kq ≤ k)∧Aside0 (Kd.R k36 36 w' w.heap.size (fun _=>True) v3 x3_1)∧Aside0 (Below w.heap.size w w'))
 case atStart=>exact ⟨(([]:List (S36))),(0),zb4,H',⟨Nat.le_refl _⟩,⟨zb23⟩,⟨zb0⟩⟩
 case round =>
  clear H'
  obtain ⟨x3_1,x8_1,rfl,HA,HK1,HO_3,HB⟩:=hrel
  cases gk with
  | zero=>exact absurd HA.out (by simp [scrub_onward.l0])
  | succ k1 =>
   have H:=HA.out
   clear HA
   simp only [scrub_onward.l0] at H
   by_cases c2:x8_1 < (l0.length:Int);rotate_left
   ·rw [if_neg c2] at H
    have c2b0:=decide_eq_false c2
    clear c2
    obtain rfl:=Option.some.inj H
    go_wp2
    go_ret
    exact ⟨_,zb2,zb16,zb0⟩
   rw [if_pos c2] at H
   have c2b0:=decide_eq_true c2
   clear c2
   by_cases c3:0 ≤ x8_1
   ·rw [if_pos c3] at H
    have c3b0:=decide_eq_true c3
    clear c3
    by_cases c4:x8_1 < (l0.length:Int)
    ·rw [if_pos c4] at H
     have c4b0:=decide_eq_true c4
     clear c4
     replace H:=Option.bind_eq_some_iff.mp H
     obtain ⟨t712,A50,H⟩:=H
     try dsimp only at H
     have A5:=Aside0.mk A50
     clear A50
     by_cases c6:t712=true
     ·subst c6
      rw [if_pos rfl] at H
      have H' := Aside0.mk H
      clear H
      have p710:0 ≤ (x8_1:Int):=of_decide_eq_true zb5
      have q710:x8_1 < (l0.length:Int):=of_decide_eq_true zb5
      obtain ⟨ad710,e710,hx710_0,hx710_1⟩:=at_T36 HR0.out x8_1 p710 q710
      cases e710
      replace hx710_0:=(HB.out.cell (World.block_lt_of_cell? w _ hx710_0)).trans hx710_0
      replace hx710_1:=(HB.out.cell (World.block_lt_of_cell? w _ hx710_1)).trans hx710_1
      replace p710:=eq_true p710
      replace q710:=eq_true q710
      go_wp2_with (first|((with_reducible refine gate_dst (N:=5) rfl ?_);refine box_event rfl (N:=5) rfl (cs:=#[.string (⟨#[]⟩:ByteArray),.string (⟨#[]⟩:ByteArray)]) (t:=36) zS ?_;intro gb711 hg w7 hbox hb;replace HO_3:=Aside0.mk (Kd.R_below (Kd.R_elderB zb16 gb711 (Nat.le_of_eq hg.symm)) hb);have BK711:=Aside0.mk (hbox);have GW711:=zG hg zb0;have GE711:=GW711;replace HB:=Aside0.mk (below_step zb0 hb);clear hb hbox hg;obtain ⟨hcz8_0,hcz8_1,hfz8_0,hfz8_1⟩:=zq2 BK711.out)|((with_reducible refine gate_callee (f:=35) rfl ?_);refine goesL_ (some 15) rfl rfl Tryz.func35 zb10 rfl #[.slice (some ad710) l0.length c0,.string ((rd_T36 l0 x8_1).f0)] rfl zb1 ?_;(with_reducible refine (scrub_Hop.calls k1 _ _ l0 ((rd_T36 l0 x8_1).f0) true _ ?side1 ?side2 A5.out).mono ?_);(case side1=>exact zb71);(case side2=>exact HC0.out);rintro e w9 ⟨rfl,hb⟩;(try clear A5);refine ⟨_,rfl,?_⟩;replace HO_3:=Aside0.mk (Kd.R_below zb46 hb);replace BK711:=Aside0.mk (blk_below (g:=gb711) (o:=.cells #[.string ((rd_T36 l0 x8_1).f0),.string ((rd_T36 l0 x8_1).f1)] 36 (0,0)) zb31 hb);replace HB:=Aside0.mk (below_step zb22 hb);(try clear hb)))
      go_roundg k1
      case measure=>have:=HK1.out;omega
      case rel=>exact ⟨(x3_1),(wrap64 (x8_1 + 1)),zb4,H',⟨zb66⟩,⟨zb89⟩,⟨zb22⟩⟩
     replace c6:=Bool.eq_false_iff.mpr c6
     subst c6
     rw [if_neg (show ¬ (false=true) by decide)] at H
     by_cases c10:x3_1.length < 4398046511104
     ·rw [if_pos c10] at H
      have LMc10:=Aside0.mk c10
      clear c10
      obtain ⟨y713,hy713⟩ : ∃ y_:List (S36),y_=(x3_1 ++ [(⟨(rd_T36 l0 x8_1).f0,(rd_T36 l0 x8_1).f1⟩:S36)]):=⟨_,rfl⟩
      replace H:(scrub_onward.l0 k1 l0 y713 l0 (l0.length:Int) (wrap64 (x8_1 + 1)))=some r:=by first|(rw [hy713];with_reducible exact H)|(have H2_:=(Option.bind_some _ _).symm.trans H;rw [hy713];with_reducible exact H2_)|(have H2_:=(Option.bind_some _ _).symm.trans H;with_reducible exact H2_)|with_reducible exact H|(rw [hy713];exact H)|exact H
      have Ny713:=Aside0.mk hy713
      clear hy713
      have H' := Aside0.mk H
      clear H
      have p710:0 ≤ (x8_1:Int):=of_decide_eq_true zb5
      have q710:x8_1 < (l0.length:Int):=of_decide_eq_true zb5
      obtain ⟨ad710,e710,hx710_0,hx710_1⟩:=at_T36 HR0.out x8_1 p710 q710
      cases e710
      replace hx710_0:=(HB.out.cell (World.block_lt_of_cell? w _ hx710_0)).trans hx710_0
      replace hx710_1:=(HB.out.cell (World.block_lt_of_cell? w _ hx710_1)).trans hx710_1
      replace p710:=eq_true p710
      replace q710:=eq_true q710
      go_wp2_with (first|((with_reducible refine gate_dst (N:=5) rfl ?_);refine box_event rfl (N:=5) rfl (cs:=#[.string (⟨#[]⟩:ByteArray),.string (⟨#[]⟩:ByteArray)]) (t:=36) zS ?_;intro gb711 hg w11 hbox hb;replace HO_3:=Aside0.mk (Kd.R_below (Kd.R_elderB zb16 gb711 (Nat.le_of_eq hg.symm)) hb);have BK711:=Aside0.mk (hbox);have GW711:=zG hg zb0;have GE711:=GW711;replace HB:=Aside0.mk (below_step zb0 hb);clear hb hbox hg;obtain ⟨hcz12_0,hcz12_1,hfz12_0,hfz12_1⟩:=zq2 BK711.out)|((with_reducible refine gate_callee (f:=35) rfl ?_);refine goesL_ (some 15) rfl rfl Tryz.func35 zb10 rfl #[.slice (some ad710) l0.length c0,.string ((rd_T36 l0 x8_1).f0)] rfl zb1 ?_;(with_reducible refine (scrub_Hop.calls k1 _ _ l0 ((rd_T36 l0 x8_1).f0) false _ ?side1 ?side2 A5.out).mono ?_);(case side1=>exact zb71);(case side2=>exact HC0.out);rintro e w13 ⟨rfl,hb⟩;(try clear A5);refine ⟨_,rfl,?_⟩;replace HO_3:=Aside0.mk (Kd.R_below zb46 hb);replace BK711:=Aside0.mk (blk_below (g:=gb711) (o:=.cells #[.string ((rd_T36 l0 x8_1).f0),.string ((rd_T36 l0 x8_1).f1)] 36 (0,0)) zb31 hb);replace HB:=Aside0.mk (below_step zb22 hb);(try clear hb);obtain ⟨hcz14_0,hcz14_1,hfz14_0,hfz14_1⟩:=zq2 BK711.out)|((with_reducible refine gate_builtin (b:=.append) (xs:=#[.tmp 17,.tmp 19]) rfl ?_);at_builtin;refine Kd.R_append k36 (w0:=w) w.heap.size rfl (.tmp 17) (.tmp 19) 24 36 (.agg #[(.string ⟨#[]⟩),(.string ⟨#[]⟩)]) 32 rfl Tryz.underlying24 info36 rfl zb27 zb18 u3 x3_1 (⟨(rd_T36 l0 x8_1).f0,(rd_T36 l0 x8_1).f1⟩:S36) [.string ((rd_T36 l0 x8_1).f0),.string ((rd_T36 l0 x8_1).f1)] (fun k_=>k_ ≠ gb711) (fun _=>False) rfl rfl ?aP (fun _ hk=>hk.elim) ?aF ?aO ?aB ?aS ?aL ?_;(case aP=>exact k36_mkM _ _ _ (⟨(rd_T36 l0 x8_1).f0,(rd_T36 l0 x8_1).f1⟩:S36));(case aB=>exact zb22);(case aF=>exact (fun k_ hk=>Kd.freshB (g:=gb711) (o:=.cells #[.string ((rd_T36 l0 x8_1).f0),.string ((rd_T36 l0 x8_1).f1)] 36 (0,0)) zb93 k_ hk));(case aO=>exact (by (with_reducible repeat (first|apply Kd.R_alloc|apply Kd.R_drewN|apply Kd.R_drew));exact Kd.R_mono HO_3.out (fun _ hk=>hk.2)));(case aS=>exact (below_size zb22));(case aL=>have:=LMc10.out;omega);intro v714 w15 ho hb hg hat;rw [← Ny713.out] at ho;replace BK711:=Aside0.mk (blk_grown (g:=gb711) (o:=.cells #[.string ((rd_T36 l0 x8_1).f0),.string ((rd_T36 l0 x8_1).f1)] 36 (0,0)) zb93 hg (Kd.R_away HO_3.out (fun _ hk=>hk.2)));replace HB:=Aside0.mk (hb);have HO715:=Aside0.mk (ho);clear ho hb hg hat))
      go_roundg k1
      case measure=>have:=HK1.out;omega
      case rel=>exact ⟨(y713),(wrap64 (x8_1 + 1)),zb4,H',⟨zb66⟩,⟨by (with_reducible repeat (first|apply Kd.R_alloc|apply Kd.R_drewN|apply Kd.R_drew));exact Kd.R_mono HO715.out (fun _ hk=>trivial)⟩,⟨zb22⟩⟩
     ·rw [if_neg c10] at H
      exact absurd H zb33
    ·rw [if_neg c4] at H
     exact absurd H zb33
   ·rw [if_neg c3] at H
    exact absurd H zb33
def slices_Clone_string_string.f (l0:List ByteArray):Option (List ByteArray):=if l0.length ≤ 8796093022207 then some l0 else none
set_option maxHeartbeats 4000000 in
set_option maxRecDepth 100000 in
theorem slices_Clone_string_string.calls (A0:Option Addr) (c0:Nat) (l0:List ByteArray) (r:List ByteArray) (w:World) (hr0:Kd.C Kd.string w A0 l0.length l0) (hc0:l0.length ≤ c0) (h:slices_Clone_string_string.f l0=some r) :
 Calls Tryz.prog 58 #[.slice A0 l0.length c0] w fun e w' => ∃ v0_:Value,e = .returned (v0_)∧Kd.R Kd.string 9 w' w.heap.size (fun _=>True) v0_ r∧Below w.heap.size w w' := by
 have hl:l0.length ≤ 8796093022207∧l0=r:=by
  unfold slices_Clone_string_string.f at h
  split at h
  ·exact ⟨by assumption,by simpa using h⟩
  cases h
 obtain ⟨hl,rfl⟩:=hl
 clear h
 have HR:=Aside0.mk hr0
 cases A0 with
 | none =>
  have he:l0=[]:=by
   cases l0 with
   | nil=>rfl
   | cons x y=>obtain ⟨ad,e,_⟩:=hr0.2.2 zb33;cases e
  subst he
  clear HR hr0
  have hnil : ∀ W:World,(binOp .eql 34 (.slice none 0 c0) (.slice none 0 0)).run Tryz.prog W = .ok (.bool true) W:=fun W=>by
   simp only [binOp]
   simp [Op.equal,Op.maxDepth,Lib.run_equalIn_slice_nil W 9999 34 _ none 0 c0 0 0 Tryz.underlying34]
  go_enter Tryz.func58,Tryz.ntmps58
  go_wp2
  go_ret
  exact ⟨_,rfl,Kd.R_nil _ _ _ _ _,Below.refl _ _⟩
 | some ad =>
  have HL:=Aside0.mk hl
  have hnil : ∀ W:World,(binOp .eql 34 (.slice (some ad) l0.length c0) (.slice none 0 0)).run Tryz.prog W = .ok (.bool false) W:=fun W=>by
   simp only [binOp]
   simp [Op.equal,Op.maxDepth,Lib.run_equalIn_slice_nil W 9999 34 _ (some ad) l0.length c0 0 0 Tryz.underlying34]
  have HB:=Aside0.mk (Below.refl w.heap.size w)
  clear hr0 hl hc0
  go_enter Tryz.func58,Tryz.ntmps58
  go_wp2_with (first
   | ((with_reducible refine gate_dst (N:=5) rfl ?_);refine Kd.R_lit Kd.string _ 9 ?hg (N:=5) ?hd (xs:=([]:List ByteArray)) (inner:=[]) (ok:=fun _=>True) (okp:=fun _=>True) ?hr ?hp (fun _ hk=>hk) trivial (Below.refl _ _) (Nat.le_refl _) zb33 ?_;(case hd=>rfl);(case hg=>rfl);(case hr=>first|(go_simp;done)|(go_simp;rfl));(case hp=>exact (Reps.none _ _));intro v5 w2 ho3 hb hg_ hnew_;clear hg_ hnew_;have HO5:=Aside0.mk (Kd.R_lower ho3 (below_size zb0));have n1_:=Aside0.mk (below_step zb0 hb);clear HB;have HB:=n1_;clear n1_;clear hb ho3)
   | ((with_reducible refine gate_builtin (b:=.append) (xs:=#[.tmp 5,.tmp 6]) rfl ?_);at_builtin;refine Kd.R_append_rows Kd.string (w0:=w) w.heap.size rfl (.tmp 5) (.tmp 6) 34 9 (.string ⟨#[]⟩) 16 rfl Tryz.underlying34 info9 rfl zb27 zb18 v5 [] l0 _ _ _ (fun _=>True) (fun _=>False) rfl rfl ?aO ?aR (fun _ _ h=>h) (fun _ h=>h.elim) (fun _ _=>trivial) ?aB ?aS ?aL ?_;(case aO=>exact HO5.out);(case aR=>exact Kd.C_below HR.out HB.out);(case aB=>exact HB.out);(case aS=>exact HB.out.size);(case aL=>have:=HL.out;simp only [List.length_nil];omega);intro v3 w3 ho hb3 hg3 hat;have HO7:=Aside0.mk ho;have HB7:=Aside0.mk hb3;clear ho hb3 hg3 hat))
  go_ret
  exact ⟨_,zb20,HO7.out,HB7.out⟩
mutual
def scrub_Request.l0:Nat → ByteArray → ByteArray → List ByteArray → List (S36) → Int → Int → ByteArray → ByteArray → Int → List (S36) → List Int → List (S83) → List (S85) → List (S36) → List ByteArray → Int → Int → Int → Int → Option (ByteArray × ByteArray × Int × (List (S36)) × List Int)
 | 0,_,_,_,_,_,_,_,_,_,_,_,_,_,_,_,_,_,_,_=>none
 | k + 1,x2,x3,x9,x17,x18,x19,x719000,x719001,x719002,x719003,x719004,x720000,x720001,x720002,x720003,x720004,x720005,x720006,x720007=>if x19 < x18 then (if 0 ≤ x19 then (if x19 < (x17.length:Int) then (if x9.length < 8796093022208 then (scrub_Request.l0 k x2 x3 (x9 ++ [(rd_T36 x17 x19).f0]) x17 x18 (wrap64 (x19 + 1)) x719000 x719001 x719002 x719003 x719004 x720000 x720001 x720002 x720003 x720004 x720005 x720006 x720007) else (none)) else (none)) else (none)) else ((some (([(⟨(⟨#[72,111,115,116]⟩:ByteArray),x2⟩:S36)]:List (S36)):List (S36))).bind fun y729=>((scrub_onward.f k x719003).bind fun t732=>((field_Without.f k t732 x9).bind fun t735=>(if y729.length + t735.length < 4398046511104 then ((some (y729 ++ t735:List (S36))).bind fun y738=>(if y738.length + x720002.length < 4398046511104 then ((some (y738 ++ x720002:List (S36))).bind fun y741=>(if (x719004.length:Int) > 0 then (scrub_Request.j1 k x3 y741 (decide ((x719004.length:Int) > 0)) x719000 x719001 x719002 x719003 x719004) else (if x719000.toList=([80,79,83,84]:List UInt8) then (scrub_Request.j1 k x3 y741 (x719000.toList == ([80,79,83,84]:List UInt8)) x719000 x719001 x719002 x719003 x719004) else (if x719000.toList=([80,85,84]:List UInt8) then (scrub_Request.j1 k x3 y741 (x719000.toList == ([80,85,84]:List UInt8)) x719000 x719001 x719002 x719003 x719004) else (scrub_Request.j1 k x3 y741 (x719000.toList == ([80,65,84,67,72]:List UInt8)) x719000 x719001 x719002 x719003 x719004))))) else (none))) else (none)))))
def scrub_Request.j1:Nat → ByteArray → List (S36) → Bool → ByteArray → ByteArray → Int → List (S36) → List Int → Option (ByteArray × ByteArray × Int × (List (S36)) × List Int)
 | 0,_,_,_,_,_,_,_,_=>none
 | k + 1,x3,x12,x42,x719000,x719001,x719002,x719003,x719004=>if x42=true then ((scrub_length.f (x719004.length:Int)).bind fun bt744=>(if x12.length < 4398046511104 then ((bytes_Clone.f x719004).bind fun t749=>(some (x719000,x3,1,(x12 ++ [(⟨bt744.1,bt744.2⟩:S36)]),t749))) else (none))) else ((bytes_Clone.f x719004).bind fun t752=>(some (x719000,x3,1,x12,t752)))
end
def scrub_Request.f (k:Nat) (a0_0:ByteArray) (a0_1:ByteArray) (a0_2:Int) (l0_3:List (S36)) (l0_4:List Int) (l1_0:List (S83)) (l1_1:List (S85)) (l1_2:List (S36)) (l1_3:List ByteArray) (a1_4:Int) (a1_5:Int) (a1_6:Int) (a1_7:Int) (a2:ByteArray) (a3:ByteArray):Option (ByteArray × ByteArray × Int × (List (S36)) × List Int):=(slices_Clone_string_string.f l1_3).bind fun t721=>(scrub_Request.l0 k a2 a3 t721 l1_2 (l1_2.length:Int) 0 a0_0 a0_1 a0_2 l0_3 l0_4 l1_0 l1_1 l1_2 l1_3 a1_4 a1_5 a1_6 a1_7)
def scrub_Request.T14:Bool × List (List Nat × List Nat):=(true,[([],[]),([0],[0]),([],[]),([],[]),([],[]),([4],[4]),([5],[5]),([1,2,3,6],[1,2,3,6]),([7,6,0,1,2,3,4,5,6,7],[7])])
def scrub_Request.B14:List Nat:=[0,1,0,0,0,16,48,127,255]
theorem scrub_Request.tab14:rtab .any (opsOf Tryz.f30 14)=scrub_Request.T14:=by kernel_rfl
theorem scrub_Request.bits14:waitsOk scrub_Request.T14.2 scrub_Request.B14=true:=by kernel_rfl
set_option maxHeartbeats 8000000 in
set_option maxRecDepth 100000 in
theorem scrub_Request.calls (k:Nat) (a0_0:ByteArray) (a0_1:ByteArray) (a0_2:Int) (A0_3:Option Addr) (c0_3:Nat) (l0_3:List (S36)) (A0_4:Option Addr) (c0_4:Nat) (l0_4:List Int) (A1_0:Option Addr) (c1_0:Nat) (l1_0:List (S83)) (A1_1:Option Addr) (c1_1:Nat) (l1_1:List (S85)) (A1_2:Option Addr) (c1_2:Nat) (l1_2:List (S36)) (A1_3:Option Addr) (c1_3:Nat) (l1_3:List ByteArray) (a1_4:Int) (a1_5:Int) (a1_6:Int) (a1_7:Int) (a2:ByteArray) (a3:ByteArray) (r1:ByteArray) (r2:ByteArray) (r3:Int) (r4:List (S36)) (r5:List Int) (w:World) (hr0_3:Kd.C k36 w A0_3 l0_3.length l0_3) (hc0_3:l0_3.length ≤ c0_3) (hr0_4:Kd.C (Kd.int .u8) w A0_4 l0_4.length l0_4) (hc0_4:l0_4.length ≤ c0_4) (hr1_0:Kd.C k83 w A1_0 l1_0.length l1_0) (hc1_0:l1_0.length ≤ c1_0) (hr1_1:Kd.C k85 w A1_1 l1_1.length l1_1) (hc1_1:l1_1.length ≤ c1_1) (hr1_2:Kd.C k36 w A1_2 l1_2.length l1_2) (hc1_2:l1_2.length ≤ c1_2) (hr1_3:Kd.C Kd.string w A1_3 l1_3.length l1_3) (hc1_3:l1_3.length ≤ c1_3) (h:scrub_Request.f k a0_0 a0_1 a0_2 l0_3 l0_4 l1_0 l1_1 l1_2 l1_3 a1_4 a1_5 a1_6 a1_7 a2 a3=some (r1,r2,r3,r4,r5)) (ht:Tabs w) :
 Calls Tryz.prog 30 #[.agg #[.string a0_0,.string a0_1,.int .i64 a0_2,.slice A0_3 l0_3.length c0_3,.slice A0_4 l0_4.length c0_4],.agg #[.slice A1_0 l1_0.length c1_0,.slice A1_1 l1_1.length c1_1,.slice A1_2 l1_2.length c1_2,.slice A1_3 l1_3.length c1_3,.int .i64 a1_4,.int .i64 a1_5,.int .i64 a1_6,.int .i64 a1_7],.string a2,.string a3] w fun e w' => ∃ v3_ v4_:Value,e = .returned (.agg #[.string r1,.string r2,.int .i64 r3,v3_,v4_])∧Kd.R k36 36 w' w.heap.size (fun _=>True) v3_ r4∧Kd.R (Kd.int .u8) 5 w' w.heap.size (fun _=>True) v4_ r5∧Below w.heap.size w w' := by
 have HTB:=Aside0.mk ht
 clear ht
 have hu26:=Tryz.underlying26
 have hu46:=Tryz.underlying46
 have hu36:=Tryz.underlying36
 have HR0_3:=Aside0.mk hr0_3
 have HC0_3:=Aside0.mk hc0_3
 clear hr0_3 hc0_3
 have HR0_4:=Aside0.mk hr0_4
 have HC0_4:=Aside0.mk hc0_4
 clear hr0_4 hc0_4
 have HR1_0:=Aside0.mk hr1_0
 have HC1_0:=Aside0.mk hc1_0
 clear hr1_0 hc1_0
 have HR1_1:=Aside0.mk hr1_1
 have HC1_1:=Aside0.mk hc1_1
 clear hr1_1 hc1_1
 have HR1_2:=Aside0.mk hr1_2
 have HC1_2:=Aside0.mk hc1_2
 clear hr1_2 hc1_2
 have HR1_3:=Aside0.mk hr1_3
 have HC1_3:=Aside0.mk hc1_3
 clear hr1_3 hc1_3
 have HB:=Aside0.mk (Below.refl w.heap.size w)
 unfold scrub_Request.f at h
 have H:=h
 clear h
 replace H:=Option.bind_eq_some_iff.mp H
 obtain ⟨t721,A50,H⟩:=H
 try dsimp only at H
 have A5:=Aside0.mk A50
 clear A50
 have H' := Aside0.mk H
 clear H
 go_enter Tryz.func30,Tryz.ntmps30
 go_wp2_with (first|((with_reducible refine gate_dst (N:=4) rfl ?_);refine box_event rfl (N:=4) rfl (cs:=#[.string a0_0,.string a0_1,.int .i64 a0_2,.slice A0_3 l0_3.length c0_3,.slice A0_4 l0_4.length c0_4]) (t:=26) zS ?_;intro gb84 hg w6 hbox hb;have GW84:=zG hg zb0;have GE84:=GW84;have BK84:=Aside0.mk hbox;replace HB:=Aside0.mk (below_step zb0 hb);clear hb hbox hg)|((with_reducible refine gate_dst (N:=5) rfl ?_);refine box_event rfl (N:=5) rfl (cs:=#[.slice A1_0 l1_0.length c1_0,.slice A1_1 l1_1.length c1_1,.slice A1_2 l1_2.length c1_2,.slice A1_3 l1_3.length c1_3,.int .i64 a1_4,.int .i64 a1_5,.int .i64 a1_6,.int .i64 a1_7]) (t:=46) zS ?_;intro gb87 hg w7 hbox hb;have BK87:=Aside0.mk (hbox);have GW87:=zG hg zb75;have GE87:=GW87;replace HB:=Aside0.mk (below_step zb75 hb);have NB84_719:=Aside0.mk ((by rw [hg];exact Nat.ne_of_lt (blk_lt (g:=gb84) (o:=.cells #[.string a0_0,.string a0_1,.int .i64 a0_2,.slice A0_3 l0_3.length c0_3,.slice A0_4 l0_4.length c0_4] 26 (0,0)) zb11):gb84 ≠ gb87));have NB87_718:=Aside0.mk ((by rw [hg];exact Nat.ne_of_gt (blk_lt (g:=gb84) (o:=.cells #[.string a0_0,.string a0_1,.int .i64 a0_2,.slice A0_3 l0_3.length c0_3,.slice A0_4 l0_4.length c0_4] 26 (0,0)) zb11):gb87 ≠ gb84));replace BK84:=Aside0.mk (blk_below (g:=gb84) (o:=.cells #[.string a0_0,.string a0_1,.int .i64 a0_2,.slice A0_3 l0_3.length c0_3,.slice A0_4 l0_4.length c0_4] 26 (0,0)) zb11 hb);clear hb hbox hg)|((with_reducible refine gate_dst (N:=8) rfl ?_);refine box_event rfl (N:=8) rfl (cs:=#[.string (⟨#[]⟩:ByteArray),.string (⟨#[]⟩:ByteArray),.int .i64 0,.slice none 0 0,.slice none 0 0]) (t:=26) zS ?_;intro gb86 hg w8 hbox hb;have BK86:=Aside0.mk (hbox);have GW86:=zG hg zb70;have GE86:=GW86;replace HB:=Aside0.mk (below_step zb70 hb);have NB84_720:=Aside0.mk ((by rw [hg];exact Nat.ne_of_lt (blk_lt (g:=gb84) (o:=.cells #[.string a0_0,.string a0_1,.int .i64 a0_2,.slice A0_3 l0_3.length c0_3,.slice A0_4 l0_4.length c0_4] 26 (0,0)) zb11):gb84 ≠ gb86));have NB86_718:=Aside0.mk ((by rw [hg];exact Nat.ne_of_gt (blk_lt (g:=gb84) (o:=.cells #[.string a0_0,.string a0_1,.int .i64 a0_2,.slice A0_3 l0_3.length c0_3,.slice A0_4 l0_4.length c0_4] 26 (0,0)) zb11):gb86 ≠ gb84));replace BK84:=Aside0.mk (blk_below (g:=gb84) (o:=.cells #[.string a0_0,.string a0_1,.int .i64 a0_2,.slice A0_3 l0_3.length c0_3,.slice A0_4 l0_4.length c0_4] 26 (0,0)) zb11 hb);have NB87_720:=Aside0.mk ((by rw [hg];exact Nat.ne_of_lt (blk_lt (g:=gb87) (o:=.cells #[.slice A1_0 l1_0.length c1_0,.slice A1_1 l1_1.length c1_1,.slice A1_2 l1_2.length c1_2,.slice A1_3 l1_3.length c1_3,.int .i64 a1_4,.int .i64 a1_5,.int .i64 a1_6,.int .i64 a1_7] 46 (0,0)) zb7):gb87 ≠ gb86));have NB86_719:=Aside0.mk ((by rw [hg];exact Nat.ne_of_gt (blk_lt (g:=gb87) (o:=.cells #[.slice A1_0 l1_0.length c1_0,.slice A1_1 l1_1.length c1_1,.slice A1_2 l1_2.length c1_2,.slice A1_3 l1_3.length c1_3,.int .i64 a1_4,.int .i64 a1_5,.int .i64 a1_6,.int .i64 a1_7] 46 (0,0)) zb7):gb86 ≠ gb87));replace BK87:=Aside0.mk (blk_below (g:=gb87) (o:=.cells #[.slice A1_0 l1_0.length c1_0,.slice A1_1 l1_1.length c1_1,.slice A1_2 l1_2.length c1_2,.slice A1_3 l1_3.length c1_3,.int .i64 a1_4,.int .i64 a1_5,.int .i64 a1_6,.int .i64 a1_7] 46 (0,0)) zb7 hb);clear hb hbox hg;have hnb9:=NB87_718.out;have hnc9:=NB84_719.out;have hnb10:=NB87_720.out;have hnc10:=NB86_719.out;have hcz11_0:w8.cell? ⟨gb87,0,none⟩=some (.slice A1_0 l1_0.length c1_0):=(blk_cell BK87.out 0).trans rfl;have hcz11_1:w8.cell? ⟨gb87,1,none⟩=some (.slice A1_1 l1_1.length c1_1):=(blk_cell BK87.out 1).trans rfl;have hcz11_2:w8.cell? ⟨gb87,2,none⟩=some (.slice A1_2 l1_2.length c1_2):=(blk_cell BK87.out 2).trans rfl;have hcz11_3:w8.cell? ⟨gb87,3,none⟩=some (.slice A1_3 l1_3.length c1_3):=(blk_cell BK87.out 3).trans rfl;have hcz11_4:w8.cell? ⟨gb87,4,none⟩=some (.int .i64 a1_4):=(blk_cell BK87.out 4).trans rfl;have hcz11_5:w8.cell? ⟨gb87,5,none⟩=some (.int .i64 a1_5):=(blk_cell BK87.out 5).trans rfl;have hcz11_6:w8.cell? ⟨gb87,6,none⟩=some (.int .i64 a1_6):=(blk_cell BK87.out 6).trans rfl;have hcz11_7:w8.cell? ⟨gb87,7,none⟩=some (.int .i64 a1_7):=(blk_cell BK87.out 7).trans rfl;have hfz11_0:=blk_frozen BK87.out 0;have hfz11_1:=blk_frozen BK87.out 1;have hfz11_2:=blk_frozen BK87.out 2;have hfz11_3:=blk_frozen BK87.out 3;have hfz11_4:=blk_frozen BK87.out 4;have hfz11_5:=blk_frozen BK87.out 5;have hfz11_6:=blk_frozen BK87.out 6;have hfz11_7:=blk_frozen BK87.out 7)|((with_reducible refine gate_callee (f:=58) rfl ?_);refine goesL_ (some 15) rfl rfl Tryz.func58 zb10 rfl #[.slice A1_3 l1_3.length c1_3] rfl zb1 ?_;(with_reducible refine (slices_Clone_string_string.calls _ _ l1_3 t721 _ ?side1 ?side2 A5.out).mono ?_);(case side1=>exact zb25);(case side2=>exact HC1_3.out);rintro e w12 ⟨v722,rfl,ho0,hb⟩;(try clear A5);refine ⟨_,rfl,?_⟩;have HO723:=Aside0.mk (Kd.R_lower ho0 (below_size zb6));replace BK84:=Aside0.mk (blk_below (g:=gb84) (o:=.cells #[.string a0_0,.string a0_1,.int .i64 a0_2,.slice A0_3 l0_3.length c0_3,.slice A0_4 l0_4.length c0_4] 26 (0,0)) zb11 hb);replace BK87:=Aside0.mk (blk_below (g:=gb87) (o:=.cells #[.slice A1_0 l1_0.length c1_0,.slice A1_1 l1_1.length c1_1,.slice A1_2 l1_2.length c1_2,.slice A1_3 l1_3.length c1_3,.int .i64 a1_4,.int .i64 a1_5,.int .i64 a1_6,.int .i64 a1_7] 46 (0,0)) zb7 hb);replace BK86:=Aside0.mk (blk_below (g:=gb86) (o:=.cells #[.string (⟨#[]⟩:ByteArray),.string (⟨#[]⟩:ByteArray),.int .i64 0,.slice none 0 0,.slice none 0 0] 26 (0,0)) zb9 hb);replace HB:=Aside0.mk (below_step zb6 hb);try clear hb ho0;have hcz13_0:w12.cell? ⟨gb87,0,none⟩=some (.slice A1_0 l1_0.length c1_0):=(blk_cell BK87.out 0).trans rfl;have hcz13_1:w12.cell? ⟨gb87,1,none⟩=some (.slice A1_1 l1_1.length c1_1):=(blk_cell BK87.out 1).trans rfl;have hcz13_2:w12.cell? ⟨gb87,2,none⟩=some (.slice A1_2 l1_2.length c1_2):=(blk_cell BK87.out 2).trans rfl;have hcz13_3:w12.cell? ⟨gb87,3,none⟩=some (.slice A1_3 l1_3.length c1_3):=(blk_cell BK87.out 3).trans rfl;have hcz13_4:w12.cell? ⟨gb87,4,none⟩=some (.int .i64 a1_4):=(blk_cell BK87.out 4).trans rfl;have hcz13_5:w12.cell? ⟨gb87,5,none⟩=some (.int .i64 a1_5):=(blk_cell BK87.out 5).trans rfl;have hcz13_6:w12.cell? ⟨gb87,6,none⟩=some (.int .i64 a1_6):=(blk_cell BK87.out 6).trans rfl;have hcz13_7:w12.cell? ⟨gb87,7,none⟩=some (.int .i64 a1_7):=(blk_cell BK87.out 7).trans rfl;have hfz13_0:=blk_frozen BK87.out 0;have hfz13_1:=blk_frozen BK87.out 1;have hfz13_2:=blk_frozen BK87.out 2;have hfz13_3:=blk_frozen BK87.out 3;have hfz13_4:=blk_frozen BK87.out 4;have hfz13_5:=blk_frozen BK87.out 5;have hfz13_6:=blk_frozen BK87.out 6;have hfz13_7:=blk_frozen BK87.out 7))
 go_loopg [9,19] k (fun kq v9 v19 w' => ∃ (x9_1:List ByteArray) (x19_1:Int),v19 = .int .i64 x19_1∧Aside0 (scrub_Request.l0 kq a2 a3 x9_1 l1_2 (l1_2.length:Int) x19_1 a0_0 a0_1 a0_2 l0_3 l0_4 l1_0 l1_1 l1_2 l1_3 a1_4 a1_5 a1_6 a1_7=some (r1,r2,r3,r4,r5))∧Aside0 (kq ≤ k)∧Aside0 (Kd.R Kd.string 9 w' w.heap.size (fun _=>True) v9 x9_1)∧Aside0 (w'.heap[gb84]? = some (.cells #[.string a0_0,.string a0_1,.int .i64 a0_2,(.slice A0_3 l0_3.length c0_3),(.slice A0_4 l0_4.length c0_4)] 26 (0,0)))∧Aside0 (w'.heap[gb87]? = some (.cells #[(.slice A1_0 l1_0.length c1_0),(.slice A1_1 l1_1.length c1_1),(.slice A1_2 l1_2.length c1_2),(.slice A1_3 l1_3.length c1_3),.int .i64 a1_4,.int .i64 a1_5,.int .i64 a1_6,.int .i64 a1_7] 46 (0,0)))∧Aside0 (w'.heap[gb86]? = some (.cells #[.string (⟨#[]⟩:ByteArray),.string (⟨#[]⟩:ByteArray),.int .i64 0,(.slice none 0 0),(.slice none 0 0)] 26 (0,0)))∧Aside0 (Below w.heap.size w w'))
 case atStart=>exact ⟨(t721),(0),zb4,H',⟨Nat.le_refl _⟩,⟨by (with_reducible repeat (first|apply Kd.R_alloc|apply Kd.R_drewN|apply Kd.R_drew));exact HO723.out⟩,⟨zb11⟩,⟨zb7⟩,⟨zb9⟩,⟨zb6⟩⟩
 case round =>
  clear H'
  try clear c1
  try clear p2
  try clear c3
  try clear c5
  try clear c9
  try clear c10
  try clear hcz11_0
  try clear hcz11_1
  try clear hcz11_2
  try clear hcz11_3
  try clear hcz11_4
  try clear hcz11_5
  try clear hcz11_6
  try clear hcz11_7
  try clear hcz13_0
  try clear hcz13_1
  try clear hcz13_2
  try clear hcz13_3
  try clear hcz13_4
  try clear hcz13_5
  try clear hcz13_6
  try clear hcz13_7
  try clear hfz11_0
  try clear hfz11_1
  try clear hfz11_2
  try clear hfz11_3
  try clear hfz11_4
  try clear hfz11_5
  try clear hfz11_6
  try clear hfz11_7
  try clear hfz13_0
  try clear hfz13_1
  try clear hfz13_2
  try clear hfz13_3
  try clear hfz13_4
  try clear hfz13_5
  try clear hfz13_6
  try clear hfz13_7
  obtain ⟨x9_1,x19_1,rfl,HA,HK1,HO_9,BK84,BK87,BK86,HB⟩:=hrel
  cases gk with
  | zero=>exact absurd HA.out (by simp [scrub_Request.l0])
  | succ k1 =>
   have H:=HA.out
   clear HA
   simp only [scrub_Request.l0] at H
   by_cases c14:x19_1 < (l1_2.length:Int)
   ·rw [if_pos c14] at H
    have c14b0:=decide_eq_true c14
    clear c14
    by_cases c15:0 ≤ x19_1;rotate_left
    ·rw [if_neg c15] at H
     exact absurd H zb33
    rw [if_pos c15] at H
    have c15b0:=decide_eq_true c15
    clear c15
    by_cases c16:x19_1 < (l1_2.length:Int)
    ·rw [if_pos c16] at H
     have c16b0:=decide_eq_true c16
     clear c16
     by_cases c17:x9_1.length < 8796093022208;rotate_left
     ·rw [if_neg c17] at H
      exact absurd H zb33
     rw [if_pos c17] at H
     have LMc17:=Aside0.mk c17
     clear c17
     obtain ⟨y98,hy98⟩ : ∃ y_:List ByteArray,y_=(x9_1 ++ [(rd_T36 l1_2 x19_1).f0]):=⟨_,rfl⟩
     replace H:(scrub_Request.l0 k1 a2 a3 y98 l1_2 (l1_2.length:Int) (wrap64 (x19_1 + 1)) a0_0 a0_1 a0_2 l0_3 l0_4 l1_0 l1_1 l1_2 l1_3 a1_4 a1_5 a1_6 a1_7)=some (r1,r2,r3,r4,r5):=by first|(rw [hy98];with_reducible exact H)|(have H2_:=(Option.bind_some _ _).symm.trans H;rw [hy98];with_reducible exact H2_)|(have H2_:=(Option.bind_some _ _).symm.trans H;with_reducible exact H2_)|with_reducible exact H|(rw [hy98];exact H)|exact H
     have Ny98:=Aside0.mk hy98
     clear hy98
     have H' := Aside0.mk H
     clear H
     have p90:0 ≤ (x19_1:Int):=of_decide_eq_true zb5
     have q90:x19_1 < (l1_2.length:Int):=of_decide_eq_true zb5
     obtain ⟨ad90,e90,hx90_0,hx90_1⟩:=at_T36 HR1_2.out x19_1 p90 q90
     cases e90
     replace hx90_0:=(HB.out.cell (World.block_lt_of_cell? w _ hx90_0)).trans hx90_0
     replace hx90_1:=(HB.out.cell (World.block_lt_of_cell? w _ hx90_1)).trans hx90_1
     replace p90:=eq_true p90
     replace q90:=eq_true q90
     go_wp2_with (first|((with_reducible refine gate_dst (N:=11) rfl ?_);refine box_event rfl (N:=11) rfl (cs:=#[.string (⟨#[]⟩:ByteArray),.string (⟨#[]⟩:ByteArray)]) (t:=36) zS ?_;intro gb88 hg w18 hbox hb;replace HO_9:=Aside0.mk (Kd.R_below zb44 hb);have BK88:=Aside0.mk (hbox);have GW88:=zG hg zb6;have GE88:=GW88;replace HB:=Aside0.mk (below_step zb6 hb);have NB84_725:=Aside0.mk ((by rw [hg];exact Nat.ne_of_lt (blk_lt (g:=gb84) (o:=.cells #[.string a0_0,.string a0_1,.int .i64 a0_2,.slice A0_3 l0_3.length c0_3,.slice A0_4 l0_4.length c0_4] 26 (0,0)) zb11):gb84 ≠ gb88));have NB88_718:=Aside0.mk ((by rw [hg];exact Nat.ne_of_gt (blk_lt (g:=gb84) (o:=.cells #[.string a0_0,.string a0_1,.int .i64 a0_2,.slice A0_3 l0_3.length c0_3,.slice A0_4 l0_4.length c0_4] 26 (0,0)) zb11):gb88 ≠ gb84));replace BK84:=Aside0.mk (blk_below (g:=gb84) (o:=.cells #[.string a0_0,.string a0_1,.int .i64 a0_2,.slice A0_3 l0_3.length c0_3,.slice A0_4 l0_4.length c0_4] 26 (0,0)) zb11 hb);have NB87_725:=Aside0.mk ((by rw [hg];exact Nat.ne_of_lt (blk_lt (g:=gb87) (o:=.cells #[.slice A1_0 l1_0.length c1_0,.slice A1_1 l1_1.length c1_1,.slice (some ad90) l1_2.length c1_2,.slice A1_3 l1_3.length c1_3,.int .i64 a1_4,.int .i64 a1_5,.int .i64 a1_6,.int .i64 a1_7] 46 (0,0)) zb7):gb87 ≠ gb88));have NB88_719:=Aside0.mk ((by rw [hg];exact Nat.ne_of_gt (blk_lt (g:=gb87) (o:=.cells #[.slice A1_0 l1_0.length c1_0,.slice A1_1 l1_1.length c1_1,.slice (some ad90) l1_2.length c1_2,.slice A1_3 l1_3.length c1_3,.int .i64 a1_4,.int .i64 a1_5,.int .i64 a1_6,.int .i64 a1_7] 46 (0,0)) zb7):gb88 ≠ gb87));replace BK87:=Aside0.mk (blk_below (g:=gb87) (o:=.cells #[.slice A1_0 l1_0.length c1_0,.slice A1_1 l1_1.length c1_1,.slice (some ad90) l1_2.length c1_2,.slice A1_3 l1_3.length c1_3,.int .i64 a1_4,.int .i64 a1_5,.int .i64 a1_6,.int .i64 a1_7] 46 (0,0)) zb7 hb);have NB86_725:=Aside0.mk ((by rw [hg];exact Nat.ne_of_lt (blk_lt (g:=gb86) (o:=.cells #[.string (⟨#[]⟩:ByteArray),.string (⟨#[]⟩:ByteArray),.int .i64 0,.slice none 0 0,.slice none 0 0] 26 (0,0)) zb9):gb86 ≠ gb88));have NB88_720:=Aside0.mk ((by rw [hg];exact Nat.ne_of_gt (blk_lt (g:=gb86) (o:=.cells #[.string (⟨#[]⟩:ByteArray),.string (⟨#[]⟩:ByteArray),.int .i64 0,.slice none 0 0,.slice none 0 0] 26 (0,0)) zb9):gb88 ≠ gb86));replace BK86:=Aside0.mk (blk_below (g:=gb86) (o:=.cells #[.string (⟨#[]⟩:ByteArray),.string (⟨#[]⟩:ByteArray),.int .i64 0,.slice none 0 0,.slice none 0 0] 26 (0,0)) zb9 hb);clear hb hbox hg;have hnb19:=NB88_718.out;have hnc19:=NB84_725.out;have hnb20:=NB88_719.out;have hnc20:=NB87_725.out;have hnb21:=NB88_720.out;have hnc21:=NB86_725.out;obtain ⟨hcz22_0,hcz22_1,hfz22_0,hfz22_1⟩:=zq2 BK88.out)|((with_reducible refine gate_builtin (b:=.append) (xs:=#[.tmp 23,.tmp 26]) rfl ?_);at_builtin;refine Kd.R_append Kd.string (w0:=w) w.heap.size rfl (.tmp 23) (.tmp 26) 34 9 (.string ⟨#[]⟩) 16 rfl Tryz.underlying34 info9 rfl zb27 zb18 u9 x9_1 ((rd_T36 l1_2 x19_1).f0) [.string ((rd_T36 l1_2 x19_1).f0)] (fun _=>True) (fun _=>False) rfl (by first|(go_simp;done)|(go_simp;rfl)) ?aP (fun _ hk=>hk.elim) ?aF ?aO ?aB ?aS ?aL ?_;(case aP=>exact rfl);(case aB=>exact zb32);(case aF=>exact (fun _ _=>trivial));(case aO=>exact (by (with_reducible repeat (first|apply Kd.R_alloc|apply Kd.R_drewN|apply Kd.R_drew));exact Kd.R_mono (Kd.R_far (p:=⟨gb88,1,none⟩) (Kd.R_far (p:=⟨gb88,0,none⟩) (Kd.R_types HO_9.out BK88.out (by decide)) (fun _ hk=>hk.2) (.string ((rd_T36 l1_2 x19_1).f0))) (fun _ hk=>hk.2) (.string ((rd_T36 l1_2 x19_1).f1))) (fun _ hk=>trivial)));(case aS=>exact (below_size zb32));(case aL=>have:=LMc17.out;omega);intro v727 w23 ho hb hg hat;rw [← Ny98.out] at ho;replace BK84:=Aside0.mk (blk_grown (g:=gb84) (o:=.cells #[.string a0_0,.string a0_1,.int .i64 a0_2,.slice A0_3 l0_3.length c0_3,.slice A0_4 l0_4.length c0_4] 26 (0,0)) (by (with_reducible repeat (first|refine blk_drewN ?_ _|refine blk_drew ?_|refine blk_alloc ?_ _));refine blk_far ?_ NB84_725.out _;(with_reducible repeat (first|refine blk_drewN ?_ _|refine blk_drew ?_|refine blk_alloc ?_ _));refine blk_far ?_ NB84_725.out _;(with_reducible repeat (first|refine blk_drewN ?_ _|refine blk_drew ?_|refine blk_alloc ?_ _));exact BK84.out) hg (Kd.R_ne HO_9.out BK84.out zb27));replace BK87:=Aside0.mk (blk_grown (g:=gb87) (o:=.cells #[.slice A1_0 l1_0.length c1_0,.slice A1_1 l1_1.length c1_1,.slice (some ad90) l1_2.length c1_2,.slice A1_3 l1_3.length c1_3,.int .i64 a1_4,.int .i64 a1_5,.int .i64 a1_6,.int .i64 a1_7] 46 (0,0)) (by (with_reducible repeat (first|refine blk_drewN ?_ _|refine blk_drew ?_|refine blk_alloc ?_ _));refine blk_far ?_ NB87_725.out _;(with_reducible repeat (first|refine blk_drewN ?_ _|refine blk_drew ?_|refine blk_alloc ?_ _));refine blk_far ?_ NB87_725.out _;(with_reducible repeat (first|refine blk_drewN ?_ _|refine blk_drew ?_|refine blk_alloc ?_ _));exact BK87.out) hg (Kd.R_ne HO_9.out BK87.out zb27));replace BK86:=Aside0.mk (blk_grown (g:=gb86) (o:=.cells #[.string (⟨#[]⟩:ByteArray),.string (⟨#[]⟩:ByteArray),.int .i64 0,.slice none 0 0,.slice none 0 0] 26 (0,0)) (by (with_reducible repeat (first|refine blk_drewN ?_ _|refine blk_drew ?_|refine blk_alloc ?_ _));refine blk_far ?_ NB86_725.out _;(with_reducible repeat (first|refine blk_drewN ?_ _|refine blk_drew ?_|refine blk_alloc ?_ _));refine blk_far ?_ NB86_725.out _;(with_reducible repeat (first|refine blk_drewN ?_ _|refine blk_drew ?_|refine blk_alloc ?_ _));exact BK86.out) hg (Kd.R_ne HO_9.out BK86.out zb27));replace BK88:=Aside0.mk (blk_grown (g:=gb88) (o:=.cells #[.string ((rd_T36 l1_2 x19_1).f0),.string ((rd_T36 l1_2 x19_1).f1)] 36 (0,0)) (by (with_reducible repeat (first|refine blk_drewN ?_ _|refine blk_drew ?_|refine blk_alloc ?_ _));refine blk_put (cs:=#[.string ((rd_T36 l1_2 x19_1).f0),.string (⟨#[]⟩:ByteArray)]) ?_ 1 _ rfl;(with_reducible repeat (first|refine blk_drewN ?_ _|refine blk_drew ?_|refine blk_alloc ?_ _));refine blk_put (cs:=#[.string (⟨#[]⟩:ByteArray),.string (⟨#[]⟩:ByteArray)]) ?_ 0 _ rfl;(with_reducible repeat (first|refine blk_drewN ?_ _|refine blk_drew ?_|refine blk_alloc ?_ _));exact BK88.out) hg (Kd.R_ne HO_9.out BK88.out zb27));replace HB:=Aside0.mk (hb);have HO728:=Aside0.mk (ho);clear ho hb hg hat))
     go_roundg k1
     case measure=>have:=HK1.out;omega
     case rel=>exact ⟨(y98),(wrap64 (x19_1 + 1)),zb4,H',⟨zb66⟩,⟨by (with_reducible repeat (first|apply Kd.R_alloc|apply Kd.R_drewN|apply Kd.R_drew));exact HO728.out⟩,⟨zb11⟩,⟨zb7⟩,⟨zb9⟩,⟨zb32⟩⟩
    ·rw [if_neg c16] at H
     exact absurd H zb33
   rw [if_neg c14] at H
   have c14b0:=decide_eq_false c14
   clear c14
   obtain ⟨y92,hy92⟩ : ∃ y_:List (S36),y_=(([(⟨(⟨#[72,111,115,116]⟩:ByteArray),a2⟩:S36)]:List (S36))):=⟨_,rfl⟩
   replace H:((scrub_onward.f k1 l0_3).bind fun t99=>((field_Without.f k1 t99 x9_1).bind fun t93=>(if y92.length + t93.length < 4398046511104 then ((some (y92 ++ t93:List (S36))).bind fun y91=>(if y91.length + l1_2.length < 4398046511104 then ((some (y91 ++ l1_2:List (S36))).bind fun y89=>(if (l0_4.length:Int) > 0 then (scrub_Request.j1 k1 a3 y89 (decide ((l0_4.length:Int) > 0)) a0_0 a0_1 a0_2 l0_3 l0_4) else (if a0_0.toList=([80,79,83,84]:List UInt8) then (scrub_Request.j1 k1 a3 y89 (a0_0.toList == ([80,79,83,84]:List UInt8)) a0_0 a0_1 a0_2 l0_3 l0_4) else (if a0_0.toList=([80,85,84]:List UInt8) then (scrub_Request.j1 k1 a3 y89 (a0_0.toList == ([80,85,84]:List UInt8)) a0_0 a0_1 a0_2 l0_3 l0_4) else (scrub_Request.j1 k1 a3 y89 (a0_0.toList == ([80,65,84,67,72]:List UInt8)) a0_0 a0_1 a0_2 l0_3 l0_4))))) else (none))) else (none))))=some (r1,r2,r3,r4,r5):=by first|(rw [hy92];with_reducible exact H)|(have H2_:=(Option.bind_some _ _).symm.trans H;rw [hy92];with_reducible exact H2_)|(have H2_:=(Option.bind_some _ _).symm.trans H;with_reducible exact H2_)|with_reducible exact H|(rw [hy92];exact H)|exact H
   have Ny92:=Aside0.mk hy92
   clear hy92
   replace H:=Option.bind_eq_some_iff.mp H
   obtain ⟨t99,A240,H⟩:=H
   try dsimp only at H
   have A24:=Aside0.mk A240
   clear A240
   replace H:=Option.bind_eq_some_iff.mp H
   obtain ⟨t93,A250,H⟩:=H
   try dsimp only at H
   have A25:=Aside0.mk A250
   clear A250
   by_cases c26:y92.length + t93.length < 4398046511104;rotate_left
   ·rw [if_neg c26] at H
    exact absurd H zb33
   rw [if_pos c26] at H
   have LMc26:=Aside0.mk c26
   clear c26
   obtain ⟨y91,hy91⟩ : ∃ y_:List (S36),y_=(y92 ++ t93):=⟨_,rfl⟩
   replace H:(if y91.length + l1_2.length < 4398046511104 then ((some (y91 ++ l1_2:List (S36))).bind fun y89=>(if (l0_4.length:Int) > 0 then (scrub_Request.j1 k1 a3 y89 (decide ((l0_4.length:Int) > 0)) a0_0 a0_1 a0_2 l0_3 l0_4) else (if a0_0.toList=([80,79,83,84]:List UInt8) then (scrub_Request.j1 k1 a3 y89 (a0_0.toList == ([80,79,83,84]:List UInt8)) a0_0 a0_1 a0_2 l0_3 l0_4) else (if a0_0.toList=([80,85,84]:List UInt8) then (scrub_Request.j1 k1 a3 y89 (a0_0.toList == ([80,85,84]:List UInt8)) a0_0 a0_1 a0_2 l0_3 l0_4) else (scrub_Request.j1 k1 a3 y89 (a0_0.toList == ([80,65,84,67,72]:List UInt8)) a0_0 a0_1 a0_2 l0_3 l0_4))))) else (none))=some (r1,r2,r3,r4,r5):=by first|(rw [hy91];with_reducible exact H)|(have H2_:=(Option.bind_some _ _).symm.trans H;rw [hy91];with_reducible exact H2_)|(have H2_:=(Option.bind_some _ _).symm.trans H;with_reducible exact H2_)|with_reducible exact H|(rw [hy91];exact H)|exact H
   have Ny91:=Aside0.mk hy91
   clear hy91
   by_cases c27:y91.length + l1_2.length < 4398046511104
   ·rw [if_pos c27] at H
    have LMc27:=Aside0.mk c27
    clear c27
    obtain ⟨y89,hy89⟩ : ∃ y_:List (S36),y_=(y91 ++ l1_2):=⟨_,rfl⟩
    replace H:(if (l0_4.length:Int) > 0 then (scrub_Request.j1 k1 a3 y89 (decide ((l0_4.length:Int) > 0)) a0_0 a0_1 a0_2 l0_3 l0_4) else (if a0_0.toList=([80,79,83,84]:List UInt8) then (scrub_Request.j1 k1 a3 y89 (a0_0.toList == ([80,79,83,84]:List UInt8)) a0_0 a0_1 a0_2 l0_3 l0_4) else (if a0_0.toList=([80,85,84]:List UInt8) then (scrub_Request.j1 k1 a3 y89 (a0_0.toList == ([80,85,84]:List UInt8)) a0_0 a0_1 a0_2 l0_3 l0_4) else (scrub_Request.j1 k1 a3 y89 (a0_0.toList == ([80,65,84,67,72]:List UInt8)) a0_0 a0_1 a0_2 l0_3 l0_4))))=some (r1,r2,r3,r4,r5):=by first|(rw [hy89];with_reducible exact H)|(have H2_:=(Option.bind_some _ _).symm.trans H;rw [hy89];with_reducible exact H2_)|(have H2_:=(Option.bind_some _ _).symm.trans H;with_reducible exact H2_)|with_reducible exact H|(rw [hy89];exact H)|exact H
    have Ny89:=Aside0.mk hy89
    clear hy89
    have HC28:=Aside0.mk H
    clear H
    go_upto_if 42 with (first|((with_reducible refine gate_dst (N:=31) rfl ?_);refine Kd.R_lit k36 _ 36 ?hg (N:=31) ?hd (xs:=([(⟨(⟨#[72,111,115,116]⟩:ByteArray),a2⟩:S36)]:List (S36))) (inner:=[.string (⟨#[72,111,115,116]⟩:ByteArray),.string a2]) (ok:=fun _=>True) (okp:=fun _=>True) ?hr ?hp (fun _ hk=>hk) trivial (Below.refl _ _) (Nat.le_refl _) zb33 ?_;(case hd=>rfl);(case hg=>rfl);(case hr=>first|(go_simp;done)|(go_simp;rfl));(case hp=>exact (Reps.c2 (show Kd.M k36 _ _ _ (⟨(⟨#[72,111,115,116]⟩:ByteArray),a2⟩:S36) [.string (⟨#[72,111,115,116]⟩:ByteArray),.string a2] from (k36_mkM _ _ _ (⟨(⟨#[72,111,115,116]⟩:ByteArray),a2⟩:S36) )) (Reps.none _ _)));intro v730 w29 ho30 hb hg_ hnew_;clear hg_ hnew_;(first|rw [← Ny92.out] at ho30|(simp only [Int.reduceToNat] at ho30;rw [← Ny92.out] at ho30));have n0_:=Aside0.mk (Kd.R_below zb44 hb);have n1_:=Aside0.mk (Kd.R_lower ho30 (below_size zb6));have n2_:=Aside0.mk (blk_below (g:=gb84) (o:=.cells #[.string a0_0,.string a0_1,.int .i64 a0_2,.slice A0_3 l0_3.length c0_3,.slice A0_4 l0_4.length c0_4] 26 (0,0)) zb11 hb);have n3_:=Aside0.mk (blk_below (g:=gb87) (o:=.cells #[.slice A1_0 l1_0.length c1_0,.slice A1_1 l1_1.length c1_1,.slice A1_2 l1_2.length c1_2,.slice A1_3 l1_3.length c1_3,.int .i64 a1_4,.int .i64 a1_5,.int .i64 a1_6,.int .i64 a1_7] 46 (0,0)) zb7 hb);have n4_:=Aside0.mk (blk_below (g:=gb86) (o:=.cells #[.string (⟨#[]⟩:ByteArray),.string (⟨#[]⟩:ByteArray),.int .i64 0,.slice none 0 0,.slice none 0 0] 26 (0,0)) zb9 hb);have n5_:=Aside0.mk (below_step zb6 hb);clear HO_9;clear BK84;clear BK87;clear BK86;clear HB;have HO_9:=n0_;have HO95:=n1_;have BK84:=n2_;have BK87:=n3_;have BK86:=n4_;have HB:=n5_;clear n0_ n1_ n2_ n3_ n4_ n5_;clear hb ho30;have hnb31:=NB84_719.out;have hnc31:=NB87_718.out;have hnb32:=NB84_720.out;have hnc32:=NB86_718.out;have hcz33_0:w29.cell? ⟨gb84,0,none⟩=some (.string a0_0):=(blk_cell BK84.out 0).trans rfl;have hcz33_1:w29.cell? ⟨gb84,1,none⟩=some (.string a0_1):=(blk_cell BK84.out 1).trans rfl;have hcz33_2:w29.cell? ⟨gb84,2,none⟩=some (.int .i64 a0_2):=(blk_cell BK84.out 2).trans rfl;have hcz33_3:w29.cell? ⟨gb84,3,none⟩=some (.slice A0_3 l0_3.length c0_3):=(blk_cell BK84.out 3).trans rfl;have hcz33_4:w29.cell? ⟨gb84,4,none⟩=some (.slice A0_4 l0_4.length c0_4):=(blk_cell BK84.out 4).trans rfl;have hfz33_0:=blk_frozen BK84.out 0;have hfz33_1:=blk_frozen BK84.out 1;have hfz33_2:=blk_frozen BK84.out 2;have hfz33_3:=blk_frozen BK84.out 3;have hfz33_4:=blk_frozen BK84.out 4)|((with_reducible refine gate_callee (f:=60) rfl ?_);refine goesL_ (some 34) rfl rfl Tryz.func60 zb10 rfl #[.slice A0_3 l0_3.length c0_3] rfl zb1 ?_;(with_reducible refine (scrub_onward.calls k1 _ _ l0_3 t99 _ ?side1 ?side2 A24.out).mono ?_);(case side1=>exact zb62);(case side2=>exact HC0_3.out);rintro e w34 ⟨v733,rfl,ho0,hb⟩;refine ⟨_,rfl,?_⟩;have n0_:=Aside0.mk (Kd.R_below zb44 hb);have n1_:=Aside0.mk (Kd.R_elder' zb39 (Kd.R_base ho0) hb);have n2_:=Aside0.mk (Kd.R_lower (Kd.R_new' ho0 (Kd.R_lt zb39)) (below_size zb6));have n3_:=Aside0.mk (blk_below (g:=gb84) (o:=.cells #[.string a0_0,.string a0_1,.int .i64 a0_2,.slice A0_3 l0_3.length c0_3,.slice A0_4 l0_4.length c0_4] 26 (0,0)) zb11 hb);have n4_:=Aside0.mk (blk_below (g:=gb87) (o:=.cells #[.slice A1_0 l1_0.length c1_0,.slice A1_1 l1_1.length c1_1,.slice A1_2 l1_2.length c1_2,.slice A1_3 l1_3.length c1_3,.int .i64 a1_4,.int .i64 a1_5,.int .i64 a1_6,.int .i64 a1_7] 46 (0,0)) zb7 hb);have n5_:=Aside0.mk (blk_below (g:=gb86) (o:=.cells #[.string (⟨#[]⟩:ByteArray),.string (⟨#[]⟩:ByteArray),.int .i64 0,.slice none 0 0,.slice none 0 0] 26 (0,0)) zb9 hb);have n6_:=Aside0.mk (below_step zb6 hb);clear HO_9;clear HO95;clear BK84;clear BK87;clear BK86;clear HB;have HO_9:=n0_;have HO95:=n1_;have HO94:=n2_;have BK84:=n3_;have BK87:=n4_;have BK86:=n5_;have HB:=n6_;clear n0_ n1_ n2_ n3_ n4_ n5_ n6_;(try clear hb);(try clear hb2);(try clear hk);(try clear hi);(try clear ho0);obtain ⟨Ao35,co35,eo35⟩:=Kd.R_slice HO94.out;subst eo35;obtain ⟨Ao36,co36,eo36⟩:=Kd.R_slice HO_9.out;subst eo36)|((with_reducible refine gate_callee (f:=59) rfl ?_);refine goesL_ (some 36) rfl rfl Tryz.func59 zb10 rfl #[.slice Ao35 t99.length co35,.slice Ao36 x9_1.length co36] rfl zb1 ?_;(with_reducible refine (field_Without.calls k1 _ _ t99 _ _ x9_1 t93 _ ?side1 ?side2 ?side3 ?side4 A25.out).mono ?_);(case side1=>repeat (first|exact (Kd.R_reads' HO94.out).2.2|(with_reducible refine Kd.C_alloc ?_ _)|(with_reducible refine Kd.C_drewN ?_ _)|(with_reducible refine Kd.C_drew ?_)));(case side2=>exact (Kd.R_reads' HO94.out).2.1);(case side3=>repeat (first|exact (Kd.R_reads' HO_9.out).2.2|(with_reducible refine Kd.C_alloc ?_ _)|(with_reducible refine Kd.C_drewN ?_ _)|(with_reducible refine Kd.C_drew ?_)));(case side4=>exact (Kd.R_reads' HO_9.out).2.1);rintro e w37 ⟨v736,rfl,ho0,hb⟩;refine ⟨_,rfl,?_⟩;have n0_:=Aside0.mk (Kd.R_below zb44 hb);have n1_:=Aside0.mk (Kd.R_elder' zb39 (Kd.R_base ho0) hb);have n2_:=Aside0.mk (Kd.R_elder' zb60 (Kd.R_base ho0) hb);have n3_:=Aside0.mk (Kd.R_lower (Kd.R_new' (Kd.R_new' ho0 (Kd.R_lt zb39)) (Kd.R_lt zb60)) (below_size zb6));have n4_:=Aside0.mk (blk_below (g:=gb84) (o:=.cells #[.string a0_0,.string a0_1,.int .i64 a0_2,.slice A0_3 l0_3.length c0_3,.slice A0_4 l0_4.length c0_4] 26 (0,0)) zb11 hb);have n5_:=Aside0.mk (blk_below (g:=gb87) (o:=.cells #[.slice A1_0 l1_0.length c1_0,.slice A1_1 l1_1.length c1_1,.slice A1_2 l1_2.length c1_2,.slice A1_3 l1_3.length c1_3,.int .i64 a1_4,.int .i64 a1_5,.int .i64 a1_6,.int .i64 a1_7] 46 (0,0)) zb7 hb);have n6_:=Aside0.mk (blk_below (g:=gb86) (o:=.cells #[.string (⟨#[]⟩:ByteArray),.string (⟨#[]⟩:ByteArray),.int .i64 0,.slice none 0 0,.slice none 0 0] 26 (0,0)) zb9 hb);have n7_:=Aside0.mk (below_step zb6 hb);clear HO_9;clear HO95;clear HO94;clear BK84;clear BK87;clear BK86;clear HB;have HO_9:=n0_;have HO95:=n1_;have HO94:=n2_;have HO737:=n3_;have BK84:=n4_;have BK87:=n5_;have BK86:=n6_;have HB:=n7_;clear n0_ n1_ n2_ n3_ n4_ n5_ n6_ n7_;(try clear hb);(try clear hb2);(try clear hk);(try clear hi);(try clear ho0);obtain ⟨Ao39,co39,eo39⟩:=Kd.R_slice HO737.out;subst eo39)|((with_reducible refine gate_builtin (b:=.append) (xs:=#[.tmp 31,.tmp 36]) rfl ?_);at_builtin;refine Kd.R_append_rows k36 (w0:=w) w.heap.size rfl (.tmp 31) (.tmp 36) 24 36 (.agg #[(.string ⟨#[]⟩),(.string ⟨#[]⟩)]) 32 rfl Tryz.underlying24 info36 rfl zb27 zb18 v730 y92 t93 _ _ _ (fun k_=>some k_ ≠ (.slice Ao35 t99.length co35:Value).ownBlock∧some k_ ≠ (.slice Ao39 t93.length co39:Value).ownBlock) (fun _=>False) rfl rfl ?aO ?aR (fun _ _ h=>h) (fun _ h=>h.elim) ?aF ?aB ?aS ?aL ?_;(case aR=>repeat (first|exact (Kd.R_reads' HO737.out).2.2|(with_reducible refine Kd.C_alloc ?_ _)|(with_reducible refine Kd.C_drewN ?_ _)|(with_reducible refine Kd.C_drew ?_)));(case aB=>exact zb52);(case aF=>exact zb55);(case aO=>exact (by (with_reducible repeat (first|apply Kd.R_alloc|apply Kd.R_drewN|apply Kd.R_drew));exact Kd.R_mono HO95.out (fun _ hk=>⟨hk.1.2,hk.2⟩)));(case aS=>exact zb47);(case aL=>have:=LMc26.out;omega);intro v739 w38 ho hb hg hat;rw [← Ny91.out] at ho;have n0_:=Aside0.mk (Kd.R_over' zb44 (Kd.R_typed zb39) zb27 hg);have n1_:=Aside0.mk (blk_grown (g:=gb84) (o:=.cells #[.string a0_0,.string a0_1,.int .i64 a0_2,.slice A0_3 l0_3.length c0_3,.slice A0_4 l0_4.length c0_4] 26 (0,0)) zb11 hg (Kd.R_ne HO95.out BK84.out zb27));have n2_:=Aside0.mk (blk_grown (g:=gb87) (o:=.cells #[.slice A1_0 l1_0.length c1_0,.slice A1_1 l1_1.length c1_1,.slice A1_2 l1_2.length c1_2,.slice A1_3 l1_3.length c1_3,.int .i64 a1_4,.int .i64 a1_5,.int .i64 a1_6,.int .i64 a1_7] 46 (0,0)) zb7 hg (Kd.R_ne HO95.out BK87.out zb27));have n3_:=Aside0.mk (blk_grown (g:=gb86) (o:=.cells #[.string (⟨#[]⟩:ByteArray),.string (⟨#[]⟩:ByteArray),.int .i64 0,.slice none 0 0,.slice none 0 0] 26 (0,0)) zb9 hg (Kd.R_ne HO95.out BK86.out zb27));have n4_:=Aside0.mk (Kd.R_after (ok:=(fun k_=>some k_ ≠ (.slice Ao39 t93.length co39:Value).ownBlock)) (by (with_reducible repeat (first|apply Kd.R_alloc|apply Kd.R_drewN|apply Kd.R_drew));exact Kd.R_mono HO94.out (fun _ hk=>⟨hk.2,hk.1.2⟩)) hg hat);have n5_:=Aside0.mk (Kd.R_after (ok:=(fun k_=>some k_ ≠ (.slice Ao35 t99.length co35:Value).ownBlock)) (by (with_reducible repeat (first|apply Kd.R_alloc|apply Kd.R_drewN|apply Kd.R_drew));exact Kd.R_mono HO737.out (fun _ hk=>⟨hk.2,hk.1.2⟩)) hg hat);have n6_:=Aside0.mk (hb);have n7_:=Aside0.mk (ho);clear HO_9;clear BK84;clear BK87;clear BK86;clear HO94;clear HO737;clear HB;clear HO95;have HO_9:=n0_;have BK84:=n1_;have BK87:=n2_;have BK86:=n3_;have HO94:=n4_;have HO737:=n5_;have HB:=n6_;have HO740:=n7_;clear n0_ n1_ n2_ n3_ n4_ n5_ n6_ n7_;clear ho hb hg hat;have hnb40:=NB87_720.out;have hnc40:=NB86_719.out;have hcz41_0:w38.cell? ⟨gb87,0,none⟩=some (.slice A1_0 l1_0.length c1_0):=(blk_cell BK87.out 0).trans rfl;have hcz41_1:w38.cell? ⟨gb87,1,none⟩=some (.slice A1_1 l1_1.length c1_1):=(blk_cell BK87.out 1).trans rfl;have hcz41_2:w38.cell? ⟨gb87,2,none⟩=some (.slice A1_2 l1_2.length c1_2):=(blk_cell BK87.out 2).trans rfl;have hcz41_3:w38.cell? ⟨gb87,3,none⟩=some (.slice A1_3 l1_3.length c1_3):=(blk_cell BK87.out 3).trans rfl;have hcz41_4:w38.cell? ⟨gb87,4,none⟩=some (.int .i64 a1_4):=(blk_cell BK87.out 4).trans rfl;have hcz41_5:w38.cell? ⟨gb87,5,none⟩=some (.int .i64 a1_5):=(blk_cell BK87.out 5).trans rfl;have hcz41_6:w38.cell? ⟨gb87,6,none⟩=some (.int .i64 a1_6):=(blk_cell BK87.out 6).trans rfl;have hcz41_7:w38.cell? ⟨gb87,7,none⟩=some (.int .i64 a1_7):=(blk_cell BK87.out 7).trans rfl;have hfz41_0:=blk_frozen BK87.out 0;have hfz41_1:=blk_frozen BK87.out 1;have hfz41_2:=blk_frozen BK87.out 2;have hfz41_3:=blk_frozen BK87.out 3;have hfz41_4:=blk_frozen BK87.out 4;have hfz41_5:=blk_frozen BK87.out 5;have hfz41_6:=blk_frozen BK87.out 6;have hfz41_7:=blk_frozen BK87.out 7)|((with_reducible refine gate_builtin (b:=.append) (xs:=#[.tmp 38,.tmp 40]) rfl ?_);at_builtin;refine Kd.R_append_rows k36 (w0:=w) w.heap.size rfl (.tmp 38) (.tmp 40) 24 36 (.agg #[(.string ⟨#[]⟩),(.string ⟨#[]⟩)]) 32 rfl Tryz.underlying24 info36 rfl zb27 zb18 v739 y91 l1_2 _ _ _ (fun k_=>some k_ ≠ (.slice Ao35 t99.length co35:Value).ownBlock∧some k_ ≠ (.slice Ao39 t93.length co39:Value).ownBlock) (fun _=>False) rfl rfl ?aO ?aR (fun _ _ h=>h) (fun _ h=>h.elim) ?aF ?aB ?aS ?aL ?_;(case aR=>repeat (first|exact (Kd.C_below HR1_2.out HB.out)|(with_reducible refine Kd.C_alloc ?_ _)|(with_reducible refine Kd.C_drewN ?_ _)|(with_reducible refine Kd.C_drew ?_)));(case aB=>exact zb52);(case aF=>exact zb55);(case aO=>exact (by (with_reducible repeat (first|apply Kd.R_alloc|apply Kd.R_drewN|apply Kd.R_drew));exact HO740.out));(case aS=>exact zb47);(case aL=>have:=LMc27.out;omega);intro v742 w42 ho hb hg hat;rw [← Ny89.out] at ho;have n0_:=Aside0.mk (Kd.R_over' zb44 (Kd.R_typed (by (with_reducible repeat (first|apply Kd.R_alloc|apply Kd.R_drewN|apply Kd.R_drew));exact HO740.out)) zb27 hg);have n1_:=Aside0.mk (blk_grown (g:=gb84) (o:=.cells #[.string a0_0,.string a0_1,.int .i64 a0_2,.slice A0_3 l0_3.length c0_3,.slice A0_4 l0_4.length c0_4] 26 (0,0)) zb11 hg (Kd.R_ne HO740.out BK84.out zb27));have n2_:=Aside0.mk (blk_grown (g:=gb87) (o:=.cells #[.slice A1_0 l1_0.length c1_0,.slice A1_1 l1_1.length c1_1,.slice A1_2 l1_2.length c1_2,.slice A1_3 l1_3.length c1_3,.int .i64 a1_4,.int .i64 a1_5,.int .i64 a1_6,.int .i64 a1_7] 46 (0,0)) zb7 hg (Kd.R_ne HO740.out BK87.out zb27));have n3_:=Aside0.mk (blk_grown (g:=gb86) (o:=.cells #[.string (⟨#[]⟩:ByteArray),.string (⟨#[]⟩:ByteArray),.int .i64 0,.slice none 0 0,.slice none 0 0] 26 (0,0)) zb9 hg (Kd.R_ne HO740.out BK86.out zb27));have n4_:=Aside0.mk (Kd.R_after (ok:=(fun k_=>some k_ ≠ (.slice Ao39 t93.length co39:Value).ownBlock)) zb60 hg hat);have n5_:=Aside0.mk (Kd.R_after (ok:=(fun k_=>some k_ ≠ (.slice Ao35 t99.length co35:Value).ownBlock)) zb81 hg hat);have n6_:=Aside0.mk (hb);have n7_:=Aside0.mk (ho);clear HO_9;clear BK84;clear BK87;clear BK86;clear HO94;clear HO737;clear HB;clear HO740;have HO_9:=n0_;have BK84:=n1_;have BK87:=n2_;have BK86:=n3_;have HO94:=n4_;have HO737:=n5_;have HB:=n6_;have HO743:=n7_;clear n0_ n1_ n2_ n3_ n4_ n5_ n6_ n7_;clear ho hb hg hat;have hcz43_0:w42.cell? ⟨gb84,0,none⟩=some (.string a0_0):=(blk_cell BK84.out 0).trans rfl;have hcz43_1:w42.cell? ⟨gb84,1,none⟩=some (.string a0_1):=(blk_cell BK84.out 1).trans rfl;have hcz43_2:w42.cell? ⟨gb84,2,none⟩=some (.int .i64 a0_2):=(blk_cell BK84.out 2).trans rfl;have hcz43_3:w42.cell? ⟨gb84,3,none⟩=some (.slice A0_3 l0_3.length c0_3):=(blk_cell BK84.out 3).trans rfl;have hcz43_4:w42.cell? ⟨gb84,4,none⟩=some (.slice A0_4 l0_4.length c0_4):=(blk_cell BK84.out 4).trans rfl;have hfz43_0:=blk_frozen BK84.out 0;have hfz43_1:=blk_frozen BK84.out 1;have hfz43_2:=blk_frozen BK84.out 2;have hfz43_3:=blk_frozen BK84.out 3;have hfz43_4:=blk_frozen BK84.out 4))
    (try simp only [Act.put,zqA,zqB,zqC])
    go_cut [42] (fun v42 wc => ∃ (kq:Nat) (x42_27:Bool),v42 = .bool x42_27∧Aside0 (scrub_Request.j1 kq a3 y89 x42_27 a0_0 a0_1 a0_2 l0_3 l0_4=some (r1,r2,r3,r4,r5))∧Aside0 (kq ≤ k1)∧Aside0 (Kd.R k36 36 wc w.heap.size (fun _=>True) v742 y89)∧Aside0 (wc.heap[gb84]? = some (.cells #[.string a0_0,.string a0_1,.int .i64 a0_2,(.slice A0_3 l0_3.length c0_3),(.slice A0_4 l0_4.length c0_4)] 26 (0,0)))∧Aside0 (wc.heap[gb87]? = some (.cells #[(.slice A1_0 l1_0.length c1_0),(.slice A1_1 l1_1.length c1_1),(.slice A1_2 l1_2.length c1_2),(.slice A1_3 l1_3.length c1_3),.int .i64 a1_4,.int .i64 a1_5,.int .i64 a1_6,.int .i64 a1_7] 46 (0,0)))∧Aside0 (wc.heap[gb86]? = some (.cells #[.string (⟨#[]⟩:ByteArray),.string (⟨#[]⟩:ByteArray),.int .i64 0,(.slice none 0 0),(.slice none 0 0)] 26 (0,0)))∧Aside0 (Below w.heap.size w wc))
    case first =>
     have H:=HC28.out
     clear HC28
     by_cases c44:(l0_4.length:Int) > 0
     ·rw [if_pos c44] at H
      have c44b0:decide (0 < (l0_4.length:Int))=true:=decide_eq_true c44
      have c44b1:decide (0 < l0_4.length)=true:=decide_eq_true zb18
      clear c44
      (first|rw [c44b0]|(simp only [i64_w,i32_w];rw [c44b0])|rw [c44b1]|skip)
      have H' := Aside0.mk H
      clear H
      go_wp2
      go_meet
      case rel=>exact ⟨_,(decide ((l0_4.length:Int) > 0)),zb4,H',⟨zb63⟩,⟨zb57⟩,⟨zb11⟩,⟨zb7⟩,⟨zb9⟩,⟨zb6⟩⟩
     rw [if_neg c44] at H
     have c44b0:decide (0 < (l0_4.length:Int))=false:=decide_eq_false c44
     have c44b1:decide (0 < l0_4.length)=false:=decide_eq_false zb18
     clear c44
     (first|rw [c44b0]|(simp only [i64_w,i32_w];rw [c44b0])|rw [c44b1]|skip)
     by_cases c45:a0_0.toList=([80,79,83,84]:List UInt8)
     ·rw [if_pos c45] at H
      have c45b0:=beq_iff_eq.mpr c45
      have c45b1:=bne_eq_false_iff_eq.mpr c45
      clear c45
      have H' := Aside0.mk H
      clear H
      have hnb46:=NB84_719.out
      have hnc46:=NB87_718.out
      have hnb47:=NB84_720.out
      have hnc47:=NB86_718.out
      obtain ⟨hcz48_0,hcz48_1,hcz48_2,hcz48_3,hcz48_4,hfz48_0,hfz48_1,hfz48_2,hfz48_3,hfz48_4⟩:=zq5 BK84.out
      go_wp2
      go_meet
      case rel=>exact ⟨_,((a0_0.toList == ([80,79,83,84]:List UInt8))),zb4,H',⟨zb63⟩,⟨zb57⟩,⟨zb11⟩,⟨zb7⟩,⟨zb9⟩,⟨zb6⟩⟩
     rw [if_neg c45] at H
     have c45b0:=beq_eq_false_iff_ne.mpr c45
     have c45b1:=bne_iff_ne.mpr c45
     by_cases c49:a0_0.toList=([80,85,84]:List UInt8);rotate_left
     ·rw [if_neg c49] at H
      have c49b0:=beq_eq_false_iff_ne.mpr c49
      have c49b1:=bne_iff_ne.mpr c49
      have H' := Aside0.mk H
      clear H
      have hnb53:=NB84_719.out
      have hnc53:=NB87_718.out
      have hnb54:=NB84_720.out
      have hnc54:=NB86_718.out
      obtain ⟨hcz55_0,hcz55_1,hcz55_2,hcz55_3,hcz55_4,hfz55_0,hfz55_1,hfz55_2,hfz55_3,hfz55_4⟩:=zq5 BK84.out
      go_wp2
      go_meet
      case rel=>exact ⟨_,((a0_0.toList == ([80,65,84,67,72]:List UInt8))),zb4,H',⟨zb63⟩,⟨zb57⟩,⟨zb11⟩,⟨zb7⟩,⟨zb9⟩,⟨zb6⟩⟩
     rw [if_pos c49] at H
     have c49b0:=beq_iff_eq.mpr c49
     have c49b1:=bne_eq_false_iff_eq.mpr c49
     clear c49
     have H' := Aside0.mk H
     clear H
     have hnb50:=NB84_719.out
     have hnc50:=NB87_718.out
     have hnb51:=NB84_720.out
     have hnc51:=NB86_718.out
     obtain ⟨hcz52_0,hcz52_1,hcz52_2,hcz52_3,hcz52_4,hfz52_0,hfz52_1,hfz52_2,hfz52_3,hfz52_4⟩:=zq5 BK84.out
     go_wp2
     go_meet
     case rel=>exact ⟨_,((a0_0.toList == ([80,85,84]:List UInt8))),zb4,H',⟨zb63⟩,⟨zb57⟩,⟨zb11⟩,⟨zb7⟩,⟨zb9⟩,⟨zb6⟩⟩
    case rest =>
     clear HC28
     try clear c1
     try clear c2
     try clear p2
     try clear c3
     try clear c4
     try clear c5
     try clear c6
     try clear p6
     try clear p7
     try clear q7
     try clear hx7
     try clear c9
     try clear c10
     try clear c14
     try clear c14b0
     try clear c15
     try clear c15b0
     try clear c16
     try clear c16b0
     try clear c17
     try clear c19
     try clear c20
     try clear c21
     try clear c26
     try clear c27
     try clear c30
     try clear c31
     try clear c32
     try clear c40
     try clear c44
     try clear c44b0
     try clear c44b1
     try clear c45
     try clear c45b0
     try clear c45b1
     try clear c46
     try clear c47
     try clear c49
     try clear c49b0
     try clear c49b1
     try clear c50
     try clear c51
     try clear c53
     try clear c54
     try clear hcz11_0
     try clear hcz11_1
     try clear hcz11_2
     try clear hcz11_3
     try clear hcz11_4
     try clear hcz11_5
     try clear hcz11_6
     try clear hcz11_7
     try clear hcz13_0
     try clear hcz13_1
     try clear hcz13_2
     try clear hcz13_3
     try clear hcz13_4
     try clear hcz13_5
     try clear hcz13_6
     try clear hcz13_7
     try clear hcz22_0
     try clear hcz22_1
     try clear hcz33_0
     try clear hcz33_1
     try clear hcz33_2
     try clear hcz33_3
     try clear hcz33_4
     try clear hcz41_0
     try clear hcz41_1
     try clear hcz41_2
     try clear hcz41_3
     try clear hcz41_4
     try clear hcz41_5
     try clear hcz41_6
     try clear hcz41_7
     try clear hcz43_0
     try clear hcz43_1
     try clear hcz43_2
     try clear hcz43_3
     try clear hcz43_4
     try clear hcz48_0
     try clear hcz48_1
     try clear hcz48_2
     try clear hcz48_3
     try clear hcz48_4
     try clear hcz52_0
     try clear hcz52_1
     try clear hcz52_2
     try clear hcz52_3
     try clear hcz52_4
     try clear hcz55_0
     try clear hcz55_1
     try clear hcz55_2
     try clear hcz55_3
     try clear hcz55_4
     try clear hfz11_0
     try clear hfz11_1
     try clear hfz11_2
     try clear hfz11_3
     try clear hfz11_4
     try clear hfz11_5
     try clear hfz11_6
     try clear hfz11_7
     try clear hfz13_0
     try clear hfz13_1
     try clear hfz13_2
     try clear hfz13_3
     try clear hfz13_4
     try clear hfz13_5
     try clear hfz13_6
     try clear hfz13_7
     try clear hfz22_0
     try clear hfz22_1
     try clear hfz33_0
     try clear hfz33_1
     try clear hfz33_2
     try clear hfz33_3
     try clear hfz33_4
     try clear hfz41_0
     try clear hfz41_1
     try clear hfz41_2
     try clear hfz41_3
     try clear hfz41_4
     try clear hfz41_5
     try clear hfz41_6
     try clear hfz41_7
     try clear hfz43_0
     try clear hfz43_1
     try clear hfz43_2
     try clear hfz43_3
     try clear hfz43_4
     try clear hfz48_0
     try clear hfz48_1
     try clear hfz48_2
     try clear hfz48_3
     try clear hfz48_4
     try clear hfz52_0
     try clear hfz52_1
     try clear hfz52_2
     try clear hfz52_3
     try clear hfz52_4
     try clear hfz55_0
     try clear hfz55_1
     try clear hfz55_2
     try clear hfz55_3
     try clear hfz55_4
     try clear hx90_0
     try clear hx90_1
     try clear p2
     try clear p90
     try clear q90
     obtain ⟨kq,x42_27,rfl,HA,HJ27,HO_12,BK84,BK87,BK86,HB⟩:=hcut
     cases kq with
     | zero=>exact absurd HA.out (by simp [scrub_Request.j1])
     | succ kj27 =>
      have H:=HA.out
      clear HA
      simp only [scrub_Request.j1] at H
      by_cases c56:x42_27=true;rotate_left
      ·replace c56:=Bool.eq_false_iff.mpr c56
       subst c56
       rw [if_neg (show ¬ (false=true) by decide)] at H
       replace H:=Option.bind_eq_some_iff.mp H
       obtain ⟨t752,A740,H⟩:=H
       try dsimp only at H
       have A74:=Aside0.mk A740
       clear A740
       simp only [Option.some.injEq,Prod.mk.injEq] at H
       obtain ⟨rfl,rfl,rfl,rfl,rfl⟩:=H
       try go_wp2
       replace HO_12:=Aside0.mk (Kd.R_drew HO_12.out)
       replace BK84:=Aside0.mk (blk_drew BK84.out)
       replace BK87:=Aside0.mk (blk_drew BK87.out)
       replace BK86:=Aside0.mk (blk_drew BK86.out)
       replace HB:=Aside0.mk (below_drew1 HB.out)
       refine start_ (n:=9) (S:=fun w' => w'.cell? ⟨gb84,0,none⟩=some (.string a0_0)∧w'.cell? ⟨gb84,1,none⟩=some (.string a0_1)∧w'.cell? ⟨gb84,2,none⟩=some (.int .i64 a0_2)∧w'.cell? ⟨gb84,3,none⟩=some (.slice A0_3 l0_3.length c0_3)∧w'.cell? ⟨gb84,4,none⟩=some (.slice A0_4 l0_4.length c0_4)) (ds:=[]) (zl 9 0) zb10 rfl rfl ⟨(blk_cell BK84.out 0).trans rfl,(blk_cell BK84.out 1).trans rfl,(blk_cell BK84.out 2).trans rfl,(blk_cell BK84.out 3).trans rfl,(blk_cell BK84.out 4).trans rfl⟩ (fun hHeld=>?_);refine with_tabW scrub_Request.tab14 scrub_Request.bits14 (fun HT_ HW_=>?_)
       generalize wc.drew=w75 at HO_12 BK84 BK87 BK86 HB hHeld ⊢
       refine zpu 0 (N:=some 63) (zl 9 1) HT_.out rfl rfl ?_
       refine zpu 2 (N:=some 65) (zl 9 5) HT_.out rfl rfl ?_
       refine zpu 3 (N:=some 66) (zl 9 13) HT_.out rfl rfl ?_
       refine zpu 4 (N:=some 67) (zl 9 29) HT_.out rfl rfl ?_
       refine take_ (i:=1) (N:=some 64) (v:=?_) (a' := ?_) (zl 9 31) rfl rfl (take_ofW HT_.out HW_.out zb10) (fun _ _ _ h=>h) (Or.inl ⟨zb41,?_⟩) hHeld ?_ ?_
       rotate_left
       ·rintro w' ⟨s0,s1,s2,s3,s4⟩;go_simp;with_reducible rfl
       rotate_left
       ·simp only [Act.put,zqA,zqB,zqC,i64_w,i32_w];rfl
       refine take_ (i:=5) (N:=some 68) (v:=?_) (a' := ?_) (zl 9 63) rfl rfl (take_ofW HT_.out HW_.out zb10) (fun _ _ _ h=>h) (Or.inl ⟨zb41,?_⟩) hHeld ?_ ?_
       rotate_left
       ·rintro w' ⟨s0,s1,s2,s3,s4⟩;go_simp;with_reducible rfl
       rotate_left
       ·simp only [Act.put,zqA,zqB,zqC,i64_w,i32_w];rfl
       refine one_ (i:=6) (N:=some 69) (zl 9 127) rfl rfl (one_of HT_.out zb10) zb27 (fun K hK=>?_)
       refine goes_ Tryz.func62 zb10 rfl #[.slice A0_4 l0_4.length c0_4] zb41 rfl rfl zb1 ?_
       with_reducible refine (bytes_Clone.calls _ _ l0_4 t752 _ ?side1 ?side2 A74.out).mono ?_
       (case side1=>exact zb51)
       (case side2=>exact HC0_4.out)
       rintro e w76 ⟨v753,rfl,ho0,hb⟩
       refine ⟨_,rfl,?_⟩
       have n0_:=Aside0.mk (Kd.R_below zb36 hb)
       have n1_:=Aside0.mk (Kd.R_lower ho0 (below_size zb6))
       have n2_:=Aside0.mk (blk_below (g:=gb84) (o:=.cells #[.string a0_0,.string a0_1,.int .i64 a0_2,.slice A0_3 l0_3.length c0_3,.slice A0_4 l0_4.length c0_4] 26 (0,0)) zb11 hb)
       have n3_:=Aside0.mk (blk_below (g:=gb87) (o:=.cells #[.slice A1_0 l1_0.length c1_0,.slice A1_1 l1_1.length c1_1,.slice A1_2 l1_2.length c1_2,.slice A1_3 l1_3.length c1_3,.int .i64 a1_4,.int .i64 a1_5,.int .i64 a1_6,.int .i64 a1_7] 46 (0,0)) zb7 hb)
       have n4_:=Aside0.mk (blk_below (g:=gb86) (o:=.cells #[.string (⟨#[]⟩:ByteArray),.string (⟨#[]⟩:ByteArray),.int .i64 0,.slice none 0 0,.slice none 0 0] 26 (0,0)) zb9 hb)
       have n5_:=Aside0.mk (below_step zb6 hb)
       clear HO_12 BK84 BK87 BK86 HB
       have HO_12:=n0_
       have HO754:=n1_
       have BK84:=n2_
       have BK87:=n3_
       have BK86:=n4_
       have HB:=n5_
       clear n0_ n1_ n2_ n3_ n4_ n5_
       (try clear hb)
       (try clear hb2)
       (try clear hk)
       (try clear hi)
       (try clear ho0)
       obtain ⟨Ao77,co77,eo77⟩:=Kd.R_slice HO754.out
       (first|subst eo77|(injection eo77 with f1_ f2_ f3_;have f4_:=f1_.symm;have f5_:=f3_.symm;clear f1_ f2_ f3_;subst f4_;subst f5_))
       obtain ⟨Ao78,co78,eo78⟩:=Kd.R_slice HO_12.out
       (first|subst eo78|(injection eo78 with f1_ f2_ f3_;have f4_:=f1_.symm;have f5_:=f3_.symm;clear f1_ f2_ f3_;subst f4_;subst f5_))
       refine hK.out _ _ ⟨(blk_cell BK84.out 0).trans rfl,(blk_cell BK84.out 1).trans rfl,(blk_cell BK84.out 2).trans rfl,(blk_cell BK84.out 3).trans rfl,(blk_cell BK84.out 4).trans rfl⟩ (fun hHeld=>?_)
       clear hK K
       refine norm_ (a' := ?_) ?_ ?_
       rotate_left
       ·show Act.put _ (some 69) _=_
        simp only [Act.put,zqA,zqB,zqC,i64_w,i32_w]
        rfl
       refine zpu 7 (N:=some 70) (zl 9 255) HT_.out rfl rfl ?_
       refine one_ (i:=8) (N:=none) (zl 9 511) rfl rfl (one_of HT_.out zb10) zb27 (fun K hK=>?_)
       have hs79:w76.cell? ⟨gb86,0,none⟩=some (.string (⟨#[]⟩:ByteArray)):=(blk_cell BK86.out 0).trans rfl
       have hfs79:=blk_frozen BK86.out 0
       have hns79_0:=NB84_720.out
       have hns79_1:=NB87_720.out
       have hms79_0:=NB86_718.out
       have hms79_1:=NB86_719.out
       have hs80:w76.cell? ⟨gb86,1,none⟩=some (.string (⟨#[]⟩:ByteArray)):=(blk_cell BK86.out 1).trans rfl
       have hfs80:=blk_frozen BK86.out 1
       have hns80_0:=NB84_720.out
       have hns80_1:=NB87_720.out
       have hms80_0:=NB86_718.out
       have hms80_1:=NB86_719.out
       have hs81:w76.cell? ⟨gb86,2,none⟩=some (.int .i64 0):=(blk_cell BK86.out 2).trans rfl
       have hfs81:=blk_frozen BK86.out 2
       have hns81_0:=NB84_720.out
       have hns81_1:=NB87_720.out
       have hms81_0:=NB86_718.out
       have hms81_1:=NB86_719.out
       have hs82:w76.cell? ⟨gb86,3,none⟩=some (.slice none 0 0):=(blk_cell BK86.out 3).trans rfl
       have hfs82:=blk_frozen BK86.out 3
       have hns82_0:=NB84_720.out
       have hns82_1:=NB87_720.out
       have hms82_0:=NB86_718.out
       have hms82_1:=NB86_719.out
       have hs83:w76.cell? ⟨gb86,4,none⟩=some (.slice none 0 0):=(blk_cell BK86.out 4).trans rfl
       have hfs83:=blk_frozen BK86.out 4
       have hns83_0:=NB84_720.out
       have hns83_1:=NB87_720.out
       have hms83_0:=NB86_718.out
       have hms83_1:=NB86_719.out
       refine skip_ (w1:=?_) zb41 rfl ?_ ?_
       rotate_left
       ·go_simp
        rfl
       refine hK.out _ _ ⟨((cell_far (p:=⟨gb86,_,none⟩) NB84_720.out _).trans (((cell_far (p:=⟨gb86,_,none⟩) NB84_720.out _).trans (((cell_far (p:=⟨gb86,_,none⟩) NB84_720.out _).trans (((cell_far (p:=⟨gb86,_,none⟩) NB84_720.out _).trans (((cell_far (p:=⟨gb86,_,none⟩) NB84_720.out _).trans (hHeld.1)))))))))),((cell_far (p:=⟨gb86,_,none⟩) NB84_720.out _).trans (((cell_far (p:=⟨gb86,_,none⟩) NB84_720.out _).trans (((cell_far (p:=⟨gb86,_,none⟩) NB84_720.out _).trans (((cell_far (p:=⟨gb86,_,none⟩) NB84_720.out _).trans (((cell_far (p:=⟨gb86,_,none⟩) NB84_720.out _).trans (hHeld.2.1)))))))))),((cell_far (p:=⟨gb86,_,none⟩) NB84_720.out _).trans (((cell_far (p:=⟨gb86,_,none⟩) NB84_720.out _).trans (((cell_far (p:=⟨gb86,_,none⟩) NB84_720.out _).trans (((cell_far (p:=⟨gb86,_,none⟩) NB84_720.out _).trans (((cell_far (p:=⟨gb86,_,none⟩) NB84_720.out _).trans (hHeld.2.2.1)))))))))),((cell_far (p:=⟨gb86,_,none⟩) NB84_720.out _).trans (((cell_far (p:=⟨gb86,_,none⟩) NB84_720.out _).trans (((cell_far (p:=⟨gb86,_,none⟩) NB84_720.out _).trans (((cell_far (p:=⟨gb86,_,none⟩) NB84_720.out _).trans (((cell_far (p:=⟨gb86,_,none⟩) NB84_720.out _).trans (hHeld.2.2.2.1)))))))))),((cell_far (p:=⟨gb86,_,none⟩) NB84_720.out _).trans (((cell_far (p:=⟨gb86,_,none⟩) NB84_720.out _).trans (((cell_far (p:=⟨gb86,_,none⟩) NB84_720.out _).trans (((cell_far (p:=⟨gb86,_,none⟩) NB84_720.out _).trans (((cell_far (p:=⟨gb86,_,none⟩) NB84_720.out _).trans (hHeld.2.2.2.2))))))))))⟩ (fun hHeld=>?_)
       clear hK K
       refine done_ (done_of HT_.out zb10) ?_
       try go_wp2
       refine bodyPost_ret (results_cell_row rfl _ _ gb86 26 #[.string a0_0,.string a3,.int .i64 1,.slice Ao78 y89.length co78,.slice Ao77 t752.length co77] (0,0) _ rfl (by (with_reducible repeat (first|refine blk_drewN ?_ _|refine blk_drew ?_|refine blk_alloc ?_ _));refine blk_put (cs:=#[.string a0_0,.string a3,.int .i64 1,.slice Ao78 y89.length co78,.slice none 0 0]) ?_ 4 _ rfl;(with_reducible repeat (first|refine blk_drewN ?_ _|refine blk_drew ?_|refine blk_alloc ?_ _));refine blk_put (cs:=#[.string a0_0,.string a3,.int .i64 1,.slice none 0 0,.slice none 0 0]) ?_ 3 _ rfl;(with_reducible repeat (first|refine blk_drewN ?_ _|refine blk_drew ?_|refine blk_alloc ?_ _));refine blk_put (cs:=#[.string a0_0,.string a3,.int .i64 0,.slice none 0 0,.slice none 0 0]) ?_ 2 _ rfl;(with_reducible repeat (first|refine blk_drewN ?_ _|refine blk_drew ?_|refine blk_alloc ?_ _));refine blk_put (cs:=#[.string a0_0,.string (⟨#[]⟩:ByteArray),.int .i64 0,.slice none 0 0,.slice none 0 0]) ?_ 1 _ rfl;(with_reducible repeat (first|refine blk_drewN ?_ _|refine blk_drew ?_|refine blk_alloc ?_ _));refine blk_put (cs:=#[.string (⟨#[]⟩:ByteArray),.string (⟨#[]⟩:ByteArray),.int .i64 0,.slice none 0 0,.slice none 0 0]) ?_ 0 _ rfl;(with_reducible repeat (first|refine blk_drewN ?_ _|refine blk_drew ?_|refine blk_alloc ?_ _));exact BK86.out) Tryz.underlying26 rfl zb10) rfl ?_
       exact ⟨_,_,zb2,by (with_reducible repeat (first|apply Kd.R_alloc|apply Kd.R_drewN|apply Kd.R_drew));exact Kd.R_mono (Kd.R_far (p:=⟨gb86,4,none⟩) (Kd.R_far (p:=⟨gb86,3,none⟩) (Kd.R_far (p:=⟨gb86,2,none⟩) (Kd.R_far (p:=⟨gb86,1,none⟩) (Kd.R_far (p:=⟨gb86,0,none⟩) (Kd.R_types HO_12.out BK86.out (by decide)) (fun _ hk=>hk.2) (.string a0_0)) (fun _ hk=>hk.2) (.string a3)) (fun _ hk=>hk.2) (.int .i64 1)) (fun _ hk=>hk.2) (.slice Ao78 y89.length co78)) (fun _ hk=>hk.2) (.slice Ao77 t752.length co77)) (fun _ hk=>trivial),by (with_reducible repeat (first|apply Kd.R_alloc|apply Kd.R_drewN|apply Kd.R_drew));exact Kd.R_mono (Kd.R_far (p:=⟨gb86,4,none⟩) (Kd.R_far (p:=⟨gb86,3,none⟩) (Kd.R_far (p:=⟨gb86,2,none⟩) (Kd.R_far (p:=⟨gb86,1,none⟩) (Kd.R_far (p:=⟨gb86,0,none⟩) (Kd.R_types HO754.out BK86.out (by decide)) (fun _ hk=>hk.2) (.string a0_0)) (fun _ hk=>hk.2) (.string a3)) (fun _ hk=>hk.2) (.int .i64 1)) (fun _ hk=>hk.2) (.slice Ao78 y89.length co78)) (fun _ hk=>hk.2) (.slice Ao77 t752.length co77)) (fun _ hk=>trivial),zb6⟩
      subst c56
      rw [if_pos rfl] at H
      replace H:=Option.bind_eq_some_iff.mp H
      obtain ⟨⟨t744,t745⟩,A570,H⟩:=H
      try dsimp only at H
      have A57:=Aside0.mk A570
      clear A570
      by_cases c58:y89.length < 4398046511104
      ·rw [if_pos c58] at H
       have LMc58:=Aside0.mk c58
       clear c58
       obtain ⟨y96,hy96⟩ : ∃ y_:List (S36),y_=(y89 ++ [(⟨t744,t745⟩:S36)]):=⟨_,rfl⟩
       replace H:((bytes_Clone.f l0_4).bind fun t97=>(some (a0_0,a3,1,y96,t97)))=some (r1,r2,r3,r4,r5):=by first|(rw [hy96];with_reducible exact H)|(have H2_:=(Option.bind_some _ _).symm.trans H;rw [hy96];with_reducible exact H2_)|(have H2_:=(Option.bind_some _ _).symm.trans H;with_reducible exact H2_)|with_reducible exact H|(rw [hy96];exact H)|exact H
       have Ny96:=Aside0.mk hy96
       clear hy96
       replace H:=Option.bind_eq_some_iff.mp H
       obtain ⟨t97,A590,H⟩:=H
       try dsimp only at H
       have A59:=Aside0.mk A590
       clear A590
       simp only [Option.some.injEq,Prod.mk.injEq] at H
       obtain ⟨rfl,rfl,rfl,rfl,rfl⟩:=H
       have hnb60:=NB84_719.out
       have hnc60:=NB87_718.out
       have hnb61:=NB84_720.out
       have hnc61:=NB86_718.out
       obtain ⟨hcz62_0,hcz62_1,hcz62_2,hcz62_3,hcz62_4,hfz62_0,hfz62_1,hfz62_2,hfz62_3,hfz62_4⟩:=zq5 BK84.out
       try go_wp2_with (first|((with_reducible refine gate_callee (f:=61) rfl ?_);refine goesL_ (some 60) rfl rfl Tryz.func61 zb10 rfl #[.int .i64 (l0_4.length:Int)] rfl zb1 ?_;(with_reducible refine (scrub_length.calls (l0_4.length:Int) t744 t745 _ A57.out ?hT).mono ?_);(case hT=>exact HTB.out.below zb32);rintro e w63 ⟨rfl,hb⟩;(try clear A57);refine ⟨_,rfl,?_⟩;replace HO_12:=Aside0.mk (Kd.R_below zb36 hb);replace BK84:=Aside0.mk (blk_below (g:=gb84) (o:=.cells #[.string a0_0,.string a0_1,.int .i64 a0_2,.slice A0_3 l0_3.length c0_3,.slice A0_4 l0_4.length c0_4] 26 (0,0)) zb11 hb);replace BK87:=Aside0.mk (blk_below (g:=gb87) (o:=.cells #[.slice A1_0 l1_0.length c1_0,.slice A1_1 l1_1.length c1_1,.slice A1_2 l1_2.length c1_2,.slice A1_3 l1_3.length c1_3,.int .i64 a1_4,.int .i64 a1_5,.int .i64 a1_6,.int .i64 a1_7] 46 (0,0)) zb7 hb);replace BK86:=Aside0.mk (blk_below (g:=gb86) (o:=.cells #[.string (⟨#[]⟩:ByteArray),.string (⟨#[]⟩:ByteArray),.int .i64 0,.slice none 0 0,.slice none 0 0] 26 (0,0)) zb9 hb);replace HB:=Aside0.mk (below_step zb6 hb);(try clear hb))|((with_reducible refine gate_builtin (b:=.append) (xs:=#[.tmp 56,.tmp 61]) rfl ?_);at_builtin;refine Kd.R_append k36 (w0:=w) w.heap.size rfl (.tmp 56) (.tmp 61) 24 36 (.agg #[(.string ⟨#[]⟩),(.string ⟨#[]⟩)]) 32 rfl Tryz.underlying24 info36 rfl zb27 zb18 v742 y89 (⟨t744,t745⟩:S36) [.string t744,.string t745] (fun _=>True) (fun _=>False) rfl rfl ?aP (fun _ hk=>hk.elim) ?aF ?aO ?aB ?aS ?aL ?_;(case aP=>exact k36_mkM _ _ _ (⟨t744,t745⟩:S36));(case aB=>exact zb52);(case aF=>exact (fun _ _=>trivial));(case aO=>exact zb36);(case aS=>exact zb47);(case aL=>have:=LMc58.out;omega);intro v747 w64 ho hb hg hat;rw [← Ny96.out] at ho;replace BK84:=Aside0.mk (blk_grown (g:=gb84) (o:=.cells #[.string a0_0,.string a0_1,.int .i64 a0_2,.slice A0_3 l0_3.length c0_3,.slice A0_4 l0_4.length c0_4] 26 (0,0)) zb11 hg (Kd.R_ne HO_12.out BK84.out zb27));replace BK87:=Aside0.mk (blk_grown (g:=gb87) (o:=.cells #[.slice A1_0 l1_0.length c1_0,.slice A1_1 l1_1.length c1_1,.slice A1_2 l1_2.length c1_2,.slice A1_3 l1_3.length c1_3,.int .i64 a1_4,.int .i64 a1_5,.int .i64 a1_6,.int .i64 a1_7] 46 (0,0)) zb7 hg (Kd.R_ne HO_12.out BK87.out zb27));replace BK86:=Aside0.mk (blk_grown (g:=gb86) (o:=.cells #[.string (⟨#[]⟩:ByteArray),.string (⟨#[]⟩:ByteArray),.int .i64 0,.slice none 0 0,.slice none 0 0] 26 (0,0)) zb9 hg (Kd.R_ne HO_12.out BK86.out zb27));replace HB:=Aside0.mk (hb);have HO748:=Aside0.mk (ho);clear ho hb hg hat))
       replace HO748:=Aside0.mk (Kd.R_drew HO748.out)
       replace BK84:=Aside0.mk (blk_drew BK84.out)
       replace BK87:=Aside0.mk (blk_drew BK87.out)
       replace BK86:=Aside0.mk (blk_drew BK86.out)
       replace HB:=Aside0.mk (below_drew1 HB.out)
       refine start_ (n:=9) (S:=fun w' => w'.cell? ⟨gb84,0,none⟩=some (.string a0_0)∧w'.cell? ⟨gb84,1,none⟩=some (.string a0_1)∧w'.cell? ⟨gb84,2,none⟩=some (.int .i64 a0_2)∧w'.cell? ⟨gb84,3,none⟩=some (.slice A0_3 l0_3.length c0_3)∧w'.cell? ⟨gb84,4,none⟩=some (.slice A0_4 l0_4.length c0_4)) (ds:=[]) (zl 9 0) zb10 rfl rfl ⟨(blk_cell BK84.out 0).trans rfl,(blk_cell BK84.out 1).trans rfl,(blk_cell BK84.out 2).trans rfl,(blk_cell BK84.out 3).trans rfl,(blk_cell BK84.out 4).trans rfl⟩ (fun hHeld=>?_);refine with_tabW scrub_Request.tab14 scrub_Request.bits14 (fun HT_ HW_=>?_)
       generalize w64.drew=w65 at HO748 BK84 BK87 BK86 HB hHeld ⊢
       refine zpu 0 (N:=some 63) (zl 9 1) HT_.out rfl rfl ?_
       refine zpu 2 (N:=some 65) (zl 9 5) HT_.out rfl rfl ?_
       refine zpu 3 (N:=some 66) (zl 9 13) HT_.out rfl rfl ?_
       refine zpu 4 (N:=some 67) (zl 9 29) HT_.out rfl rfl ?_
       refine take_ (i:=1) (N:=some 64) (v:=?_) (a' := ?_) (zl 9 31) rfl rfl (take_ofW HT_.out HW_.out zb10) (fun _ _ _ h=>h) (Or.inl ⟨zb41,?_⟩) hHeld ?_ ?_
       rotate_left
       ·rintro w' ⟨s0,s1,s2,s3,s4⟩;go_simp;with_reducible rfl
       rotate_left
       ·simp only [Act.put,zqA,zqB,zqC,i64_w,i32_w];rfl
       refine take_ (i:=5) (N:=some 68) (v:=?_) (a' := ?_) (zl 9 63) rfl rfl (take_ofW HT_.out HW_.out zb10) (fun _ _ _ h=>h) (Or.inl ⟨zb41,?_⟩) hHeld ?_ ?_
       rotate_left
       ·rintro w' ⟨s0,s1,s2,s3,s4⟩;go_simp;with_reducible rfl
       rotate_left
       ·simp only [Act.put,zqA,zqB,zqC,i64_w,i32_w];rfl
       refine one_ (i:=6) (N:=some 69) (zl 9 127) rfl rfl (one_of HT_.out zb10) zb27 (fun K hK=>?_)
       refine goes_ Tryz.func62 zb10 rfl #[.slice A0_4 l0_4.length c0_4] zb41 rfl rfl zb1 ?_
       with_reducible refine (bytes_Clone.calls _ _ l0_4 t97 _ ?side1 ?side2 A59.out).mono ?_
       (case side1=>exact zb51)
       (case side2=>exact HC0_4.out)
       rintro e w66 ⟨v750,rfl,ho0,hb⟩
       refine ⟨_,rfl,?_⟩
       have n0_:=Aside0.mk (Kd.R_below (by (with_reducible repeat (first|apply Kd.R_alloc|apply Kd.R_drewN|apply Kd.R_drew));exact HO748.out) hb)
       have n1_:=Aside0.mk (Kd.R_lower ho0 (below_size zb6))
       have n2_:=Aside0.mk (blk_below (g:=gb84) (o:=.cells #[.string a0_0,.string a0_1,.int .i64 a0_2,.slice A0_3 l0_3.length c0_3,.slice A0_4 l0_4.length c0_4] 26 (0,0)) zb11 hb)
       have n3_:=Aside0.mk (blk_below (g:=gb87) (o:=.cells #[.slice A1_0 l1_0.length c1_0,.slice A1_1 l1_1.length c1_1,.slice A1_2 l1_2.length c1_2,.slice A1_3 l1_3.length c1_3,.int .i64 a1_4,.int .i64 a1_5,.int .i64 a1_6,.int .i64 a1_7] 46 (0,0)) zb7 hb)
       have n4_:=Aside0.mk (blk_below (g:=gb86) (o:=.cells #[.string (⟨#[]⟩:ByteArray),.string (⟨#[]⟩:ByteArray),.int .i64 0,.slice none 0 0,.slice none 0 0] 26 (0,0)) zb9 hb)
       have n5_:=Aside0.mk (below_step zb6 hb)
       clear HO748 BK84 BK87 BK86 HB
       have HO748:=n0_
       have HO751:=n1_
       have BK84:=n2_
       have BK87:=n3_
       have BK86:=n4_
       have HB:=n5_
       clear n0_ n1_ n2_ n3_ n4_ n5_
       (try clear hb)
       (try clear hb2)
       (try clear hk)
       (try clear hi)
       (try clear ho0)
       obtain ⟨Ao67,co67,eo67⟩:=Kd.R_slice HO751.out
       (first|subst eo67|(injection eo67 with f1_ f2_ f3_;have f4_:=f1_.symm;have f5_:=f3_.symm;clear f1_ f2_ f3_;subst f4_;subst f5_))
       obtain ⟨Ao68,co68,eo68⟩:=Kd.R_slice HO748.out
       (first|subst eo68|(injection eo68 with f1_ f2_ f3_;have f4_:=f1_.symm;have f5_:=f3_.symm;clear f1_ f2_ f3_;subst f4_;subst f5_))
       refine hK.out _ _ ⟨(blk_cell BK84.out 0).trans rfl,(blk_cell BK84.out 1).trans rfl,(blk_cell BK84.out 2).trans rfl,(blk_cell BK84.out 3).trans rfl,(blk_cell BK84.out 4).trans rfl⟩ (fun hHeld=>?_)
       clear hK K
       refine norm_ (a' := ?_) ?_ ?_
       rotate_left
       ·show Act.put _ (some 69) _=_
        simp only [Act.put,zqA,zqB,zqC,i64_w,i32_w]
        rfl
       refine zpu 7 (N:=some 70) (zl 9 255) HT_.out rfl rfl ?_
       refine one_ (i:=8) (N:=none) (zl 9 511) rfl rfl (one_of HT_.out zb10) zb27 (fun K hK=>?_)
       have hs69:w66.cell? ⟨gb86,0,none⟩=some (.string (⟨#[]⟩:ByteArray)):=(blk_cell BK86.out 0).trans rfl
       have hfs69:=blk_frozen BK86.out 0
       have hns69_0:=NB84_720.out
       have hns69_1:=NB87_720.out
       have hms69_0:=NB86_718.out
       have hms69_1:=NB86_719.out
       have hs70:w66.cell? ⟨gb86,1,none⟩=some (.string (⟨#[]⟩:ByteArray)):=(blk_cell BK86.out 1).trans rfl
       have hfs70:=blk_frozen BK86.out 1
       have hns70_0:=NB84_720.out
       have hns70_1:=NB87_720.out
       have hms70_0:=NB86_718.out
       have hms70_1:=NB86_719.out
       have hs71:w66.cell? ⟨gb86,2,none⟩=some (.int .i64 0):=(blk_cell BK86.out 2).trans rfl
       have hfs71:=blk_frozen BK86.out 2
       have hns71_0:=NB84_720.out
       have hns71_1:=NB87_720.out
       have hms71_0:=NB86_718.out
       have hms71_1:=NB86_719.out
       have hs72:w66.cell? ⟨gb86,3,none⟩=some (.slice none 0 0):=(blk_cell BK86.out 3).trans rfl
       have hfs72:=blk_frozen BK86.out 3
       have hns72_0:=NB84_720.out
       have hns72_1:=NB87_720.out
       have hms72_0:=NB86_718.out
       have hms72_1:=NB86_719.out
       have hs73:w66.cell? ⟨gb86,4,none⟩=some (.slice none 0 0):=(blk_cell BK86.out 4).trans rfl
       have hfs73:=blk_frozen BK86.out 4
       have hns73_0:=NB84_720.out
       have hns73_1:=NB87_720.out
       have hms73_0:=NB86_718.out
       have hms73_1:=NB86_719.out
       refine skip_ (w1:=?_) zb41 rfl ?_ ?_
       rotate_left
       ·go_simp
        rfl
       refine hK.out _ _ ⟨((cell_far (p:=⟨gb86,_,none⟩) NB84_720.out _).trans (((cell_far (p:=⟨gb86,_,none⟩) NB84_720.out _).trans (((cell_far (p:=⟨gb86,_,none⟩) NB84_720.out _).trans (((cell_far (p:=⟨gb86,_,none⟩) NB84_720.out _).trans (((cell_far (p:=⟨gb86,_,none⟩) NB84_720.out _).trans (hHeld.1)))))))))),((cell_far (p:=⟨gb86,_,none⟩) NB84_720.out _).trans (((cell_far (p:=⟨gb86,_,none⟩) NB84_720.out _).trans (((cell_far (p:=⟨gb86,_,none⟩) NB84_720.out _).trans (((cell_far (p:=⟨gb86,_,none⟩) NB84_720.out _).trans (((cell_far (p:=⟨gb86,_,none⟩) NB84_720.out _).trans (hHeld.2.1)))))))))),((cell_far (p:=⟨gb86,_,none⟩) NB84_720.out _).trans (((cell_far (p:=⟨gb86,_,none⟩) NB84_720.out _).trans (((cell_far (p:=⟨gb86,_,none⟩) NB84_720.out _).trans (((cell_far (p:=⟨gb86,_,none⟩) NB84_720.out _).trans (((cell_far (p:=⟨gb86,_,none⟩) NB84_720.out _).trans (hHeld.2.2.1)))))))))),((cell_far (p:=⟨gb86,_,none⟩) NB84_720.out _).trans (((cell_far (p:=⟨gb86,_,none⟩) NB84_720.out _).trans (((cell_far (p:=⟨gb86,_,none⟩) NB84_720.out _).trans (((cell_far (p:=⟨gb86,_,none⟩) NB84_720.out _).trans (((cell_far (p:=⟨gb86,_,none⟩) NB84_720.out _).trans (hHeld.2.2.2.1)))))))))),((cell_far (p:=⟨gb86,_,none⟩) NB84_720.out _).trans (((cell_far (p:=⟨gb86,_,none⟩) NB84_720.out _).trans (((cell_far (p:=⟨gb86,_,none⟩) NB84_720.out _).trans (((cell_far (p:=⟨gb86,_,none⟩) NB84_720.out _).trans (((cell_far (p:=⟨gb86,_,none⟩) NB84_720.out _).trans (hHeld.2.2.2.2))))))))))⟩ (fun hHeld=>?_)
       clear hK K
       refine done_ (done_of HT_.out zb10) ?_
       try go_wp2
       refine bodyPost_ret (results_cell_row rfl _ _ gb86 26 #[.string a0_0,.string a3,.int .i64 1,.slice Ao68 y96.length co68,.slice Ao67 t97.length co67] (0,0) _ rfl (by (with_reducible repeat (first|refine blk_drewN ?_ _|refine blk_drew ?_|refine blk_alloc ?_ _));refine blk_put (cs:=#[.string a0_0,.string a3,.int .i64 1,.slice Ao68 y96.length co68,.slice none 0 0]) ?_ 4 _ rfl;(with_reducible repeat (first|refine blk_drewN ?_ _|refine blk_drew ?_|refine blk_alloc ?_ _));refine blk_put (cs:=#[.string a0_0,.string a3,.int .i64 1,.slice none 0 0,.slice none 0 0]) ?_ 3 _ rfl;(with_reducible repeat (first|refine blk_drewN ?_ _|refine blk_drew ?_|refine blk_alloc ?_ _));refine blk_put (cs:=#[.string a0_0,.string a3,.int .i64 0,.slice none 0 0,.slice none 0 0]) ?_ 2 _ rfl;(with_reducible repeat (first|refine blk_drewN ?_ _|refine blk_drew ?_|refine blk_alloc ?_ _));refine blk_put (cs:=#[.string a0_0,.string (⟨#[]⟩:ByteArray),.int .i64 0,.slice none 0 0,.slice none 0 0]) ?_ 1 _ rfl;(with_reducible repeat (first|refine blk_drewN ?_ _|refine blk_drew ?_|refine blk_alloc ?_ _));refine blk_put (cs:=#[.string (⟨#[]⟩:ByteArray),.string (⟨#[]⟩:ByteArray),.int .i64 0,.slice none 0 0,.slice none 0 0]) ?_ 0 _ rfl;(with_reducible repeat (first|refine blk_drewN ?_ _|refine blk_drew ?_|refine blk_alloc ?_ _));exact BK86.out) Tryz.underlying26 rfl zb10) rfl ?_
       exact ⟨_,_,zb2,by (with_reducible repeat (first|apply Kd.R_alloc|apply Kd.R_drewN|apply Kd.R_drew));exact Kd.R_mono (Kd.R_far (p:=⟨gb86,4,none⟩) (Kd.R_far (p:=⟨gb86,3,none⟩) (Kd.R_far (p:=⟨gb86,2,none⟩) (Kd.R_far (p:=⟨gb86,1,none⟩) (Kd.R_far (p:=⟨gb86,0,none⟩) (Kd.R_types HO748.out BK86.out (by decide)) (fun _ hk=>hk.2) (.string a0_0)) (fun _ hk=>hk.2) (.string a3)) (fun _ hk=>hk.2) (.int .i64 1)) (fun _ hk=>hk.2) (.slice Ao68 y96.length co68)) (fun _ hk=>hk.2) (.slice Ao67 t97.length co67)) (fun _ hk=>trivial),by (with_reducible repeat (first|apply Kd.R_alloc|apply Kd.R_drewN|apply Kd.R_drew));exact Kd.R_mono (Kd.R_far (p:=⟨gb86,4,none⟩) (Kd.R_far (p:=⟨gb86,3,none⟩) (Kd.R_far (p:=⟨gb86,2,none⟩) (Kd.R_far (p:=⟨gb86,1,none⟩) (Kd.R_far (p:=⟨gb86,0,none⟩) (Kd.R_types HO751.out BK86.out (by decide)) (fun _ hk=>hk.2) (.string a0_0)) (fun _ hk=>hk.2) (.string a3)) (fun _ hk=>hk.2) (.int .i64 1)) (fun _ hk=>hk.2) (.slice Ao68 y96.length co68)) (fun _ hk=>hk.2) (.slice Ao67 t97.length co67)) (fun _ hk=>trivial),zb6⟩
      ·rw [if_neg c58] at H
       exact absurd H zb33
   ·rw [if_neg c27] at H
    exact absurd H zb33
def line_Reason.f (a0:Int):Option (ByteArray):=if a0=200 then (some (⟨#[79,75]⟩:ByteArray)) else (if a0=204 then (some (⟨#[78,111,32,67,111,110,116,101,110,116]⟩:ByteArray)) else (if a0=400 then (some (⟨#[66,97,100,32,82,101,113,117,101,115,116]⟩:ByteArray)) else (if a0=404 then (some (⟨#[78,111,116,32,70,111,117,110,100]⟩:ByteArray)) else (if a0=413 then (some (⟨#[67,111,110,116,101,110,116,32,84,111,111,32,76,97,114,103,101]⟩:ByteArray)) else (if a0=414 then (some (⟨#[85,82,73,32,84,111,111,32,76,111,110,103]⟩:ByteArray)) else (if a0=421 then (some (⟨#[77,105,115,100,105,114,101,99,116,101,100,32,82,101,113,117,101,115,116]⟩:ByteArray)) else (if a0=429 then (some (⟨#[84,111,111,32,77,97,110,121,32,82,101,113,117,101,115,116,115]⟩:ByteArray)) else (if a0=431 then (some (⟨#[82,101,113,117,101,115,116,32,72,101,97,100,101,114,32,70,105,101,108,100,115,32,84,111,111,32,76,97,114,103,101]⟩:ByteArray)) else (if a0=501 then (some (⟨#[78,111,116,32,73,109,112,108,101,109,101,110,116,101,100]⟩:ByteArray)) else (if a0=502 then (some (⟨#[66,97,100,32,71,97,116,101,119,97,121]⟩:ByteArray)) else (if a0=503 then (some (⟨#[83,101,114,118,105,99,101,32,85,110,97,118,97,105,108,97,98,108,101]⟩:ByteArray)) else (if a0=504 then (some (⟨#[71,97,116,101,119,97,121,32,84,105,109,101,111,117,116]⟩:ByteArray)) else (if a0=505 then (some (⟨#[72,84,84,80,32,86,101,114,115,105,111,110,32,78,111,116,32,83,117,112,112,111,114,116,101,100]⟩:ByteArray)) else (some (⟨#[83,116,97,116,117,115]⟩:ByteArray)))))))))))))))
set_option maxHeartbeats 8000000 in
set_option maxRecDepth 100000 in
theorem line_Reason.calls (a0:Int) (r:ByteArray) (w:World) (h:line_Reason.f a0=some r) :
 Calls Tryz.prog 74 #[.int .i64 a0] w fun e w' => e = .returned (.string r)∧Drawn0 w w' := by
 unfold line_Reason.f at h
 have H:=h
 clear h
 by_cases c2:a0=200
 ·rw [if_pos c2] at H
  have c2b0:=beq_iff_eq.mpr c2
  have c2b1:=bne_eq_false_iff_eq.mpr c2
  clear c2
  obtain rfl:=Option.some.inj H
  go_enter Tryz.func74,Tryz.ntmps74
  go_wp2
  go_ret
  exact ⟨zb4,zb8⟩
 rw [if_neg c2] at H
 have c2b0:=beq_eq_false_iff_ne.mpr c2
 have c2b1:=bne_iff_ne.mpr c2
 by_cases c3:a0=204
 ·rw [if_pos c3] at H
  have c3b0:=beq_iff_eq.mpr c3
  have c3b1:=bne_eq_false_iff_eq.mpr c3
  clear c3
  obtain rfl:=Option.some.inj H
  go_enter Tryz.func74,Tryz.ntmps74
  go_wp2
  go_ret
  exact ⟨zb4,zb8⟩
 rw [if_neg c3] at H
 have c3b0:=beq_eq_false_iff_ne.mpr c3
 have c3b1:=bne_iff_ne.mpr c3
 by_cases c4:a0=400
 ·rw [if_pos c4] at H
  have c4b0:=beq_iff_eq.mpr c4
  have c4b1:=bne_eq_false_iff_eq.mpr c4
  clear c4
  obtain rfl:=Option.some.inj H
  go_enter Tryz.func74,Tryz.ntmps74
  go_wp2
  go_ret
  exact ⟨zb4,zb8⟩
 rw [if_neg c4] at H
 have c4b0:=beq_eq_false_iff_ne.mpr c4
 have c4b1:=bne_iff_ne.mpr c4
 by_cases c5:a0=404
 ·rw [if_pos c5] at H
  have c5b0:=beq_iff_eq.mpr c5
  have c5b1:=bne_eq_false_iff_eq.mpr c5
  clear c5
  obtain rfl:=Option.some.inj H
  go_enter Tryz.func74,Tryz.ntmps74
  go_wp2
  go_ret
  exact ⟨zb4,zb8⟩
 rw [if_neg c5] at H
 have c5b0:=beq_eq_false_iff_ne.mpr c5
 have c5b1:=bne_iff_ne.mpr c5
 by_cases c6:a0=413
 ·rw [if_pos c6] at H
  have c6b0:=beq_iff_eq.mpr c6
  have c6b1:=bne_eq_false_iff_eq.mpr c6
  clear c6
  obtain rfl:=Option.some.inj H
  go_enter Tryz.func74,Tryz.ntmps74
  go_wp2
  go_ret
  exact ⟨zb4,zb8⟩
 rw [if_neg c6] at H
 have c6b0:=beq_eq_false_iff_ne.mpr c6
 have c6b1:=bne_iff_ne.mpr c6
 by_cases c7:a0=414
 ·rw [if_pos c7] at H
  have c7b0:=beq_iff_eq.mpr c7
  have c7b1:=bne_eq_false_iff_eq.mpr c7
  clear c7
  obtain rfl:=Option.some.inj H
  go_enter Tryz.func74,Tryz.ntmps74
  go_wp2
  go_ret
  exact ⟨zb4,zb8⟩
 rw [if_neg c7] at H
 have c7b0:=beq_eq_false_iff_ne.mpr c7
 have c7b1:=bne_iff_ne.mpr c7
 by_cases c8:a0=421
 ·rw [if_pos c8] at H
  have c8b0:=beq_iff_eq.mpr c8
  have c8b1:=bne_eq_false_iff_eq.mpr c8
  clear c8
  obtain rfl:=Option.some.inj H
  go_enter Tryz.func74,Tryz.ntmps74
  go_wp2
  go_ret
  exact ⟨zb4,zb8⟩
 rw [if_neg c8] at H
 have c8b0:=beq_eq_false_iff_ne.mpr c8
 have c8b1:=bne_iff_ne.mpr c8
 by_cases c9:a0=429
 ·rw [if_pos c9] at H
  have c9b0:=beq_iff_eq.mpr c9
  have c9b1:=bne_eq_false_iff_eq.mpr c9
  clear c9
  obtain rfl:=Option.some.inj H
  go_enter Tryz.func74,Tryz.ntmps74
  go_wp2
  go_ret
  exact ⟨zb4,zb8⟩
 rw [if_neg c9] at H
 have c9b0:=beq_eq_false_iff_ne.mpr c9
 have c9b1:=bne_iff_ne.mpr c9
 by_cases c10:a0=431
 ·rw [if_pos c10] at H
  have c10b0:=beq_iff_eq.mpr c10
  have c10b1:=bne_eq_false_iff_eq.mpr c10
  clear c10
  obtain rfl:=Option.some.inj H
  go_enter Tryz.func74,Tryz.ntmps74
  go_wp2
  go_ret
  exact ⟨zb4,zb8⟩
 rw [if_neg c10] at H
 have c10b0:=beq_eq_false_iff_ne.mpr c10
 have c10b1:=bne_iff_ne.mpr c10
 by_cases c11:a0=501
 ·rw [if_pos c11] at H
  have c11b0:=beq_iff_eq.mpr c11
  have c11b1:=bne_eq_false_iff_eq.mpr c11
  clear c11
  obtain rfl:=Option.some.inj H
  go_enter Tryz.func74,Tryz.ntmps74
  go_wp2
  go_ret
  exact ⟨zb4,zb8⟩
 rw [if_neg c11] at H
 have c11b0:=beq_eq_false_iff_ne.mpr c11
 have c11b1:=bne_iff_ne.mpr c11
 by_cases c12:a0=502
 ·rw [if_pos c12] at H
  have c12b0:=beq_iff_eq.mpr c12
  have c12b1:=bne_eq_false_iff_eq.mpr c12
  clear c12
  obtain rfl:=Option.some.inj H
  go_enter Tryz.func74,Tryz.ntmps74
  go_wp2
  go_ret
  exact ⟨zb4,zb8⟩
 rw [if_neg c12] at H
 have c12b0:=beq_eq_false_iff_ne.mpr c12
 have c12b1:=bne_iff_ne.mpr c12
 by_cases c13:a0=503
 ·rw [if_pos c13] at H
  have c13b0:=beq_iff_eq.mpr c13
  have c13b1:=bne_eq_false_iff_eq.mpr c13
  clear c13
  obtain rfl:=Option.some.inj H
  go_enter Tryz.func74,Tryz.ntmps74
  go_wp2
  go_ret
  exact ⟨zb4,zb8⟩
 rw [if_neg c13] at H
 have c13b0:=beq_eq_false_iff_ne.mpr c13
 have c13b1:=bne_iff_ne.mpr c13
 by_cases c14:a0=504
 ·rw [if_pos c14] at H
  have c14b0:=beq_iff_eq.mpr c14
  have c14b1:=bne_eq_false_iff_eq.mpr c14
  clear c14
  obtain rfl:=Option.some.inj H
  go_enter Tryz.func74,Tryz.ntmps74
  go_wp2
  go_ret
  exact ⟨zb4,zb8⟩
 rw [if_neg c14] at H
 have c14b0:=beq_eq_false_iff_ne.mpr c14
 have c14b1:=bne_iff_ne.mpr c14
 by_cases c15:a0=505;rotate_left
 ·rw [if_neg c15] at H
  have c15b0:=beq_eq_false_iff_ne.mpr c15
  have c15b1:=bne_iff_ne.mpr c15
  obtain rfl:=Option.some.inj H
  go_enter Tryz.func74,Tryz.ntmps74
  go_wp2
  go_ret
  exact ⟨zb4,zb8⟩
 rw [if_pos c15] at H
 have c15b0:=beq_iff_eq.mpr c15
 have c15b1:=bne_eq_false_iff_eq.mpr c15
 clear c15
 obtain rfl:=Option.some.inj H
 go_enter Tryz.func74,Tryz.ntmps74
 go_wp2
 go_ret
 exact ⟨zb4,zb8⟩
def scrub_closing.f  : Option (ByteArray × ByteArray):=some ((⟨#[67,111,110,110,101,99,116,105,111,110]⟩:ByteArray),(⟨#[99,108,111,115,101]⟩:ByteArray))
set_option maxHeartbeats 8000000 in
set_option maxRecDepth 100000 in
theorem scrub_closing.calls  (r1:ByteArray) (r2:ByteArray) (w:World) (h:scrub_closing.f  = some (r1,r2)) :
 Calls Tryz.prog 72 #[] w fun e w' => e = .returned (.agg #[.string r1,.string r2])∧Below w.heap.size w w' := by
 have hu36:=Tryz.underlying36
 have HB:=Aside0.mk (Below.refl w.heap.size w)
 unfold scrub_closing.f at h
 have H:=h
 clear h
 simp only [Option.some.injEq,Prod.mk.injEq] at H
 obtain ⟨rfl,rfl⟩:=H
 go_enter Tryz.func72,Tryz.ntmps72
 go_wp2_with (first|((with_reducible refine gate_dst (N:=0) rfl ?_);refine box_event rfl (N:=0) rfl (cs:=#[.string (⟨#[]⟩:ByteArray),.string (⟨#[]⟩:ByteArray)]) (t:=36) zS ?_;intro gb760 hg w1 hbox hb;have GW760:=zG hg zb0;have GE760:=GW760;have BK760:=Aside0.mk hbox;replace HB:=Aside0.mk (below_step zb0 hb);clear hb hbox hg;obtain ⟨hcz2_0,hcz2_1,hfz2_0,hfz2_1⟩:=zq2 BK760.out))
 refine bodyPost_ret (results_cell_row rfl _ _ gb760 36 #[.string (⟨#[67,111,110,110,101,99,116,105,111,110]⟩:ByteArray),.string (⟨#[99,108,111,115,101]⟩:ByteArray)] (0,0) _ rfl (by (with_reducible repeat (first|refine blk_drewN ?_ _|refine blk_drew ?_|refine blk_alloc ?_ _));refine blk_put (cs:=#[.string (⟨#[67,111,110,110,101,99,116,105,111,110]⟩:ByteArray),.string (⟨#[]⟩:ByteArray)]) ?_ 1 _ rfl;(with_reducible repeat (first|refine blk_drewN ?_ _|refine blk_drew ?_|refine blk_alloc ?_ _));refine blk_put (cs:=#[.string (⟨#[]⟩:ByteArray),.string (⟨#[]⟩:ByteArray)]) ?_ 0 _ rfl;(with_reducible repeat (first|refine blk_drewN ?_ _|refine blk_drew ?_|refine blk_alloc ?_ _));exact BK760.out) Tryz.underlying36 rfl zb10) rfl ?_
 exact ⟨zb2,by repeat (first|(with_reducible first|exact HB.out|apply below_alloc|apply pw_below_drewN|apply below_drew1|refine below_set ?_ GE760.out)|exact HB.out)⟩
def scrub_Own.f (a0:Int) (a1:Bool):Option (Int × ByteArray × Int × (List (S36)) × List Int):=(scrub_length.f 0).bind fun bt789=>((some (([(⟨bt789.1,bt789.2⟩:S36)]:List (S36)):List (S36))).bind fun y791=>(if a1=true then ((scrub_closing.f).bind fun bt794=>(if y791.length < 4398046511104 then ((line_Reason.f a0).bind fun t799=>(some (a0,t799,1,(y791 ++ [(⟨bt794.1,bt794.2⟩:S36)]),([]:List Int)))) else (none))) else ((line_Reason.f a0).bind fun t800=>(some (a0,t800,1,y791,([]:List Int))))))
set_option maxHeartbeats 8000000 in
set_option maxRecDepth 100000 in
theorem scrub_Own.calls (a0:Int) (a1:Bool) (r1:Int) (r2:ByteArray) (r3:Int) (r4:List (S36)) (r5:List Int) (w:World) (h:scrub_Own.f a0 a1=some (r1,r2,r3,r4,r5)) (ht:Tabs w) :
 Calls Tryz.prog 42 #[.int .i64 a0,.bool a1] w fun e w' => ∃ v3_ v4_:Value,e = .returned (.agg #[.int .i64 r1,.string r2,.int .i64 r3,v3_,v4_])∧Kd.R k36 36 w' w.heap.size (fun _=>True) v3_ r4∧Kd.R (Kd.int .u8) 5 w' w.heap.size (fun _=>True) v4_ r5∧Below w.heap.size w w' := by
 have HTB:=Aside0.mk ht
 clear ht
 have hu62:=Tryz.underlying62
 have HB:=Aside0.mk (Below.refl w.heap.size w)
 unfold scrub_Own.f at h
 have H:=h
 clear h
 replace H:=Option.bind_eq_some_iff.mp H
 obtain ⟨⟨t28,t31⟩,A30,H⟩:=H
 try dsimp only at H
 have A3:=Aside0.mk A30
 clear A30
 obtain ⟨y25,hy25⟩ : ∃ y_:List (S36),y_=(([(⟨t28,t31⟩:S36)]:List (S36))):=⟨_,rfl⟩
 replace H:(if a1=true then ((scrub_closing.f).bind fun bt27=>(if y25.length < 4398046511104 then ((line_Reason.f a0).bind fun t26=>(some (a0,t26,1,(y25 ++ [(⟨bt27.1,bt27.2⟩:S36)]),([]:List Int)))) else (none))) else ((line_Reason.f a0).bind fun t29=>(some (a0,t29,1,y25,([]:List Int)))))=some (r1,r2,r3,r4,r5):=by first|(rw [hy25];with_reducible exact H)|(have H2_:=(Option.bind_some _ _).symm.trans H;rw [hy25];with_reducible exact H2_)|(have H2_:=(Option.bind_some _ _).symm.trans H;with_reducible exact H2_)|with_reducible exact H|(rw [hy25];exact H)|exact H
 have Ny25:=Aside0.mk hy25
 clear hy25
 by_cases c4:a1=true;rotate_left
 ·replace c4:=Bool.eq_false_iff.mpr c4
  subst c4
  rw [if_neg (show ¬ (false=true) by decide)] at H
  replace H:=Option.bind_eq_some_iff.mp H
  obtain ⟨t29,A38,H⟩:=H
  try dsimp only at H
  have A16:=Aside0.mk A38
  clear A38
  simp only [Option.some.injEq,Prod.mk.injEq] at H
  obtain ⟨rfl,rfl,rfl,rfl,rfl⟩:=H
  go_enter Tryz.func42,Tryz.ntmps42
  go_wp2_with (first|((with_reducible refine gate_dst (N:=4) rfl ?_);refine box_event rfl (N:=4) rfl (cs:=#[.int .i64 0,.string (⟨#[]⟩:ByteArray),.int .i64 0,.slice none 0 0,.slice none 0 0]) (t:=62) zS ?_;intro gb23 hg w17 hbox hb;have GW23:=zG hg zb0;have GE23:=GW23;have BK23:=Aside0.mk hbox;replace HB:=Aside0.mk (below_step zb0 hb);clear hb hbox hg)|((with_reducible refine gate_callee (f:=61) rfl ?_);refine goesL_ (some 6) rfl rfl Tryz.func61 zb10 rfl #[.int .i64 0] rfl zb1 ?_;(with_reducible refine (scrub_length.calls 0 t28 t31 _ A3.out ?hT).mono ?_);(case hT=>exact HTB.out.below zb14);rintro e w18 ⟨rfl,hb⟩;(try clear A3);refine ⟨_,rfl,?_⟩;replace BK23:=Aside0.mk (blk_below (g:=gb23) (o:=.cells #[.int .i64 0,.string (⟨#[]⟩:ByteArray),.int .i64 0,.slice none 0 0,.slice none 0 0] 62 (0,0)) zb45 hb);replace HB:=Aside0.mk (below_step zb14 hb);(try clear hb))|((with_reducible refine gate_dst (N:=7) rfl ?_);refine Kd.R_lit k36 _ 36 ?hg (N:=7) ?hd (xs:=([(⟨t28,t31⟩:S36)]:List (S36))) (inner:=[.string t28,.string t31]) (ok:=fun _=>True) (okp:=fun _=>True) ?hr ?hp (fun _ hk=>hk) trivial (Below.refl _ _) (Nat.le_refl _) zb33 ?_;(case hd=>rfl);(case hg=>rfl);(case hr=>first|(go_simp;done)|(go_simp;rfl));(case hp=>exact (Reps.c2 (show Kd.M k36 _ _ _ (⟨t28,t31⟩:S36) [.string t28,.string t31] from (k36_mkM _ _ _ (⟨t28,t31⟩:S36) )) (Reps.none _ _)));intro v37 w19 ho20 hb hg_ hnew_;clear hg_ hnew_;(first|rw [← Ny25.out] at ho20|(simp only [Int.reduceToNat] at ho20;rw [← Ny25.out] at ho20));have HO33:=Aside0.mk (Kd.R_lower ho20 (below_size zb14));replace BK23:=Aside0.mk (blk_below (g:=gb23) (o:=.cells #[.int .i64 0,.string (⟨#[]⟩:ByteArray),.int .i64 0,.slice none 0 0,.slice none 0 0] 62 (0,0)) zb45 hb);replace HB:=Aside0.mk (below_step zb14 hb);clear hb ho20)|((with_reducible refine gate_callee (f:=74) rfl ?_);refine goesL_ (some 15) rfl rfl Tryz.func74 zb10 rfl #[.int .i64 a0] rfl zb1 ?_;(with_reducible refine (line_Reason.calls a0 t29 _ A16.out).mono ?_);rintro e w' ⟨rfl,⟨nd,rfl⟩⟩;(try clear A16);refine ⟨_,rfl,?_⟩;(try (rw [drewN_self w19];generalize hq_:World.drewN w19 _=w19;have n0_:Aside0 (Kd.R k36 36 w19 w.heap.size (fun _=>True) v37 y25):=⟨by rw [← hq_];exact (by (with_reducible repeat (first|apply Kd.R_alloc|apply Kd.R_drewN|apply Kd.R_drew));exact HO33.out)⟩;have n1_:Aside0 (w19.heap[gb23]? = some (.cells #[.int .i64 0,.string (⟨#[]⟩:ByteArray),.int .i64 0,.slice none 0 0,.slice none 0 0] 62 (0,0))):=⟨zb86⟩;have n2_:Aside0 (Below w.heap.size w w19):=⟨zb72⟩;clear HO33 BK23 HB hq_;have HO33:=n0_;have BK23:=n1_;have HB:=n2_;clear n0_ n1_ n2_));obtain ⟨Ao21,co21,eo21⟩:=Kd.R_slice HO33.out;subst eo21;obtain ⟨hcz22_0,hcz22_1,hcz22_2,hcz22_3,hcz22_4,hfz22_0,hfz22_1,hfz22_2,hfz22_3,hfz22_4⟩:=zq5 BK23.out))
  refine bodyPost_ret (results_cell_row rfl _ _ gb23 62 #[.int .i64 a0,.string t29,.int .i64 1,.slice Ao21 y25.length co21,.slice none 0 0] (0,0) _ rfl (by (with_reducible repeat (first|refine blk_drewN ?_ _|refine blk_drew ?_|refine blk_alloc ?_ _));refine blk_put (cs:=#[.int .i64 a0,.string t29,.int .i64 1,.slice Ao21 y25.length co21,.slice none 0 0]) ?_ 4 _ rfl;(with_reducible repeat (first|refine blk_drewN ?_ _|refine blk_drew ?_|refine blk_alloc ?_ _));refine blk_put (cs:=#[.int .i64 a0,.string t29,.int .i64 1,.slice none 0 0,.slice none 0 0]) ?_ 3 _ rfl;(with_reducible repeat (first|refine blk_drewN ?_ _|refine blk_drew ?_|refine blk_alloc ?_ _));refine blk_put (cs:=#[.int .i64 a0,.string t29,.int .i64 0,.slice none 0 0,.slice none 0 0]) ?_ 2 _ rfl;(with_reducible repeat (first|refine blk_drewN ?_ _|refine blk_drew ?_|refine blk_alloc ?_ _));refine blk_put (cs:=#[.int .i64 a0,.string (⟨#[]⟩:ByteArray),.int .i64 0,.slice none 0 0,.slice none 0 0]) ?_ 1 _ rfl;(with_reducible repeat (first|refine blk_drewN ?_ _|refine blk_drew ?_|refine blk_alloc ?_ _));refine blk_put (cs:=#[.int .i64 0,.string (⟨#[]⟩:ByteArray),.int .i64 0,.slice none 0 0,.slice none 0 0]) ?_ 0 _ rfl;(with_reducible repeat (first|refine blk_drewN ?_ _|refine blk_drew ?_|refine blk_alloc ?_ _));exact BK23.out) Tryz.underlying62 rfl zb10) rfl ?_
  exact ⟨_,_,zb2,by (with_reducible repeat (first|apply Kd.R_alloc|apply Kd.R_drewN|apply Kd.R_drew));exact Kd.R_mono (Kd.R_far (p:=⟨gb23,4,none⟩) (Kd.R_far (p:=⟨gb23,3,none⟩) (Kd.R_far (p:=⟨gb23,2,none⟩) (Kd.R_far (p:=⟨gb23,1,none⟩) (Kd.R_far (p:=⟨gb23,0,none⟩) (Kd.R_types HO33.out BK23.out (by decide)) (fun _ hk=>hk.2) (.int .i64 a0)) (fun _ hk=>hk.2) (.string t29)) (fun _ hk=>hk.2) (.int .i64 1)) (fun _ hk=>hk.2) (.slice Ao21 y25.length co21)) (fun _ hk=>hk.2) (.slice none 0 0)) (fun _ hk=>trivial),zb23,zb14⟩
 subst c4
 rw [if_pos rfl] at H
 replace H:=Option.bind_eq_some_iff.mp H
 obtain ⟨⟨t27,t34⟩,A50,H⟩:=H
 try dsimp only at H
 have A5:=Aside0.mk A50
 clear A50
 by_cases c6:y25.length < 4398046511104
 ·rw [if_pos c6] at H
  have LMc6:=Aside0.mk c6
  clear c6
  obtain ⟨y32,hy32⟩ : ∃ y_:List (S36),y_=(y25 ++ [(⟨t27,t34⟩:S36)]):=⟨_,rfl⟩
  replace H:((line_Reason.f a0).bind fun t26=>(some (a0,t26,1,y32,([]:List Int))))=some (r1,r2,r3,r4,r5):=by first|(rw [hy32];with_reducible exact H)|(have H2_:=(Option.bind_some _ _).symm.trans H;rw [hy32];with_reducible exact H2_)|(have H2_:=(Option.bind_some _ _).symm.trans H;with_reducible exact H2_)|with_reducible exact H|(rw [hy32];exact H)|exact H
  have Ny32:=Aside0.mk hy32
  clear hy32
  replace H:=Option.bind_eq_some_iff.mp H
  obtain ⟨t26,A70,H⟩:=H
  try dsimp only at H
  have A7:=Aside0.mk A70
  clear A70
  simp only [Option.some.injEq,Prod.mk.injEq] at H
  obtain ⟨rfl,rfl,rfl,rfl,rfl⟩:=H
  go_enter Tryz.func42,Tryz.ntmps42
  go_wp2_with (first|((with_reducible refine gate_dst (N:=4) rfl ?_);refine box_event rfl (N:=4) rfl (cs:=#[.int .i64 0,.string (⟨#[]⟩:ByteArray),.int .i64 0,.slice none 0 0,.slice none 0 0]) (t:=62) zS ?_;intro gb23 hg w8 hbox hb;have GW23:=zG hg zb0;have GE23:=GW23;have BK23:=Aside0.mk hbox;replace HB:=Aside0.mk (below_step zb0 hb);clear hb hbox hg)|((with_reducible refine gate_callee (f:=61) rfl ?_);refine goesL_ (some 6) rfl rfl Tryz.func61 zb10 rfl #[.int .i64 0] rfl zb1 ?_;(with_reducible refine (scrub_length.calls 0 t28 t31 _ A3.out ?hT).mono ?_);(case hT=>exact HTB.out.below zb14);rintro e w9 ⟨rfl,hb⟩;(try clear A3);refine ⟨_,rfl,?_⟩;replace BK23:=Aside0.mk (blk_below (g:=gb23) (o:=.cells #[.int .i64 0,.string (⟨#[]⟩:ByteArray),.int .i64 0,.slice none 0 0,.slice none 0 0] 62 (0,0)) zb45 hb);replace HB:=Aside0.mk (below_step zb14 hb);(try clear hb))|((with_reducible refine gate_dst (N:=7) rfl ?_);refine Kd.R_lit k36 _ 36 ?hg (N:=7) ?hd (xs:=([(⟨t28,t31⟩:S36)]:List (S36))) (inner:=[.string t28,.string t31]) (ok:=fun _=>True) (okp:=fun _=>True) ?hr ?hp (fun _ hk=>hk) trivial (Below.refl _ _) (Nat.le_refl _) zb33 ?_;(case hd=>rfl);(case hg=>rfl);(case hr=>first|(go_simp;done)|(go_simp;rfl));(case hp=>exact (Reps.c2 (show Kd.M k36 _ _ _ (⟨t28,t31⟩:S36) [.string t28,.string t31] from (k36_mkM _ _ _ (⟨t28,t31⟩:S36) )) (Reps.none _ _)));intro v37 w10 ho11 hb hg_ hnew_;clear hg_ hnew_;(first|rw [← Ny25.out] at ho11|(simp only [Int.reduceToNat] at ho11;rw [← Ny25.out] at ho11));have HO33:=Aside0.mk (Kd.R_lower ho11 (below_size zb14));replace BK23:=Aside0.mk (blk_below (g:=gb23) (o:=.cells #[.int .i64 0,.string (⟨#[]⟩:ByteArray),.int .i64 0,.slice none 0 0,.slice none 0 0] 62 (0,0)) zb45 hb);replace HB:=Aside0.mk (below_step zb14 hb);clear hb ho11)|((with_reducible refine gate_callee (f:=72) rfl ?_);refine goesL_ (some 10) rfl rfl Tryz.func72 zb10 rfl #[] rfl zb1 ?_;(with_reducible refine (scrub_closing.calls  t27 t34 _ A5.out).mono ?_);rintro e w12 ⟨rfl,hb⟩;(try clear A5);refine ⟨_,rfl,?_⟩;replace HO33:=Aside0.mk (Kd.R_below (by (with_reducible repeat (first|apply Kd.R_alloc|apply Kd.R_drewN|apply Kd.R_drew));exact HO33.out) hb);replace BK23:=Aside0.mk (blk_below (g:=gb23) (o:=.cells #[.int .i64 0,.string (⟨#[]⟩:ByteArray),.int .i64 0,.slice none 0 0,.slice none 0 0] 62 (0,0)) zb45 hb);replace HB:=Aside0.mk (below_step zb14 hb);(try clear hb))|((with_reducible refine gate_builtin (b:=.append) (xs:=#[.tmp 9,.tmp 11]) rfl ?_);at_builtin;refine Kd.R_append k36 (w0:=w) w.heap.size rfl (.tmp 9) (.tmp 11) 24 36 (.agg #[(.string ⟨#[]⟩),(.string ⟨#[]⟩)]) 32 rfl Tryz.underlying24 info36 rfl zb27 zb18 v37 y25 (⟨t27,t34⟩:S36) [.string t27,.string t34] (fun _=>True) (fun _=>False) rfl rfl ?aP (fun _ hk=>hk.elim) ?aF ?aO ?aB ?aS ?aL ?_;(case aP=>exact k36_mkM _ _ _ (⟨t27,t34⟩:S36));(case aB=>exact zb14);(case aF=>exact (fun _ _=>trivial));(case aO=>exact (by (with_reducible repeat (first|apply Kd.R_alloc|apply Kd.R_drewN|apply Kd.R_drew));exact HO33.out));(case aS=>exact (below_size zb14));(case aL=>have:=LMc6.out;omega);intro v39 w13 ho hb hg hat;rw [← Ny32.out] at ho;replace BK23:=Aside0.mk (blk_grown (g:=gb23) (o:=.cells #[.int .i64 0,.string (⟨#[]⟩:ByteArray),.int .i64 0,.slice none 0 0,.slice none 0 0] 62 (0,0)) zb45 hg (Kd.R_ne HO33.out BK23.out zb27));replace HB:=Aside0.mk (hb);have HO35:=Aside0.mk (ho);clear ho hb hg hat)|((with_reducible refine gate_callee (f:=74) rfl ?_);refine goesL_ (some 15) rfl rfl Tryz.func74 zb10 rfl #[.int .i64 a0] rfl zb1 ?_;(with_reducible refine (line_Reason.calls a0 t26 _ A7.out).mono ?_);rintro e w' ⟨rfl,⟨nd,rfl⟩⟩;(try clear A7);refine ⟨_,rfl,?_⟩;(try (rw [drewN_self w13];generalize hq_:World.drewN w13 _=w13;have n0_:Aside0 (Kd.R k36 36 w13 w.heap.size (fun _=>True) v39 y32):=⟨by rw [← hq_];exact (by (with_reducible repeat (first|apply Kd.R_alloc|apply Kd.R_drewN|apply Kd.R_drew));exact HO35.out)⟩;have n1_:Aside0 (w13.heap[gb23]? = some (.cells #[.int .i64 0,.string (⟨#[]⟩:ByteArray),.int .i64 0,.slice none 0 0,.slice none 0 0] 62 (0,0))):=⟨zb86⟩;have n2_:Aside0 (Below w.heap.size w w13):=⟨zb72⟩;clear HO35 BK23 HB hq_;have HO35:=n0_;have BK23:=n1_;have HB:=n2_;clear n0_ n1_ n2_));obtain ⟨Ao14,co14,eo14⟩:=Kd.R_slice HO35.out;subst eo14;obtain ⟨hcz15_0,hcz15_1,hcz15_2,hcz15_3,hcz15_4,hfz15_0,hfz15_1,hfz15_2,hfz15_3,hfz15_4⟩:=zq5 BK23.out))
  refine bodyPost_ret (results_cell_row rfl _ _ gb23 62 #[.int .i64 a0,.string t26,.int .i64 1,.slice Ao14 y32.length co14,.slice none 0 0] (0,0) _ rfl (by (with_reducible repeat (first|refine blk_drewN ?_ _|refine blk_drew ?_|refine blk_alloc ?_ _));refine blk_put (cs:=#[.int .i64 a0,.string t26,.int .i64 1,.slice Ao14 y32.length co14,.slice none 0 0]) ?_ 4 _ rfl;(with_reducible repeat (first|refine blk_drewN ?_ _|refine blk_drew ?_|refine blk_alloc ?_ _));refine blk_put (cs:=#[.int .i64 a0,.string t26,.int .i64 1,.slice none 0 0,.slice none 0 0]) ?_ 3 _ rfl;(with_reducible repeat (first|refine blk_drewN ?_ _|refine blk_drew ?_|refine blk_alloc ?_ _));refine blk_put (cs:=#[.int .i64 a0,.string t26,.int .i64 0,.slice none 0 0,.slice none 0 0]) ?_ 2 _ rfl;(with_reducible repeat (first|refine blk_drewN ?_ _|refine blk_drew ?_|refine blk_alloc ?_ _));refine blk_put (cs:=#[.int .i64 a0,.string (⟨#[]⟩:ByteArray),.int .i64 0,.slice none 0 0,.slice none 0 0]) ?_ 1 _ rfl;(with_reducible repeat (first|refine blk_drewN ?_ _|refine blk_drew ?_|refine blk_alloc ?_ _));refine blk_put (cs:=#[.int .i64 0,.string (⟨#[]⟩:ByteArray),.int .i64 0,.slice none 0 0,.slice none 0 0]) ?_ 0 _ rfl;(with_reducible repeat (first|refine blk_drewN ?_ _|refine blk_drew ?_|refine blk_alloc ?_ _));exact BK23.out) Tryz.underlying62 rfl zb10) rfl ?_
  exact ⟨_,_,zb2,by (with_reducible repeat (first|apply Kd.R_alloc|apply Kd.R_drewN|apply Kd.R_drew));exact Kd.R_mono (Kd.R_far (p:=⟨gb23,4,none⟩) (Kd.R_far (p:=⟨gb23,3,none⟩) (Kd.R_far (p:=⟨gb23,2,none⟩) (Kd.R_far (p:=⟨gb23,1,none⟩) (Kd.R_far (p:=⟨gb23,0,none⟩) (Kd.R_types HO35.out BK23.out (by decide)) (fun _ hk=>hk.2) (.int .i64 a0)) (fun _ hk=>hk.2) (.string t26)) (fun _ hk=>hk.2) (.int .i64 1)) (fun _ hk=>hk.2) (.slice Ao14 y32.length co14)) (fun _ hk=>hk.2) (.slice none 0 0)) (fun _ hk=>trivial),zb23,zb14⟩
 ·rw [if_neg c6] at H
  exact absurd H zb33
def frame_chunked.f (k:Nat) (l0:List (S36)):Option (Bool):=(field_List.f k l0 (⟨#[84,114,97,110,115,102,101,114,45,69,110,99,111,100,105,110,103]⟩:ByteArray)).bind fun t235=>(if (t235.length:Int)=1 then (if 0 < (t235.length:Int) then ((sign_Same.f (rdOf ByteArray.empty t235 0) (⟨#[99,104,117,110,107,101,100]⟩:ByteArray)).bind fun t239=>(some t239)) else (none)) else (some false))
set_option maxHeartbeats 8000000 in
set_option maxRecDepth 100000 in
theorem frame_chunked.calls (k:Nat) (A0:Option Addr) (c0:Nat) (l0:List (S36)) (r:Bool) (w:World) (hr0:Kd.C k36 w A0 l0.length l0) (hc0:l0.length ≤ c0) (h:frame_chunked.f k l0=some r) :
 Calls Tryz.prog 121 #[.slice A0 l0.length c0] w fun e w' => e = .returned (.bool r)∧Below w.heap.size w w' := by
 have HR0:=Aside0.mk hr0
 have HC0:=Aside0.mk hc0
 clear hr0 hc0
 have HB:=Aside0.mk (Below.refl w.heap.size w)
 unfold frame_chunked.f at h
 have H:=h
 clear h
 replace H:=Option.bind_eq_some_iff.mp H
 obtain ⟨t235,A20,H⟩:=H
 try dsimp only at H
 have A2:=Aside0.mk A20
 clear A20
 by_cases c3:(t235.length:Int)=1;rotate_left
 ·rw [if_neg c3] at H
  have c3b0:=beq_eq_false_iff_ne.mpr c3
  have c3b1:=bne_iff_ne.mpr c3
  obtain rfl:=Option.some.inj H
  go_enter Tryz.func121,Tryz.ntmps121
  go_wp2_with (first|((with_reducible refine gate_callee (f:=87) rfl ?_);refine goesL_ (some 5) rfl rfl Tryz.func87 zb10 rfl #[.slice A0 l0.length c0,.string (⟨#[84,114,97,110,115,102,101,114,45,69,110,99,111,100,105,110,103]⟩:ByteArray)] rfl zb1 ?_;(with_reducible refine (field_List.calls k _ _ l0 (⟨#[84,114,97,110,115,102,101,114,45,69,110,99,111,100,105,110,103]⟩:ByteArray) t235 _ ?side1 ?side2 A2.out).mono ?_);(case side1=>exact zb29);(case side2=>exact HC0.out);rintro e w9 ⟨v236,rfl,ho0,hb⟩;(try clear A2);refine ⟨_,rfl,?_⟩;have HO237:=Aside0.mk (Kd.R_lower ho0 (below_size zb0));replace HB:=Aside0.mk (below_step zb0 hb);try clear hb ho0;obtain ⟨Ao10,co10,eo10⟩:=Kd.R_slice HO237.out;subst eo10))
  go_ret
  exact ⟨zb2,zb0⟩
 rw [if_pos c3] at H
 have c3b0:=beq_iff_eq.mpr c3
 have c3b1:=bne_eq_false_iff_eq.mpr c3
 clear c3
 by_cases c4:0 < (t235.length:Int)
 ·rw [if_pos c4] at H
  have c4b0:=decide_eq_true c4
  have c4b1:decide (0 < t235.length)=true:=decide_eq_true zb18
  clear c4
  replace H:=Option.bind_eq_some_iff.mp H
  obtain ⟨t239,A50,H⟩:=H
  try dsimp only at H
  have A5:=Aside0.mk A50
  clear A50
  obtain rfl:=Option.some.inj H
  go_enter Tryz.func121,Tryz.ntmps121
  go_wp2_with (first|((with_reducible refine gate_callee (f:=87) rfl ?_);refine goesL_ (some 5) rfl rfl Tryz.func87 zb10 rfl #[.slice A0 l0.length c0,.string (⟨#[84,114,97,110,115,102,101,114,45,69,110,99,111,100,105,110,103]⟩:ByteArray)] rfl zb1 ?_;(with_reducible refine (field_List.calls k _ _ l0 (⟨#[84,114,97,110,115,102,101,114,45,69,110,99,111,100,105,110,103]⟩:ByteArray) t235 _ ?side1 ?side2 A2.out).mono ?_);(case side1=>exact zb29);(case side2=>exact HC0.out);rintro e w6 ⟨v236,rfl,ho0,hb⟩;(try clear A2);refine ⟨_,rfl,?_⟩;have HO237:=Aside0.mk (Kd.R_lower ho0 (below_size zb0));replace HB:=Aside0.mk (below_step zb0 hb);try clear hb ho0;obtain ⟨Ao7,co7,eo7⟩:=Kd.R_slice HO237.out;subst eo7;have p238:0 ≤ (0:Int):=zb18;have q238:0 < (t235.length:Int):=of_decide_eq_true zb5;obtain ⟨ad238,e238,hx238_0⟩:=Kd.at_string (Kd.R_reads' HO237.out).2.2 0 p238 q238;cases e238;have qi238:(0 < t235.length)=True:=eq_true zb18;(try rw [show ((0:Int)).toNat=0 from rfl] at hx238_0);(try rw [Addr.add_zero'] at hx238_0);replace p238:=eq_true p238;replace q238:=eq_true q238)|(go_at_call 89;(with_reducible refine (sign_Same.calls (rdOf ByteArray.empty t235 0) (⟨#[99,104,117,110,107,101,100]⟩:ByteArray) t239 _ A5.out).mono ?_);rintro e w8 ⟨rfl,hb⟩;(try clear A5);replace HO237:=Aside0.mk (Kd.R_below (by (with_reducible repeat (first|apply Kd.R_alloc|apply Kd.R_drewN|apply Kd.R_drew));exact HO237.out) hb);replace HB:=Aside0.mk (below_step zb0 hb);(try clear hb)))
  go_ret
  exact ⟨zb2,zb0⟩
 ·rw [if_neg c4] at H
  exact absurd H zb33
mutual
def sign_number.l0:Nat → ByteArray → Int → Int → Int → Int → Int → Option (Int × Bool)
 | 0,_,_,_,_,_,_=>none
 | k + 1,x0,x1,x2,x8,x12,x13=>if x13 < x12 then (if 0 ≤ x13 then (if x13 ≤ (wrap64 (x13 + 1)) then (if (wrap64 (x13 + 1)) ≤ (x0.size:Int) then ((sign_Fold.f (x0.extract (x13:Int).toNat ((wrap64 (x13 + 1)):Int).toNat)).bind fun t107=>(if 0 < (t107.size:Int) then ((strings_IndexByte.f (⟨#[48,49,50,51,52,53,54,55,56,57,97,98,99,100,101,102]⟩:ByteArray) (bt t107 0)).bind fun t108=>(if t108 < 0 then (sign_number.j1 k x0 x1 x2 x8 x13 t108 x12 x13 true) else (sign_number.j1 k x0 x1 x2 x8 x13 t108 x12 x13 (decide (t108 ≥ x1))))) else (none))) else (none)) else (none)) else (none)) else (if x0.toList=([]:List UInt8) then (some (0,false)) else (if (x0.size:Int) > x2 then (some (0,false)) else (some (x8,true))))
def sign_number.j1:Nat → ByteArray → Int → Int → Int → Int → Int → Int → Int → Bool → Option (Int × Bool)
 | 0,_,_,_,_,_,_,_,_,_=>none
 | k + 1,x0,x1,x2,x8,x9,x10,x12,x13,x30=>if x30=true then (some (0,false)) else (if x9 < x2 then (sign_number.l0 k x0 x1 x2 (wrap64 ((wrap64 (x8 * x1)) + x10)) x12 (wrap64 (x13 + 1))) else (sign_number.l0 k x0 x1 x2 x8 x12 (wrap64 (x13 + 1))))
end
def sign_number.f (k:Nat) (a0:ByteArray) (a1:Int) (a2:Int):Option (Int × Bool):=sign_number.l0 k a0 a1 a2 0 (a0.size:Int) 0
set_option maxHeartbeats 8000000 in
set_option maxRecDepth 100000 in
theorem sign_number.calls (k:Nat) (a0:ByteArray) (a1:Int) (a2:Int) (r1:Int) (r2:Bool) (w:World) (h:sign_number.f k a0 a1 a2=some (r1,r2)) :
 Calls Tryz.prog 156 #[.string a0,.int .i64 a1,.int .i64 a2] w fun e w' => e = .returned (.tuple #[.int .i64 r1,.bool r2])∧Below w.heap.size w w' := by
 have HB:=Aside0.mk (Below.refl w.heap.size w)
 unfold sign_number.f at h
 have H:=h
 clear h
 have H' := Aside0.mk H
 clear H
 go_enter Tryz.func156,Tryz.ntmps156
 go_wp2
 go_loopg [8,13] k (fun kq v8 v13 w' => ∃ (x8_1:Int) (x13_1:Int),v8 = .int .i64 x8_1∧v13 = .int .i64 x13_1∧Aside0 (sign_number.l0 kq a0 a1 a2 x8_1 (a0.size:Int) x13_1=some (r1,r2))∧Aside0 (kq ≤ k)∧Aside0 (Below w.heap.size w w'))
 case atStart=>exact ⟨(0),(0),zb4,zb4,H',⟨Nat.le_refl _⟩,⟨zb0⟩⟩
 case round =>
  clear H'
  try clear c1
  try clear p2
  obtain ⟨x8_1,x13_1,rfl,rfl,HA,HK1,HB⟩:=hrel
  cases gk with
  | zero=>exact absurd HA.out (by simp [sign_number.l0])
  | succ k1 =>
   have H:=HA.out
   clear HA
   simp only [sign_number.l0] at H
   by_cases c4:x13_1 < (a0.size:Int);rotate_left
   ·rw [if_neg c4] at H
    have c4b0:=decide_eq_false c4
    clear c4
    by_cases c17:a0.toList=([]:List UInt8)
    ·rw [if_pos c17] at H
     have c17b0:=beq_iff_eq.mpr c17
     have c17b1:=bne_eq_false_iff_eq.mpr c17
     clear c17
     simp only [Option.some.injEq,Prod.mk.injEq] at H
     obtain ⟨rfl,rfl⟩:=H
     go_wp2
     go_ret2
     exact ⟨zb2,zb0⟩
    rw [if_neg c17] at H
    have c17b0:=beq_eq_false_iff_ne.mpr c17
    have c17b1:=bne_iff_ne.mpr c17
    by_cases c18:(a0.size:Int) > a2
    ·rw [if_pos c18] at H
     have c18b0:decide (a2 < (a0.size:Int))=true:=decide_eq_true c18
     clear c18
     simp only [Option.some.injEq,Prod.mk.injEq] at H
     obtain ⟨rfl,rfl⟩:=H
     go_wp2
     go_ret2
     exact ⟨zb2,zb0⟩
    rw [if_neg c18] at H
    have c18b0:decide (a2 < (a0.size:Int))=false:=decide_eq_false c18
    clear c18
    simp only [Option.some.injEq,Prod.mk.injEq] at H
    obtain ⟨rfl,rfl⟩:=H
    go_wp2
    go_ret2
    exact ⟨zb2,zb0⟩
   rw [if_pos c4] at H
   have c4b0:=decide_eq_true c4
   clear c4
   by_cases c5:0 ≤ x13_1
   ·rw [if_pos c5] at H
    have c5b0:=eq_true c5
    have c5b1:=decide_eq_true c5
    clear c5
    by_cases c6:x13_1 ≤ (wrap64 (x13_1 + 1))
    ·rw [if_pos c6] at H
     have c6b0:=eq_true c6
     have c6b1:=decide_eq_true c6
     by_cases c7:(wrap64 (x13_1 + 1)) ≤ (a0.size:Int)
     ·rw [if_pos c7] at H
      have c7b0:=eq_true c7
      have c7b1:=decide_eq_true c7
      replace H:=Option.bind_eq_some_iff.mp H
      obtain ⟨t107,A80,H⟩:=H
      try dsimp only at H
      have A8:=Aside0.mk A80
      clear A80
      by_cases c9:0 < (t107.size:Int)
      ·rw [if_pos c9] at H
       have c9b0:=decide_eq_true c9
       have c9b1:decide (0 < t107.size)=true:=decide_eq_true zb18
       clear c9
       replace H:=Option.bind_eq_some_iff.mp H
       obtain ⟨t108,A110,H⟩:=H
       try dsimp only at H
       have A11:=Aside0.mk A110
       clear A110
       have HC12:=Aside0.mk H
       clear H
       go_upto_region 6 with (first|((with_reducible refine gate_callee (f:=64) rfl ?_);refine goesL_ (some 21) rfl rfl Tryz.func64 zb10 rfl #[.string (a0.extract (x13_1:Int).toNat ((wrap64 (x13_1 + 1)):Int).toNat)] rfl zb1 ?_;(with_reducible refine (sign_Fold.calls (a0.extract (x13_1:Int).toNat ((wrap64 (x13_1 + 1)):Int).toNat) t107 _ A8.out).mono ?_);rintro e w13 ⟨rfl,hb⟩;refine ⟨_,rfl,?_⟩;replace HB:=Aside0.mk (below_step zb0 hb);(try clear hb);have p10:0 ≤ (0:Int):=zb18;have q10:0 < t107.size:=(by have:(0:Int) < (t107.size:Int):=of_decide_eq_true (by first|(with_reducible assumption)|assumption);omega);have hx10 : ∀ h:0 < t107.size,((t107[0]'h).toNat:Int)=bt t107 0:=bt_at t107 0;clear p10;have qi10:(0 < (t107.size:Int))=True:=eq_true (of_decide_eq_true zb5);replace q10:=eq_true q10)|((with_reducible refine gate_callee (f:=163) rfl ?_);refine goesL_ (some 23) rfl rfl Tryz.func163 zb10 rfl #[.string (⟨#[48,49,50,51,52,53,54,55,56,57,97,98,99,100,101,102]⟩:ByteArray),.int .u8 (bt t107 0)] rfl zb1 ?_;(with_reducible refine (strings_IndexByte.calls (⟨#[48,49,50,51,52,53,54,55,56,57,97,98,99,100,101,102]⟩:ByteArray) (bt t107 0) t108 _ A11.out).mono ?_);rintro e w' ⟨rfl,⟨nd,rfl⟩⟩;refine ⟨_,rfl,?_⟩))
       (try simp only [Act.put,zqA,zqB,zqC])
       go_cut [30] (fun v30 wc => ∃ (kq:Nat) (x30_11:Bool),v30 = .bool x30_11∧Aside0 (sign_number.j1 kq a0 a1 a2 x8_1 x13_1 t108 (a0.size:Int) x13_1 x30_11=some (r1,r2))∧Aside0 (kq ≤ k1)∧Aside0 (Below w.heap.size w wc))
       case first =>
        have H:=HC12.out
        clear HC12
        by_cases c14:t108 < 0
        ·rw [if_pos c14] at H
         have c14b0:=decide_eq_true c14
         clear c14
         (first|rw [c14b0]|(simp only [i64_w,i32_w];rw [c14b0])|skip)
         have H' := Aside0.mk H
         clear H
         go_wp2
         go_meet
         case rel=>exact ⟨_,(true),zb4,H',⟨zb63⟩,⟨zb0⟩⟩
        rw [if_neg c14] at H
        have c14b0:=decide_eq_false c14
        clear c14
        (first|rw [c14b0]|(simp only [i64_w,i32_w];rw [c14b0])|skip)
        have H' := Aside0.mk H
        clear H
        go_wp2
        go_meet
        case rel=>exact ⟨_,(decide (t108 ≥ a1)),zb4,H',⟨zb63⟩,⟨zb0⟩⟩
       case rest =>
        clear HC12
        try clear c1
        try clear p1
        try clear q1
        try clear hx1
        try clear qi1
        try clear p2
        try clear c4
        try clear c4b0
        try clear c5
        try clear c5b0
        try clear c5b1
        try clear c6
        try clear c6b0
        try clear c6b1
        try clear p6
        try clear c7
        try clear c7b0
        try clear c7b1
        try clear c9
        try clear c9b0
        try clear c9b1
        try clear p10
        try clear q10
        try clear hx10
        try clear qi10
        try clear c14
        try clear c14b0
        try clear p10
        try clear p2
        try clear q10
        obtain ⟨kq,x30_11,rfl,HA,HJ11,HB⟩:=hcut
        cases kq with
        | zero=>exact absurd HA.out (by simp [sign_number.j1])
        | succ kj11 =>
         have H:=HA.out
         clear HA
         simp only [sign_number.j1] at H
         by_cases c15:x30_11=true
         ·subst c15
          rw [if_pos rfl] at H
          simp only [Option.some.injEq,Prod.mk.injEq] at H
          obtain ⟨rfl,rfl⟩:=H
          go_wp2
          go_ret2
          exact ⟨zb2,zb0⟩
         ·replace c15:=Bool.eq_false_iff.mpr c15
          subst c15
          rw [if_neg (show ¬ (false=true) by decide)] at H
          by_cases c16:x13_1 < a2
          ·rw [if_pos c16] at H
           have c16b0:=decide_eq_true c16
           clear c16
           have H' := Aside0.mk H
           clear H
           go_wp2
           go_roundg kj11
           case measure=>have:=HK1.out;have:=HJ11.out;omega
           case rel=>exact ⟨(wrap64 ((wrap64 (x8_1 * a1)) + t108)),(wrap64 (x13_1 + 1)),zb4,zb4,H',⟨by have:=HK1.out;have:=HJ11.out;omega⟩,⟨zb0⟩⟩
          ·rw [if_neg c16] at H
           have c16b0:=decide_eq_false c16
           clear c16
           have H' := Aside0.mk H
           clear H
           go_wp2
           go_roundg kj11
           case measure=>have:=HK1.out;have:=HJ11.out;omega
           case rel=>exact ⟨(x8_1),(wrap64 (x13_1 + 1)),zb4,zb4,H',⟨by have:=HK1.out;have:=HJ11.out;omega⟩,⟨zb0⟩⟩
      ·rw [if_neg c9] at H
       exact absurd H zb33
     ·rw [if_neg c7] at H
      exact absurd H zb33
    ·rw [if_neg c6] at H
     exact absurd H zb33
   ·rw [if_neg c5] at H
    exact absurd H zb33
def sign_Decimal.f (k:Nat) (a0:ByteArray):Option (Int × Bool):=(sign_number.f k a0 10 18).bind fun bt109=>(some (bt109.1,bt109.2))
set_option maxHeartbeats 8000000 in
set_option maxRecDepth 100000 in
theorem sign_Decimal.calls (k:Nat) (a0:ByteArray) (r1:Int) (r2:Bool) (w:World) (h:sign_Decimal.f k a0=some (r1,r2)) :
 Calls Tryz.prog 112 #[.string a0] w fun e w' => e = .returned (.tuple #[.int .i64 r1,.bool r2])∧Below w.heap.size w w' := by
 have HB:=Aside0.mk (Below.refl w.heap.size w)
 unfold sign_Decimal.f at h
 have H:=h
 clear h
 replace H:=Option.bind_eq_some_iff.mp H
 obtain ⟨⟨t109,t110⟩,A20,H⟩:=H
 try dsimp only at H
 have A2:=Aside0.mk A20
 clear A20
 simp only [Option.some.injEq,Prod.mk.injEq] at H
 obtain ⟨rfl,rfl⟩:=H
 go_enter Tryz.func112,Tryz.ntmps112
 go_wp2_with (first|((with_reducible refine gate_callee (f:=156) rfl ?_);refine goesL_ (some 5) rfl rfl Tryz.func156 zb10 rfl #[.string a0,.int .i64 10,.int .i64 18] rfl zb1 ?_;(with_reducible refine (sign_number.calls k a0 10 18 t109 t110 _ A2.out).mono ?_);rintro e w3 ⟨rfl,hb⟩;(try clear A2);refine ⟨_,rfl,?_⟩;replace HB:=Aside0.mk (below_step zb0 hb);(try clear hb)))
 go_ret2
 exact ⟨zb2,zb0⟩
def frame_length.l0:Nat → Int → List ByteArray → Int → Int → Option (Int × Bool)
 | 0,_,_,_,_=>none
 | k + 1,x5,x12,x13,x14=>if x14 < x13 then (if 0 ≤ x14 then (if x14 < (x12.length:Int) then ((sign_Decimal.f k (rdOf ByteArray.empty x12 x14)).bind fun bt233=>(if bt233.2=true then (if x5 ≥ 0 then (if bt233.1=x5 then (frame_length.l0 k bt233.1 x12 x13 (wrap64 (x14 + 1))) else (some (0,false))) else (frame_length.l0 k bt233.1 x12 x13 (wrap64 (x14 + 1)))) else (some (0,false)))) else (none)) else (none)) else (some (x5,decide (x5 ≥ 0)))
def frame_length.f (k:Nat) (l0:List (S36)):Option (Int × Bool):=(field_List.f k l0 (⟨#[67,111,110,116,101,110,116,45,76,101,110,103,116,104]⟩:ByteArray)).bind fun t229=>(frame_length.l0 k (-1) t229 (t229.length:Int) 0)
set_option maxHeartbeats 8000000 in
set_option maxRecDepth 100000 in
theorem frame_length.calls (k:Nat) (A0:Option Addr) (c0:Nat) (l0:List (S36)) (r1:Int) (r2:Bool) (w:World) (hr0:Kd.C k36 w A0 l0.length l0) (hc0:l0.length ≤ c0) (h:frame_length.f k l0=some (r1,r2)) :
 Calls Tryz.prog 120 #[.slice A0 l0.length c0] w fun e w' => e = .returned (.tuple #[.int .i64 r1,.bool r2])∧Below w.heap.size w w' := by
 have HR0:=Aside0.mk hr0
 have HC0:=Aside0.mk hc0
 clear hr0 hc0
 have HB:=Aside0.mk (Below.refl w.heap.size w)
 unfold frame_length.f at h
 have H:=h
 clear h
 replace H:=Option.bind_eq_some_iff.mp H
 obtain ⟨t229,A20,H⟩:=H
 try dsimp only at H
 have A2:=Aside0.mk A20
 clear A20
 have H' := Aside0.mk H
 clear H
 go_enter Tryz.func120,Tryz.ntmps120
 go_wp2_with (first|((with_reducible refine gate_callee (f:=87) rfl ?_);refine goesL_ (some 11) rfl rfl Tryz.func87 zb10 rfl #[.slice A0 l0.length c0,.string (⟨#[67,111,110,116,101,110,116,45,76,101,110,103,116,104]⟩:ByteArray)] rfl zb1 ?_;(with_reducible refine (field_List.calls k _ _ l0 (⟨#[67,111,110,116,101,110,116,45,76,101,110,103,116,104]⟩:ByteArray) t229 _ ?side1 ?side2 A2.out).mono ?_);(case side1=>exact zb29);(case side2=>exact HC0.out);rintro e w3 ⟨v230,rfl,ho0,hb⟩;(try clear A2);refine ⟨_,rfl,?_⟩;have HO231:=Aside0.mk (Kd.R_lower ho0 (below_size zb0));replace HB:=Aside0.mk (below_step zb0 hb);try clear hb ho0;obtain ⟨Ao4,co4,eo4⟩:=Kd.R_slice HO231.out;subst eo4))
 go_loopg [5,14] k (fun kq v5 v14 w' => ∃ (x5_1:Int) (x14_1:Int),v5 = .int .i64 x5_1∧v14 = .int .i64 x14_1∧Aside0 (frame_length.l0 kq x5_1 t229 (t229.length:Int) x14_1=some (r1,r2))∧Aside0 (kq ≤ k)∧Aside0 (Kd.R Kd.string 9 w' w.heap.size (fun _=>True) (.slice Ao4 t229.length co4) t229)∧Aside0 (Below w.heap.size w w'))
 case atStart=>exact ⟨((-1)),(0),zb4,zb4,H',⟨Nat.le_refl _⟩,⟨by (with_reducible repeat (first|apply Kd.R_alloc|apply Kd.R_drewN|apply Kd.R_drew));exact HO231.out⟩,⟨zb0⟩⟩
 case round =>
  clear H'
  try clear c1
  try clear p2
  obtain ⟨x5_1,x14_1,rfl,rfl,HA,HK1,HO_12,HB⟩:=hrel
  cases gk with
  | zero=>exact absurd HA.out (by simp [frame_length.l0])
  | succ k1 =>
   have H:=HA.out
   clear HA
   simp only [frame_length.l0] at H
   by_cases c5:x14_1 < (t229.length:Int);rotate_left
   ·rw [if_neg c5] at H
    have c5b0:=decide_eq_false c5
    clear c5
    simp only [Option.some.injEq,Prod.mk.injEq] at H
    obtain ⟨rfl,rfl⟩:=H
    go_wp2
    go_ret2
    exact ⟨zb2,zb0⟩
   rw [if_pos c5] at H
   have c5b0:=decide_eq_true c5
   clear c5
   by_cases c6:0 ≤ x14_1
   ·rw [if_pos c6] at H
    have c6b0:=decide_eq_true c6
    clear c6
    by_cases c7:x14_1 < (t229.length:Int)
    ·rw [if_pos c7] at H
     have c7b0:=decide_eq_true c7
     clear c7
     replace H:=Option.bind_eq_some_iff.mp H
     obtain ⟨⟨t233,t234⟩,A80,H⟩:=H
     try dsimp only at H
     have A8:=Aside0.mk A80
     clear A80
     by_cases c9:t234=true;rotate_left
     ·replace c9:=Bool.eq_false_iff.mpr c9
      subst c9
      rw [if_neg (show ¬ (false=true) by decide)] at H
      simp only [Option.some.injEq,Prod.mk.injEq] at H
      obtain ⟨rfl,rfl⟩:=H
      have p232:0 ≤ (x14_1:Int):=of_decide_eq_true zb5
      have q232:x14_1 < (t229.length:Int):=of_decide_eq_true zb5
      obtain ⟨ad232,e232,hx232_0⟩:=Kd.at_string (Kd.R_reads' HO_12.out).2.2 x14_1 p232 q232
      cases e232
      replace p232:=eq_true p232
      replace q232:=eq_true q232
      go_wp2_with (first|((with_reducible refine gate_callee (f:=112) rfl ?_);refine goesL_ (some 20) rfl rfl Tryz.func112 zb10 rfl #[.string (rdOf ByteArray.empty t229 x14_1)] rfl zb1 ?_;(with_reducible refine (sign_Decimal.calls k1 (rdOf ByteArray.empty t229 x14_1) t233 false _ A8.out).mono ?_);rintro e w15 ⟨rfl,hb⟩;(try clear A8);refine ⟨_,rfl,?_⟩;replace HO_12:=Aside0.mk (Kd.R_below zb36 hb);replace HB:=Aside0.mk (below_step zb0 hb);(try clear hb)))
      go_ret2
      exact ⟨zb2,zb0⟩
     subst c9
     rw [if_pos rfl] at H
     by_cases c10:x5_1 ≥ 0;rotate_left
     ·rw [if_neg c10] at H
      have c10b0:decide (0 ≤ x5_1)=false:=decide_eq_false c10
      clear c10
      have H' := Aside0.mk H
      clear H
      have p232:0 ≤ (x14_1:Int):=of_decide_eq_true zb5
      have q232:x14_1 < (t229.length:Int):=of_decide_eq_true zb5
      obtain ⟨ad232,e232,hx232_0⟩:=Kd.at_string (Kd.R_reads' HO_12.out).2.2 x14_1 p232 q232
      cases e232
      replace p232:=eq_true p232
      replace q232:=eq_true q232
      go_wp2_with (first|((with_reducible refine gate_callee (f:=112) rfl ?_);refine goesL_ (some 20) rfl rfl Tryz.func112 zb10 rfl #[.string (rdOf ByteArray.empty t229 x14_1)] rfl zb1 ?_;(with_reducible refine (sign_Decimal.calls k1 (rdOf ByteArray.empty t229 x14_1) t233 true _ A8.out).mono ?_);rintro e w14 ⟨rfl,hb⟩;(try clear A8);refine ⟨_,rfl,?_⟩;replace HO_12:=Aside0.mk (Kd.R_below zb36 hb);replace HB:=Aside0.mk (below_step zb0 hb);(try clear hb)))
      go_roundg k1
      case measure=>have:=HK1.out;omega
      case rel=>exact ⟨(t233),(wrap64 (x14_1 + 1)),zb4,zb4,H',⟨zb66⟩,⟨zb36⟩,⟨zb0⟩⟩
     rw [if_pos c10] at H
     have c10b0:decide (0 ≤ x5_1)=true:=decide_eq_true c10
     clear c10
     by_cases c11:t233=x5_1
     ·rw [if_pos c11] at H
      have c11b0:=beq_iff_eq.mpr c11
      have c11b1:=bne_eq_false_iff_eq.mpr c11
      clear c11
      have H' := Aside0.mk H
      clear H
      have p232:0 ≤ (x14_1:Int):=of_decide_eq_true zb5
      have q232:x14_1 < (t229.length:Int):=of_decide_eq_true zb5
      obtain ⟨ad232,e232,hx232_0⟩:=Kd.at_string (Kd.R_reads' HO_12.out).2.2 x14_1 p232 q232
      cases e232
      replace p232:=eq_true p232
      replace q232:=eq_true q232
      go_wp2_with (first|((with_reducible refine gate_callee (f:=112) rfl ?_);refine goesL_ (some 20) rfl rfl Tryz.func112 zb10 rfl #[.string (rdOf ByteArray.empty t229 x14_1)] rfl zb1 ?_;(with_reducible refine (sign_Decimal.calls k1 (rdOf ByteArray.empty t229 x14_1) t233 true _ A8.out).mono ?_);rintro e w12 ⟨rfl,hb⟩;(try clear A8);refine ⟨_,rfl,?_⟩;replace HO_12:=Aside0.mk (Kd.R_below zb36 hb);replace HB:=Aside0.mk (below_step zb0 hb);(try clear hb)))
      go_roundg k1
      case measure=>have:=HK1.out;omega
      case rel=>exact ⟨(t233),(wrap64 (x14_1 + 1)),zb4,zb4,H',⟨zb66⟩,⟨zb36⟩,⟨zb0⟩⟩
     ·rw [if_neg c11] at H
      have c11b0:=beq_eq_false_iff_ne.mpr c11
      have c11b1:=bne_iff_ne.mpr c11
      simp only [Option.some.injEq,Prod.mk.injEq] at H
      obtain ⟨rfl,rfl⟩:=H
      have p232:0 ≤ (x14_1:Int):=of_decide_eq_true zb5
      have q232:x14_1 < (t229.length:Int):=of_decide_eq_true zb5
      obtain ⟨ad232,e232,hx232_0⟩:=Kd.at_string (Kd.R_reads' HO_12.out).2.2 x14_1 p232 q232
      cases e232
      replace p232:=eq_true p232
      replace q232:=eq_true q232
      go_wp2_with (first|((with_reducible refine gate_callee (f:=112) rfl ?_);refine goesL_ (some 20) rfl rfl Tryz.func112 zb10 rfl #[.string (rdOf ByteArray.empty t229 x14_1)] rfl zb1 ?_;(with_reducible refine (sign_Decimal.calls k1 (rdOf ByteArray.empty t229 x14_1) t233 true _ A8.out).mono ?_);rintro e w13 ⟨rfl,hb⟩;(try clear A8);refine ⟨_,rfl,?_⟩;replace HO_12:=Aside0.mk (Kd.R_below zb36 hb);replace HB:=Aside0.mk (below_step zb0 hb);(try clear hb)))
      go_ret2
      exact ⟨zb2,zb0⟩
    ·rw [if_neg c7] at H
     exact absurd H zb33
   ·rw [if_neg c6] at H
    exact absurd H zb33
def frame_there.f (k:Nat) (l0:List (S36)) (a1:ByteArray):Option (Bool):=(field_Get.f k l0 a1).bind fun t208=>(some (decide ((t208.length:Int) > 0)))
set_option maxHeartbeats 8000000 in
set_option maxRecDepth 100000 in
theorem frame_there.calls (k:Nat) (A0:Option Addr) (c0:Nat) (l0:List (S36)) (a1:ByteArray) (r:Bool) (w:World) (hr0:Kd.C k36 w A0 l0.length l0) (hc0:l0.length ≤ c0) (h:frame_there.f k l0 a1=some r) :
 Calls Tryz.prog 115 #[.slice A0 l0.length c0,.string a1] w fun e w' => e = .returned (.bool r)∧Below w.heap.size w w' := by
 have HR0:=Aside0.mk hr0
 have HC0:=Aside0.mk hc0
 clear hr0 hc0
 have HB:=Aside0.mk (Below.refl w.heap.size w)
 unfold frame_there.f at h
 have H:=h
 clear h
 replace H:=Option.bind_eq_some_iff.mp H
 obtain ⟨t208,A30,H⟩:=H
 try dsimp only at H
 have A3:=Aside0.mk A30
 clear A30
 obtain rfl:=Option.some.inj H
 go_enter Tryz.func115,Tryz.ntmps115
 go_wp2_with (first|((with_reducible refine gate_callee (f:=50) rfl ?_);refine goesL_ (some 7) rfl rfl Tryz.func50 zb10 rfl #[.slice A0 l0.length c0,.string a1] rfl zb1 ?_;(with_reducible refine (field_Get.calls k _ _ l0 a1 t208 _ ?side1 ?side2 A3.out).mono ?_);(case side1=>exact zb29);(case side2=>exact HC0.out);rintro e w4 ⟨v209,rfl,ho0,hb⟩;(try clear A3);refine ⟨_,rfl,?_⟩;have HO210:=Aside0.mk (Kd.R_lower ho0 (below_size zb0));replace HB:=Aside0.mk (below_step zb0 hb);try clear hb ho0;obtain ⟨Ao5,co5,eo5⟩:=Kd.R_slice HO210.out;subst eo5))
 go_ret
 exact ⟨zb2,zb0⟩
mutual
def frame_Request.j0:Nat → List (S36) → Bool → Bool → Int → Bool → Bool → Option (Int × Bool × Int)
 | 0,_,_,_,_,_,_=>none
 | k + 1,x0,x7,x8,x9,x10,x20=>if x20=true then (some (0,false,400)) else (if x8=true then ((frame_chunked.f k x0).bind fun t244=>(frame_Request.j1 k x7 x8 x9 x10 (!t244))) else (frame_Request.j1 k x7 x8 x9 x10 false))
def frame_Request.j1:Nat → Bool → Bool → Int → Bool → Bool → Option (Int × Bool × Int)
 | 0,_,_,_,_,_=>none
 | k + 1,x7,x8,x9,x10,x29=>if x29=true then (some (0,false,501)) else (if x8=true then (some (0,true,0)) else (if x7=true then (if x10=true then (if x9 > 4096 then (some (0,false,413)) else (some (x9,false,0))) else (some (0,false,400))) else (some (0,false,0))))
end
def frame_Request.f (k:Nat) (l0:List (S36)) (a1:Int):Option (Int × Bool × Int):=(frame_there.f k l0 (⟨#[67,111,110,116,101,110,116,45,76,101,110,103,116,104]⟩:ByteArray)).bind fun t240=>((frame_there.f k l0 (⟨#[84,114,97,110,115,102,101,114,45,69,110,99,111,100,105,110,103]⟩:ByteArray)).bind fun t241=>((frame_length.f k l0).bind fun bt242=>(if t241=true then (if t240=true then (frame_Request.j0 k l0 t240 t241 bt242.1 bt242.2 true) else (frame_Request.j0 k l0 t240 t241 bt242.1 bt242.2 (a1 == 0))) else (frame_Request.j0 k l0 t240 t241 bt242.1 bt242.2 false))))
set_option maxHeartbeats 8000000 in
set_option maxRecDepth 100000 in
theorem frame_Request.calls (k:Nat) (A0:Option Addr) (c0:Nat) (l0:List (S36)) (a1:Int) (r1:Int) (r2:Bool) (r3:Int) (w:World) (hr0:Kd.C k36 w A0 l0.length l0) (hc0:l0.length ≤ c0) (h:frame_Request.f k l0 a1=some (r1,r2,r3)) :
 Calls Tryz.prog 78 #[.slice A0 l0.length c0,.int .i64 a1] w fun e w' => e = .returned (.tuple #[.int .i64 r1,.bool r2,.int .i64 r3])∧Below w.heap.size w w' := by
 have HR0:=Aside0.mk hr0
 have HC0:=Aside0.mk hc0
 clear hr0 hc0
 have HB:=Aside0.mk (Below.refl w.heap.size w)
 unfold frame_Request.f at h
 have H:=h
 clear h
 replace H:=Option.bind_eq_some_iff.mp H
 obtain ⟨t240,A30,H⟩:=H
 try dsimp only at H
 have A3:=Aside0.mk A30
 clear A30
 replace H:=Option.bind_eq_some_iff.mp H
 obtain ⟨t241,A40,H⟩:=H
 try dsimp only at H
 have A4:=Aside0.mk A40
 clear A40
 replace H:=Option.bind_eq_some_iff.mp H
 obtain ⟨⟨t242,t243⟩,A50,H⟩:=H
 try dsimp only at H
 have A5:=Aside0.mk A50
 clear A50
 have HC6:=Aside0.mk H
 clear H
 go_enter Tryz.func78,Tryz.ntmps78
 go_upto_region 3 with (first|((with_reducible refine gate_callee (f:=115) rfl ?_);refine goesL_ (some 12) rfl rfl Tryz.func115 zb10 rfl #[.slice A0 l0.length c0,.string (⟨#[67,111,110,116,101,110,116,45,76,101,110,103,116,104]⟩:ByteArray)] rfl zb1 ?_;(with_reducible refine (frame_there.calls k _ _ l0 (⟨#[67,111,110,116,101,110,116,45,76,101,110,103,116,104]⟩:ByteArray) t240 _ ?side1 ?side2 A3.out).mono ?_);(case side1=>exact zb29);(case side2=>exact HC0.out);rintro e w7 ⟨rfl,hb⟩;refine ⟨_,rfl,?_⟩;replace HB:=Aside0.mk (below_step zb0 hb);(try clear hb))|((with_reducible refine gate_callee (f:=115) rfl ?_);refine goesL_ (some 14) rfl rfl Tryz.func115 zb10 rfl #[.slice A0 l0.length c0,.string (⟨#[84,114,97,110,115,102,101,114,45,69,110,99,111,100,105,110,103]⟩:ByteArray)] rfl zb1 ?_;(with_reducible refine (frame_there.calls k _ _ l0 (⟨#[84,114,97,110,115,102,101,114,45,69,110,99,111,100,105,110,103]⟩:ByteArray) t241 _ ?side1 ?side2 A4.out).mono ?_);(case side1=>exact zb53);(case side2=>exact HC0.out);rintro e w8 ⟨rfl,hb⟩;refine ⟨_,rfl,?_⟩;replace HB:=Aside0.mk (below_step zb0 hb);(try clear hb))|((with_reducible refine gate_callee (f:=120) rfl ?_);refine goesL_ (some 17) rfl rfl Tryz.func120 zb10 rfl #[.slice A0 l0.length c0] rfl zb1 ?_;(with_reducible refine (frame_length.calls k _ _ l0 t242 t243 _ ?side1 ?side2 A5.out).mono ?_);(case side1=>exact zb53);(case side2=>exact HC0.out);rintro e w9 ⟨rfl,hb⟩;refine ⟨_,rfl,?_⟩;replace HB:=Aside0.mk (below_step zb0 hb);(try clear hb)))
 (try simp only [Act.put,zqA,zqB,zqC])
 go_cut [20] (fun v20 wc => ∃ (kq:Nat) (x20_5:Bool),v20 = .bool x20_5∧Aside0 (frame_Request.j0 kq l0 t240 t241 t242 t243 x20_5=some (r1,r2,r3))∧Aside0 (kq ≤ k)∧Aside0 (Below w.heap.size w wc))
 case first =>
  have H:=HC6.out
  clear HC6
  by_cases c10:t241=true;rotate_left
  ·replace c10:=Bool.eq_false_iff.mpr c10
   subst c10
   rw [if_neg (show ¬ (false=true) by decide)] at H
   have H' := Aside0.mk H
   clear H
   go_wp2
   go_meet
   case rel=>exact ⟨_,(false),zb4,H',⟨zb58⟩,⟨zb0⟩⟩
  subst c10
  rw [if_pos rfl] at H
  by_cases c11:t240=true
  ·subst c11
   rw [if_pos rfl] at H
   have H' := Aside0.mk H
   clear H
   go_wp2
   go_meet
   case rel=>exact ⟨_,(true),zb4,H',⟨zb58⟩,⟨zb0⟩⟩
  ·replace c11:=Bool.eq_false_iff.mpr c11
   subst c11
   rw [if_neg (show ¬ (false=true) by decide)] at H
   have H' := Aside0.mk H
   clear H
   go_wp2
   go_meet
   case rel=>exact ⟨_,((a1 == 0)),zb4,H',⟨zb58⟩,⟨zb0⟩⟩
 case rest =>
  clear HC6
  try clear c1
  try clear p2
  try clear c7
  try clear c10
  try clear c11
  obtain ⟨kq,x20_5,rfl,HA,HJ5,HB⟩:=hcut
  cases kq with
  | zero=>exact absurd HA.out (by simp [frame_Request.j0])
  | succ kj5 =>
   have H:=HA.out
   clear HA
   simp only [frame_Request.j0] at H
   by_cases c12:x20_5=true
   ·subst c12
    rw [if_pos rfl] at H
    simp only [Option.some.injEq,Prod.mk.injEq] at H
    obtain ⟨rfl,rfl,rfl⟩:=H
    go_wp2
    go_ret3
    exact ⟨zb2,zb0⟩
   replace c12:=Bool.eq_false_iff.mpr c12
   subst c12
   rw [if_neg (show ¬ (false=true) by decide)] at H
   have HC13:=Aside0.mk H
   clear H
   go_upto_region 5 with (fail)
   go_cut [29] (fun v29 wc => ∃ (kq:Nat) (x29_12:Bool),v29 = .bool x29_12∧Aside0 (frame_Request.j1 kq t240 t241 t242 t243 x29_12=some (r1,r2,r3))∧Aside0 (kq ≤ kj5)∧Aside0 (Below w.heap.size w wc))
   case first =>
    have H:=HC13.out
    clear HC13
    by_cases c14:t241=true;rotate_left
    ·replace c14:=Bool.eq_false_iff.mpr c14
     subst c14
     rw [if_neg (show ¬ (false=true) by decide)] at H
     have H' := Aside0.mk H
     clear H
     go_wp2
     go_meet
     case rel=>exact ⟨_,(false),zb4,H',⟨by have:=HJ5.out;first|omega|exact Nat.le_refl _⟩,⟨zb0⟩⟩
    subst c14
    rw [if_pos rfl] at H
    replace H:=Option.bind_eq_some_iff.mp H
    obtain ⟨t244,A150,H⟩:=H
    try dsimp only at H
    have A15:=Aside0.mk A150
    clear A150
    have H' := Aside0.mk H
    clear H
    go_wp2_with (first|(go_at_call 121;(with_reducible refine (frame_chunked.calls kj5 _ _ l0 t244 _ ?side1 ?side2 A15.out).mono ?_);(case side1=>exact zb53);(case side2=>exact HC0.out);rintro e w16 ⟨rfl,hb⟩;(try clear A15);replace HB:=Aside0.mk (below_step zb0 hb);(try clear hb)))
    go_meet
    case rel=>exact ⟨_,(!t244),zb4,H',⟨by have:=HJ5.out;first|omega|exact Nat.le_refl _⟩,⟨zb0⟩⟩
   case rest =>
    clear HC13
    try clear c1
    try clear p2
    try clear c7
    try clear c10
    try clear c11
    try clear c12
    try clear c14
    try clear p2
    obtain ⟨kq,x29_12,rfl,HA,HJ12,HB⟩:=hcut
    cases kq with
    | zero=>exact absurd HA.out (by simp [frame_Request.j1])
    | succ kj12 =>
     have H:=HA.out
     clear HA
     simp only [frame_Request.j1] at H
     by_cases c17:x29_12=true
     ·subst c17
      rw [if_pos rfl] at H
      simp only [Option.some.injEq,Prod.mk.injEq] at H
      obtain ⟨rfl,rfl,rfl⟩:=H
      go_wp2
      go_ret3
      exact ⟨zb2,zb0⟩
     replace c17:=Bool.eq_false_iff.mpr c17
     subst c17
     rw [if_neg (show ¬ (false=true) by decide)] at H
     by_cases c18:t241=true
     ·subst c18
      rw [if_pos rfl] at H
      simp only [Option.some.injEq,Prod.mk.injEq] at H
      obtain ⟨rfl,rfl,rfl⟩:=H
      go_wp2
      go_ret3
      exact ⟨zb2,zb0⟩
     replace c18:=Bool.eq_false_iff.mpr c18
     subst c18
     rw [if_neg (show ¬ (false=true) by decide)] at H
     by_cases c19:t240=true;rotate_left
     ·replace c19:=Bool.eq_false_iff.mpr c19
      subst c19
      rw [if_neg (show ¬ (false=true) by decide)] at H
      simp only [Option.some.injEq,Prod.mk.injEq] at H
      obtain ⟨rfl,rfl,rfl⟩:=H
      go_wp2
      go_ret3
      exact ⟨zb2,zb0⟩
     subst c19
     rw [if_pos rfl] at H
     by_cases c20:t243=true
     ·subst c20
      rw [if_pos rfl] at H
      by_cases c21:t242 > 4096
      ·rw [if_pos c21] at H
       have c21b0:decide (4096 < t242)=true:=decide_eq_true c21
       clear c21
       simp only [Option.some.injEq,Prod.mk.injEq] at H
       obtain ⟨rfl,rfl,rfl⟩:=H
       go_wp2
       go_ret3
       exact ⟨zb2,zb0⟩
      rw [if_neg c21] at H
      have c21b0:decide (4096 < t242)=false:=decide_eq_false c21
      clear c21
      simp only [Option.some.injEq,Prod.mk.injEq] at H
      obtain ⟨rfl,rfl,rfl⟩:=H
      go_wp2
      go_ret3
      exact ⟨zb2,zb0⟩
     ·replace c20:=Bool.eq_false_iff.mpr c20
      subst c20
      rw [if_neg (show ¬ (false=true) by decide)] at H
      simp only [Option.some.injEq,Prod.mk.injEq] at H
      obtain ⟨rfl,rfl,rfl⟩:=H
      go_wp2
      go_ret3
      exact ⟨zb2,zb0⟩
def frame_Response.j0:Nat → Bool → Int → ByteArray → Int → List (S36) → List Int → Option (Int × Int × Bool)
 | 0,_,_,_,_,_,_=>none
 | k + 1,x26,x756000,x756001,x756002,x756003,x756004=>if x26=true then (some (0,0,true)) else ((frame_Request.f k x756003 x756002).bind fun bt756=>(if bt756.2.2=0 then (if bt756.2.1=true then (some (2,0,true)) else ((frame_there.f k x756003 (⟨#[67,111,110,116,101,110,116,45,76,101,110,103,116,104]⟩:ByteArray)).bind fun t759=>(if t759=true then (some (1,bt756.1,true)) else (some (3,0,true))))) else (some (0,0,false))))
def frame_Response.f (k:Nat) (a0:ByteArray) (a1_0:Int) (a1_1:ByteArray) (a1_2:Int) (l1_3:List (S36)) (l1_4:List Int):Option (Int × Int × Bool):=if a0.toList=([72,69,65,68]:List UInt8) then (frame_Response.j0 k true a1_0 a1_1 a1_2 l1_3 l1_4) else (if a1_0 < 200 then (frame_Response.j0 k true a1_0 a1_1 a1_2 l1_3 l1_4) else (if a1_0=204 then (frame_Response.j0 k true a1_0 a1_1 a1_2 l1_3 l1_4) else (frame_Response.j0 k (a1_0 == 304) a1_0 a1_1 a1_2 l1_3 l1_4)))
set_option maxHeartbeats 8000000 in
set_option maxRecDepth 100000 in
theorem frame_Response.calls (k:Nat) (a0:ByteArray) (a1_0:Int) (a1_1:ByteArray) (a1_2:Int) (A1_3:Option Addr) (c1_3:Nat) (l1_3:List (S36)) (A1_4:Option Addr) (c1_4:Nat) (l1_4:List Int) (r1:Int) (r2:Int) (r3:Bool) (w:World) (hr1_3:Kd.C k36 w A1_3 l1_3.length l1_3) (hc1_3:l1_3.length ≤ c1_3) (hr1_4:Kd.C (Kd.int .u8) w A1_4 l1_4.length l1_4) (hc1_4:l1_4.length ≤ c1_4) (h:frame_Response.f k a0 a1_0 a1_1 a1_2 l1_3 l1_4=some (r1,r2,r3)) :
 Calls Tryz.prog 70 #[.string a0,.agg #[.int .i64 a1_0,.string a1_1,.int .i64 a1_2,.slice A1_3 l1_3.length c1_3,.slice A1_4 l1_4.length c1_4]] w fun e w' => e = .returned (.tuple #[.int .i64 r1,.int .i64 r2,.bool r3])∧Below w.heap.size w w' := by
 have hu62:=Tryz.underlying62
 have HR1_3:=Aside0.mk hr1_3
 have HC1_3:=Aside0.mk hc1_3
 clear hr1_3 hc1_3
 have HR1_4:=Aside0.mk hr1_4
 have HC1_4:=Aside0.mk hc1_4
 clear hr1_4 hc1_4
 have HB:=Aside0.mk (Below.refl w.heap.size w)
 unfold frame_Response.f at h
 have H:=h
 clear h
 have HC3:=Aside0.mk H
 clear H
 go_enter Tryz.func70,Tryz.ntmps70
 go_upto_region 1 with (first|((with_reducible refine gate_dst (N:=3) rfl ?_);refine box_event rfl (N:=3) rfl (cs:=#[.int .i64 a1_0,.string a1_1,.int .i64 a1_2,.slice A1_3 l1_3.length c1_3,.slice A1_4 l1_4.length c1_4]) (t:=62) zS ?_;intro gb29 hg w4 hbox hb;have GW29:=zG hg zb0;have GE29:=GW29;have BK29:=Aside0.mk hbox;replace HB:=Aside0.mk (below_step zb0 hb);clear hb hbox hg))
 (try simp only [Act.put,zqA,zqB,zqC])
 go_cut [26] (fun v26 wc => ∃ (kq:Nat) (x26_2:Bool),v26 = .bool x26_2∧Aside0 (frame_Response.j0 kq x26_2 a1_0 a1_1 a1_2 l1_3 l1_4=some (r1,r2,r3))∧Aside0 (kq ≤ k)∧Aside0 (wc.heap[gb29]? = some (.cells #[.int .i64 a1_0,.string a1_1,.int .i64 a1_2,(.slice A1_3 l1_3.length c1_3),(.slice A1_4 l1_4.length c1_4)] 62 (0,0)))∧Aside0 (Below w.heap.size w wc))
 case first =>
  have H:=HC3.out
  clear HC3
  by_cases c5:a0.toList=([72,69,65,68]:List UInt8)
  ·rw [if_pos c5] at H
   have c5b0:=beq_iff_eq.mpr c5
   have c5b1:=bne_eq_false_iff_eq.mpr c5
   clear c5
   (first|rw [c5b0]|(simp only [i64_w,i32_w];rw [c5b0])|rw [c5b1]|skip)
   have H' := Aside0.mk H
   clear H
   go_wp2
   go_meet
   case rel=>exact ⟨_,(true),zb4,H',⟨zb58⟩,⟨zb24⟩,⟨zb13⟩⟩
  rw [if_neg c5] at H
  have c5b0:=beq_eq_false_iff_ne.mpr c5
  have c5b1:=bne_iff_ne.mpr c5
  (first|rw [c5b0]|(simp only [i64_w,i32_w];rw [c5b0])|rw [c5b1]|skip)
  by_cases c6:a1_0 < 200
  ·rw [if_pos c6] at H
   have c6b0:=decide_eq_true c6
   clear c6
   have H' := Aside0.mk H
   clear H
   obtain ⟨hcz7_0,hcz7_1,hcz7_2,hcz7_3,hcz7_4,hfz7_0,hfz7_1,hfz7_2,hfz7_3,hfz7_4⟩:=zq5 BK29.out
   go_wp2
   go_meet
   case rel=>exact ⟨_,(true),zb4,H',⟨zb58⟩,⟨zb24⟩,⟨zb13⟩⟩
  rw [if_neg c6] at H
  have c6b0:=decide_eq_false c6
  clear c6
  by_cases c8:a1_0=204;rotate_left
  ·rw [if_neg c8] at H
   have c8b0:=beq_eq_false_iff_ne.mpr c8
   have c8b1:=bne_iff_ne.mpr c8
   have H' := Aside0.mk H
   clear H
   obtain ⟨hcz10_0,hcz10_1,hcz10_2,hcz10_3,hcz10_4,hfz10_0,hfz10_1,hfz10_2,hfz10_3,hfz10_4⟩:=zq5 BK29.out
   go_wp2
   go_meet
   case rel=>exact ⟨_,((a1_0 == 304)),zb4,H',⟨zb58⟩,⟨zb24⟩,⟨zb13⟩⟩
  rw [if_pos c8] at H
  have c8b0:=beq_iff_eq.mpr c8
  have c8b1:=bne_eq_false_iff_eq.mpr c8
  clear c8
  have H' := Aside0.mk H
  clear H
  obtain ⟨hcz9_0,hcz9_1,hcz9_2,hcz9_3,hcz9_4,hfz9_0,hfz9_1,hfz9_2,hfz9_3,hfz9_4⟩:=zq5 BK29.out
  go_wp2
  go_meet
  case rel=>exact ⟨_,(true),zb4,H',⟨zb58⟩,⟨zb24⟩,⟨zb13⟩⟩
 case rest =>
  clear HC3
  try clear c1
  try clear p2
  try clear c5
  try clear c5b0
  try clear c5b1
  try clear c6
  try clear c6b0
  try clear c7
  try clear c8
  try clear c8b0
  try clear c8b1
  try clear hcz10_0
  try clear hcz10_1
  try clear hcz10_2
  try clear hcz10_3
  try clear hcz10_4
  try clear hcz7_0
  try clear hcz7_1
  try clear hcz7_2
  try clear hcz7_3
  try clear hcz7_4
  try clear hcz9_0
  try clear hcz9_1
  try clear hcz9_2
  try clear hcz9_3
  try clear hcz9_4
  try clear hfz10_0
  try clear hfz10_1
  try clear hfz10_2
  try clear hfz10_3
  try clear hfz10_4
  try clear hfz7_0
  try clear hfz7_1
  try clear hfz7_2
  try clear hfz7_3
  try clear hfz7_4
  try clear hfz9_0
  try clear hfz9_1
  try clear hfz9_2
  try clear hfz9_3
  try clear hfz9_4
  obtain ⟨kq,x26_2,rfl,HA,HJ2,BK29,HB⟩:=hcut
  cases kq with
  | zero=>exact absurd HA.out (by simp [frame_Response.j0])
  | succ kj2 =>
   have H:=HA.out
   clear HA
   simp only [frame_Response.j0] at H
   by_cases c11:x26_2=true
   ·subst c11
    rw [if_pos rfl] at H
    simp only [Option.some.injEq,Prod.mk.injEq] at H
    obtain ⟨rfl,rfl,rfl⟩:=H
    go_wp2
    go_ret3
    exact ⟨zb2,zb13⟩
   replace c11:=Bool.eq_false_iff.mpr c11
   subst c11
   rw [if_neg (show ¬ (false=true) by decide)] at H
   replace H:=Option.bind_eq_some_iff.mp H
   obtain ⟨⟨t30,t34,t31⟩,A35,H⟩:=H
   try dsimp only at H
   have A12:=Aside0.mk A35
   clear A35
   by_cases c13:t31=0;rotate_left
   ·rw [if_neg c13] at H
    have c13b0:=beq_eq_false_iff_ne.mpr c13
    have c13b1:=bne_iff_ne.mpr c13
    simp only [Option.some.injEq,Prod.mk.injEq] at H
    obtain ⟨rfl,rfl,rfl⟩:=H
    obtain ⟨hcz27_0,hcz27_1,hcz27_2,hcz27_3,hcz27_4,hfz27_0,hfz27_1,hfz27_2,hfz27_3,hfz27_4⟩:=zq5 BK29.out
    go_wp2_with (first|((with_reducible refine gate_callee (f:=78) rfl ?_);refine goesL_ (some 32) rfl rfl Tryz.func78 zb10 rfl #[.slice A1_3 l1_3.length c1_3,.int .i64 a1_2] rfl zb1 ?_;(with_reducible refine (frame_Request.calls kj2 _ _ l1_3 a1_2 t30 t34 t31 _ ?side1 ?side2 A12.out).mono ?_);(case side1=>exact zb25);(case side2=>exact HC1_3.out);rintro e w28 ⟨rfl,hb⟩;(try clear A12);refine ⟨_,rfl,?_⟩;replace BK29:=Aside0.mk (blk_below (g:=gb29) (o:=.cells #[.int .i64 a1_0,.string a1_1,.int .i64 a1_2,.slice A1_3 l1_3.length c1_3,.slice A1_4 l1_4.length c1_4] 62 (0,0)) zb24 hb);replace HB:=Aside0.mk (below_step zb13 hb);(try clear hb)))
    go_ret3
    exact ⟨zb2,zb13⟩
   rw [if_pos c13] at H
   have c13b0:=beq_iff_eq.mpr c13
   have c13b1:=bne_eq_false_iff_eq.mpr c13
   clear c13
   by_cases c14:t34=true
   ·subst c14
    rw [if_pos rfl] at H
    simp only [Option.some.injEq,Prod.mk.injEq] at H
    obtain ⟨rfl,rfl,rfl⟩:=H
    obtain ⟨hcz15_0,hcz15_1,hcz15_2,hcz15_3,hcz15_4,hfz15_0,hfz15_1,hfz15_2,hfz15_3,hfz15_4⟩:=zq5 BK29.out
    go_wp2_with (first|((with_reducible refine gate_callee (f:=78) rfl ?_);refine goesL_ (some 32) rfl rfl Tryz.func78 zb10 rfl #[.slice A1_3 l1_3.length c1_3,.int .i64 a1_2] rfl zb1 ?_;(with_reducible refine (frame_Request.calls kj2 _ _ l1_3 a1_2 t30 true t31 _ ?side1 ?side2 A12.out).mono ?_);(case side1=>exact zb25);(case side2=>exact HC1_3.out);rintro e w16 ⟨rfl,hb⟩;(try clear A12);refine ⟨_,rfl,?_⟩;replace BK29:=Aside0.mk (blk_below (g:=gb29) (o:=.cells #[.int .i64 a1_0,.string a1_1,.int .i64 a1_2,.slice A1_3 l1_3.length c1_3,.slice A1_4 l1_4.length c1_4] 62 (0,0)) zb24 hb);replace HB:=Aside0.mk (below_step zb13 hb);(try clear hb)))
    go_ret3
    exact ⟨zb2,zb13⟩
   replace c14:=Bool.eq_false_iff.mpr c14
   subst c14
   rw [if_neg (show ¬ (false=true) by decide)] at H
   replace H:=Option.bind_eq_some_iff.mp H
   obtain ⟨t33,A37,H⟩:=H
   try dsimp only at H
   have A17:=Aside0.mk A37
   clear A37
   by_cases c18:t33=true
   ·subst c18
    rw [if_pos rfl] at H
    simp only [Option.some.injEq,Prod.mk.injEq] at H
    obtain ⟨rfl,rfl,rfl⟩:=H
    obtain ⟨hcz19_0,hcz19_1,hcz19_2,hcz19_3,hcz19_4,hfz19_0,hfz19_1,hfz19_2,hfz19_3,hfz19_4⟩:=zq5 BK29.out
    go_wp2_with (first|((with_reducible refine gate_callee (f:=78) rfl ?_);refine goesL_ (some 32) rfl rfl Tryz.func78 zb10 rfl #[.slice A1_3 l1_3.length c1_3,.int .i64 a1_2] rfl zb1 ?_;(with_reducible refine (frame_Request.calls kj2 _ _ l1_3 a1_2 t30 false t31 _ ?side1 ?side2 A12.out).mono ?_);(case side1=>exact zb25);(case side2=>exact HC1_3.out);rintro e w20 ⟨rfl,hb⟩;(try clear A12);refine ⟨_,rfl,?_⟩;replace BK29:=Aside0.mk (blk_below (g:=gb29) (o:=.cells #[.int .i64 a1_0,.string a1_1,.int .i64 a1_2,.slice A1_3 l1_3.length c1_3,.slice A1_4 l1_4.length c1_4] 62 (0,0)) zb24 hb);replace HB:=Aside0.mk (below_step zb13 hb);(try clear hb);obtain ⟨hcz21_0,hcz21_1,hcz21_2,hcz21_3,hcz21_4,hfz21_0,hfz21_1,hfz21_2,hfz21_3,hfz21_4⟩:=zq5 BK29.out)|((with_reducible refine gate_callee (f:=115) rfl ?_);refine goesL_ (some 44) rfl rfl Tryz.func115 zb10 rfl #[.slice A1_3 l1_3.length c1_3,.string (⟨#[67,111,110,116,101,110,116,45,76,101,110,103,116,104]⟩:ByteArray)] rfl zb1 ?_;(with_reducible refine (frame_there.calls kj2 _ _ l1_3 (⟨#[67,111,110,116,101,110,116,45,76,101,110,103,116,104]⟩:ByteArray) true _ ?side1 ?side2 A17.out).mono ?_);(case side1=>exact zb25);(case side2=>exact HC1_3.out);rintro e w22 ⟨rfl,hb⟩;(try clear A17);refine ⟨_,rfl,?_⟩;replace BK29:=Aside0.mk (blk_below (g:=gb29) (o:=.cells #[.int .i64 a1_0,.string a1_1,.int .i64 a1_2,.slice A1_3 l1_3.length c1_3,.slice A1_4 l1_4.length c1_4] 62 (0,0)) zb24 hb);replace HB:=Aside0.mk (below_step zb13 hb);(try clear hb)))
    go_ret3
    exact ⟨zb2,zb13⟩
   ·replace c18:=Bool.eq_false_iff.mpr c18
    subst c18
    rw [if_neg (show ¬ (false=true) by decide)] at H
    simp only [Option.some.injEq,Prod.mk.injEq] at H
    obtain ⟨rfl,rfl,rfl⟩:=H
    obtain ⟨hcz23_0,hcz23_1,hcz23_2,hcz23_3,hcz23_4,hfz23_0,hfz23_1,hfz23_2,hfz23_3,hfz23_4⟩:=zq5 BK29.out
    go_wp2_with (first|((with_reducible refine gate_callee (f:=78) rfl ?_);refine goesL_ (some 32) rfl rfl Tryz.func78 zb10 rfl #[.slice A1_3 l1_3.length c1_3,.int .i64 a1_2] rfl zb1 ?_;(with_reducible refine (frame_Request.calls kj2 _ _ l1_3 a1_2 t30 false t31 _ ?side1 ?side2 A12.out).mono ?_);(case side1=>exact zb25);(case side2=>exact HC1_3.out);rintro e w24 ⟨rfl,hb⟩;(try clear A12);refine ⟨_,rfl,?_⟩;replace BK29:=Aside0.mk (blk_below (g:=gb29) (o:=.cells #[.int .i64 a1_0,.string a1_1,.int .i64 a1_2,.slice A1_3 l1_3.length c1_3,.slice A1_4 l1_4.length c1_4] 62 (0,0)) zb24 hb);replace HB:=Aside0.mk (below_step zb13 hb);(try clear hb);obtain ⟨hcz25_0,hcz25_1,hcz25_2,hcz25_3,hcz25_4,hfz25_0,hfz25_1,hfz25_2,hfz25_3,hfz25_4⟩:=zq5 BK29.out)|((with_reducible refine gate_callee (f:=115) rfl ?_);refine goesL_ (some 44) rfl rfl Tryz.func115 zb10 rfl #[.slice A1_3 l1_3.length c1_3,.string (⟨#[67,111,110,116,101,110,116,45,76,101,110,103,116,104]⟩:ByteArray)] rfl zb1 ?_;(with_reducible refine (frame_there.calls kj2 _ _ l1_3 (⟨#[67,111,110,116,101,110,116,45,76,101,110,103,116,104]⟩:ByteArray) false _ ?side1 ?side2 A17.out).mono ?_);(case side1=>exact zb25);(case side2=>exact HC1_3.out);rintro e w26 ⟨rfl,hb⟩;(try clear A17);refine ⟨_,rfl,?_⟩;replace BK29:=Aside0.mk (blk_below (g:=gb29) (o:=.cells #[.int .i64 a1_0,.string a1_1,.int .i64 a1_2,.slice A1_3 l1_3.length c1_3,.slice A1_4 l1_4.length c1_4] 62 (0,0)) zb24 hb);replace HB:=Aside0.mk (below_step zb13 hb);(try clear hb)))
    go_ret3
    exact ⟨zb2,zb13⟩
def scrub_Response.j0:Nat → Bool → Bool → Int → ByteArray → Int → List (S36) → List Int → Int → ByteArray → Int → List (S36) → Option (Int × ByteArray × Int × (List (S36)) × List Int)
 | 0,_,_,_,_,_,_,_,_,_,_,_=>none
 | k + 1,x2,x31,x762000,x762001,x762002,x762003,x762004,x767000,x767001,x767002,x767003=>if x31=true then ((bytes_Clone.f x762004).bind fun t770=>((scrub_length.f (x762004.length:Int)).bind fun bt773=>(if x767003.length < 4398046511104 then ((some (x767003 ++ [(⟨bt773.1,bt773.2⟩:S36)]:List (S36))).bind fun y775=>(if x2=true then ((scrub_closing.f).bind fun bt778=>(if y775.length < 4398046511104 then (some (x767000,x767001,x767002,(y775 ++ [(⟨bt778.1,bt778.2⟩:S36)]),t770)) else (none))) else (some (x767000,x767001,x767002,y775,t770)))) else (none)))) else (if x2=true then ((scrub_closing.f).bind fun bt783=>(if x767003.length < 4398046511104 then (some (x767000,x767001,x767002,(x767003 ++ [(⟨bt783.1,bt783.2⟩:S36)]),([]:List Int))) else (none))) else (some (x767000,x767001,x767002,x767003,([]:List Int))))
def scrub_Response.f (k:Nat) (a0_0:Int) (a0_1:ByteArray) (a0_2:Int) (l0_3:List (S36)) (l0_4:List Int) (a1:ByteArray) (a2:Bool):Option (Int × ByteArray × Int × (List (S36)) × List Int):=(scrub_onward.f k l0_3).bind fun t763=>((frame_Response.f k a1 a0_0 a0_1 a0_2 l0_3 l0_4).bind fun bt767=>(if bt767.2.2=true then (scrub_Response.j0 k a2 (bt767.1 != 0) a0_0 a0_1 a0_2 l0_3 l0_4 a0_0 a0_1 1 t763) else (scrub_Response.j0 k a2 true a0_0 a0_1 a0_2 l0_3 l0_4 a0_0 a0_1 1 t763)))
def scrub_Response.T1:Bool × List (List Nat × List Nat):=(true,[([],[]),([0],[0]),([],[]),([2],[2]),([],[]),([4],[4]),([5],[5]),([1,3,6],[1,3,6]),([],[]),([8,7,6,0,1,2,3,4,5,6,7,8],[7,8])])
def scrub_Response.B1:List Nat:=[0,1,0,4,0,16,48,127,0,511]
theorem scrub_Response.tab1:rtab .any (opsOf Tryz.f40 1)=scrub_Response.T1:=by kernel_rfl
theorem scrub_Response.bits1:waitsOk scrub_Response.T1.2 scrub_Response.B1=true:=by kernel_rfl
def scrub_Response.T5:Bool × List (List Nat × List Nat):=(true,[([],[]),([0],[0]),([],[]),([2],[2]),([3],[3]),([4],[4]),([5],[5]),([1,6,5],[1,6]),([0,1,2,3,4,5,6,7],[]),([8,7,7,0,1,2,3,4,5,6,7],[7,8])])
def scrub_Response.B5:List Nat:=[0,1,0,4,12,28,60,127,255,511]
theorem scrub_Response.tab5:rtab .any (opsOf Tryz.f40 5)=scrub_Response.T5:=by kernel_rfl
theorem scrub_Response.bits5:waitsOk scrub_Response.T5.2 scrub_Response.B5=true:=by kernel_rfl
set_option maxHeartbeats 8000000 in
set_option maxRecDepth 100000 in
theorem scrub_Response.calls (k:Nat) (a0_0:Int) (a0_1:ByteArray) (a0_2:Int) (A0_3:Option Addr) (c0_3:Nat) (l0_3:List (S36)) (A0_4:Option Addr) (c0_4:Nat) (l0_4:List Int) (a1:ByteArray) (a2:Bool) (r1:Int) (r2:ByteArray) (r3:Int) (r4:List (S36)) (r5:List Int) (w:World) (hr0_3:Kd.C k36 w A0_3 l0_3.length l0_3) (hc0_3:l0_3.length ≤ c0_3) (hr0_4:Kd.C (Kd.int .u8) w A0_4 l0_4.length l0_4) (hc0_4:l0_4.length ≤ c0_4) (h:scrub_Response.f k a0_0 a0_1 a0_2 l0_3 l0_4 a1 a2=some (r1,r2,r3,r4,r5)) (ht:Tabs w) :
 Calls Tryz.prog 40 #[.agg #[.int .i64 a0_0,.string a0_1,.int .i64 a0_2,.slice A0_3 l0_3.length c0_3,.slice A0_4 l0_4.length c0_4],.string a1,.bool a2] w fun e w' => ∃ v3_ v4_:Value,e = .returned (.agg #[.int .i64 r1,.string r2,.int .i64 r3,v3_,v4_])∧Kd.R k36 36 w' w.heap.size (fun _=>True) v3_ r4∧Kd.R (Kd.int .u8) 5 w' w.heap.size (fun _=>True) v4_ r5∧Below w.heap.size w w' := by
 have HTB:=Aside0.mk ht
 clear ht
 have hu62:=Tryz.underlying62
 have HR0_3:=Aside0.mk hr0_3
 have HC0_3:=Aside0.mk hc0_3
 clear hr0_3 hc0_3
 have HR0_4:=Aside0.mk hr0_4
 have HC0_4:=Aside0.mk hc0_4
 clear hr0_4 hc0_4
 have HB:=Aside0.mk (Below.refl w.heap.size w)
 unfold scrub_Response.f at h
 have H:=h
 clear h
 replace H:=Option.bind_eq_some_iff.mp H
 obtain ⟨t90,A40,H⟩:=H
 try dsimp only at H
 have A4:=Aside0.mk A40
 clear A40
 replace H:=Option.bind_eq_some_iff.mp H
 obtain ⟨⟨t767,t768,t769⟩,A50,H⟩:=H
 try dsimp only at H
 have A5:=Aside0.mk A50
 clear A50
 have HC6:=Aside0.mk H
 clear H
 go_enter Tryz.func40,Tryz.ntmps40
 try go_wp2_with (first|((with_reducible refine gate_dst (N:=3) rfl ?_);refine box_event rfl (N:=3) rfl (cs:=#[.int .i64 a0_0,.string a0_1,.int .i64 a0_2,.slice A0_3 l0_3.length c0_3,.slice A0_4 l0_4.length c0_4]) (t:=62) zS ?_;intro gb87 hg w7 hbox hb;have GW87:=zG hg zb0;have GE87:=GW87;have BK87:=Aside0.mk hbox;replace HB:=Aside0.mk (below_step zb0 hb);clear hb hbox hg)|((with_reducible refine gate_dst (N:=6) rfl ?_);refine box_event rfl (N:=6) rfl (cs:=#[.int .i64 0,.string (⟨#[]⟩:ByteArray),.int .i64 0,.slice none 0 0,.slice none 0 0]) (t:=62) zS ?_;intro gb88 hg w8 hbox hb;have BK88:=Aside0.mk (hbox);have GW88:=zG hg zb76;have GE88:=GW88;replace HB:=Aside0.mk (below_step zb76 hb);have NB87_762:=Aside0.mk ((by rw [hg];exact Nat.ne_of_lt (blk_lt (g:=gb87) (o:=.cells #[.int .i64 a0_0,.string a0_1,.int .i64 a0_2,.slice A0_3 l0_3.length c0_3,.slice A0_4 l0_4.length c0_4] 62 (0,0)) zb7):gb87 ≠ gb88));have NB88_761:=Aside0.mk ((by rw [hg];exact Nat.ne_of_gt (blk_lt (g:=gb87) (o:=.cells #[.int .i64 a0_0,.string a0_1,.int .i64 a0_2,.slice A0_3 l0_3.length c0_3,.slice A0_4 l0_4.length c0_4] 62 (0,0)) zb7):gb88 ≠ gb87));replace BK87:=Aside0.mk (blk_below (g:=gb87) (o:=.cells #[.int .i64 a0_0,.string a0_1,.int .i64 a0_2,.slice A0_3 l0_3.length c0_3,.slice A0_4 l0_4.length c0_4] 62 (0,0)) zb7 hb);clear hb hbox hg))
 replace BK87:=Aside0.mk (blk_drew BK87.out)
 replace BK88:=Aside0.mk (blk_drew BK88.out)
 replace HB:=Aside0.mk (below_drew1 HB.out)
 refine start_ (n:=10) (S:=fun w' => w'.cell? ⟨gb87,0,none⟩=some (.int .i64 a0_0)∧w'.cell? ⟨gb87,1,none⟩=some (.string a0_1)∧w'.cell? ⟨gb87,2,none⟩=some (.int .i64 a0_2)∧w'.cell? ⟨gb87,3,none⟩=some (.slice A0_3 l0_3.length c0_3)∧w'.cell? ⟨gb87,4,none⟩=some (.slice A0_4 l0_4.length c0_4)) (ds:=[]) (zl 10 0) zb10 rfl rfl ⟨(blk_cell BK87.out 0).trans rfl,(blk_cell BK87.out 1).trans rfl,(blk_cell BK87.out 2).trans rfl,(blk_cell BK87.out 3).trans rfl,(blk_cell BK87.out 4).trans rfl⟩ (fun hHeld=>?_);refine with_tabW scrub_Response.tab1 scrub_Response.bits1 (fun HT_ HW_=>?_)
 generalize w8.drew=w9 at BK87 BK88 HB hHeld ⊢
 refine zpu 0 (N:=some 11) (zl 10 1) HT_.out rfl rfl ?_
 refine zpu 2 (N:=some 13) (zl 10 5) HT_.out rfl rfl ?_
 refine zpu 4 (N:=some 15) (zl 10 21) HT_.out rfl rfl ?_
 refine take_ (i:=1) (N:=some 12) (v:=?_) (a' := ?_) (zl 10 23) rfl rfl (take_ofW HT_.out HW_.out zb10) (fun _ _ _ h=>h) (Or.inl ⟨zb41,?_⟩) hHeld ?_ ?_
 rotate_left
 ·rintro w' ⟨s0,s1,s2,s3,s4⟩;go_simp;with_reducible rfl
 rotate_left
 ·simp only [Act.put,zqA,zqB,zqC,i64_w,i32_w];rfl
 refine take_ (i:=3) (N:=some 14) (v:=?_) (a' := ?_) (zl 10 31) rfl rfl (take_ofW HT_.out HW_.out zb10) (fun _ _ _ h=>h) (Or.inl ⟨zb41,?_⟩) hHeld ?_ ?_
 rotate_left
 ·rintro w' ⟨s0,s1,s2,s3,s4⟩;go_simp;with_reducible rfl
 rotate_left
 ·simp only [Act.put,zqA,zqB,zqC,i64_w,i32_w];rfl
 refine take_ (i:=5) (N:=some 16) (v:=?_) (a' := ?_) (zl 10 63) rfl rfl (take_ofW HT_.out HW_.out zb10) (fun _ _ _ h=>h) (Or.inl ⟨zb41,?_⟩) hHeld ?_ ?_
 rotate_left
 ·rintro w' ⟨s0,s1,s2,s3,s4⟩;go_simp;with_reducible rfl
 rotate_left
 ·simp only [Act.put,zqA,zqB,zqC,i64_w,i32_w];rfl
 refine join_ (σ:=Value × Nat) 1 (zl 10 511) (fun s_=>[(17,s_.1),(7,.pointer (some ⟨s_.2,0,none⟩)),(18,.agg #[.int .i64 a0_0,.string a0_1,.int .i64 1,s_.1,.slice none 0 0])]) (fun s_ w' => (w'.cell? ⟨gb87,0,none⟩=some (.int .i64 a0_0)∧w'.cell? ⟨gb87,1,none⟩=some (.string a0_1)∧w'.cell? ⟨gb87,2,none⟩=some (.int .i64 a0_2)∧w'.cell? ⟨gb87,3,none⟩=some (.slice A0_3 l0_3.length c0_3)∧w'.cell? ⟨gb87,4,none⟩=some (.slice A0_4 l0_4.length c0_4))∧(Kd.R k36 36 w' w.heap.size (fun _=>True) s_.1 t90)∧(w'.heap[gb87]? = some (.cells #[.int .i64 a0_0,.string a0_1,.int .i64 a0_2,.slice A0_3 l0_3.length c0_3,.slice A0_4 l0_4.length c0_4] 62 (0,0)))∧(w'.heap[gb88]? = some (.cells #[.int .i64 0,.string (⟨#[]⟩:ByteArray),.int .i64 0,.slice none 0 0,.slice none 0 0] 62 (0,0)))∧(w'.heap[s_.2]? = some (.cells #[.int .i64 0,.string (⟨#[]⟩:ByteArray),.int .i64 0,.slice none 0 0,.slice none 0 0] 62 (0,0)))∧(w.heap.size ≤ s_.2)∧(w.heap.size ≤ s_.2)∧(gb87 ≠ s_.2)∧(s_.2 ≠ gb87)∧(gb88 ≠ s_.2)∧(s_.2 ≠ gb88)∧(Below w.heap.size w w')) ?_ ?_
 rotate_left
 ·intro hCont
  refine two_ (i:=6) (j:=8) (Ni:=some 17) (Nj:=some 7) (zl 10 127) (zl 10 319) rfl rfl rfl rfl (two_of HT_.out zb10) zb27 zb27 (fun K hK=>?_) (fun K hK=>?_)
  ·skip
   refine goes_ Tryz.func60 zb10 rfl #[.slice A0_3 l0_3.length c0_3] zb41 rfl rfl zb1 ?_
   with_reducible refine (scrub_onward.calls k _ _ l0_3 t90 _ ?side1 ?side2 A4.out).mono ?_
   (case side1=>exact zb62)
   (case side2=>exact HC0_3.out)
   rintro e w10 ⟨v764,rfl,ho0,hb⟩
   refine ⟨_,rfl,?_⟩
   have n0_:=Aside0.mk (Kd.R_lower ho0 (below_size zb17))
   have n1_:=Aside0.mk (blk_below (g:=gb87) (o:=.cells #[.int .i64 a0_0,.string a0_1,.int .i64 a0_2,.slice A0_3 l0_3.length c0_3,.slice A0_4 l0_4.length c0_4] 62 (0,0)) zb7 hb)
   have n2_:=Aside0.mk (blk_below (g:=gb88) (o:=.cells #[.int .i64 0,.string (⟨#[]⟩:ByteArray),.int .i64 0,.slice none 0 0,.slice none 0 0] 62 (0,0)) zb12 hb)
   have n3_:=Aside0.mk (below_step zb17 hb)
   clear BK87 BK88 HB
   have HO97:=n0_
   have BK87:=n1_
   have BK88:=n2_
   have HB:=n3_
   clear n0_ n1_ n2_ n3_
   (try clear hb)
   (try clear hb2)
   (try clear hk)
   (try clear hi)
   (try clear ho0)
   obtain ⟨Ao11,co11,eo11⟩:=Kd.R_slice HO97.out
   (first|subst eo11|(injection eo11 with f1_ f2_ f3_;have f4_:=f1_.symm;have f5_:=f3_.symm;clear f1_ f2_ f3_;subst f4_;subst f5_))
   refine hK.out _ _ ⟨(blk_cell BK87.out 0).trans rfl,(blk_cell BK87.out 1).trans rfl,(blk_cell BK87.out 2).trans rfl,(blk_cell BK87.out 3).trans rfl,(blk_cell BK87.out 4).trans rfl⟩ (fun hHeld=>?_)
   clear hK K
   refine norm_ (a' := ?_) ?_ ?_
   rotate_left
   ·show Act.put _ (some 17) _=_
    simp only [Act.put,zqA,zqB,zqC,i64_w,i32_w]
    rfl
   refine zpu 7 (N:=some 18) (zl 10 255) HT_.out rfl rfl ?_
   refine one_ (i:=8) (N:=some 7) (zl 10 511) rfl rfl (one_of HT_.out zb10) zb27 (fun K hK=>?_)
   refine box_step ?hg (N:=7) ?hd (cs:=#[.int .i64 0,.string (⟨#[]⟩:ByteArray),.int .i64 0,.slice none 0 0,.slice none 0 0]) (t:=62) ?hr ?_;(case hd=>rfl);(case hg=>rfl);(case hr=>first|(go_simp;done)|(go_simp;rfl))
   intro gb86 hg w12 hbox hb
   have n0_:=Aside0.mk (Kd.R_below zb61 hb)
   have n1_:=Aside0.mk (blk_below (g:=gb87) (o:=.cells #[.int .i64 a0_0,.string a0_1,.int .i64 a0_2,.slice A0_3 l0_3.length c0_3,.slice A0_4 l0_4.length c0_4] 62 (0,0)) zb7 hb)
   have n2_:=Aside0.mk (blk_below (g:=gb88) (o:=.cells #[.int .i64 0,.string (⟨#[]⟩:ByteArray),.int .i64 0,.slice none 0 0,.slice none 0 0] 62 (0,0)) zb12 hb)
   have n3_:=Aside0.mk (below_step zb17 hb)
   have n4_:=Aside0.mk (hbox)
   have n5_:=zG hg zb17
   have n6_:=zG hg zb17
   have n7_:=Aside0.mk ((by rw [hg];exact Nat.ne_of_lt (blk_lt (g:=gb87) (o:=.cells #[.int .i64 a0_0,.string a0_1,.int .i64 a0_2,.slice A0_3 l0_3.length c0_3,.slice A0_4 l0_4.length c0_4] 62 (0,0)) zb7):gb87 ≠ gb86))
   have n8_:=Aside0.mk ((by rw [hg];exact Nat.ne_of_gt (blk_lt (g:=gb87) (o:=.cells #[.int .i64 a0_0,.string a0_1,.int .i64 a0_2,.slice A0_3 l0_3.length c0_3,.slice A0_4 l0_4.length c0_4] 62 (0,0)) zb7):gb86 ≠ gb87))
   have n9_:=Aside0.mk ((by rw [hg];exact Nat.ne_of_lt (blk_lt (g:=gb88) (o:=.cells #[.int .i64 0,.string (⟨#[]⟩:ByteArray),.int .i64 0,.slice none 0 0,.slice none 0 0] 62 (0,0)) zb12):gb88 ≠ gb86))
   have n10_:=Aside0.mk ((by rw [hg];exact Nat.ne_of_gt (blk_lt (g:=gb88) (o:=.cells #[.int .i64 0,.string (⟨#[]⟩:ByteArray),.int .i64 0,.slice none 0 0,.slice none 0 0] 62 (0,0)) zb12):gb86 ≠ gb88))
   clear HO97 BK87 BK88 HB
   have HO97:=n0_
   have BK87:=n1_
   have BK88:=n2_
   have HB:=n3_
   have BK86:=n4_
   have GW86:=n5_
   have GE86:=n6_
   have NB87_766:=n7_
   have NB86_761:=n8_
   have NB88_766:=n9_
   have NB86_762:=n10_
   clear n0_ n1_ n2_ n3_ n4_ n5_ n6_ n7_ n8_ n9_ n10_ hb hbox hg
   refine hK.out _ _ ⟨(blk_cell BK87.out 0).trans rfl,(blk_cell BK87.out 1).trans rfl,(blk_cell BK87.out 2).trans rfl,(blk_cell BK87.out 3).trans rfl,(blk_cell BK87.out 4).trans rfl⟩ (fun hHeld=>?_)
   clear hK K
   refine norm_ (a' := ?_) ?_ ?_
   rotate_left
   ·show Act.put _ (some 7) _=_
    simp only [Act.put,zqA,zqB,zqC,i64_w,i32_w]
    rfl
   exact norm_ (by simp only [putAll,Act.put,zqA,zqB,zqC]) (hCont (.slice Ao11 t90.length co11,gb86) _ ⟨hHeld,zb61,zb7,zb12,zb9,GW86.out,GE86.out,NB87_766.out,NB86_761.out,NB88_766.out,NB86_762.out,zb3⟩)
  skip
  refine box_step ?hg (N:=7) ?hd (cs:=#[.int .i64 0,.string (⟨#[]⟩:ByteArray),.int .i64 0,.slice none 0 0,.slice none 0 0]) (t:=62) ?hr ?_;(case hd=>rfl);(case hg=>rfl);(case hr=>first|(go_simp;done)|(go_simp;rfl))
  intro gb86 hg w10 hbox hb
  have n0_:=Aside0.mk (blk_below (g:=gb87) (o:=.cells #[.int .i64 a0_0,.string a0_1,.int .i64 a0_2,.slice A0_3 l0_3.length c0_3,.slice A0_4 l0_4.length c0_4] 62 (0,0)) zb7 hb)
  have n1_:=Aside0.mk (blk_below (g:=gb88) (o:=.cells #[.int .i64 0,.string (⟨#[]⟩:ByteArray),.int .i64 0,.slice none 0 0,.slice none 0 0] 62 (0,0)) zb12 hb)
  have n2_:=Aside0.mk (below_step zb17 hb)
  have n3_:=Aside0.mk (hbox)
  have n4_:=zG hg zb17
  have n5_:=zG hg zb17
  have n6_:=Aside0.mk ((by rw [hg];exact Nat.ne_of_lt (blk_lt (g:=gb87) (o:=.cells #[.int .i64 a0_0,.string a0_1,.int .i64 a0_2,.slice A0_3 l0_3.length c0_3,.slice A0_4 l0_4.length c0_4] 62 (0,0)) zb7):gb87 ≠ gb86))
  have n7_:=Aside0.mk ((by rw [hg];exact Nat.ne_of_gt (blk_lt (g:=gb87) (o:=.cells #[.int .i64 a0_0,.string a0_1,.int .i64 a0_2,.slice A0_3 l0_3.length c0_3,.slice A0_4 l0_4.length c0_4] 62 (0,0)) zb7):gb86 ≠ gb87))
  have n8_:=Aside0.mk ((by rw [hg];exact Nat.ne_of_lt (blk_lt (g:=gb88) (o:=.cells #[.int .i64 0,.string (⟨#[]⟩:ByteArray),.int .i64 0,.slice none 0 0,.slice none 0 0] 62 (0,0)) zb12):gb88 ≠ gb86))
  have n9_:=Aside0.mk ((by rw [hg];exact Nat.ne_of_gt (blk_lt (g:=gb88) (o:=.cells #[.int .i64 0,.string (⟨#[]⟩:ByteArray),.int .i64 0,.slice none 0 0,.slice none 0 0] 62 (0,0)) zb12):gb86 ≠ gb88))
  clear BK87 BK88 HB
  have BK87:=n0_
  have BK88:=n1_
  have HB:=n2_
  have BK86:=n3_
  have GW86:=n4_
  have GE86:=n5_
  have NB87_766:=n6_
  have NB86_761:=n7_
  have NB88_766:=n8_
  have NB86_762:=n9_
  clear n0_ n1_ n2_ n3_ n4_ n5_ n6_ n7_ n8_ n9_ hb hbox hg
  refine hK.out _ _ ⟨(blk_cell BK87.out 0).trans rfl,(blk_cell BK87.out 1).trans rfl,(blk_cell BK87.out 2).trans rfl,(blk_cell BK87.out 3).trans rfl,(blk_cell BK87.out 4).trans rfl⟩ (fun hHeld=>?_)
  clear hK K
  refine norm_ (a' := ?_) ?_ ?_
  rotate_left
  ·show Act.put _ (some 7) _=_
   simp only [Act.put,zqA,zqB,zqC,i64_w,i32_w]
   rfl
  refine one_ (i:=6) (N:=some 17) (zl 10 383) rfl rfl (one_of HT_.out zb10) zb27 (fun K hK=>?_)
  refine goes_ Tryz.func60 zb10 rfl #[.slice A0_3 l0_3.length c0_3] zb41 rfl rfl zb1 ?_
  with_reducible refine (scrub_onward.calls k _ _ l0_3 t90 _ ?side1 ?side2 A4.out).mono ?_
  (case side1=>exact zb62)
  (case side2=>exact HC0_3.out)
  rintro e w11 ⟨v764,rfl,ho0,hb⟩
  refine ⟨_,rfl,?_⟩
  have n0_:=Aside0.mk (Kd.R_lower ho0 (below_size zb3))
  have n1_:=Aside0.mk (blk_below (g:=gb87) (o:=.cells #[.int .i64 a0_0,.string a0_1,.int .i64 a0_2,.slice A0_3 l0_3.length c0_3,.slice A0_4 l0_4.length c0_4] 62 (0,0)) zb7 hb)
  have n2_:=Aside0.mk (blk_below (g:=gb88) (o:=.cells #[.int .i64 0,.string (⟨#[]⟩:ByteArray),.int .i64 0,.slice none 0 0,.slice none 0 0] 62 (0,0)) zb12 hb)
  have n3_:=Aside0.mk (blk_below (g:=gb86) (o:=.cells #[.int .i64 0,.string (⟨#[]⟩:ByteArray),.int .i64 0,.slice none 0 0,.slice none 0 0] 62 (0,0)) zb9 hb)
  have n4_:=Aside0.mk (below_step zb3 hb)
  clear BK87 BK88 BK86 HB
  have HO97:=n0_
  have BK87:=n1_
  have BK88:=n2_
  have BK86:=n3_
  have HB:=n4_
  clear n0_ n1_ n2_ n3_ n4_
  (try clear hb)
  (try clear hb2)
  (try clear hk)
  (try clear hi)
  (try clear ho0)
  obtain ⟨Ao12,co12,eo12⟩:=Kd.R_slice HO97.out
  (first|subst eo12|(injection eo12 with f1_ f2_ f3_;have f4_:=f1_.symm;have f5_:=f3_.symm;clear f1_ f2_ f3_;subst f4_;subst f5_))
  refine hK.out _ _ ⟨(blk_cell BK87.out 0).trans rfl,(blk_cell BK87.out 1).trans rfl,(blk_cell BK87.out 2).trans rfl,(blk_cell BK87.out 3).trans rfl,(blk_cell BK87.out 4).trans rfl⟩ (fun hHeld=>?_)
  clear hK K
  refine norm_ (a' := ?_) ?_ ?_
  rotate_left
  ·show Act.put _ (some 17) _=_
   simp only [Act.put,zqA,zqB,zqC,i64_w,i32_w]
   rfl
  refine zpu 7 (N:=some 18) (zl 10 511) HT_.out rfl rfl ?_
  exact norm_ (by simp only [putAll,Act.put,zqA,zqB,zqC]) (hCont (.slice Ao12 t90.length co12,gb86) _ ⟨hHeld,zb61,zb7,zb12,zb9,GW86.out,GE86.out,NB87_766.out,NB86_761.out,NB88_766.out,NB86_762.out,zb3⟩)
 rintro ⟨v764,gb86⟩ w13 ⟨hS_,h0_,h1_,h2_,h3_,h4_,h5_,h6_,h7_,h8_,h9_,h10_⟩
 have n0_:Aside0 (Kd.R k36 36 w13 w.heap.size (fun _=>True) v764 t90):=⟨h0_⟩
 have n1_:Aside0 (w13.heap[gb87]? = some (.cells #[.int .i64 a0_0,.string a0_1,.int .i64 a0_2,.slice A0_3 l0_3.length c0_3,.slice A0_4 l0_4.length c0_4] 62 (0,0))):=⟨h1_⟩
 have n2_:Aside0 (w13.heap[gb88]? = some (.cells #[.int .i64 0,.string (⟨#[]⟩:ByteArray),.int .i64 0,.slice none 0 0,.slice none 0 0] 62 (0,0))):=⟨h2_⟩
 have n3_:Aside0 (w13.heap[gb86]? = some (.cells #[.int .i64 0,.string (⟨#[]⟩:ByteArray),.int .i64 0,.slice none 0 0,.slice none 0 0] 62 (0,0))):=⟨h3_⟩
 have n4_:Aside0 (w.heap.size ≤ gb86):=⟨h4_⟩
 have n5_:Aside0 (w.heap.size ≤ gb86):=⟨h5_⟩
 have n6_:Aside0 (gb87 ≠ gb86):=⟨h6_⟩
 have n7_:Aside0 (gb86 ≠ gb87):=⟨h7_⟩
 have n8_:Aside0 (gb88 ≠ gb86):=⟨h8_⟩
 have n9_:Aside0 (gb86 ≠ gb88):=⟨h9_⟩
 have n10_:Aside0 (Below w.heap.size w w13):=⟨h10_⟩
 clear BK87 BK88 HB h0_ h1_ h2_ h3_ h4_ h5_ h6_ h7_ h8_ h9_ h10_
 have HO97:=n0_
 have BK87:=n1_
 have BK88:=n2_
 have BK86:=n3_
 have GW86:=n4_
 have GE86:=n5_
 have NB87_766:=n6_
 have NB86_761:=n7_
 have NB88_766:=n8_
 have NB86_762:=n9_
 have HB:=n10_
 clear n0_ n1_ n2_ n3_ n4_ n5_ n6_ n7_ n8_ n9_ n10_
 have hHeld:w13.cell? ⟨gb87,0,none⟩=some (.int .i64 a0_0)∧w13.cell? ⟨gb87,1,none⟩=some (.string a0_1)∧w13.cell? ⟨gb87,2,none⟩=some (.int .i64 a0_2)∧w13.cell? ⟨gb87,3,none⟩=some (.slice A0_3 l0_3.length c0_3)∧w13.cell? ⟨gb87,4,none⟩=some (.slice A0_4 l0_4.length c0_4):=hS_
 obtain ⟨Ao14,co14,eo14⟩:=Kd.R_slice HO97.out
 (first|subst eo14|(injection eo14 with f1_ f2_ f3_;have f4_:=f1_.symm;have f5_:=f3_.symm;clear f1_ f2_ f3_;subst f4_;subst f5_))
 refine norm_ (a' := ?_) ?_ ?_
 rotate_left
 ·simp only [putAll,Act.put,zqA,zqB,zqC];rfl
 refine one_ (i:=9) (N:=none) (zl 10 1023) rfl rfl (one_of HT_.out zb10) zb27 (fun K hK=>?_)
 have hs15:w13.cell? ⟨gb86,0,none⟩=some (.int .i64 0):=(blk_cell BK86.out 0).trans rfl
 have hfs15:=blk_frozen BK86.out 0
 have hns15_0:=NB87_766.out
 have hns15_1:=NB88_766.out
 have hms15_0:=NB86_761.out
 have hms15_1:=NB86_762.out
 have hs16:w13.cell? ⟨gb86,1,none⟩=some (.string (⟨#[]⟩:ByteArray)):=(blk_cell BK86.out 1).trans rfl
 have hfs16:=blk_frozen BK86.out 1
 have hns16_0:=NB87_766.out
 have hns16_1:=NB88_766.out
 have hms16_0:=NB86_761.out
 have hms16_1:=NB86_762.out
 have hs17:w13.cell? ⟨gb86,2,none⟩=some (.int .i64 0):=(blk_cell BK86.out 2).trans rfl
 have hfs17:=blk_frozen BK86.out 2
 have hns17_0:=NB87_766.out
 have hns17_1:=NB88_766.out
 have hms17_0:=NB86_761.out
 have hms17_1:=NB86_762.out
 have hs18:w13.cell? ⟨gb86,3,none⟩=some (.slice none 0 0):=(blk_cell BK86.out 3).trans rfl
 have hfs18:=blk_frozen BK86.out 3
 have hns18_0:=NB87_766.out
 have hns18_1:=NB88_766.out
 have hms18_0:=NB86_761.out
 have hms18_1:=NB86_762.out
 have hs19:w13.cell? ⟨gb86,4,none⟩=some (.slice none 0 0):=(blk_cell BK86.out 4).trans rfl
 have hfs19:=blk_frozen BK86.out 4
 have hns19_0:=NB87_766.out
 have hns19_1:=NB88_766.out
 have hms19_0:=NB86_761.out
 have hms19_1:=NB86_762.out
 refine skip_ (w1:=?_) zb41 rfl ?_ ?_
 rotate_left
 ·go_simp
  rfl
 refine hK.out _ _ ⟨((cell_far (p:=⟨gb86,_,none⟩) NB87_766.out _).trans (((cell_far (p:=⟨gb86,_,none⟩) NB87_766.out _).trans (((cell_far (p:=⟨gb86,_,none⟩) NB87_766.out _).trans (((cell_far (p:=⟨gb86,_,none⟩) NB87_766.out _).trans (((cell_far (p:=⟨gb86,_,none⟩) NB87_766.out _).trans (hHeld.1)))))))))),((cell_far (p:=⟨gb86,_,none⟩) NB87_766.out _).trans (((cell_far (p:=⟨gb86,_,none⟩) NB87_766.out _).trans (((cell_far (p:=⟨gb86,_,none⟩) NB87_766.out _).trans (((cell_far (p:=⟨gb86,_,none⟩) NB87_766.out _).trans (((cell_far (p:=⟨gb86,_,none⟩) NB87_766.out _).trans (hHeld.2.1)))))))))),((cell_far (p:=⟨gb86,_,none⟩) NB87_766.out _).trans (((cell_far (p:=⟨gb86,_,none⟩) NB87_766.out _).trans (((cell_far (p:=⟨gb86,_,none⟩) NB87_766.out _).trans (((cell_far (p:=⟨gb86,_,none⟩) NB87_766.out _).trans (((cell_far (p:=⟨gb86,_,none⟩) NB87_766.out _).trans (hHeld.2.2.1)))))))))),((cell_far (p:=⟨gb86,_,none⟩) NB87_766.out _).trans (((cell_far (p:=⟨gb86,_,none⟩) NB87_766.out _).trans (((cell_far (p:=⟨gb86,_,none⟩) NB87_766.out _).trans (((cell_far (p:=⟨gb86,_,none⟩) NB87_766.out _).trans (((cell_far (p:=⟨gb86,_,none⟩) NB87_766.out _).trans (hHeld.2.2.2.1)))))))))),((cell_far (p:=⟨gb86,_,none⟩) NB87_766.out _).trans (((cell_far (p:=⟨gb86,_,none⟩) NB87_766.out _).trans (((cell_far (p:=⟨gb86,_,none⟩) NB87_766.out _).trans (((cell_far (p:=⟨gb86,_,none⟩) NB87_766.out _).trans (((cell_far (p:=⟨gb86,_,none⟩) NB87_766.out _).trans (hHeld.2.2.2.2))))))))))⟩ (fun hHeld=>?_)
 clear hK K
 refine done_ (done_of HT_.out zb10) ?_
 have hnb20:=NB87_762.out
 have hnc20:=NB88_761.out
 have hnb21:=NB87_766.out
 have hnc21:=NB86_761.out
 obtain ⟨hcz22_0,hcz22_1,hcz22_2,hcz22_3,hcz22_4,hfz22_0,hfz22_1,hfz22_2,hfz22_3,hfz22_4⟩:=zq5 BK87.out
 go_upto_region 3 with (first|((with_reducible refine gate_callee (f:=70) rfl ?_);refine goesL_ (some 22) rfl rfl Tryz.func70 zb10 rfl #[.string a1,.agg #[.int .i64 a0_0,.string a0_1,.int .i64 a0_2,.slice A0_3 l0_3.length c0_3,.slice A0_4 l0_4.length c0_4]] rfl zb1 ?_;(with_reducible refine (frame_Response.calls k a1 a0_0 a0_1 a0_2 _ _ l0_3 _ _ l0_4 t767 t768 t769 _ ?side1 ?side2 ?side3 ?side4 A5.out).mono ?_);(case side1=>exact Kd.C_below HR0_3.out zb3);(case side2=>exact HC0_3.out);(case side3=>exact Kd.C_below HR0_4.out zb3);(case side4=>exact HC0_4.out);rintro e w23 ⟨rfl,hb⟩;refine ⟨_,rfl,?_⟩;replace HO97:=Aside0.mk (Kd.R_below (by (with_reducible repeat (first|apply Kd.R_alloc|apply Kd.R_drewN|apply Kd.R_drew));exact (Kd.R_mono (Kd.R_far (p:=⟨gb86,4,none⟩) (Kd.R_far (p:=⟨gb86,3,none⟩) (Kd.R_far (p:=⟨gb86,2,none⟩) (Kd.R_far (p:=⟨gb86,1,none⟩) (Kd.R_far (p:=⟨gb86,0,none⟩) (Kd.R_types HO97.out BK86.out (by decide)) (fun _ hk=>hk.2) (.int .i64 a0_0)) (fun _ hk=>hk.2) (.string a0_1)) (fun _ hk=>hk.2) (.int .i64 1)) (fun _ hk=>hk.2) (.slice Ao14 t90.length co14)) (fun _ hk=>hk.2) (.slice none 0 0)) (fun _ h_=>h_.1))) hb);replace BK87:=Aside0.mk (blk_below (g:=gb87) (o:=.cells #[.int .i64 a0_0,.string a0_1,.int .i64 a0_2,.slice A0_3 l0_3.length c0_3,.slice A0_4 l0_4.length c0_4] 62 (0,0)) (by (with_reducible repeat (first|refine blk_drewN ?_ _|refine blk_drew ?_|refine blk_alloc ?_ _));refine blk_far ?_ NB87_766.out _;(with_reducible repeat (first|refine blk_drewN ?_ _|refine blk_drew ?_|refine blk_alloc ?_ _));refine blk_far ?_ NB87_766.out _;(with_reducible repeat (first|refine blk_drewN ?_ _|refine blk_drew ?_|refine blk_alloc ?_ _));refine blk_far ?_ NB87_766.out _;(with_reducible repeat (first|refine blk_drewN ?_ _|refine blk_drew ?_|refine blk_alloc ?_ _));refine blk_far ?_ NB87_766.out _;(with_reducible repeat (first|refine blk_drewN ?_ _|refine blk_drew ?_|refine blk_alloc ?_ _));refine blk_far ?_ NB87_766.out _;(with_reducible repeat (first|refine blk_drewN ?_ _|refine blk_drew ?_|refine blk_alloc ?_ _));exact BK87.out) hb);replace BK88:=Aside0.mk (blk_below (g:=gb88) (o:=.cells #[.int .i64 0,.string (⟨#[]⟩:ByteArray),.int .i64 0,.slice none 0 0,.slice none 0 0] 62 (0,0)) (by (with_reducible repeat (first|refine blk_drewN ?_ _|refine blk_drew ?_|refine blk_alloc ?_ _));refine blk_far ?_ NB88_766.out _;(with_reducible repeat (first|refine blk_drewN ?_ _|refine blk_drew ?_|refine blk_alloc ?_ _));refine blk_far ?_ NB88_766.out _;(with_reducible repeat (first|refine blk_drewN ?_ _|refine blk_drew ?_|refine blk_alloc ?_ _));refine blk_far ?_ NB88_766.out _;(with_reducible repeat (first|refine blk_drewN ?_ _|refine blk_drew ?_|refine blk_alloc ?_ _));refine blk_far ?_ NB88_766.out _;(with_reducible repeat (first|refine blk_drewN ?_ _|refine blk_drew ?_|refine blk_alloc ?_ _));refine blk_far ?_ NB88_766.out _;(with_reducible repeat (first|refine blk_drewN ?_ _|refine blk_drew ?_|refine blk_alloc ?_ _));exact BK88.out) hb);replace BK86:=Aside0.mk (blk_below (g:=gb86) (o:=.cells #[.int .i64 a0_0,.string a0_1,.int .i64 1,.slice Ao14 t90.length co14,.slice none 0 0] 62 (0,0)) (by (with_reducible repeat (first|refine blk_drewN ?_ _|refine blk_drew ?_|refine blk_alloc ?_ _));refine blk_put (cs:=#[.int .i64 a0_0,.string a0_1,.int .i64 1,.slice Ao14 t90.length co14,.slice none 0 0]) ?_ 4 _ rfl;(with_reducible repeat (first|refine blk_drewN ?_ _|refine blk_drew ?_|refine blk_alloc ?_ _));refine blk_put (cs:=#[.int .i64 a0_0,.string a0_1,.int .i64 1,.slice none 0 0,.slice none 0 0]) ?_ 3 _ rfl;(with_reducible repeat (first|refine blk_drewN ?_ _|refine blk_drew ?_|refine blk_alloc ?_ _));refine blk_put (cs:=#[.int .i64 a0_0,.string a0_1,.int .i64 0,.slice none 0 0,.slice none 0 0]) ?_ 2 _ rfl;(with_reducible repeat (first|refine blk_drewN ?_ _|refine blk_drew ?_|refine blk_alloc ?_ _));refine blk_put (cs:=#[.int .i64 a0_0,.string (⟨#[]⟩:ByteArray),.int .i64 0,.slice none 0 0,.slice none 0 0]) ?_ 1 _ rfl;(with_reducible repeat (first|refine blk_drewN ?_ _|refine blk_drew ?_|refine blk_alloc ?_ _));refine blk_put (cs:=#[.int .i64 0,.string (⟨#[]⟩:ByteArray),.int .i64 0,.slice none 0 0,.slice none 0 0]) ?_ 0 _ rfl;(with_reducible repeat (first|refine blk_drewN ?_ _|refine blk_drew ?_|refine blk_alloc ?_ _));exact BK86.out) hb);replace HB:=Aside0.mk (below_step zb3 hb);(try clear hb)))
 (try simp only [Act.put,zqA,zqB,zqC])
 go_cut [31] (fun v31 wc => ∃ (kq:Nat) (x31_5:Bool),v31 = .bool x31_5∧Aside0 (scrub_Response.j0 kq a2 x31_5 a0_0 a0_1 a0_2 l0_3 l0_4 a0_0 a0_1 1 t90=some (r1,r2,r3,r4,r5))∧Aside0 (kq ≤ k)∧Aside0 (Kd.R k36 36 wc w.heap.size (fun _=>True) (.slice Ao14 t90.length co14) t90)∧Aside0 (wc.heap[gb87]? = some (.cells #[.int .i64 a0_0,.string a0_1,.int .i64 a0_2,(.slice A0_3 l0_3.length c0_3),(.slice A0_4 l0_4.length c0_4)] 62 (0,0)))∧Aside0 (wc.heap[gb88]? = some (.cells #[.int .i64 0,.string (⟨#[]⟩:ByteArray),.int .i64 0,(.slice none 0 0),(.slice none 0 0)] 62 (0,0)))∧Aside0 (wc.heap[gb86]? = some (.cells #[.int .i64 a0_0,.string a0_1,.int .i64 1,(.slice Ao14 t90.length co14),(.slice none 0 0)] 62 (0,0)))∧Aside0 (Below w.heap.size w wc))
 case first =>
  have H:=HC6.out
  clear HC6
  by_cases c24:t769=true
  ·subst c24
   rw [if_pos rfl] at H
   have H' := Aside0.mk H
   clear H
   go_wp2
   go_meet
   case rel=>exact ⟨_,((t767 != 0)),zb4,H',⟨zb58⟩,⟨zb61⟩,⟨zb7⟩,⟨zb12⟩,⟨zb9⟩,⟨zb3⟩⟩
  replace c24:=Bool.eq_false_iff.mpr c24
  subst c24
  rw [if_neg (show ¬ (false=true) by decide)] at H
  have H' := Aside0.mk H
  clear H
  go_wp2
  go_meet
  case rel=>exact ⟨_,(true),zb4,H',⟨zb58⟩,⟨zb61⟩,⟨zb7⟩,⟨zb12⟩,⟨zb9⟩,⟨zb3⟩⟩
 case rest =>
  clear HC6
  try clear c2
  try clear p2
  try clear c4
  try clear c6
  try clear c7
  try clear c20
  try clear c21
  try clear c24
  try clear hcz22_0
  try clear hcz22_1
  try clear hcz22_2
  try clear hcz22_3
  try clear hcz22_4
  try clear hfz22_0
  try clear hfz22_1
  try clear hfz22_2
  try clear hfz22_3
  try clear hfz22_4
  obtain ⟨kq,x31_5,rfl,HA,HJ5,HO_89,BK87,BK88,BK86,HB⟩:=hcut
  cases kq with
  | zero=>exact absurd HA.out (by simp [scrub_Response.j0])
  | succ kj5 =>
   have H:=HA.out
   clear HA
   simp only [scrub_Response.j0] at H
   by_cases c25:x31_5=true;rotate_left
   ·replace c25:=Bool.eq_false_iff.mpr c25
    subst c25
    rw [if_neg (show ¬ (false=true) by decide)] at H
    by_cases c68:a2=true;rotate_left
    ·replace c68:=Bool.eq_false_iff.mpr c68
     subst c68
     rw [if_neg (show ¬ (false=true) by decide)] at H
     simp only [Option.some.injEq,Prod.mk.injEq] at H
     obtain ⟨rfl,rfl,rfl,rfl,rfl⟩:=H
     have hnb81:=NB86_761.out
     have hnc81:=NB87_766.out
     have hnb82:=NB86_762.out
     have hnc82:=NB88_766.out
     obtain ⟨hcz83_0,hcz83_1,hcz83_2,hcz83_3,hcz83_4,hfz83_0,hfz83_1,hfz83_2,hfz83_3,hfz83_4⟩:=zq5 BK86.out
     have hnb84:=NB88_761.out
     have hnc84:=NB87_762.out
     obtain ⟨hcz85_0,hcz85_1,hcz85_2,hcz85_3,hcz85_4,hfz85_0,hfz85_1,hfz85_2,hfz85_3,hfz85_4⟩:=zq5 BK88.out
     go_wp2
     refine bodyPost_ret (results_cell_row rfl _ _ gb88 62 #[.int .i64 a0_0,.string a0_1,.int .i64 1,.slice Ao14 t90.length co14,.slice none 0 0] (0,0) _ rfl (by (with_reducible repeat (first|refine blk_drewN ?_ _|refine blk_drew ?_|refine blk_alloc ?_ _));refine blk_put (cs:=#[.int .i64 a0_0,.string a0_1,.int .i64 1,.slice Ao14 t90.length co14,.slice none 0 0]) ?_ 4 _ rfl;(with_reducible repeat (first|refine blk_drewN ?_ _|refine blk_drew ?_|refine blk_alloc ?_ _));refine blk_put (cs:=#[.int .i64 a0_0,.string a0_1,.int .i64 1,.slice none 0 0,.slice none 0 0]) ?_ 3 _ rfl;(with_reducible repeat (first|refine blk_drewN ?_ _|refine blk_drew ?_|refine blk_alloc ?_ _));refine blk_put (cs:=#[.int .i64 a0_0,.string a0_1,.int .i64 0,.slice none 0 0,.slice none 0 0]) ?_ 2 _ rfl;(with_reducible repeat (first|refine blk_drewN ?_ _|refine blk_drew ?_|refine blk_alloc ?_ _));refine blk_put (cs:=#[.int .i64 a0_0,.string (⟨#[]⟩:ByteArray),.int .i64 0,.slice none 0 0,.slice none 0 0]) ?_ 1 _ rfl;(with_reducible repeat (first|refine blk_drewN ?_ _|refine blk_drew ?_|refine blk_alloc ?_ _));refine blk_put (cs:=#[.int .i64 0,.string (⟨#[]⟩:ByteArray),.int .i64 0,.slice none 0 0,.slice none 0 0]) ?_ 0 _ rfl;(with_reducible repeat (first|refine blk_drewN ?_ _|refine blk_drew ?_|refine blk_alloc ?_ _));exact BK88.out) Tryz.underlying62 rfl zb10) rfl ?_
     exact ⟨_,_,zb2,by (with_reducible repeat (first|apply Kd.R_alloc|apply Kd.R_drewN|apply Kd.R_drew));exact Kd.R_mono (Kd.R_far (p:=⟨gb88,4,none⟩) (Kd.R_far (p:=⟨gb88,3,none⟩) (Kd.R_far (p:=⟨gb88,2,none⟩) (Kd.R_far (p:=⟨gb88,1,none⟩) (Kd.R_far (p:=⟨gb88,0,none⟩) (Kd.R_types HO_89.out BK88.out (by decide)) (fun _ hk=>hk.2) (.int .i64 a0_0)) (fun _ hk=>hk.2) (.string a0_1)) (fun _ hk=>hk.2) (.int .i64 1)) (fun _ hk=>hk.2) (.slice Ao14 t90.length co14)) (fun _ hk=>hk.2) (.slice none 0 0)) (fun _ hk=>trivial),zb23,zb3⟩
    subst c68
    rw [if_pos rfl] at H
    replace H:=Option.bind_eq_some_iff.mp H
    obtain ⟨⟨t783,t784⟩,A690,H⟩:=H
    try dsimp only at H
    have A69:=Aside0.mk A690
    clear A690
    by_cases c70:t90.length < 4398046511104;rotate_left
    ·rw [if_neg c70] at H
     exact absurd H zb33
    rw [if_pos c70] at H
    have LMc70:=Aside0.mk c70
    clear c70
    obtain ⟨y99,hy99⟩ : ∃ y_:List (S36),y_=(t90 ++ [(⟨t783,t784⟩:S36)]):=⟨_,rfl⟩
    replace H:(some (a0_0,a0_1,1,y99,([]:List Int)))=some (r1,r2,r3,r4,r5):=by first|(rw [hy99];with_reducible exact H)|(have H2_:=(Option.bind_some _ _).symm.trans H;rw [hy99];with_reducible exact H2_)|(have H2_:=(Option.bind_some _ _).symm.trans H;with_reducible exact H2_)|with_reducible exact H|(rw [hy99];exact H)|exact H
    have Ny99:=Aside0.mk hy99
    clear hy99
    simp only [Option.some.injEq,Prod.mk.injEq] at H
    obtain ⟨rfl,rfl,rfl,rfl,rfl⟩:=H
    try go_wp2
    replace HO_89:=Aside0.mk (Kd.R_drew HO_89.out)
    replace BK87:=Aside0.mk (blk_drew BK87.out)
    replace BK88:=Aside0.mk (blk_drew BK88.out)
    replace BK86:=Aside0.mk (blk_drew BK86.out)
    replace HB:=Aside0.mk (below_drew1 HB.out)
    refine start_ (n:=7) (S:=fun w' => w'.cell? ⟨gb86,0,none⟩=some (.int .i64 a0_0)∧w'.cell? ⟨gb86,1,none⟩=some (.string a0_1)∧w'.cell? ⟨gb86,2,none⟩=some (.int .i64 1)∧w'.cell? ⟨gb86,3,none⟩=some (.slice Ao14 t90.length co14)∧w'.cell? ⟨gb86,4,none⟩=some (.slice none 0 0)) (ds:=[6]) (zl 7 0) zb10 rfl rfl ⟨(blk_cell BK86.out 0).trans rfl,(blk_cell BK86.out 1).trans rfl,(blk_cell BK86.out 2).trans rfl,(blk_cell BK86.out 3).trans rfl,(blk_cell BK86.out 4).trans rfl⟩ (fun hHeld=>?_)
    generalize wc.drew=w71 at HO_89 BK87 BK88 BK86 HB hHeld ⊢
    refine pure_ (i:=0) (N:=some 46) (v:=?_) (a' := ?_) (zl 7 1) rfl rfl zb10 (fun _ _ _ h=>h) (Or.inl ⟨zb41,?_⟩) ?_ ?_
    rotate_left
    ·intro w';go_simp;with_reducible rfl
    rotate_left
    ·simp only [Act.put,zqA,zqB,zqC,i64_w,i32_w];rfl
    refine take_ (i:=1) (N:=some 47) (v:=?_) (a' := ?_) (zl 7 3) rfl rfl zb10 (fun _ _ _ h=>h) (Or.inl ⟨zb41,?_⟩) hHeld ?_ ?_
    rotate_left
    ·rintro w' ⟨s0,s1,s2,s3,s4⟩;go_simp;with_reducible rfl
    rotate_left
    ·simp only [Act.put,zqA,zqB,zqC,i64_w,i32_w];rfl
    refine one_ (i:=2) (N:=some 48) (zl 7 7) rfl rfl zb10 zb27 (fun K hK=>?_)
    refine goes_ Tryz.func72 zb10 rfl #[] zb41 rfl rfl zb1 ?_
    with_reducible refine (scrub_closing.calls  t783 t784 _ A69.out).mono ?_
    rintro e w72 ⟨rfl,hb⟩
    refine ⟨_,rfl,?_⟩
    replace HO_89:=Aside0.mk (Kd.R_below zb28 hb)
    replace BK87:=Aside0.mk (blk_below (g:=gb87) (o:=.cells #[.int .i64 a0_0,.string a0_1,.int .i64 a0_2,.slice A0_3 l0_3.length c0_3,.slice A0_4 l0_4.length c0_4] 62 (0,0)) zb7 hb)
    replace BK88:=Aside0.mk (blk_below (g:=gb88) (o:=.cells #[.int .i64 0,.string (⟨#[]⟩:ByteArray),.int .i64 0,.slice none 0 0,.slice none 0 0] 62 (0,0)) zb12 hb)
    replace BK86:=Aside0.mk (blk_below (g:=gb86) (o:=.cells #[.int .i64 a0_0,.string a0_1,.int .i64 1,.slice Ao14 t90.length co14,.slice none 0 0] 62 (0,0)) zb9 hb)
    replace HB:=Aside0.mk (below_step zb3 hb)
    (try clear hb)
    (try clear hb2)
    (try clear hk)
    (try clear hi)
    refine hK.out _ _ ⟨(blk_cell BK86.out 0).trans rfl,(blk_cell BK86.out 1).trans rfl,(blk_cell BK86.out 2).trans rfl,(blk_cell BK86.out 3).trans rfl,(blk_cell BK86.out 4).trans rfl⟩ (fun hHeld=>?_)
    clear hK K
    refine norm_ (a' := ?_) ?_ ?_
    rotate_left
    ·show Act.put _ (some 48) _=_
     simp only [Act.put,zqA,zqB,zqC,i64_w,i32_w]
     rfl
    refine one_ (i:=3) (N:=some 49) (zl 7 15) rfl rfl zb10 zb27 (fun K hK=>?_)
    refine value_ (w1:=?_) (v:=?_) zb41 rfl ?_ ?_
    rotate_left 2
    ·go_simp
     constructor
     ·rfl
     rfl
    refine hK.out _ _ ⟨(blk_cell (blk_alloc BK86.out _) 0).trans rfl,(blk_cell (blk_alloc BK86.out _) 1).trans rfl,(blk_cell (blk_alloc BK86.out _) 2).trans rfl,(blk_cell (blk_alloc BK86.out _) 3).trans rfl,(blk_cell (blk_alloc BK86.out _) 4).trans rfl⟩ (fun hHeld=>?_)
    clear hK K
    refine norm_ (a' := ?_) ?_ ?_
    rotate_left
    ·show Act.put _ (some 49) _=_
     simp only [Act.put,zqA,zqB,zqC,i64_w,i32_w]
     rfl
    refine one_ (i:=4) (N:=some 50) (zl 7 31) rfl rfl zb10 zb27 (fun K hK=>?_)
    refine Kd.R_append_step k36 (w0:=w) w.heap.size zb41 (.tmp 47) (.tmp 49) 24 36 (.agg #[(.string ⟨#[]⟩),(.string ⟨#[]⟩)]) 32 rfl Tryz.underlying24 info36 rfl zb27 zb18 (.slice Ao14 t90.length co14) t90 (⟨t783,t784⟩:S36) [.string t783,.string t784] (fun _=>True) (fun _=>False) rfl rfl ?aP (fun _ hk=>hk.elim) ?aF ?aO ?aB ?aS ?aL ?_
    (case aP=>exact k36_mkM _ _ _ (⟨t783,t784⟩:S36))
    (case aB=>exact zb38)
    (case aF=>exact (fun _ _=>trivial))
    (case aO=>exact zb82)
    (case aS=>exact zb37)
    (case aL=>have:=LMc70.out;omega)
    intro v786 w73 ho hb hg hat
    rw [← Ny99.out] at ho
    have n0_:=Aside0.mk (blk_grown (g:=gb87) (o:=.cells #[.int .i64 a0_0,.string a0_1,.int .i64 a0_2,.slice A0_3 l0_3.length c0_3,.slice A0_4 l0_4.length c0_4] 62 (0,0)) zb7 hg (Kd.R_ne HO_89.out BK87.out zb27))
    have n1_:=Aside0.mk (blk_grown (g:=gb88) (o:=.cells #[.int .i64 0,.string (⟨#[]⟩:ByteArray),.int .i64 0,.slice none 0 0,.slice none 0 0] 62 (0,0)) zb12 hg (Kd.R_ne HO_89.out BK88.out zb27))
    have n2_:=Aside0.mk (blk_grown (g:=gb86) (o:=.cells #[.int .i64 a0_0,.string a0_1,.int .i64 1,.slice Ao14 t90.length co14,.slice none 0 0] 62 (0,0)) zb9 hg (Kd.R_ne HO_89.out BK86.out zb27))
    have n3_:=Aside0.mk (hb)
    have n4_:=Aside0.mk (ho)
    clear BK87 BK88 BK86 HB HO_89
    have BK87:=n0_
    have BK88:=n1_
    have BK86:=n2_
    have HB:=n3_
    have HO787:=n4_
    clear n0_ n1_ n2_ n3_ n4_ ho hb hg hat
    obtain ⟨Ao74,co74,eo74⟩:=Kd.R_slice HO787.out
    (first|subst eo74|(injection eo74 with f1_ f2_ f3_;have f4_:=f1_.symm;have f5_:=f3_.symm;clear f1_ f2_ f3_;subst f4_;subst f5_))
    refine hK.out _ _ ⟨(blk_cell BK86.out 0).trans rfl,(blk_cell BK86.out 1).trans rfl,(blk_cell BK86.out 2).trans rfl,(blk_cell BK86.out 3).trans rfl,(blk_cell BK86.out 4).trans rfl⟩ (fun hHeld=>?_)
    clear hK K
    refine norm_ (a' := ?_) ?_ ?_
    rotate_left
    ·show Act.put _ (some 50) _=_
     simp only [Act.put,zqA,zqB,zqC,i64_w,i32_w]
     rfl
    refine pure_ (i:=5) (N:=some 51) (v:=?_) (a' := ?_) (zl 7 63) rfl rfl zb10 (fun _ _ _ h=>h) (Or.inl ⟨zb41,?_⟩) ?_ ?_
    rotate_left
    ·intro w';go_simp;with_reducible rfl
    rotate_left
    ·simp only [Act.put,zqA,zqB,zqC,i64_w,i32_w];rfl
    refine last_ (i:=6) (N:=none) (zl 7 127) rfl rfl zb10 zb27 (fun K hK=>?_)
    have hs75:w73.cell? ⟨gb86,3,none⟩=some (.slice Ao14 t90.length co14):=(blk_cell BK86.out 3).trans rfl
    have hfs75:=blk_frozen BK86.out 3
    have hns75_0:=NB87_766.out
    have hns75_1:=NB88_766.out
    have hms75_0:=NB86_761.out
    have hms75_1:=NB86_762.out
    refine skip_ (w1:=?_) zb41 rfl ?_ ?_
    rotate_left
    ·go_simp
     rfl
    refine hK.out _ _ ?_
    clear hK K
    refine done_ zb10 ?_
    have hnb76:=NB86_761.out
    have hnc76:=NB87_766.out
    have hnb77:=NB86_762.out
    have hnc77:=NB88_766.out
    obtain ⟨hcz78_0,hcz78_1,hcz78_2,hcz78_3,hcz78_4,hfz78_0,hfz78_1,hfz78_2,hfz78_3,hfz78_4⟩:=zq5 BK86.out
    have hnb79:=NB88_761.out
    have hnc79:=NB87_762.out
    obtain ⟨hcz80_0,hcz80_1,hcz80_2,hcz80_3,hcz80_4,hfz80_0,hfz80_1,hfz80_2,hfz80_3,hfz80_4⟩:=zq5 BK88.out
    try go_wp2
    refine bodyPost_ret (results_cell_row rfl _ _ gb88 62 #[.int .i64 a0_0,.string a0_1,.int .i64 1,.slice Ao74 y99.length co74,.slice none 0 0] (0,0) _ rfl (by (with_reducible repeat (first|refine blk_drewN ?_ _|refine blk_drew ?_|refine blk_alloc ?_ _));refine blk_put (cs:=#[.int .i64 a0_0,.string a0_1,.int .i64 1,.slice Ao74 y99.length co74,.slice none 0 0]) ?_ 4 _ rfl;(with_reducible repeat (first|refine blk_drewN ?_ _|refine blk_drew ?_|refine blk_alloc ?_ _));refine blk_put (cs:=#[.int .i64 a0_0,.string a0_1,.int .i64 1,.slice none 0 0,.slice none 0 0]) ?_ 3 _ rfl;(with_reducible repeat (first|refine blk_drewN ?_ _|refine blk_drew ?_|refine blk_alloc ?_ _));refine blk_put (cs:=#[.int .i64 a0_0,.string a0_1,.int .i64 0,.slice none 0 0,.slice none 0 0]) ?_ 2 _ rfl;(with_reducible repeat (first|refine blk_drewN ?_ _|refine blk_drew ?_|refine blk_alloc ?_ _));refine blk_put (cs:=#[.int .i64 a0_0,.string (⟨#[]⟩:ByteArray),.int .i64 0,.slice none 0 0,.slice none 0 0]) ?_ 1 _ rfl;(with_reducible repeat (first|refine blk_drewN ?_ _|refine blk_drew ?_|refine blk_alloc ?_ _));refine blk_put (cs:=#[.int .i64 0,.string (⟨#[]⟩:ByteArray),.int .i64 0,.slice none 0 0,.slice none 0 0]) ?_ 0 _ rfl;(with_reducible repeat (first|refine blk_drewN ?_ _|refine blk_drew ?_|refine blk_alloc ?_ _));refine blk_far ?_ NB88_766.out _;(with_reducible repeat (first|refine blk_drewN ?_ _|refine blk_drew ?_|refine blk_alloc ?_ _));exact BK88.out) Tryz.underlying62 rfl zb10) rfl ?_
    exact ⟨_,_,zb2,by (with_reducible repeat (first|apply Kd.R_alloc|apply Kd.R_drewN|apply Kd.R_drew));exact Kd.R_mono (Kd.R_far (p:=⟨gb88,4,none⟩) (Kd.R_far (p:=⟨gb88,3,none⟩) (Kd.R_far (p:=⟨gb88,2,none⟩) (Kd.R_far (p:=⟨gb88,1,none⟩) (Kd.R_far (p:=⟨gb88,0,none⟩) (Kd.R_far (p:=⟨gb86,3,none⟩) (Kd.R_types (Kd.R_types HO787.out BK86.out (by decide)) BK88.out (by decide)) (fun _ hk=>hk.1.2) (.slice Ao74 y99.length co74)) (fun _ hk=>hk.2) (.int .i64 a0_0)) (fun _ hk=>hk.2) (.string a0_1)) (fun _ hk=>hk.2) (.int .i64 1)) (fun _ hk=>hk.2) (.slice Ao74 y99.length co74)) (fun _ hk=>hk.2) (.slice none 0 0)) (fun _ hk=>trivial),zb23,zb3⟩
   subst c25
   rw [if_pos rfl] at H
   replace H:=Option.bind_eq_some_iff.mp H
   obtain ⟨t91,A260,H⟩:=H
   try dsimp only at H
   have A26:=Aside0.mk A260
   clear A260
   replace H:=Option.bind_eq_some_iff.mp H
   obtain ⟨⟨t96,t774⟩,A270,H⟩:=H
   try dsimp only at H
   have A27:=Aside0.mk A270
   clear A270
   by_cases c28:t90.length < 4398046511104
   ·rw [if_pos c28] at H
    have LMc28:=Aside0.mk c28
    clear c28
    obtain ⟨y92,hy92⟩ : ∃ y_:List (S36),y_=(t90 ++ [(⟨t96,t774⟩:S36)]):=⟨_,rfl⟩
    replace H:(if a2=true then ((scrub_closing.f).bind fun bt94=>(if y92.length < 4398046511104 then (some (a0_0,a0_1,1,(y92 ++ [(⟨bt94.1,bt94.2⟩:S36)]),t91)) else (none))) else (some (a0_0,a0_1,1,y92,t91)))=some (r1,r2,r3,r4,r5):=by first|(rw [hy92];with_reducible exact H)|(have H2_:=(Option.bind_some _ _).symm.trans H;rw [hy92];with_reducible exact H2_)|(have H2_:=(Option.bind_some _ _).symm.trans H;with_reducible exact H2_)|with_reducible exact H|(rw [hy92];exact H)|exact H
    have Ny92:=Aside0.mk hy92
    clear hy92
    by_cases c29:a2=true
    ·subst c29
     rw [if_pos rfl] at H
     replace H:=Option.bind_eq_some_iff.mp H
     obtain ⟨⟨t94,t779⟩,A300,H⟩:=H
     try dsimp only at H
     have A30:=Aside0.mk A300
     clear A300
     by_cases c31:y92.length < 4398046511104
     ·rw [if_pos c31] at H
      have LMc31:=Aside0.mk c31
      clear c31
      obtain ⟨y98,hy98⟩ : ∃ y_:List (S36),y_=(y92 ++ [(⟨t94,t779⟩:S36)]):=⟨_,rfl⟩
      replace H:(some (a0_0,a0_1,1,y98,t91))=some (r1,r2,r3,r4,r5):=by first|(rw [hy98];with_reducible exact H)|(have H2_:=(Option.bind_some _ _).symm.trans H;rw [hy98];with_reducible exact H2_)|(have H2_:=(Option.bind_some _ _).symm.trans H;with_reducible exact H2_)|with_reducible exact H|(rw [hy98];exact H)|exact H
      have Ny98:=Aside0.mk hy98
      clear hy98
      simp only [Option.some.injEq,Prod.mk.injEq] at H
      obtain ⟨rfl,rfl,rfl,rfl,rfl⟩:=H
      have hnb32:=NB87_762.out
      have hnc32:=NB88_761.out
      have hnb33:=NB87_766.out
      have hnc33:=NB86_761.out
      obtain ⟨hcz34_0,hcz34_1,hcz34_2,hcz34_3,hcz34_4,hfz34_0,hfz34_1,hfz34_2,hfz34_3,hfz34_4⟩:=zq5 BK87.out
      try go_wp2_with (first|((with_reducible refine gate_callee (f:=62) rfl ?_);refine goesL_ (some 34) rfl rfl Tryz.func62 zb10 rfl #[.slice A0_4 l0_4.length c0_4] rfl zb1 ?_;(with_reducible refine (bytes_Clone.calls _ _ l0_4 t91 _ ?side1 ?side2 A26.out).mono ?_);(case side1=>exact zb51);(case side2=>exact HC0_4.out);rintro e w35 ⟨v771,rfl,ho0,hb⟩;(try clear A26);refine ⟨_,rfl,?_⟩;replace HO_89:=Aside0.mk (Kd.R_below zb28 hb);have HO93:=Aside0.mk (Kd.R_lower ho0 (below_size zb3));replace BK87:=Aside0.mk (blk_below (g:=gb87) (o:=.cells #[.int .i64 a0_0,.string a0_1,.int .i64 a0_2,.slice A0_3 l0_3.length c0_3,.slice A0_4 l0_4.length c0_4] 62 (0,0)) zb7 hb);replace BK88:=Aside0.mk (blk_below (g:=gb88) (o:=.cells #[.int .i64 0,.string (⟨#[]⟩:ByteArray),.int .i64 0,.slice none 0 0,.slice none 0 0] 62 (0,0)) zb12 hb);replace BK86:=Aside0.mk (blk_below (g:=gb86) (o:=.cells #[.int .i64 a0_0,.string a0_1,.int .i64 1,.slice Ao14 t90.length co14,.slice none 0 0] 62 (0,0)) zb9 hb);replace HB:=Aside0.mk (below_step zb3 hb);try clear hb ho0;obtain ⟨Ao36,co36,eo36⟩:=Kd.R_slice HO93.out;subst eo36;have hnb37:=NB86_762.out;have hnc37:=NB88_766.out;obtain ⟨hcz38_0,hcz38_1,hcz38_2,hcz38_3,hcz38_4,hfz38_0,hfz38_1,hfz38_2,hfz38_3,hfz38_4⟩:=zq5 BK86.out))
      have n0_:Aside0 (Kd.R k36 36 (w35.setCell ⟨gb86,4,none⟩ (.slice Ao36 t91.length co36)) w.heap.size (fun _=>True) (.slice Ao14 t90.length co14) t90):=⟨by (with_reducible repeat (first|apply Kd.R_alloc|apply Kd.R_drewN|apply Kd.R_drew));exact Kd.R_mono (Kd.R_far (p:=⟨gb86,4,none⟩) (Kd.R_types HO_89.out BK86.out (by decide)) (fun _ hk=>hk.2) (.slice Ao36 t91.length co36)) (fun _ hk=>trivial)⟩
      have n1_:Aside0 (Kd.R (Kd.int .u8) 5 (w35.setCell ⟨gb86,4,none⟩ (.slice Ao36 t91.length co36)) w.heap.size (fun _=>True) (.slice Ao36 t91.length co36) t91):=⟨by (with_reducible repeat (first|apply Kd.R_alloc|apply Kd.R_drewN|apply Kd.R_drew));exact Kd.R_mono (Kd.R_far (p:=⟨gb86,4,none⟩) (Kd.R_types HO93.out BK86.out (by decide)) (fun _ hk=>hk.2) (.slice Ao36 t91.length co36)) (fun _ hk=>trivial)⟩
      have n2_:Aside0 ((w35.setCell ⟨gb86,4,none⟩ (.slice Ao36 t91.length co36)).heap[gb87]? = some (.cells #[.int .i64 a0_0,.string a0_1,.int .i64 a0_2,.slice A0_3 l0_3.length c0_3,.slice A0_4 l0_4.length c0_4] 62 (0,0))):=⟨zb42⟩
      have n3_:Aside0 ((w35.setCell ⟨gb86,4,none⟩ (.slice Ao36 t91.length co36)).heap[gb88]? = some (.cells #[.int .i64 0,.string (⟨#[]⟩:ByteArray),.int .i64 0,.slice none 0 0,.slice none 0 0] 62 (0,0))):=⟨zb43⟩
      have n4_:Aside0 ((w35.setCell ⟨gb86,4,none⟩ (.slice Ao36 t91.length co36)).heap[gb86]? = some (.cells #[.int .i64 a0_0,.string a0_1,.int .i64 1,.slice Ao14 t90.length co14,.slice Ao36 t91.length co36] 62 (0,0))):=⟨zb49⟩
      have n5_:Aside0 (Below w.heap.size w (w35.setCell ⟨gb86,4,none⟩ (.slice Ao36 t91.length co36))):=⟨zb3⟩
      (try clear HO_89)
      (try clear HO93)
      (try clear BK87)
      (try clear BK88)
      (try clear BK86)
      (try clear HB)
      generalize (w35.setCell ⟨gb86,4,none⟩ (.slice Ao36 t91.length co36))=w39 at n0_ n1_ n2_ n3_ n4_ n5_ ⊢
      have HO_89:=n0_
      have HO93:=n1_
      have BK87:=n2_
      have BK88:=n3_
      have BK86:=n4_
      have HB:=n5_
      clear n0_ n1_ n2_ n3_ n4_ n5_
      replace HO_89:=Aside0.mk (Kd.R_drew HO_89.out)
      replace HO93:=Aside0.mk (Kd.R_drew HO93.out)
      replace BK87:=Aside0.mk (blk_drew BK87.out)
      replace BK88:=Aside0.mk (blk_drew BK88.out)
      replace BK86:=Aside0.mk (blk_drew BK86.out)
      replace HB:=Aside0.mk (below_drew1 HB.out)
      refine start_ (n:=10) (S:=fun w' => w'.cell? ⟨gb86,0,none⟩=some (.int .i64 a0_0)∧w'.cell? ⟨gb86,1,none⟩=some (.string a0_1)∧w'.cell? ⟨gb86,2,none⟩=some (.int .i64 1)∧w'.cell? ⟨gb86,3,none⟩=some (.slice Ao14 t90.length co14)∧w'.cell? ⟨gb86,4,none⟩=some (.slice Ao36 t91.length co36)∧w'.cell? ⟨gb87,0,none⟩=some (.int .i64 a0_0)∧w'.cell? ⟨gb87,1,none⟩=some (.string a0_1)∧w'.cell? ⟨gb87,2,none⟩=some (.int .i64 a0_2)∧w'.cell? ⟨gb87,3,none⟩=some (.slice A0_3 l0_3.length c0_3)∧w'.cell? ⟨gb87,4,none⟩=some (.slice A0_4 l0_4.length c0_4)) (ds:=[9]) (zl 10 0) zb10 rfl rfl ⟨(blk_cell BK86.out 0).trans rfl,(blk_cell BK86.out 1).trans rfl,(blk_cell BK86.out 2).trans rfl,(blk_cell BK86.out 3).trans rfl,(blk_cell BK86.out 4).trans rfl,(blk_cell BK87.out 0).trans rfl,(blk_cell BK87.out 1).trans rfl,(blk_cell BK87.out 2).trans rfl,(blk_cell BK87.out 3).trans rfl,(blk_cell BK87.out 4).trans rfl⟩ (fun hHeld=>?_);refine with_tabW scrub_Response.tab5 scrub_Response.bits5 (fun HT_ HW_=>?_)
      generalize w39.drew=w40 at HO_89 HO93 BK87 BK88 BK86 HB hHeld ⊢
      refine zpu 0 (N:=some 36) (zl 10 1) HT_.out rfl rfl ?_
      refine zpu 2 (N:=some 38) (zl 10 5) HT_.out rfl rfl ?_
      refine take_ (i:=1) (N:=some 37) (v:=?_) (a' := ?_) (zl 10 7) rfl rfl (take_ofW HT_.out HW_.out zb10) (fun _ _ _ h=>h) (Or.inl ⟨zb41,?_⟩) hHeld ?_ ?_
      rotate_left
      ·rintro w' ⟨s0,s1,s2,s3,s4,s5,s6,s7,s8,s9⟩;go_simp;with_reducible rfl
      rotate_left
      ·simp only [Act.put,zqA,zqB,zqC,i64_w,i32_w];rfl
      refine take_ (i:=3) (N:=some 39) (v:=?_) (a' := ?_) (zl 10 15) rfl rfl (take_ofW HT_.out HW_.out zb10) (fun _ _ _ h=>h) (Or.inl ⟨zb41,?_⟩) hHeld ?_ ?_
      rotate_left
      ·rintro w' ⟨s0,s1,s2,s3,s4,s5,s6,s7,s8,s9⟩;go_simp;with_reducible rfl
      rotate_left
      ·simp only [Act.put,zqA,zqB,zqC,i64_w,i32_w];rfl
      refine zpu 4 (N:=some 40) (zl 10 31) HT_.out rfl rfl ?_
      refine one_ (i:=5) (N:=some 41) (zl 10 63) rfl rfl (one_of HT_.out zb10) zb27 (fun K hK=>?_)
      refine goes_ Tryz.func61 zb10 rfl #[.int .i64 (l0_4.length:Int)] zb41 rfl rfl zb1 ?_
      with_reducible refine (scrub_length.calls (l0_4.length:Int) t96 t774 _ A27.out ?hT).mono ?_;(case hT=>exact HTB.out.below zb3)
      rintro e w41 ⟨rfl,hb⟩
      refine ⟨_,rfl,?_⟩
      replace HO_89:=Aside0.mk (Kd.R_below zb28 hb)
      replace HO93:=Aside0.mk (Kd.R_below zb54 hb)
      replace BK87:=Aside0.mk (blk_below (g:=gb87) (o:=.cells #[.int .i64 a0_0,.string a0_1,.int .i64 a0_2,.slice A0_3 l0_3.length c0_3,.slice A0_4 l0_4.length c0_4] 62 (0,0)) zb7 hb)
      replace BK88:=Aside0.mk (blk_below (g:=gb88) (o:=.cells #[.int .i64 0,.string (⟨#[]⟩:ByteArray),.int .i64 0,.slice none 0 0,.slice none 0 0] 62 (0,0)) zb12 hb)
      replace BK86:=Aside0.mk (blk_below (g:=gb86) (o:=.cells #[.int .i64 a0_0,.string a0_1,.int .i64 1,.slice Ao14 t90.length co14,.slice Ao36 t91.length co36] 62 (0,0)) zb9 hb)
      replace HB:=Aside0.mk (below_step zb3 hb)
      (try clear hb)
      (try clear hb2)
      (try clear hk)
      (try clear hi)
      refine hK.out _ _ ⟨(blk_cell BK86.out 0).trans rfl,(blk_cell BK86.out 1).trans rfl,(blk_cell BK86.out 2).trans rfl,(blk_cell BK86.out 3).trans rfl,(blk_cell BK86.out 4).trans rfl,(blk_cell BK87.out 0).trans rfl,(blk_cell BK87.out 1).trans rfl,(blk_cell BK87.out 2).trans rfl,(blk_cell BK87.out 3).trans rfl,(blk_cell BK87.out 4).trans rfl⟩ (fun hHeld=>?_)
      clear hK K
      refine norm_ (a' := ?_) ?_ ?_
      rotate_left
      ·show Act.put _ (some 41) _=_
       simp only [Act.put,zqA,zqB,zqC,i64_w,i32_w]
       rfl
      refine one_ (i:=6) (N:=some 42) (zl 10 127) rfl rfl (one_of HT_.out zb10) zb27 (fun K hK=>?_)
      refine value_ (w1:=?_) (v:=?_) zb41 rfl ?_ ?_
      rotate_left 2
      ·go_simp
       constructor
       ·rfl
       rfl
      refine hK.out _ _ ⟨(blk_cell (blk_alloc BK86.out _) 0).trans rfl,(blk_cell (blk_alloc BK86.out _) 1).trans rfl,(blk_cell (blk_alloc BK86.out _) 2).trans rfl,(blk_cell (blk_alloc BK86.out _) 3).trans rfl,(blk_cell (blk_alloc BK86.out _) 4).trans rfl,(blk_cell (blk_alloc BK87.out _) 0).trans rfl,(blk_cell (blk_alloc BK87.out _) 1).trans rfl,(blk_cell (blk_alloc BK87.out _) 2).trans rfl,(blk_cell (blk_alloc BK87.out _) 3).trans rfl,(blk_cell (blk_alloc BK87.out _) 4).trans rfl⟩ (fun hHeld=>?_)
      clear hK K
      refine norm_ (a' := ?_) ?_ ?_
      rotate_left
      ·show Act.put _ (some 42) _=_
       simp only [Act.put,zqA,zqB,zqC,i64_w,i32_w]
       rfl
      refine one_ (i:=7) (N:=some 43) (zl 10 255) rfl rfl (one_of HT_.out zb10) zb27 (fun K hK=>?_)
      refine Kd.R_append_step k36 (w0:=w) w.heap.size zb41 (.tmp 37) (.tmp 42) 24 36 (.agg #[(.string ⟨#[]⟩),(.string ⟨#[]⟩)]) 32 rfl Tryz.underlying24 info36 rfl zb27 zb18 (.slice Ao14 t90.length co14) t90 (⟨t96,t774⟩:S36) [.string t96,.string t774] (fun _=>True) (fun _=>False) rfl rfl ?aP (fun _ hk=>hk.elim) ?aF ?aO ?aB ?aS ?aL ?_
      (case aP=>exact k36_mkM _ _ _ (⟨t96,t774⟩:S36))
      (case aB=>exact zb38)
      (case aF=>exact (fun _ _=>trivial))
      (case aO=>exact zb82)
      (case aS=>exact zb37)
      (case aL=>have:=LMc28.out;omega)
      intro v776 w42 ho hb hg hat
      rw [← Ny92.out] at ho
      have n0_:=Aside0.mk (blk_grown (g:=gb87) (o:=.cells #[.int .i64 a0_0,.string a0_1,.int .i64 a0_2,.slice A0_3 l0_3.length c0_3,.slice A0_4 l0_4.length c0_4] 62 (0,0)) zb7 hg (Kd.R_ne HO_89.out BK87.out zb27))
      have n1_:=Aside0.mk (blk_grown (g:=gb88) (o:=.cells #[.int .i64 0,.string (⟨#[]⟩:ByteArray),.int .i64 0,.slice none 0 0,.slice none 0 0] 62 (0,0)) zb12 hg (Kd.R_ne HO_89.out BK88.out zb27))
      have n2_:=Aside0.mk (blk_grown (g:=gb86) (o:=.cells #[.int .i64 a0_0,.string a0_1,.int .i64 1,.slice Ao14 t90.length co14,.slice Ao36 t91.length co36] 62 (0,0)) zb9 hg (Kd.R_ne HO_89.out BK86.out zb27))
      have n3_:=Aside0.mk (Kd.R_over' zb54 (Kd.R_typed zb28) zb27 hg)
      have n4_:=Aside0.mk (hb)
      have n5_:=Aside0.mk (ho)
      clear BK87 BK88 BK86 HO93 HB HO_89
      have BK87:=n0_
      have BK88:=n1_
      have BK86:=n2_
      have HO93:=n3_
      have HB:=n4_
      have HO95:=n5_
      clear n0_ n1_ n2_ n3_ n4_ n5_ ho hb hg hat
      obtain ⟨Ao43,co43,eo43⟩:=Kd.R_slice HO95.out
      (first|subst eo43|(injection eo43 with f1_ f2_ f3_;have f4_:=f1_.symm;have f5_:=f3_.symm;clear f1_ f2_ f3_;subst f4_;subst f5_))
      refine hK.out _ _ ⟨(blk_cell BK86.out 0).trans rfl,(blk_cell BK86.out 1).trans rfl,(blk_cell BK86.out 2).trans rfl,(blk_cell BK86.out 3).trans rfl,(blk_cell BK86.out 4).trans rfl,(blk_cell BK87.out 0).trans rfl,(blk_cell BK87.out 1).trans rfl,(blk_cell BK87.out 2).trans rfl,(blk_cell BK87.out 3).trans rfl,(blk_cell BK87.out 4).trans rfl⟩ (fun hHeld=>?_)
      clear hK K
      refine norm_ (a' := ?_) ?_ ?_
      rotate_left
      ·show Act.put _ (some 43) _=_
       simp only [Act.put,zqA,zqB,zqC,i64_w,i32_w]
       rfl
      refine zpu 8 (N:=some 44) (zl 10 511) HT_.out rfl rfl ?_
      refine last_ (i:=9) (N:=none) (zl 10 1023) rfl rfl (one_of HT_.out zb10) zb27 (fun K hK=>?_)
      have hs44:w42.cell? ⟨gb86,3,none⟩=some (.slice Ao14 t90.length co14):=(blk_cell BK86.out 3).trans rfl
      have hfs44:=blk_frozen BK86.out 3
      have hns44_0:=NB87_766.out
      have hns44_1:=NB88_766.out
      have hms44_0:=NB86_761.out
      have hms44_1:=NB86_762.out
      refine skip_ (w1:=?_) zb41 rfl ?_ ?_
      rotate_left
      ·go_simp
       rfl
      refine hK.out _ _ ?_
      clear hK K
      refine done_ (done_of HT_.out zb10) ?_
      try go_wp2
      have n0_:Aside0 (Kd.R (Kd.int .u8) 5 (w42.setCell ⟨gb86,3,none⟩ (.slice Ao43 y92.length co43)) w.heap.size (fun _=>True) (.slice Ao36 t91.length co36) t91):=⟨by (with_reducible repeat (first|apply Kd.R_alloc|apply Kd.R_drewN|apply Kd.R_drew));exact Kd.R_mono (Kd.R_far (p:=⟨gb86,3,none⟩) (Kd.R_types HO93.out BK86.out (by decide)) (fun _ hk=>hk.2) (.slice Ao43 y92.length co43)) (fun _ hk=>trivial)⟩
      have n1_:Aside0 (Kd.R k36 36 (w42.setCell ⟨gb86,3,none⟩ (.slice Ao43 y92.length co43)) w.heap.size (fun _=>True) (.slice Ao43 y92.length co43) y92):=⟨by (with_reducible repeat (first|apply Kd.R_alloc|apply Kd.R_drewN|apply Kd.R_drew));exact Kd.R_mono (Kd.R_far (p:=⟨gb86,3,none⟩) (Kd.R_types HO95.out BK86.out (by decide)) (fun _ hk=>hk.2) (.slice Ao43 y92.length co43)) (fun _ hk=>trivial)⟩
      have n2_:Aside0 ((w42.setCell ⟨gb86,3,none⟩ (.slice Ao43 y92.length co43)).heap[gb87]? = some (.cells #[.int .i64 a0_0,.string a0_1,.int .i64 a0_2,.slice A0_3 l0_3.length c0_3,.slice A0_4 l0_4.length c0_4] 62 (0,0))):=⟨zb42⟩
      have n3_:Aside0 ((w42.setCell ⟨gb86,3,none⟩ (.slice Ao43 y92.length co43)).heap[gb88]? = some (.cells #[.int .i64 0,.string (⟨#[]⟩:ByteArray),.int .i64 0,.slice none 0 0,.slice none 0 0] 62 (0,0))):=⟨zb43⟩
      have n4_:Aside0 ((w42.setCell ⟨gb86,3,none⟩ (.slice Ao43 y92.length co43)).heap[gb86]? = some (.cells #[.int .i64 a0_0,.string a0_1,.int .i64 1,.slice Ao43 y92.length co43,.slice Ao36 t91.length co36] 62 (0,0))):=⟨by (with_reducible repeat (first|refine blk_drewN ?_ _|refine blk_drew ?_|refine blk_alloc ?_ _));refine blk_put (cs:=#[.int .i64 a0_0,.string a0_1,.int .i64 1,.slice Ao14 t90.length co14,.slice Ao36 t91.length co36]) ?_ 3 _ rfl;(with_reducible repeat (first|refine blk_drewN ?_ _|refine blk_drew ?_|refine blk_alloc ?_ _));exact BK86.out⟩
      have n5_:Aside0 (Below w.heap.size w (w42.setCell ⟨gb86,3,none⟩ (.slice Ao43 y92.length co43))):=⟨zb3⟩
      (try clear HO93)
      (try clear HO95)
      (try clear BK87)
      (try clear BK88)
      (try clear BK86)
      (try clear HB)
      generalize (w42.setCell ⟨gb86,3,none⟩ (.slice Ao43 y92.length co43))=w45 at n0_ n1_ n2_ n3_ n4_ n5_ ⊢
      have HO93:=n0_
      have HO95:=n1_
      have BK87:=n2_
      have BK88:=n3_
      have BK86:=n4_
      have HB:=n5_
      clear n0_ n1_ n2_ n3_ n4_ n5_
      replace HO93:=Aside0.mk (Kd.R_drew HO93.out)
      replace HO95:=Aside0.mk (Kd.R_drew HO95.out)
      replace BK87:=Aside0.mk (blk_drew BK87.out)
      replace BK88:=Aside0.mk (blk_drew BK88.out)
      replace BK86:=Aside0.mk (blk_drew BK86.out)
      replace HB:=Aside0.mk (below_drew1 HB.out)
      refine start_ (n:=7) (S:=fun w' => w'.cell? ⟨gb86,0,none⟩=some (.int .i64 a0_0)∧w'.cell? ⟨gb86,1,none⟩=some (.string a0_1)∧w'.cell? ⟨gb86,2,none⟩=some (.int .i64 1)∧w'.cell? ⟨gb86,3,none⟩=some (.slice Ao43 y92.length co43)∧w'.cell? ⟨gb86,4,none⟩=some (.slice Ao36 t91.length co36)) (ds:=[6]) (zl 7 0) zb10 rfl rfl ⟨(blk_cell BK86.out 0).trans rfl,(blk_cell BK86.out 1).trans rfl,(blk_cell BK86.out 2).trans rfl,(blk_cell BK86.out 3).trans rfl,(blk_cell BK86.out 4).trans rfl⟩ (fun hHeld=>?_)
      generalize w45.drew=w46 at HO93 HO95 BK87 BK88 BK86 HB hHeld ⊢
      refine pure_ (i:=0) (N:=some 46) (v:=?_) (a' := ?_) (zl 7 1) rfl rfl zb10 (fun _ _ _ h=>h) (Or.inl ⟨zb41,?_⟩) ?_ ?_
      rotate_left
      ·intro w';go_simp;with_reducible rfl
      rotate_left
      ·simp only [Act.put,zqA,zqB,zqC,i64_w,i32_w];rfl
      refine take_ (i:=1) (N:=some 47) (v:=?_) (a' := ?_) (zl 7 3) rfl rfl zb10 (fun _ _ _ h=>h) (Or.inl ⟨zb41,?_⟩) hHeld ?_ ?_
      rotate_left
      ·rintro w' ⟨s0,s1,s2,s3,s4⟩;go_simp;with_reducible rfl
      rotate_left
      ·simp only [Act.put,zqA,zqB,zqC,i64_w,i32_w];rfl
      refine one_ (i:=2) (N:=some 48) (zl 7 7) rfl rfl zb10 zb27 (fun K hK=>?_)
      refine goes_ Tryz.func72 zb10 rfl #[] zb41 rfl rfl zb1 ?_
      with_reducible refine (scrub_closing.calls  t94 t779 _ A30.out).mono ?_
      rintro e w47 ⟨rfl,hb⟩
      refine ⟨_,rfl,?_⟩
      replace HO93:=Aside0.mk (Kd.R_below zb54 hb)
      replace HO95:=Aside0.mk (Kd.R_below zb39 hb)
      replace BK87:=Aside0.mk (blk_below (g:=gb87) (o:=.cells #[.int .i64 a0_0,.string a0_1,.int .i64 a0_2,.slice A0_3 l0_3.length c0_3,.slice A0_4 l0_4.length c0_4] 62 (0,0)) zb7 hb)
      replace BK88:=Aside0.mk (blk_below (g:=gb88) (o:=.cells #[.int .i64 0,.string (⟨#[]⟩:ByteArray),.int .i64 0,.slice none 0 0,.slice none 0 0] 62 (0,0)) zb12 hb)
      replace BK86:=Aside0.mk (blk_below (g:=gb86) (o:=.cells #[.int .i64 a0_0,.string a0_1,.int .i64 1,.slice Ao43 y92.length co43,.slice Ao36 t91.length co36] 62 (0,0)) zb9 hb)
      replace HB:=Aside0.mk (below_step zb3 hb)
      (try clear hb)
      (try clear hb2)
      (try clear hk)
      (try clear hi)
      refine hK.out _ _ ⟨(blk_cell BK86.out 0).trans rfl,(blk_cell BK86.out 1).trans rfl,(blk_cell BK86.out 2).trans rfl,(blk_cell BK86.out 3).trans rfl,(blk_cell BK86.out 4).trans rfl⟩ (fun hHeld=>?_)
      clear hK K
      refine norm_ (a' := ?_) ?_ ?_
      rotate_left
      ·show Act.put _ (some 48) _=_
       simp only [Act.put,zqA,zqB,zqC,i64_w,i32_w]
       rfl
      refine one_ (i:=3) (N:=some 49) (zl 7 15) rfl rfl zb10 zb27 (fun K hK=>?_)
      refine value_ (w1:=?_) (v:=?_) zb41 rfl ?_ ?_
      rotate_left 2
      ·go_simp
       constructor
       ·rfl
       rfl
      refine hK.out _ _ ⟨(blk_cell (blk_alloc BK86.out _) 0).trans rfl,(blk_cell (blk_alloc BK86.out _) 1).trans rfl,(blk_cell (blk_alloc BK86.out _) 2).trans rfl,(blk_cell (blk_alloc BK86.out _) 3).trans rfl,(blk_cell (blk_alloc BK86.out _) 4).trans rfl⟩ (fun hHeld=>?_)
      clear hK K
      refine norm_ (a' := ?_) ?_ ?_
      rotate_left
      ·show Act.put _ (some 49) _=_
       simp only [Act.put,zqA,zqB,zqC,i64_w,i32_w]
       rfl
      refine one_ (i:=4) (N:=some 50) (zl 7 31) rfl rfl zb10 zb27 (fun K hK=>?_)
      refine Kd.R_append_step k36 (w0:=w) w.heap.size zb41 (.tmp 47) (.tmp 49) 24 36 (.agg #[(.string ⟨#[]⟩),(.string ⟨#[]⟩)]) 32 rfl Tryz.underlying24 info36 rfl zb27 zb18 (.slice Ao43 y92.length co43) y92 (⟨t94,t779⟩:S36) [.string t94,.string t779] (fun _=>True) (fun _=>False) rfl rfl ?aP (fun _ hk=>hk.elim) ?aF ?aO ?aB ?aS ?aL ?_
      (case aP=>exact k36_mkM _ _ _ (⟨t94,t779⟩:S36))
      (case aB=>exact zb38)
      (case aF=>exact (fun _ _=>trivial))
      (case aO=>exact zb39)
      (case aS=>exact zb37)
      (case aL=>have:=LMc31.out;omega)
      intro v781 w48 ho hb hg hat
      rw [← Ny98.out] at ho
      have n0_:=Aside0.mk (blk_grown (g:=gb87) (o:=.cells #[.int .i64 a0_0,.string a0_1,.int .i64 a0_2,.slice A0_3 l0_3.length c0_3,.slice A0_4 l0_4.length c0_4] 62 (0,0)) zb7 hg (Kd.R_ne HO95.out BK87.out zb27))
      have n1_:=Aside0.mk (blk_grown (g:=gb88) (o:=.cells #[.int .i64 0,.string (⟨#[]⟩:ByteArray),.int .i64 0,.slice none 0 0,.slice none 0 0] 62 (0,0)) zb12 hg (Kd.R_ne HO95.out BK88.out zb27))
      have n2_:=Aside0.mk (blk_grown (g:=gb86) (o:=.cells #[.int .i64 a0_0,.string a0_1,.int .i64 1,.slice Ao43 y92.length co43,.slice Ao36 t91.length co36] 62 (0,0)) zb9 hg (Kd.R_ne HO95.out BK86.out zb27))
      have n3_:=Aside0.mk (Kd.R_over' zb54 (Kd.R_typed zb39) zb27 hg)
      have n4_:=Aside0.mk (hb)
      have n5_:=Aside0.mk (ho)
      clear BK87 BK88 BK86 HO93 HB HO95
      have BK87:=n0_
      have BK88:=n1_
      have BK86:=n2_
      have HO93:=n3_
      have HB:=n4_
      have HO782:=n5_
      clear n0_ n1_ n2_ n3_ n4_ n5_ ho hb hg hat
      obtain ⟨Ao49,co49,eo49⟩:=Kd.R_slice HO782.out
      (first|subst eo49|(injection eo49 with f1_ f2_ f3_;have f4_:=f1_.symm;have f5_:=f3_.symm;clear f1_ f2_ f3_;subst f4_;subst f5_))
      refine hK.out _ _ ⟨(blk_cell BK86.out 0).trans rfl,(blk_cell BK86.out 1).trans rfl,(blk_cell BK86.out 2).trans rfl,(blk_cell BK86.out 3).trans rfl,(blk_cell BK86.out 4).trans rfl⟩ (fun hHeld=>?_)
      clear hK K
      refine norm_ (a' := ?_) ?_ ?_
      rotate_left
      ·show Act.put _ (some 50) _=_
       simp only [Act.put,zqA,zqB,zqC,i64_w,i32_w]
       rfl
      refine pure_ (i:=5) (N:=some 51) (v:=?_) (a' := ?_) (zl 7 63) rfl rfl zb10 (fun _ _ _ h=>h) (Or.inl ⟨zb41,?_⟩) ?_ ?_
      rotate_left
      ·intro w';go_simp;with_reducible rfl
      rotate_left
      ·simp only [Act.put,zqA,zqB,zqC,i64_w,i32_w];rfl
      refine last_ (i:=6) (N:=none) (zl 7 127) rfl rfl zb10 zb27 (fun K hK=>?_)
      have hs50:w48.cell? ⟨gb86,3,none⟩=some (.slice Ao43 y92.length co43):=(blk_cell BK86.out 3).trans rfl
      have hfs50:=blk_frozen BK86.out 3
      have hns50_0:=NB87_766.out
      have hns50_1:=NB88_766.out
      have hms50_0:=NB86_761.out
      have hms50_1:=NB86_762.out
      refine skip_ (w1:=?_) zb41 rfl ?_ ?_
      rotate_left
      ·go_simp
       rfl
      refine hK.out _ _ ?_
      clear hK K
      refine done_ zb10 ?_
      obtain ⟨hcz51_0,hcz51_1,hcz51_2,hcz51_3,hcz51_4,hfz51_0,hfz51_1,hfz51_2,hfz51_3,hfz51_4⟩:=zq5 BK86.out
      obtain ⟨hcz52_0,hcz52_1,hcz52_2,hcz52_3,hcz52_4,hfz52_0,hfz52_1,hfz52_2,hfz52_3,hfz52_4⟩:=zq5 BK88.out
      try go_wp2
      refine bodyPost_ret (results_cell_row rfl _ _ gb88 62 #[.int .i64 a0_0,.string a0_1,.int .i64 1,.slice Ao49 y98.length co49,.slice Ao36 t91.length co36] (0,0) _ rfl (by (with_reducible repeat (first|refine blk_drewN ?_ _|refine blk_drew ?_|refine blk_alloc ?_ _));refine blk_put (cs:=#[.int .i64 a0_0,.string a0_1,.int .i64 1,.slice Ao49 y98.length co49,.slice none 0 0]) ?_ 4 _ rfl;(with_reducible repeat (first|refine blk_drewN ?_ _|refine blk_drew ?_|refine blk_alloc ?_ _));refine blk_put (cs:=#[.int .i64 a0_0,.string a0_1,.int .i64 1,.slice none 0 0,.slice none 0 0]) ?_ 3 _ rfl;(with_reducible repeat (first|refine blk_drewN ?_ _|refine blk_drew ?_|refine blk_alloc ?_ _));refine blk_put (cs:=#[.int .i64 a0_0,.string a0_1,.int .i64 0,.slice none 0 0,.slice none 0 0]) ?_ 2 _ rfl;(with_reducible repeat (first|refine blk_drewN ?_ _|refine blk_drew ?_|refine blk_alloc ?_ _));refine blk_put (cs:=#[.int .i64 a0_0,.string (⟨#[]⟩:ByteArray),.int .i64 0,.slice none 0 0,.slice none 0 0]) ?_ 1 _ rfl;(with_reducible repeat (first|refine blk_drewN ?_ _|refine blk_drew ?_|refine blk_alloc ?_ _));refine blk_put (cs:=#[.int .i64 0,.string (⟨#[]⟩:ByteArray),.int .i64 0,.slice none 0 0,.slice none 0 0]) ?_ 0 _ rfl;(with_reducible repeat (first|refine blk_drewN ?_ _|refine blk_drew ?_|refine blk_alloc ?_ _));refine blk_far ?_ NB88_766.out _;(with_reducible repeat (first|refine blk_drewN ?_ _|refine blk_drew ?_|refine blk_alloc ?_ _));exact BK88.out) Tryz.underlying62 rfl zb10) rfl ?_
      exact ⟨_,_,zb2,by (with_reducible repeat (first|apply Kd.R_alloc|apply Kd.R_drewN|apply Kd.R_drew));exact Kd.R_mono (Kd.R_far (p:=⟨gb88,4,none⟩) (Kd.R_far (p:=⟨gb88,3,none⟩) (Kd.R_far (p:=⟨gb88,2,none⟩) (Kd.R_far (p:=⟨gb88,1,none⟩) (Kd.R_far (p:=⟨gb88,0,none⟩) (Kd.R_far (p:=⟨gb86,3,none⟩) (Kd.R_types (Kd.R_types HO782.out BK86.out (by decide)) BK88.out (by decide)) (fun _ hk=>hk.1.2) (.slice Ao49 y98.length co49)) (fun _ hk=>hk.2) (.int .i64 a0_0)) (fun _ hk=>hk.2) (.string a0_1)) (fun _ hk=>hk.2) (.int .i64 1)) (fun _ hk=>hk.2) (.slice Ao49 y98.length co49)) (fun _ hk=>hk.2) (.slice Ao36 t91.length co36)) (fun _ hk=>trivial),by (with_reducible repeat (first|apply Kd.R_alloc|apply Kd.R_drewN|apply Kd.R_drew));exact Kd.R_mono (Kd.R_far (p:=⟨gb88,4,none⟩) (Kd.R_far (p:=⟨gb88,3,none⟩) (Kd.R_far (p:=⟨gb88,2,none⟩) (Kd.R_far (p:=⟨gb88,1,none⟩) (Kd.R_far (p:=⟨gb88,0,none⟩) (Kd.R_far (p:=⟨gb86,3,none⟩) (Kd.R_types (Kd.R_types HO93.out BK86.out (by decide)) BK88.out (by decide)) (fun _ hk=>hk.1.2) (.slice Ao49 y98.length co49)) (fun _ hk=>hk.2) (.int .i64 a0_0)) (fun _ hk=>hk.2) (.string a0_1)) (fun _ hk=>hk.2) (.int .i64 1)) (fun _ hk=>hk.2) (.slice Ao49 y98.length co49)) (fun _ hk=>hk.2) (.slice Ao36 t91.length co36)) (fun _ hk=>trivial),zb3⟩
     ·rw [if_neg c31] at H
      exact absurd H zb33
    ·replace c29:=Bool.eq_false_iff.mpr c29
     subst c29
     rw [if_neg (show ¬ (false=true) by decide)] at H
     simp only [Option.some.injEq,Prod.mk.injEq] at H
     obtain ⟨rfl,rfl,rfl,rfl,rfl⟩:=H
     have hnb53:=NB87_762.out
     have hnc53:=NB88_761.out
     have hnb54:=NB87_766.out
     have hnc54:=NB86_761.out
     obtain ⟨hcz55_0,hcz55_1,hcz55_2,hcz55_3,hcz55_4,hfz55_0,hfz55_1,hfz55_2,hfz55_3,hfz55_4⟩:=zq5 BK87.out
     try go_wp2_with (first|((with_reducible refine gate_callee (f:=62) rfl ?_);refine goesL_ (some 34) rfl rfl Tryz.func62 zb10 rfl #[.slice A0_4 l0_4.length c0_4] rfl zb1 ?_;(with_reducible refine (bytes_Clone.calls _ _ l0_4 t91 _ ?side1 ?side2 A26.out).mono ?_);(case side1=>exact zb51);(case side2=>exact HC0_4.out);rintro e w56 ⟨v771,rfl,ho0,hb⟩;(try clear A26);refine ⟨_,rfl,?_⟩;replace HO_89:=Aside0.mk (Kd.R_below zb28 hb);have HO93:=Aside0.mk (Kd.R_lower ho0 (below_size zb3));replace BK87:=Aside0.mk (blk_below (g:=gb87) (o:=.cells #[.int .i64 a0_0,.string a0_1,.int .i64 a0_2,.slice A0_3 l0_3.length c0_3,.slice A0_4 l0_4.length c0_4] 62 (0,0)) zb7 hb);replace BK88:=Aside0.mk (blk_below (g:=gb88) (o:=.cells #[.int .i64 0,.string (⟨#[]⟩:ByteArray),.int .i64 0,.slice none 0 0,.slice none 0 0] 62 (0,0)) zb12 hb);replace BK86:=Aside0.mk (blk_below (g:=gb86) (o:=.cells #[.int .i64 a0_0,.string a0_1,.int .i64 1,.slice Ao14 t90.length co14,.slice none 0 0] 62 (0,0)) zb9 hb);replace HB:=Aside0.mk (below_step zb3 hb);try clear hb ho0;obtain ⟨Ao57,co57,eo57⟩:=Kd.R_slice HO93.out;subst eo57;have hnb58:=NB86_762.out;have hnc58:=NB88_766.out;obtain ⟨hcz59_0,hcz59_1,hcz59_2,hcz59_3,hcz59_4,hfz59_0,hfz59_1,hfz59_2,hfz59_3,hfz59_4⟩:=zq5 BK86.out))
     have n0_:Aside0 (Kd.R k36 36 (w56.setCell ⟨gb86,4,none⟩ (.slice Ao57 t91.length co57)) w.heap.size (fun _=>True) (.slice Ao14 t90.length co14) t90):=⟨by (with_reducible repeat (first|apply Kd.R_alloc|apply Kd.R_drewN|apply Kd.R_drew));exact Kd.R_mono (Kd.R_far (p:=⟨gb86,4,none⟩) (Kd.R_types HO_89.out BK86.out (by decide)) (fun _ hk=>hk.2) (.slice Ao57 t91.length co57)) (fun _ hk=>trivial)⟩
     have n1_:Aside0 (Kd.R (Kd.int .u8) 5 (w56.setCell ⟨gb86,4,none⟩ (.slice Ao57 t91.length co57)) w.heap.size (fun _=>True) (.slice Ao57 t91.length co57) t91):=⟨by (with_reducible repeat (first|apply Kd.R_alloc|apply Kd.R_drewN|apply Kd.R_drew));exact Kd.R_mono (Kd.R_far (p:=⟨gb86,4,none⟩) (Kd.R_types HO93.out BK86.out (by decide)) (fun _ hk=>hk.2) (.slice Ao57 t91.length co57)) (fun _ hk=>trivial)⟩
     have n2_:Aside0 ((w56.setCell ⟨gb86,4,none⟩ (.slice Ao57 t91.length co57)).heap[gb87]? = some (.cells #[.int .i64 a0_0,.string a0_1,.int .i64 a0_2,.slice A0_3 l0_3.length c0_3,.slice A0_4 l0_4.length c0_4] 62 (0,0))):=⟨zb42⟩
     have n3_:Aside0 ((w56.setCell ⟨gb86,4,none⟩ (.slice Ao57 t91.length co57)).heap[gb88]? = some (.cells #[.int .i64 0,.string (⟨#[]⟩:ByteArray),.int .i64 0,.slice none 0 0,.slice none 0 0] 62 (0,0))):=⟨zb43⟩
     have n4_:Aside0 ((w56.setCell ⟨gb86,4,none⟩ (.slice Ao57 t91.length co57)).heap[gb86]? = some (.cells #[.int .i64 a0_0,.string a0_1,.int .i64 1,.slice Ao14 t90.length co14,.slice Ao57 t91.length co57] 62 (0,0))):=⟨zb49⟩
     have n5_:Aside0 (Below w.heap.size w (w56.setCell ⟨gb86,4,none⟩ (.slice Ao57 t91.length co57))):=⟨zb3⟩
     (try clear HO_89)
     (try clear HO93)
     (try clear BK87)
     (try clear BK88)
     (try clear BK86)
     (try clear HB)
     generalize (w56.setCell ⟨gb86,4,none⟩ (.slice Ao57 t91.length co57))=w60 at n0_ n1_ n2_ n3_ n4_ n5_ ⊢
     have HO_89:=n0_
     have HO93:=n1_
     have BK87:=n2_
     have BK88:=n3_
     have BK86:=n4_
     have HB:=n5_
     clear n0_ n1_ n2_ n3_ n4_ n5_
     replace HO_89:=Aside0.mk (Kd.R_drew HO_89.out)
     replace HO93:=Aside0.mk (Kd.R_drew HO93.out)
     replace BK87:=Aside0.mk (blk_drew BK87.out)
     replace BK88:=Aside0.mk (blk_drew BK88.out)
     replace BK86:=Aside0.mk (blk_drew BK86.out)
     replace HB:=Aside0.mk (below_drew1 HB.out)
     refine start_ (n:=10) (S:=fun w' => w'.cell? ⟨gb86,0,none⟩=some (.int .i64 a0_0)∧w'.cell? ⟨gb86,1,none⟩=some (.string a0_1)∧w'.cell? ⟨gb86,2,none⟩=some (.int .i64 1)∧w'.cell? ⟨gb86,3,none⟩=some (.slice Ao14 t90.length co14)∧w'.cell? ⟨gb86,4,none⟩=some (.slice Ao57 t91.length co57)∧w'.cell? ⟨gb87,0,none⟩=some (.int .i64 a0_0)∧w'.cell? ⟨gb87,1,none⟩=some (.string a0_1)∧w'.cell? ⟨gb87,2,none⟩=some (.int .i64 a0_2)∧w'.cell? ⟨gb87,3,none⟩=some (.slice A0_3 l0_3.length c0_3)∧w'.cell? ⟨gb87,4,none⟩=some (.slice A0_4 l0_4.length c0_4)) (ds:=[9]) (zl 10 0) zb10 rfl rfl ⟨(blk_cell BK86.out 0).trans rfl,(blk_cell BK86.out 1).trans rfl,(blk_cell BK86.out 2).trans rfl,(blk_cell BK86.out 3).trans rfl,(blk_cell BK86.out 4).trans rfl,(blk_cell BK87.out 0).trans rfl,(blk_cell BK87.out 1).trans rfl,(blk_cell BK87.out 2).trans rfl,(blk_cell BK87.out 3).trans rfl,(blk_cell BK87.out 4).trans rfl⟩ (fun hHeld=>?_);refine with_tabW scrub_Response.tab5 scrub_Response.bits5 (fun HT_ HW_=>?_)
     generalize w60.drew=w61 at HO_89 HO93 BK87 BK88 BK86 HB hHeld ⊢
     refine zpu 0 (N:=some 36) (zl 10 1) HT_.out rfl rfl ?_
     refine zpu 2 (N:=some 38) (zl 10 5) HT_.out rfl rfl ?_
     refine take_ (i:=1) (N:=some 37) (v:=?_) (a' := ?_) (zl 10 7) rfl rfl (take_ofW HT_.out HW_.out zb10) (fun _ _ _ h=>h) (Or.inl ⟨zb41,?_⟩) hHeld ?_ ?_
     rotate_left
     ·rintro w' ⟨s0,s1,s2,s3,s4,s5,s6,s7,s8,s9⟩;go_simp;with_reducible rfl
     rotate_left
     ·simp only [Act.put,zqA,zqB,zqC,i64_w,i32_w];rfl
     refine take_ (i:=3) (N:=some 39) (v:=?_) (a' := ?_) (zl 10 15) rfl rfl (take_ofW HT_.out HW_.out zb10) (fun _ _ _ h=>h) (Or.inl ⟨zb41,?_⟩) hHeld ?_ ?_
     rotate_left
     ·rintro w' ⟨s0,s1,s2,s3,s4,s5,s6,s7,s8,s9⟩;go_simp;with_reducible rfl
     rotate_left
     ·simp only [Act.put,zqA,zqB,zqC,i64_w,i32_w];rfl
     refine zpu 4 (N:=some 40) (zl 10 31) HT_.out rfl rfl ?_
     refine one_ (i:=5) (N:=some 41) (zl 10 63) rfl rfl (one_of HT_.out zb10) zb27 (fun K hK=>?_)
     refine goes_ Tryz.func61 zb10 rfl #[.int .i64 (l0_4.length:Int)] zb41 rfl rfl zb1 ?_
     with_reducible refine (scrub_length.calls (l0_4.length:Int) t96 t774 _ A27.out ?hT).mono ?_;(case hT=>exact HTB.out.below zb3)
     rintro e w62 ⟨rfl,hb⟩
     refine ⟨_,rfl,?_⟩
     replace HO_89:=Aside0.mk (Kd.R_below zb28 hb)
     replace HO93:=Aside0.mk (Kd.R_below zb54 hb)
     replace BK87:=Aside0.mk (blk_below (g:=gb87) (o:=.cells #[.int .i64 a0_0,.string a0_1,.int .i64 a0_2,.slice A0_3 l0_3.length c0_3,.slice A0_4 l0_4.length c0_4] 62 (0,0)) zb7 hb)
     replace BK88:=Aside0.mk (blk_below (g:=gb88) (o:=.cells #[.int .i64 0,.string (⟨#[]⟩:ByteArray),.int .i64 0,.slice none 0 0,.slice none 0 0] 62 (0,0)) zb12 hb)
     replace BK86:=Aside0.mk (blk_below (g:=gb86) (o:=.cells #[.int .i64 a0_0,.string a0_1,.int .i64 1,.slice Ao14 t90.length co14,.slice Ao57 t91.length co57] 62 (0,0)) zb9 hb)
     replace HB:=Aside0.mk (below_step zb3 hb)
     (try clear hb)
     (try clear hb2)
     (try clear hk)
     (try clear hi)
     refine hK.out _ _ ⟨(blk_cell BK86.out 0).trans rfl,(blk_cell BK86.out 1).trans rfl,(blk_cell BK86.out 2).trans rfl,(blk_cell BK86.out 3).trans rfl,(blk_cell BK86.out 4).trans rfl,(blk_cell BK87.out 0).trans rfl,(blk_cell BK87.out 1).trans rfl,(blk_cell BK87.out 2).trans rfl,(blk_cell BK87.out 3).trans rfl,(blk_cell BK87.out 4).trans rfl⟩ (fun hHeld=>?_)
     clear hK K
     refine norm_ (a' := ?_) ?_ ?_
     rotate_left
     ·show Act.put _ (some 41) _=_
      simp only [Act.put,zqA,zqB,zqC,i64_w,i32_w]
      rfl
     refine one_ (i:=6) (N:=some 42) (zl 10 127) rfl rfl (one_of HT_.out zb10) zb27 (fun K hK=>?_)
     refine value_ (w1:=?_) (v:=?_) zb41 rfl ?_ ?_
     rotate_left 2
     ·go_simp
      constructor
      ·rfl
      ·rfl
     refine hK.out _ _ ⟨(blk_cell (blk_alloc BK86.out _) 0).trans rfl,(blk_cell (blk_alloc BK86.out _) 1).trans rfl,(blk_cell (blk_alloc BK86.out _) 2).trans rfl,(blk_cell (blk_alloc BK86.out _) 3).trans rfl,(blk_cell (blk_alloc BK86.out _) 4).trans rfl,(blk_cell (blk_alloc BK87.out _) 0).trans rfl,(blk_cell (blk_alloc BK87.out _) 1).trans rfl,(blk_cell (blk_alloc BK87.out _) 2).trans rfl,(blk_cell (blk_alloc BK87.out _) 3).trans rfl,(blk_cell (blk_alloc BK87.out _) 4).trans rfl⟩ (fun hHeld=>?_)
     clear hK K
     refine norm_ (a' := ?_) ?_ ?_
     rotate_left
     ·show Act.put _ (some 42) _=_
      simp only [Act.put,zqA,zqB,zqC,i64_w,i32_w]
      rfl
     refine one_ (i:=7) (N:=some 43) (zl 10 255) rfl rfl (one_of HT_.out zb10) zb27 (fun K hK=>?_)
     refine Kd.R_append_step k36 (w0:=w) w.heap.size zb41 (.tmp 37) (.tmp 42) 24 36 (.agg #[(.string ⟨#[]⟩),(.string ⟨#[]⟩)]) 32 rfl Tryz.underlying24 info36 rfl zb27 zb18 (.slice Ao14 t90.length co14) t90 (⟨t96,t774⟩:S36) [.string t96,.string t774] (fun _=>True) (fun _=>False) rfl rfl ?aP (fun _ hk=>hk.elim) ?aF ?aO ?aB ?aS ?aL ?_
     (case aP=>exact k36_mkM _ _ _ (⟨t96,t774⟩:S36))
     (case aB=>exact zb38)
     (case aF=>exact (fun _ _=>trivial))
     (case aO=>exact zb82)
     (case aS=>exact zb37)
     (case aL=>have:=LMc28.out;omega)
     intro v776 w63 ho hb hg hat
     rw [← Ny92.out] at ho
     have n0_:=Aside0.mk (blk_grown (g:=gb87) (o:=.cells #[.int .i64 a0_0,.string a0_1,.int .i64 a0_2,.slice A0_3 l0_3.length c0_3,.slice A0_4 l0_4.length c0_4] 62 (0,0)) zb7 hg (Kd.R_ne HO_89.out BK87.out zb27))
     have n1_:=Aside0.mk (blk_grown (g:=gb88) (o:=.cells #[.int .i64 0,.string (⟨#[]⟩:ByteArray),.int .i64 0,.slice none 0 0,.slice none 0 0] 62 (0,0)) zb12 hg (Kd.R_ne HO_89.out BK88.out zb27))
     have n2_:=Aside0.mk (blk_grown (g:=gb86) (o:=.cells #[.int .i64 a0_0,.string a0_1,.int .i64 1,.slice Ao14 t90.length co14,.slice Ao57 t91.length co57] 62 (0,0)) zb9 hg (Kd.R_ne HO_89.out BK86.out zb27))
     have n3_:=Aside0.mk (Kd.R_over' zb54 (Kd.R_typed zb28) zb27 hg)
     have n4_:=Aside0.mk (hb)
     have n5_:=Aside0.mk (ho)
     clear BK87 BK88 BK86 HO93 HB HO_89
     have BK87:=n0_
     have BK88:=n1_
     have BK86:=n2_
     have HO93:=n3_
     have HB:=n4_
     have HO95:=n5_
     clear n0_ n1_ n2_ n3_ n4_ n5_ ho hb hg hat
     obtain ⟨Ao64,co64,eo64⟩:=Kd.R_slice HO95.out
     (first|subst eo64|(injection eo64 with f1_ f2_ f3_;have f4_:=f1_.symm;have f5_:=f3_.symm;clear f1_ f2_ f3_;subst f4_;subst f5_))
     refine hK.out _ _ ⟨(blk_cell BK86.out 0).trans rfl,(blk_cell BK86.out 1).trans rfl,(blk_cell BK86.out 2).trans rfl,(blk_cell BK86.out 3).trans rfl,(blk_cell BK86.out 4).trans rfl,(blk_cell BK87.out 0).trans rfl,(blk_cell BK87.out 1).trans rfl,(blk_cell BK87.out 2).trans rfl,(blk_cell BK87.out 3).trans rfl,(blk_cell BK87.out 4).trans rfl⟩ (fun hHeld=>?_)
     clear hK K
     refine norm_ (a' := ?_) ?_ ?_
     rotate_left
     ·show Act.put _ (some 43) _=_
      simp only [Act.put,zqA,zqB,zqC,i64_w,i32_w]
      rfl
     refine zpu 8 (N:=some 44) (zl 10 511) HT_.out rfl rfl ?_
     refine last_ (i:=9) (N:=none) (zl 10 1023) rfl rfl (one_of HT_.out zb10) zb27 (fun K hK=>?_)
     have hs65:w63.cell? ⟨gb86,3,none⟩=some (.slice Ao14 t90.length co14):=(blk_cell BK86.out 3).trans rfl
     have hfs65:=blk_frozen BK86.out 3
     have hns65_0:=NB87_766.out
     have hns65_1:=NB88_766.out
     have hms65_0:=NB86_761.out
     have hms65_1:=NB86_762.out
     refine skip_ (w1:=?_) zb41 rfl ?_ ?_
     rotate_left
     ·go_simp
      rfl
     refine hK.out _ _ ?_
     clear hK K
     refine done_ (done_of HT_.out zb10) ?_
     obtain ⟨hcz66_0,hcz66_1,hcz66_2,hcz66_3,hcz66_4,hfz66_0,hfz66_1,hfz66_2,hfz66_3,hfz66_4⟩:=zq5 BK86.out
     obtain ⟨hcz67_0,hcz67_1,hcz67_2,hcz67_3,hcz67_4,hfz67_0,hfz67_1,hfz67_2,hfz67_3,hfz67_4⟩:=zq5 BK88.out
     try go_wp2
     refine bodyPost_ret (results_cell_row rfl _ _ gb88 62 #[.int .i64 a0_0,.string a0_1,.int .i64 1,.slice Ao64 y92.length co64,.slice Ao57 t91.length co57] (0,0) _ rfl (by (with_reducible repeat (first|refine blk_drewN ?_ _|refine blk_drew ?_|refine blk_alloc ?_ _));refine blk_put (cs:=#[.int .i64 a0_0,.string a0_1,.int .i64 1,.slice Ao64 y92.length co64,.slice none 0 0]) ?_ 4 _ rfl;(with_reducible repeat (first|refine blk_drewN ?_ _|refine blk_drew ?_|refine blk_alloc ?_ _));refine blk_put (cs:=#[.int .i64 a0_0,.string a0_1,.int .i64 1,.slice none 0 0,.slice none 0 0]) ?_ 3 _ rfl;(with_reducible repeat (first|refine blk_drewN ?_ _|refine blk_drew ?_|refine blk_alloc ?_ _));refine blk_put (cs:=#[.int .i64 a0_0,.string a0_1,.int .i64 0,.slice none 0 0,.slice none 0 0]) ?_ 2 _ rfl;(with_reducible repeat (first|refine blk_drewN ?_ _|refine blk_drew ?_|refine blk_alloc ?_ _));refine blk_put (cs:=#[.int .i64 a0_0,.string (⟨#[]⟩:ByteArray),.int .i64 0,.slice none 0 0,.slice none 0 0]) ?_ 1 _ rfl;(with_reducible repeat (first|refine blk_drewN ?_ _|refine blk_drew ?_|refine blk_alloc ?_ _));refine blk_put (cs:=#[.int .i64 0,.string (⟨#[]⟩:ByteArray),.int .i64 0,.slice none 0 0,.slice none 0 0]) ?_ 0 _ rfl;(with_reducible repeat (first|refine blk_drewN ?_ _|refine blk_drew ?_|refine blk_alloc ?_ _));refine blk_far ?_ NB88_766.out _;(with_reducible repeat (first|refine blk_drewN ?_ _|refine blk_drew ?_|refine blk_alloc ?_ _));exact BK88.out) Tryz.underlying62 rfl zb10) rfl ?_
     exact ⟨_,_,zb2,by (with_reducible repeat (first|apply Kd.R_alloc|apply Kd.R_drewN|apply Kd.R_drew));exact Kd.R_mono (Kd.R_far (p:=⟨gb88,4,none⟩) (Kd.R_far (p:=⟨gb88,3,none⟩) (Kd.R_far (p:=⟨gb88,2,none⟩) (Kd.R_far (p:=⟨gb88,1,none⟩) (Kd.R_far (p:=⟨gb88,0,none⟩) (Kd.R_far (p:=⟨gb86,3,none⟩) (Kd.R_types (Kd.R_types HO95.out BK86.out (by decide)) BK88.out (by decide)) (fun _ hk=>hk.1.2) (.slice Ao64 y92.length co64)) (fun _ hk=>hk.2) (.int .i64 a0_0)) (fun _ hk=>hk.2) (.string a0_1)) (fun _ hk=>hk.2) (.int .i64 1)) (fun _ hk=>hk.2) (.slice Ao64 y92.length co64)) (fun _ hk=>hk.2) (.slice Ao57 t91.length co57)) (fun _ hk=>trivial),by (with_reducible repeat (first|apply Kd.R_alloc|apply Kd.R_drewN|apply Kd.R_drew));exact Kd.R_mono (Kd.R_far (p:=⟨gb88,4,none⟩) (Kd.R_far (p:=⟨gb88,3,none⟩) (Kd.R_far (p:=⟨gb88,2,none⟩) (Kd.R_far (p:=⟨gb88,1,none⟩) (Kd.R_far (p:=⟨gb88,0,none⟩) (Kd.R_far (p:=⟨gb86,3,none⟩) (Kd.R_types (Kd.R_types HO93.out BK86.out (by decide)) BK88.out (by decide)) (fun _ hk=>hk.1.2) (.slice Ao64 y92.length co64)) (fun _ hk=>hk.2) (.int .i64 a0_0)) (fun _ hk=>hk.2) (.string a0_1)) (fun _ hk=>hk.2) (.int .i64 1)) (fun _ hk=>hk.2) (.slice Ao64 y92.length co64)) (fun _ hk=>hk.2) (.slice Ao57 t91.length co57)) (fun _ hk=>trivial),zb3⟩
   ·rw [if_neg c28] at H
    exact absurd H zb33
/-- The reader's block: its bytes,its place,and whether more are needed. -/
def Rdr (w:World) (g:Nat) (A:Option Addr) (n c:Nat) (p:Int) (m:Bool):Prop:=w.heap[g]? = some (.cells #[.slice A n c,.int .i64 p,.bool m] 150 (0,0))
theorem keep_trans {w w1 w2:World} {g:Nat} (h:KeepBut w w1 g none) (k:KeepBut w1 w2 g none):KeepBut w w2 g none :=
 ⟨Nat.le_trans h.1 k.1,fun i hi hg hr=>(k.2 i (Nat.lt_of_lt_of_le hi h.1) hg hr).trans (h.2 i hi hg hr)⟩
theorem keep_below {w w1:World} (g:Nat) (h:Below w.heap.size w w1):KeepBut w w1 g none:=⟨h.size,fun i hi _ _=>h.block i hi⟩
theorem below_less {w w1:World} {g:Nat} (hg:g ≤ w.heap.size) (h:Below w.heap.size w w1):Below g w w1:=⟨h.os,h.tape,h.output,h.size,fun b hb=>h.block b (Nat.lt_of_lt_of_le hb hg)⟩
theorem below_base {w w1:World} {b g:Nat} (hg:b ≤ g) (h:Below g w w1):Below b w w1:=⟨h.os,h.tape,h.output,h.size,fun i hi=>h.block i (Nat.lt_of_lt_of_le hi hg)⟩
/-- What a call of the reader's has turned: its own block alone;new blocks. -/
def Went (w w' : World) (g:Nat) (A:Option Addr) (n c:Nat) (p:Int) (m:Bool):Prop:=Rdr w' g A n c p m∧Below g w w' ∧ KeepBut w w' g none
theorem Went.step {w w1 w2:World} {g:Nat} {A:Option Addr} {n c:Nat} {p:Int} {m:Bool} (h:Went w w1 g A n c p m) (hb:Below w1.heap.size w1 w2):Went w w2 g A n c p m :=
 ⟨blk_below h.1 hb,h.2.1.trans (below_less (Nat.le_of_lt (blk_lt h.1)) hb),keep_trans h.2.2 (keep_below g hb)⟩
theorem Went.place {w w1:World} {g:Nat} {A:Option Addr} {n c:Nat} {p:Int} {m:Bool} (h:Went w w1 g A n c p m):w1.cell? ⟨g,1,none⟩=some (.int .i64 p):=(blk_cell h.1 1).trans rfl
theorem Went.bytes {w w1:World} {g:Nat} {A:Option Addr} {n c:Nat} {p:Int} {m:Bool} (h:Went w w1 g A n c p m):w1.cell? ⟨g,0,none⟩=some (.slice A n c):=(blk_cell h.1 0).trans rfl
/-- The reader and what was collected,beside it. -/
def Dec (w wr:World) (g:Nat) (A:Option Addr) (n c:Nat) (p:Int) (v:Value) (out:List Int):Prop:=Rdr wr g A n c p false∧Below w.heap.size w wr∧w.heap.size ≤ g∧Kd.R (Kd.int .u8) 5 wr w.heap.size (fun k=>k ≠ g) v out
theorem Dec.below {w wr w1:World} {g:Nat} {A:Option Addr} {n c:Nat} {p q:Int} {m:Bool} {v:Value} {out:List Int} (h:Dec w wr g A n c p v out) (k:Went wr w1 g A n c q m):Below w.heap.size w w1:=h.2.1.trans (below_base h.2.2.1 k.2.1)
/-- The block that the first line's test writes: what it holds,by the text that it was handed last. -/
def HBlk (G T:Nat) (Val:Option ByteArray → Array Value → Prop) (x:Option ByteArray) (W:World):Prop := ∃ cs,Val x cs∧W.heap[G]? = some (.cells cs T (0,0))
theorem HBlk.lt {G T:Nat} {Val:Option ByteArray → Array Value → Prop} {x:Option ByteArray} {W:World} (h:HBlk G T Val x W):G < W.heap.size:=by obtain ⟨cs,_,h⟩:=h;exact blk_lt h
theorem HBlk.below {G T:Nat} {Val:Option ByteArray → Array Value → Prop} {x:Option ByteArray} {W W' : World} (h:HBlk G T Val x W) (hb:Below W.heap.size W W'):HBlk G T Val x W' := by obtain ⟨cs,hv,h⟩:=h;exact ⟨cs,hv,blk_below h hb⟩
theorem HBlk.alloc {G T:Nat} {Val:Option ByteArray → Array Value → Prop} {x:Option ByteArray} {W:World} (h:HBlk G T Val x W) (o:Obj):HBlk G T Val x (W.alloc o):=by obtain ⟨cs,hv,h⟩:=h;exact ⟨cs,hv,blk_alloc h o⟩
theorem HBlk.grown {G T:Nat} {Val:Option ByteArray → Array Value → Prop} {x:Option ByteArray} {W W' : World} {row:Option Nat} (h:HBlk G T Val x W) (hg:W.grownBy W' row) (hn:some G ≠ row):HBlk G T Val x W' := by obtain ⟨cs,hv,h⟩:=h;exact ⟨cs,hv,blk_grown h hg hn⟩
/-- The loop's state. -/
def HSt (w0 wr:World) (G T:Nat) (Val:Option ByteArray → Array Value → Prop) (st:Option ByteArray) (v:Value) (fs:List (S36)):Prop:=HBlk G T Val st wr∧Below w0.heap.size w0 wr∧Kd.R k36 36 wr w0.heap.size (fun k=>k ≠ G) v fs
theorem hbase {w w1:World} {b g:Nat} (hg:b ≤ g) (h:Below g w w1):Below b w w1:=⟨h.os,h.tape,h.output,h.size,fun i hi=>h.block i (Nat.lt_of_lt_of_le hi hg)⟩
theorem HSt.below {w0 wr w1:World} {G T:Nat} {Val:Option ByteArray → Array Value → Prop} {st:Option ByteArray} {v:Value} {fs:List (S36)} (h:HSt w0 wr G T Val st v fs) (hb:Below wr.heap.size wr w1):HSt w0 w1 G T Val st v fs :=
 ⟨h.1.below hb,h.2.1.trans (hbase h.2.1.size hb),Kd.R_below h.2.2 hb⟩
theorem HSt.alloc {w0 wr:World} {G T:Nat} {Val:Option ByteArray → Array Value → Prop} {st:Option ByteArray} {v:Value} {fs:List (S36)} (h:HSt w0 wr G T Val st v fs) (o:Obj):HSt w0 (wr.alloc o) G T Val st v fs:=h.below (below_alloc (Below.refl _ _) o)
end Go.Proofs.YtagffbblalldiaaGreatDoor.P
namespace Go.Proofs.YtagffbblalldiaaGreatDoor.P
open Go.RowKit Go.Proofs.YtagffbblalldiaaGreatDoorW.PrintWords Go.Proofs.YtagffbblalldiaaGreatDoorW.PrintLast Go.Proofs.YtagffbblalldiaaGreatDoorW.PrintMore
attribute [local go_sem] max2_int min2_int max_two min_two max_three min_three max_four min_four   -- for this text's walks alone
set_option linter.unusedVariables false
set_option linter.unusedSimpArgs false
section
variable {P : Program}
variable {ops : Array Oper} {rest : List Oper} {o : Oper} {a : Act} {Q : Exit → Act → World → Prop}
end
end Go.Proofs.YtagffbblalldiaaGreatDoor.P
namespace Go.Proofs.YtagffbblalldiaaGreatDoor.P
open Go.RowKit Go.Proofs.YtagffbblalldiaaGreatDoorW.PrintWords Go.Proofs.YtagffbblalldiaaGreatDoorW.PrintLast Go.Proofs.YtagffbblalldiaaGreatDoorW.PrintMore
attribute [local go_sem] max2_int min2_int max_two min_two max_three min_three max_four min_four
set_option linter.unusedVariables false
set_option linter.unusedSimpArgs false
end Go.Proofs.YtagffbblalldiaaGreatDoor.P
