/- Each function below answers as its Lean twin says; plain lemmas; a row where its theorem stands. No further condition. (Laid by this repo's pack.py out of its texts and of the print's words.) -/
import Derived.Test.YtagffbblalldiaaDoorZc54eb124
import Derived.Test.YtagffbblalldiaaDoorZa4c101c0
import Derived.Test.YtagffbblalldiaaDoorZ6433cbc1
import Derived.Test.YtagffbblalldiaaDoorZcf838b10
import Derived.Lib.SlBytesConst
import Derived.Lib.IndexBytes
import Derived.Lib.Strings
import Derived.Shelf.Strings.SlTrimAscii
namespace Go.Proofs.YtagffbblalldiaaDoor.P
open Go.RowKit Go.Proofs.YtagffbblalldiaaDoorW.PrintWords Go.Proofs.YtagffbblalldiaaDoorW.PrintLast Go.Proofs.YtagffbblalldiaaDoorW.PrintMore
attribute [local go_sem] max2_int min2_int max_two min_two max_three min_three max_four min_four
set_option linter.unusedVariables false
set_option linter.unusedSimpArgs false
def an_b:List Int:=[72,84,84,80,47,49,46,49,32,50,48,48,32,79,75,13,10,13,10,97,98]
theorem an_1:http_Response.f 60 an_b ⟨#[71,69,84]⟩ false=some (0,⟨#[]⟩,0,[],[],0,true):=by kernel_rfl
theorem an_2:http_Response.f 60 an_b ⟨#[71,69,84]⟩ true=some (200,⟨#[79,75]⟩,1,[],[97,98],21,true):=by kernel_rfl
theorem an_3:http_WriteResponse.f 60 200 ⟨#[79,75]⟩ 1 [] [97,98]=some an_b:=by kernel_rfl
theorem an_4:tollbarref01_SameBytes.f 60 an_b an_b=some true:=by kernel_rfl
def tollbarlaw08_answering.f:Option Bool:=some true
set_option maxHeartbeats 8000000 in
set_option maxRecDepth 100000 in
theorem tollbarlaw08_answering.calls (r:Bool) (w:World) (h:tollbarlaw08_answering.f=some r) (ht:Tabs w) :
 Calls Tryd.prog 4 #[] w fun e w' => e = .returned (.bool r)∧Below w.heap.size w w' := by
 obtain rfl:=Option.some.inj h
 clear h
 have HTB:=Aside0.mk ht
 clear ht
 have hu3:=Tryd.underlying27
 have kc:=fun (w:World) (C:Array Value) (n c:Nat)=>Lib.run_convert_bytes_const (P:=Tryd.prog) w 22 5 C n c Tryd.underlying22 Tryd.underlying5
 have CB:=Aside0.mk (show Kd.C (Kd.int .u8) (w.alloc (.cells #[.int .u8 72,.int .u8 84,.int .u8 84,.int .u8 80,.int .u8 47,.int .u8 49,.int .u8 46,.int .u8 49,.int .u8 32,.int .u8 50,.int .u8 48,.int .u8 48,.int .u8 32,.int .u8 79,.int .u8 75,.int .u8 13,.int .u8 10,.int .u8 13,.int .u8 10,.int .u8 97,.int .u8 98] 5 (21,22))) (some ⟨w.heap.size,0,none⟩) an_b.length an_b from C_const w 5 an_b (21,22) zb51)
 have B0:=Aside0.mk (below_alloc (Below.refl w.heap.size w) (.cells #[.int .u8 72,.int .u8 84,.int .u8 84,.int .u8 80,.int .u8 47,.int .u8 49,.int .u8 46,.int .u8 49,.int .u8 32,.int .u8 50,.int .u8 48,.int .u8 48,.int .u8 32,.int .u8 79,.int .u8 75,.int .u8 13,.int .u8 10,.int .u8 13,.int .u8 10,.int .u8 97,.int .u8 98] 5 (21,22)))
 go_enter Tryd.func4,Tryd.ntmps4
 go_wp2_with fail
 go_at_call 6
 refine (http_Response.calls 60 (some ⟨w.heap.size,0,none⟩) 21 an_b ⟨#[71,69,84]⟩ false _ _ _ _ _ _ _ (w.alloc (.cells #[.int .u8 72,.int .u8 84,.int .u8 84,.int .u8 80,.int .u8 47,.int .u8 49,.int .u8 46,.int .u8 49,.int .u8 32,.int .u8 50,.int .u8 48,.int .u8 48,.int .u8 32,.int .u8 79,.int .u8 75,.int .u8 13,.int .u8 10,.int .u8 13,.int .u8 10,.int .u8 97,.int .u8 98] 5 (21,22))) CB.out zb51 an_1).mono ?_
 rintro e w1 ⟨v1,v2,rfl,h1,h2,hb⟩
 obtain ⟨A1,c1,rfl⟩:=Kd.R_slice h1
 obtain ⟨A2,c2,rfl⟩:=Kd.R_slice h2
 simp only [List.length_nil]
 have C1:=Aside0.mk (Kd.C_alloc (Kd.C_below CB.out hb) (.cells #[.int .i64 0,.string ⟨#[]⟩,.int .i64 0,.slice A1 0 c1,.slice A2 0 c2] 27 (0,0)))
 have B1:=Aside0.mk (below_alloc (below_step B0.out hb) (.cells #[.int .i64 0,.string ⟨#[]⟩,.int .i64 0,.slice A1 0 c1,.slice A2 0 c2] 27 (0,0)))
 clear h1 h2 hb
 go_wp2_with fail
 go_at_call 6
 refine (http_Response.calls 60 (some ⟨w.heap.size,0,none⟩) 21 an_b ⟨#[71,69,84]⟩ true _ _ _ _ _ _ _ _ C1.out zb51 an_2).mono ?_
 rintro e w2 ⟨v3,v4,rfl,h3,h4,hb⟩
 obtain ⟨A3,c3,rfl,hl3,hC3⟩:=Kd.R_reads h3
 obtain ⟨A4,c4,rfl⟩:=Kd.R_slice h4
 have C2:=Aside0.mk (Kd.C_alloc (Kd.C_below C1.out hb) (.cells #[.int .i64 200,.string ⟨#[79,75]⟩,.int .i64 1,.slice A3 0 c3,.slice A4 2 c4] 27 (0,0)))
 have B2:=Aside0.mk (below_alloc (below_step B1.out hb) (.cells #[.int .i64 200,.string ⟨#[79,75]⟩,.int .i64 1,.slice A3 0 c3,.slice A4 2 c4] 27 (0,0)))
 have R3:=Aside0.mk (Kd.C_alloc hC3 (.cells #[.int .i64 200,.string ⟨#[79,75]⟩,.int .i64 1,.slice A3 0 c3,.slice A4 2 c4] 27 (0,0)))
 have R4:=Aside0.mk (Kd.R_alloc h4 (.cells #[.int .i64 200,.string ⟨#[79,75]⟩,.int .i64 1,.slice A3 0 c3,.slice A4 2 c4] 27 (0,0)))
 have hcv:(convert 22 9 (.slice A4 2 c4)).run Tryd.prog (w2.alloc (.cells #[.int .i64 200,.string ⟨#[79,75]⟩,.int .i64 1,.slice A3 0 c3,.slice A4 2 c4] 27 (0,0))) = .ok (.string ⟨#[97,98]⟩) (w2.alloc (.cells #[.int .i64 200,.string ⟨#[79,75]⟩,.int .i64 1,.slice A3 0 c3,.slice A4 2 c4] 27 (0,0))):=own_string (P:=Tryd.prog) Tryd.underlying22 Tryd.underlying5 Tryd.underlying9 (Kd.own_of_R R4.out)
 clear h3 hC3 h4 hb
 simp only [List.length_nil,List.length_cons,Nat.reduceAdd]
 go_wp2_with fail
 go_at_call 8
 refine (http_WriteResponse.callsB 60 200 ⟨#[79,75]⟩ 1 A3 c3 [] A4 c4 [97,98] an_b _ R3.out hl3 (Kd.R_reads' R4.out).2.2 (Kd.R_reads' R4.out).2.1 an_3 (HTB.out.below B2.out)).mono ?_
 rintro e w3 ⟨v5,rfl,hB,hb⟩
 obtain ⟨A5,c5,rfl,hl5,hC5⟩:=hB.reads zb51
 have C3:=Aside0.mk (Kd.C_below C2.out hb)
 have R5:=Aside0.mk hC5
 have B3:=Aside0.mk (below_step B2.out hb)
 clear hB hC5 hb
 go_wp2_with fail
 go_at_call 7
 refine (tollbarref01_SameBytes.calls 60 A5 c5 an_b (some ⟨w.heap.size,0,none⟩) 21 an_b true w3 R5.out hl5 C3.out zb51 an_4).mono ?_
 rintro e w4 ⟨rfl,hd⟩
 have hb:Below w3.heap.size w3 w4:=by
  obtain ⟨n,rfl⟩:=hd.out
  exact pw_below_drewN (Below.refl _ _) _
 have B4:=Aside0.mk (below_step B3.out hb)
 clear hd hb
 go_wp2
 go_ret
 exact ⟨by first|rfl|(simp;done),B4.out⟩
/-- What the three readings are to tell. -/
def endsB (k:Nat) (l0:List Int) (n:Int) (s:ByteArray):Option Bool :=
 (http_Response.f k (bytesOf s ++ l0) (⟨#[71,69,84]⟩:ByteArray) true).bind fun r=>(http_Response.f k (bytesOf s ++ l0) (⟨#[71,69,84]⟩:ByteArray) false).bind fun q=>(http_Response.f k (bytesOf s ++ l0) (⟨#[72,69,65,68]⟩:ByteArray) false).bind fun h =>
  if h.2.2.2.2.2.2=true∧h.2.2.2.2.2.1=(s.size:Int)∧h.2.2.2.2.1=[]∧h.1=n then
   (if n=204 ∨ n=304 then (if r.2.2.2.2.2.2=true∧q.2.2.2.2.2.2=true∧r.2.2.2.2.2.1=(s.size:Int)∧q.2.2.2.2.2.1=r.2.2.2.2.2.1∧r.2.2.2.2.1=[] then some true else none)
    else if (l0.length:Int) > 4096 then (if r.2.2.2.2.2.2=false∧q.2.2.2.2.2.2=false∧r.2.2.2.2.2.1=0∧q.2.2.2.2.2.1=0 then some true else none)
    else if r.2.2.2.2.2.2=true∧q.2.2.2.2.2.2=true∧r.2.2.2.2.2.1=((bytesOf s ++ l0).length:Int)∧q.2.2.2.2.2.1=0 then ((tollbarref01_SameBytes.f k r.2.2.2.2.1 l0).bind fun b=>if b=true then some true else none) else none)
  else none
def tollbarlaw08_HttpEnds.f (k:Nat) (l0:List Int) (a1:Int):Option Bool :=
 if (l0.length:Int) > 5000 then some true else (tollbarref01_Decimal.f k (IntKind.i64.wrap (200 + Go.bits .and .i64 a1 255))).bind fun d=>if d.size ≤ 1000 then endsB k l0 (IntKind.i64.wrap (200 + Go.bits .and .i64 a1 255)) (((⟨#[72,84,84,80,47,49,46,49,32]⟩:ByteArray) ++ d) ++ (⟨#[32,120,13,10,65,58,32,98,13,10,13,10]⟩:ByteArray)) else none
set_option maxHeartbeats 16000000 in
set_option maxRecDepth 100000 in
theorem tollbarlaw08_HttpEnds.calls (k:Nat) (A0:Option Addr) (c0:Nat) (l0:List Int) (a1:Int) (r:Bool) (w:World) (hr0:Kd.C (Kd.int .u8) w A0 l0.length l0) (hc0:l0.length ≤ c0) (h:tollbarlaw08_HttpEnds.f k l0 a1=some r) (hr:r=true) (ht:Tabs w) :
 Calls Tryd.prog 3 #[.slice A0 l0.length c0,.int .i64 a1] w fun e w' => e = .returned (.bool r)∧Below w.heap.size w w' := by
 subst hr
 have hu:=Tryd.underlying27
 have HC:=Aside0.mk hr0
 have HCC:=Aside0.mk hc0
 have HT:=Aside0.mk ht
 obtain ⟨i0,hi0,hz0,hsz0,hby0⟩:=info_parts info5
 have HI:=Aside0.mk (And.intro hi0 (And.intro hz0 (And.intro hsz0 hby0)))
 clear hr0 hc0 ht hi0 hz0 hsz0 hby0
 unfold tollbarlaw08_HttpEnds.f at h
 by_cases c0_:(l0.length:Int) > 5000
 ·clear h
  have d1:decide (5000 < (l0.length:Int))=true:=decide_eq_true zb26
  have d2:decide (5000 < l0.length)=true:=decide_eq_true zb26
  have d3:(5000 < (l0.length:Int))=True:=eq_true zb26
  have d4:(5000 < l0.length)=True:=eq_true zb26
  clear c0_
  go_enter Tryd.func3,Tryd.ntmps3
  go_wp2_with (first
   | (go_at_call 4;refine (tollbarlaw08_answering.calls true _ rfl HT.out).mono ?_;rintro E w1 ⟨rfl,hb⟩;have L1:=Aside0.mk hb;clear hb))
  go_ret
  exact ⟨rfl,L1.out⟩
 rw [if_neg c0_] at h
 have d1:decide (5000 < (l0.length:Int))=false:=decide_eq_false zb26
 have d2:decide (5000 < l0.length)=false:=decide_eq_false zb26
 have d3:(5000 < (l0.length:Int))=False:=eq_false zb26
 have d4:(5000 < l0.length)=False:=eq_false zb26
 obtain ⟨v,hv⟩ : ∃ v,Go.bits .and .i64 a1 255=v:=⟨_,rfl⟩
 rw [hv] at h
 obtain ⟨n,hn⟩ : ∃ n,IntKind.i64.wrap (200 + v)=n:=⟨_,rfl⟩
 rw [hn] at h
 have hn2:wrap64 (200 + v)=n:=(i64_w _).symm.trans hn
 obtain ⟨d,hd_,h'⟩:=Option.bind_eq_some_iff.1 h
 clear h
 have HD:=Aside0.mk hd_
 clear hd_
 by_cases bd:d.size ≤ 1000;rotate_left
 ·rw [if_neg bd] at h'
  cases h'
 rw [if_pos bd] at h'
 have ea:((⟨#[72,84,84,80,47,49,46,49,32]⟩:ByteArray) ++ d).size=9 + d.size:=ByteArray.size_append ..
 have E3:=Aside0.mk (show (((⟨#[72,84,84,80,47,49,46,49,32]⟩:ByteArray) ++ d) ++ (⟨#[32,120,13,10,65,58,32,98,13,10,13,10]⟩:ByteArray)).size=9 + d.size + 12 by rw [ByteArray.size_append,ea];rfl)
 have f1:(9 + d.size ≤ 9223372036854775807)=True:=eq_true zb26
 have f2:(9223372036854775807 < 9 + d.size)=False:=eq_false zb26
 have f3:(9 + d.size + 12 ≤ 9223372036854775807)=True:=eq_true zb26
 have f4:(9223372036854775807 < 9 + d.size + 12)=False:=eq_false zb26
 have f5:(((⟨#[72,84,84,80,47,49,46,49,32]⟩:ByteArray) ++ d).size + 12 ≤ 9223372036854775807)=True:=eq_true (by rw [ea];omega)
 have f6:(9223372036854775807 < ((⟨#[72,84,84,80,47,49,46,49,32]⟩:ByteArray) ++ d).size + 12)=False:=eq_false (by rw [ea];omega)
 have f7:(9 + d.size + 12 ≤ 140737488355328)=True:=eq_true zb26
 have f8:(140737488355328 < 9 + d.size + 12)=False:=eq_false zb26
 have hconv : ∀ (W:World) (y:ByteArray),(convert 9 22 (.string y)).run Tryd.prog W = .ok (.slice (some ⟨W.heap.size,0,none⟩) y.size (grownCap W y.size 0 5)) (Lib.bytesWorld W 5 y):=fun W y=>Lib.run_convert_string_bytes W _ _ _ y Tryd.underlying9 Tryd.underlying22 Tryd.underlying5
 have HN:=Aside0.mk (show (bytesOf (((⟨#[72,84,84,80,47,49,46,49,32]⟩:ByteArray) ++ d) ++ (⟨#[32,120,13,10,65,58,32,98,13,10,13,10]⟩:ByteArray))).length + l0.length ≤ 140737488355328 by rw [bytesOf_length,E3.out];omega)
 obtain ⟨bs,hbs⟩ : ∃ bs,bs=bytesOf (((⟨#[72,84,84,80,47,49,46,49,32]⟩:ByteArray) ++ d) ++ (⟨#[32,120,13,10,65,58,32,98,13,10,13,10]⟩:ByteArray)) ++ l0:=⟨_,rfl⟩
 have HLB:=Aside0.mk (show bs.length ≤ 9223372036854775807 by rw [hbs,List.length_append];have z:=HN.out;omega)
 have HBS:=Aside0.mk hbs
 unfold endsB at h'
 rw [← hbs] at h'
 clear hbs ea bd c0_
 obtain ⟨⟨r1,r2,r3,r4,r5,r6,r7⟩,hr_,h⟩:=Option.bind_eq_some_iff.1 h'
 clear h'
 obtain ⟨⟨q1,q2,q3,q4,q5,q6,q7⟩,hq_,h'⟩:=Option.bind_eq_some_iff.1 h
 clear h
 obtain ⟨⟨h1,h2,h3,h4_,h5_,h6,h7⟩,hh_,h⟩:=Option.bind_eq_some_iff.1 h'
 clear h'
 have Hr:=Aside0.mk hr_
 have Hq:=Aside0.mk hq_
 have Hh:=Aside0.mk hh_
 clear hr_ hq_ hh_
 try simp only at h
 split at h
 ·rename_i hc
  obtain ⟨rfl,hn6,hh5,rfl⟩:=hc
  have m1:((h5_.length:Int) != 0)=false:=by rw [hh5];rfl
  have m2:(h5_.length != 0)=false:=by rw [hh5];rfl
  have m3:((h5_.length:Int) == 0)=true:=by rw [hh5];rfl
  have m4:(h5_.length == 0)=true:=by rw [hh5];rfl
  clear hh5
  have g1:(h6 != ((((⟨#[72,84,84,80,47,49,46,49,32]⟩:ByteArray) ++ d) ++ (⟨#[32,120,13,10,65,58,32,98,13,10,13,10]⟩:ByteArray)).size:Int))=false:=bne_eq_false_iff_eq.2 hn6
  have g2:(h6 != ((9 + d.size + 12:Nat):Int))=false:=bne_eq_false_iff_eq.2 (by rw [hn6,E3.out])
  have g3:(h6 != 9 + (d.size:Int) + 12)=false:=bne_eq_false_iff_eq.2 (by rw [hn6,E3.out];omega)
  clear hn6
  have gh:(h1 != h1)=false:=bne_eq_false_iff_eq.2 rfl
  split at h
  ·rename_i hc
   split at h
   ·rename_i hq
    clear h
    obtain ⟨rfl,rfl,hr6,hqr,hr5⟩:=hq
    have m5:((r5.length:Int) == 0)=true:=by rw [hr5];rfl
    have m6:(r5.length == 0)=true:=by rw [hr5];rfl
    clear hr5
    have k4:(q6 == r6)=true:=beq_iff_eq.2 hqr
    clear hqr
    have k1:(r6 == ((((⟨#[72,84,84,80,47,49,46,49,32]⟩:ByteArray) ++ d) ++ (⟨#[32,120,13,10,65,58,32,98,13,10,13,10]⟩:ByteArray)).size:Int))=true:=beq_iff_eq.2 hr6
    have k2:(r6 == ((9 + d.size + 12:Nat):Int))=true:=beq_iff_eq.2 (by rw [hr6,E3.out])
    have k3:(r6 == 9 + (d.size:Int) + 12)=true:=beq_iff_eq.2 (by rw [hr6,E3.out];omega)
    clear hr6
    by_cases c4:h1=204
    ·have j1:(h1 == 204)=true:=beq_iff_eq.2 c4
     clear hc c4
     go_enter Tryd.func3,Tryd.ntmps3
     go_wp2_with (first
      | (go_at_call 4;refine (tollbarlaw08_answering.calls true _ rfl HT.out).mono ?_;rintro E w1 ⟨rfl,hb⟩;have L1:=Aside0.mk hb;clear hb)
      | (go_at_call 5;refine (tollbarref01_Decimal.calls k h1 d _ HD.out).mono ?_;rintro E w2 ⟨rfl,hb⟩;have L2:=Aside0.mk (below_step L1.out hb);have LC:=Aside0.mk (bytes_below (below_step L1.out hb) (below_step L1.out hb).size 5 (((⟨#[72,84,84,80,47,49,46,49,32]⟩:ByteArray) ++ d) ++ (⟨#[32,120,13,10,65,58,32,98,13,10,13,10]⟩:ByteArray)));clear hb)
      | ((with_reducible refine gate_builtin (b:=.append) (xs:=#[.tmp 29,.tmp 30]) rfl ?_);at_builtin;refine wp_bufM rfl (.tmp 29) (.tmp 30) 22 22 rfl w.heap.size 5 i0 Tryd.underlying22 HI.out.1 HI.out.2.1 HI.out.2.2.1 HI.out.2.2.2 _ (.slice A0 l0.length c0) (bytesOf (((⟨#[72,84,84,80,47,49,46,49,32]⟩:ByteArray) ++ d) ++ (⟨#[32,120,13,10,65,58,32,98,13,10,13,10]⟩:ByteArray))) l0 rfl rfl zb29 (src_ints Tryd.underlying22 (Kd.C_below HC.out LC.out)) (by have z:=HN.out;omega) LC.out.size ?_;intro v3 w3 hB3 hb3;rw [← HBS.out] at hB3;obtain ⟨A3,c3,e3⟩:=hB3.form;subst e3;have M3:=Aside0.mk (BufM.reads' hB3 HLB.out);have L3:=Aside0.mk (LC.out.trans hb3);clear hB3 hb3)
      | (go_at_call 6;(with_reducible refine (http_Response.calls k A3 c3 bs (⟨#[71,69,84]⟩:ByteArray) true r1 r2 r3 r4 r5 _ _ _ M3.out.2.2 M3.out.2.1 Hr.out).mono ?_);rintro E w4 ⟨v4,v5,rfl,h4,h5,hb⟩;obtain ⟨Ar,cr,rfl⟩:=Kd.R_slice h4;obtain ⟨Br,er,rfl⟩:=Kd.R_slice h5;have K4:=Aside0.mk (below_alloc hb (.cells #[.int .i64 r1,.string r2,.int .i64 r3,.slice Ar r4.length cr,.slice Br r5.length er] 27 (0,0)));have L4:=Aside0.mk (below_alloc (L3.out.trans (hbase2 L3.out.size hb)) (.cells #[.int .i64 r1,.string r2,.int .i64 r3,.slice Ar r4.length cr,.slice Br r5.length er] 27 (0,0)));have SB4:=Aside0.mk (Kd.R_alloc h5 (.cells #[.int .i64 r1,.string r2,.int .i64 r3,.slice Ar r4.length cr,.slice Br r5.length er] 27 (0,0)));have BX4:=Aside0.mk (blk_new w4 (.cells #[.int .i64 r1,.string r2,.int .i64 r3,.slice Ar r4.length cr,.slice Br r5.length er] 27 (0,0)));clear h4 h5 hb)
      | (go_at_call 6;(with_reducible refine (http_Response.calls k A3 c3 bs (⟨#[71,69,84]⟩:ByteArray) false q1 q2 q3 q4 q5 _ _ _ (Kd.C_below M3.out.2.2 K4.out) M3.out.2.1 Hq.out).mono ?_);rintro E w5 ⟨v4,v5,rfl,h4,h5,hb⟩;obtain ⟨Aq,cq,rfl⟩:=Kd.R_slice h4;obtain ⟨Bq,eq,rfl⟩:=Kd.R_slice h5;have K5:=Aside0.mk (below_alloc (below_step K4.out hb) (.cells #[.int .i64 q1,.string q2,.int .i64 q3,.slice Aq q4.length cq,.slice Bq q5.length eq] 27 (0,0)));have L5:=Aside0.mk (below_alloc (L4.out.trans (hbase2 L4.out.size hb)) (.cells #[.int .i64 q1,.string q2,.int .i64 q3,.slice Aq q4.length cq,.slice Bq q5.length eq] 27 (0,0)));have SB5:=Aside0.mk (Kd.R_alloc (Kd.R_below SB4.out hb) (.cells #[.int .i64 q1,.string q2,.int .i64 q3,.slice Aq q4.length cq,.slice Bq q5.length eq] 27 (0,0)));have BX5:=Aside0.mk (blk_alloc (blk_below BX4.out hb) (.cells #[.int .i64 q1,.string q2,.int .i64 q3,.slice Aq q4.length cq,.slice Bq q5.length eq] 27 (0,0)));clear h4 h5 hb)
      | (go_at_call 6;(with_reducible refine (http_Response.calls k A3 c3 bs (⟨#[72,69,65,68]⟩:ByteArray) false h1 h2 h3 h4_ h5_ _ _ _ (Kd.C_below M3.out.2.2 K5.out) M3.out.2.1 Hh.out).mono ?_);rintro E w6 ⟨v4,v5,rfl,h4,h5,hb⟩;obtain ⟨Ah,ch,rfl⟩:=Kd.R_slice h4;obtain ⟨Bh,eh,rfl⟩:=Kd.R_slice h5;have L6:=Aside0.mk (below_alloc (L5.out.trans (hbase2 L5.out.size hb)) (.cells #[.int .i64 h1,.string h2,.int .i64 h3,.slice Ah h4_.length ch,.slice Bh h5_.length eh] 27 (0,0)));have SB6:=Aside0.mk (Kd.R_alloc (Kd.R_below SB5.out hb) (.cells #[.int .i64 h1,.string h2,.int .i64 h3,.slice Ah h4_.length ch,.slice Bh h5_.length eh] 27 (0,0)));have BX6:=Aside0.mk (blk_alloc (blk_below BX5.out hb) (.cells #[.int .i64 h1,.string h2,.int .i64 h3,.slice Ah h4_.length ch,.slice Bh h5_.length eh] 27 (0,0)));have qx:(w6.alloc (.cells #[.int .i64 h1,.string h2,.int .i64 h3,.slice Ah h4_.length ch,.slice Bh h5_.length eh] 27 (0,0))).cell? ⟨w4.heap.size,4,none⟩=some (.slice Br r5.length er):=(blk_cell BX6.out 4).trans rfl;clear h4 h5 hb))
     go_ret
     exact ⟨rfl,L6.out⟩
    have j1:(h1 == 204)=false:=beq_eq_false_iff_ne.2 c4
    have j2:(h1 == 304)=true:=beq_iff_eq.2 zb26
    clear hc c4
    go_enter Tryd.func3,Tryd.ntmps3
    go_wp2_with (first
     | (go_at_call 4;refine (tollbarlaw08_answering.calls true _ rfl HT.out).mono ?_;rintro E w1 ⟨rfl,hb⟩;have L1:=Aside0.mk hb;clear hb)
     | (go_at_call 5;refine (tollbarref01_Decimal.calls k h1 d _ HD.out).mono ?_;rintro E w2 ⟨rfl,hb⟩;have L2:=Aside0.mk (below_step L1.out hb);have LC:=Aside0.mk (bytes_below (below_step L1.out hb) (below_step L1.out hb).size 5 (((⟨#[72,84,84,80,47,49,46,49,32]⟩:ByteArray) ++ d) ++ (⟨#[32,120,13,10,65,58,32,98,13,10,13,10]⟩:ByteArray)));clear hb)
     | ((with_reducible refine gate_builtin (b:=.append) (xs:=#[.tmp 29,.tmp 30]) rfl ?_);at_builtin;refine wp_bufM rfl (.tmp 29) (.tmp 30) 22 22 rfl w.heap.size 5 i0 Tryd.underlying22 HI.out.1 HI.out.2.1 HI.out.2.2.1 HI.out.2.2.2 _ (.slice A0 l0.length c0) (bytesOf (((⟨#[72,84,84,80,47,49,46,49,32]⟩:ByteArray) ++ d) ++ (⟨#[32,120,13,10,65,58,32,98,13,10,13,10]⟩:ByteArray))) l0 rfl rfl zb29 (src_ints Tryd.underlying22 (Kd.C_below HC.out LC.out)) (by have z:=HN.out;omega) LC.out.size ?_;intro v3 w3 hB3 hb3;rw [← HBS.out] at hB3;obtain ⟨A3,c3,e3⟩:=hB3.form;subst e3;have M3:=Aside0.mk (BufM.reads' hB3 HLB.out);have L3:=Aside0.mk (LC.out.trans hb3);clear hB3 hb3)
     | (go_at_call 6;(with_reducible refine (http_Response.calls k A3 c3 bs (⟨#[71,69,84]⟩:ByteArray) true r1 r2 r3 r4 r5 _ _ _ M3.out.2.2 M3.out.2.1 Hr.out).mono ?_);rintro E w4 ⟨v4,v5,rfl,h4,h5,hb⟩;obtain ⟨Ar,cr,rfl⟩:=Kd.R_slice h4;obtain ⟨Br,er,rfl⟩:=Kd.R_slice h5;have K4:=Aside0.mk (below_alloc hb (.cells #[.int .i64 r1,.string r2,.int .i64 r3,.slice Ar r4.length cr,.slice Br r5.length er] 27 (0,0)));have L4:=Aside0.mk (below_alloc (L3.out.trans (hbase2 L3.out.size hb)) (.cells #[.int .i64 r1,.string r2,.int .i64 r3,.slice Ar r4.length cr,.slice Br r5.length er] 27 (0,0)));have SB4:=Aside0.mk (Kd.R_alloc h5 (.cells #[.int .i64 r1,.string r2,.int .i64 r3,.slice Ar r4.length cr,.slice Br r5.length er] 27 (0,0)));have BX4:=Aside0.mk (blk_new w4 (.cells #[.int .i64 r1,.string r2,.int .i64 r3,.slice Ar r4.length cr,.slice Br r5.length er] 27 (0,0)));clear h4 h5 hb)
     | (go_at_call 6;(with_reducible refine (http_Response.calls k A3 c3 bs (⟨#[71,69,84]⟩:ByteArray) false q1 q2 q3 q4 q5 _ _ _ (Kd.C_below M3.out.2.2 K4.out) M3.out.2.1 Hq.out).mono ?_);rintro E w5 ⟨v4,v5,rfl,h4,h5,hb⟩;obtain ⟨Aq,cq,rfl⟩:=Kd.R_slice h4;obtain ⟨Bq,eq,rfl⟩:=Kd.R_slice h5;have K5:=Aside0.mk (below_alloc (below_step K4.out hb) (.cells #[.int .i64 q1,.string q2,.int .i64 q3,.slice Aq q4.length cq,.slice Bq q5.length eq] 27 (0,0)));have L5:=Aside0.mk (below_alloc (L4.out.trans (hbase2 L4.out.size hb)) (.cells #[.int .i64 q1,.string q2,.int .i64 q3,.slice Aq q4.length cq,.slice Bq q5.length eq] 27 (0,0)));have SB5:=Aside0.mk (Kd.R_alloc (Kd.R_below SB4.out hb) (.cells #[.int .i64 q1,.string q2,.int .i64 q3,.slice Aq q4.length cq,.slice Bq q5.length eq] 27 (0,0)));have BX5:=Aside0.mk (blk_alloc (blk_below BX4.out hb) (.cells #[.int .i64 q1,.string q2,.int .i64 q3,.slice Aq q4.length cq,.slice Bq q5.length eq] 27 (0,0)));clear h4 h5 hb)
     | (go_at_call 6;(with_reducible refine (http_Response.calls k A3 c3 bs (⟨#[72,69,65,68]⟩:ByteArray) false h1 h2 h3 h4_ h5_ _ _ _ (Kd.C_below M3.out.2.2 K5.out) M3.out.2.1 Hh.out).mono ?_);rintro E w6 ⟨v4,v5,rfl,h4,h5,hb⟩;obtain ⟨Ah,ch,rfl⟩:=Kd.R_slice h4;obtain ⟨Bh,eh,rfl⟩:=Kd.R_slice h5;have L6:=Aside0.mk (below_alloc (L5.out.trans (hbase2 L5.out.size hb)) (.cells #[.int .i64 h1,.string h2,.int .i64 h3,.slice Ah h4_.length ch,.slice Bh h5_.length eh] 27 (0,0)));have SB6:=Aside0.mk (Kd.R_alloc (Kd.R_below SB5.out hb) (.cells #[.int .i64 h1,.string h2,.int .i64 h3,.slice Ah h4_.length ch,.slice Bh h5_.length eh] 27 (0,0)));have BX6:=Aside0.mk (blk_alloc (blk_below BX5.out hb) (.cells #[.int .i64 h1,.string h2,.int .i64 h3,.slice Ah h4_.length ch,.slice Bh h5_.length eh] 27 (0,0)));have qx:(w6.alloc (.cells #[.int .i64 h1,.string h2,.int .i64 h3,.slice Ah h4_.length ch,.slice Bh h5_.length eh] 27 (0,0))).cell? ⟨w4.heap.size,4,none⟩=some (.slice Br r5.length er):=(blk_cell BX6.out 4).trans rfl;clear h4 h5 hb))
    go_ret
    exact ⟨rfl,L6.out⟩
   cases h
  rename_i hc
  have j1:(h1 == 204)=false:=beq_eq_false_iff_ne.2 (fun e=>hc (Or.inl e))
  have j2:(h1 == 304)=false:=beq_eq_false_iff_ne.2 (fun e=>hc (Or.inr e))
  clear hc
  by_cases c5:(l0.length:Int) > 4096
  ·rw [if_pos c5] at h
   have y1:decide (4096 < (l0.length:Int))=true:=decide_eq_true zb26
   have y2:decide (4096 < l0.length)=true:=decide_eq_true zb26
   have y3:(4096 < (l0.length:Int))=True:=eq_true zb26
   have y4:(4096 < l0.length)=True:=eq_true zb26
   clear c5
   split at h
   ·rename_i hq
    clear h
    obtain ⟨rfl,rfl,rfl,rfl⟩:=hq
    go_enter Tryd.func3,Tryd.ntmps3
    go_wp2_with (first
     | (go_at_call 4;refine (tollbarlaw08_answering.calls true _ rfl HT.out).mono ?_;rintro E w1 ⟨rfl,hb⟩;have L1:=Aside0.mk hb;clear hb)
     | (go_at_call 5;refine (tollbarref01_Decimal.calls k h1 d _ HD.out).mono ?_;rintro E w2 ⟨rfl,hb⟩;have L2:=Aside0.mk (below_step L1.out hb);have LC:=Aside0.mk (bytes_below (below_step L1.out hb) (below_step L1.out hb).size 5 (((⟨#[72,84,84,80,47,49,46,49,32]⟩:ByteArray) ++ d) ++ (⟨#[32,120,13,10,65,58,32,98,13,10,13,10]⟩:ByteArray)));clear hb)
     | ((with_reducible refine gate_builtin (b:=.append) (xs:=#[.tmp 29,.tmp 30]) rfl ?_);at_builtin;refine wp_bufM rfl (.tmp 29) (.tmp 30) 22 22 rfl w.heap.size 5 i0 Tryd.underlying22 HI.out.1 HI.out.2.1 HI.out.2.2.1 HI.out.2.2.2 _ (.slice A0 l0.length c0) (bytesOf (((⟨#[72,84,84,80,47,49,46,49,32]⟩:ByteArray) ++ d) ++ (⟨#[32,120,13,10,65,58,32,98,13,10,13,10]⟩:ByteArray))) l0 rfl rfl zb29 (src_ints Tryd.underlying22 (Kd.C_below HC.out LC.out)) (by have z:=HN.out;omega) LC.out.size ?_;intro v3 w3 hB3 hb3;rw [← HBS.out] at hB3;obtain ⟨A3,c3,e3⟩:=hB3.form;subst e3;have M3:=Aside0.mk (BufM.reads' hB3 HLB.out);have L3:=Aside0.mk (LC.out.trans hb3);clear hB3 hb3)
     | (go_at_call 6;(with_reducible refine (http_Response.calls k A3 c3 bs (⟨#[71,69,84]⟩:ByteArray) true r1 r2 r3 r4 r5 _ _ _ M3.out.2.2 M3.out.2.1 Hr.out).mono ?_);rintro E w4 ⟨v4,v5,rfl,h4,h5,hb⟩;obtain ⟨Ar,cr,rfl⟩:=Kd.R_slice h4;obtain ⟨Br,er,rfl⟩:=Kd.R_slice h5;have K4:=Aside0.mk (below_alloc hb (.cells #[.int .i64 r1,.string r2,.int .i64 r3,.slice Ar r4.length cr,.slice Br r5.length er] 27 (0,0)));have L4:=Aside0.mk (below_alloc (L3.out.trans (hbase2 L3.out.size hb)) (.cells #[.int .i64 r1,.string r2,.int .i64 r3,.slice Ar r4.length cr,.slice Br r5.length er] 27 (0,0)));have SB4:=Aside0.mk (Kd.R_alloc h5 (.cells #[.int .i64 r1,.string r2,.int .i64 r3,.slice Ar r4.length cr,.slice Br r5.length er] 27 (0,0)));have BX4:=Aside0.mk (blk_new w4 (.cells #[.int .i64 r1,.string r2,.int .i64 r3,.slice Ar r4.length cr,.slice Br r5.length er] 27 (0,0)));clear h4 h5 hb)
     | (go_at_call 6;(with_reducible refine (http_Response.calls k A3 c3 bs (⟨#[71,69,84]⟩:ByteArray) false q1 q2 q3 q4 q5 _ _ _ (Kd.C_below M3.out.2.2 K4.out) M3.out.2.1 Hq.out).mono ?_);rintro E w5 ⟨v4,v5,rfl,h4,h5,hb⟩;obtain ⟨Aq,cq,rfl⟩:=Kd.R_slice h4;obtain ⟨Bq,eq,rfl⟩:=Kd.R_slice h5;have K5:=Aside0.mk (below_alloc (below_step K4.out hb) (.cells #[.int .i64 q1,.string q2,.int .i64 q3,.slice Aq q4.length cq,.slice Bq q5.length eq] 27 (0,0)));have L5:=Aside0.mk (below_alloc (L4.out.trans (hbase2 L4.out.size hb)) (.cells #[.int .i64 q1,.string q2,.int .i64 q3,.slice Aq q4.length cq,.slice Bq q5.length eq] 27 (0,0)));have SB5:=Aside0.mk (Kd.R_alloc (Kd.R_below SB4.out hb) (.cells #[.int .i64 q1,.string q2,.int .i64 q3,.slice Aq q4.length cq,.slice Bq q5.length eq] 27 (0,0)));have BX5:=Aside0.mk (blk_alloc (blk_below BX4.out hb) (.cells #[.int .i64 q1,.string q2,.int .i64 q3,.slice Aq q4.length cq,.slice Bq q5.length eq] 27 (0,0)));clear h4 h5 hb)
     | (go_at_call 6;(with_reducible refine (http_Response.calls k A3 c3 bs (⟨#[72,69,65,68]⟩:ByteArray) false h1 h2 h3 h4_ h5_ _ _ _ (Kd.C_below M3.out.2.2 K5.out) M3.out.2.1 Hh.out).mono ?_);rintro E w6 ⟨v4,v5,rfl,h4,h5,hb⟩;obtain ⟨Ah,ch,rfl⟩:=Kd.R_slice h4;obtain ⟨Bh,eh,rfl⟩:=Kd.R_slice h5;have L6:=Aside0.mk (below_alloc (L5.out.trans (hbase2 L5.out.size hb)) (.cells #[.int .i64 h1,.string h2,.int .i64 h3,.slice Ah h4_.length ch,.slice Bh h5_.length eh] 27 (0,0)));have SB6:=Aside0.mk (Kd.R_alloc (Kd.R_below SB5.out hb) (.cells #[.int .i64 h1,.string h2,.int .i64 h3,.slice Ah h4_.length ch,.slice Bh h5_.length eh] 27 (0,0)));have BX6:=Aside0.mk (blk_alloc (blk_below BX5.out hb) (.cells #[.int .i64 h1,.string h2,.int .i64 h3,.slice Ah h4_.length ch,.slice Bh h5_.length eh] 27 (0,0)));have qx:(w6.alloc (.cells #[.int .i64 h1,.string h2,.int .i64 h3,.slice Ah h4_.length ch,.slice Bh h5_.length eh] 27 (0,0))).cell? ⟨w4.heap.size,4,none⟩=some (.slice Br r5.length er):=(blk_cell BX6.out 4).trans rfl;clear h4 h5 hb))
    go_ret
    exact ⟨rfl,L6.out⟩
   cases h
  rw [if_neg c5] at h
  have y1:decide (4096 < (l0.length:Int))=false:=decide_eq_false zb26
  have y2:decide (4096 < l0.length)=false:=decide_eq_false zb26
  have y3:(4096 < (l0.length:Int))=False:=eq_false zb26
  have y4:(4096 < l0.length)=False:=eq_false zb26
  clear c5
  split at h
  ·rename_i hq
   obtain ⟨rfl,rfl,hr6,rfl⟩:=hq
   obtain ⟨b,hb_,h'⟩:=Option.bind_eq_some_iff.1 h
   clear h
   cases b
   ·cases h'
   clear h'
   have HSB:=Aside0.mk hb_
   clear hb_
   have k1:(r6 == (bs.length:Int))=true:=beq_iff_eq.2 hr6
   clear hr6
   go_enter Tryd.func3,Tryd.ntmps3
   go_wp2_with (first
    | (go_at_call 4;refine (tollbarlaw08_answering.calls true _ rfl HT.out).mono ?_;rintro E w1 ⟨rfl,hb⟩;have L1:=Aside0.mk hb;clear hb)
    | (go_at_call 5;refine (tollbarref01_Decimal.calls k h1 d _ HD.out).mono ?_;rintro E w2 ⟨rfl,hb⟩;have L2:=Aside0.mk (below_step L1.out hb);have LC:=Aside0.mk (bytes_below (below_step L1.out hb) (below_step L1.out hb).size 5 (((⟨#[72,84,84,80,47,49,46,49,32]⟩:ByteArray) ++ d) ++ (⟨#[32,120,13,10,65,58,32,98,13,10,13,10]⟩:ByteArray)));clear hb)
    | ((with_reducible refine gate_builtin (b:=.append) (xs:=#[.tmp 29,.tmp 30]) rfl ?_);at_builtin;refine wp_bufM rfl (.tmp 29) (.tmp 30) 22 22 rfl w.heap.size 5 i0 Tryd.underlying22 HI.out.1 HI.out.2.1 HI.out.2.2.1 HI.out.2.2.2 _ (.slice A0 l0.length c0) (bytesOf (((⟨#[72,84,84,80,47,49,46,49,32]⟩:ByteArray) ++ d) ++ (⟨#[32,120,13,10,65,58,32,98,13,10,13,10]⟩:ByteArray))) l0 rfl rfl zb29 (src_ints Tryd.underlying22 (Kd.C_below HC.out LC.out)) (by have z:=HN.out;omega) LC.out.size ?_;intro v3 w3 hB3 hb3;rw [← HBS.out] at hB3;obtain ⟨A3,c3,e3⟩:=hB3.form;subst e3;have M3:=Aside0.mk (BufM.reads' hB3 HLB.out);have L3:=Aside0.mk (LC.out.trans hb3);clear hB3 hb3)
    | (go_at_call 6;(with_reducible refine (http_Response.calls k A3 c3 bs (⟨#[71,69,84]⟩:ByteArray) true r1 r2 r3 r4 r5 _ _ _ M3.out.2.2 M3.out.2.1 Hr.out).mono ?_);rintro E w4 ⟨v4,v5,rfl,h4,h5,hb⟩;obtain ⟨Ar,cr,rfl⟩:=Kd.R_slice h4;obtain ⟨Br,er,rfl⟩:=Kd.R_slice h5;have K4:=Aside0.mk (below_alloc hb (.cells #[.int .i64 r1,.string r2,.int .i64 r3,.slice Ar r4.length cr,.slice Br r5.length er] 27 (0,0)));have L4:=Aside0.mk (below_alloc (L3.out.trans (hbase2 L3.out.size hb)) (.cells #[.int .i64 r1,.string r2,.int .i64 r3,.slice Ar r4.length cr,.slice Br r5.length er] 27 (0,0)));have SB4:=Aside0.mk (Kd.R_alloc h5 (.cells #[.int .i64 r1,.string r2,.int .i64 r3,.slice Ar r4.length cr,.slice Br r5.length er] 27 (0,0)));have BX4:=Aside0.mk (blk_new w4 (.cells #[.int .i64 r1,.string r2,.int .i64 r3,.slice Ar r4.length cr,.slice Br r5.length er] 27 (0,0)));clear h4 h5 hb)
    | (go_at_call 6;(with_reducible refine (http_Response.calls k A3 c3 bs (⟨#[71,69,84]⟩:ByteArray) false q1 q2 q3 q4 q5 _ _ _ (Kd.C_below M3.out.2.2 K4.out) M3.out.2.1 Hq.out).mono ?_);rintro E w5 ⟨v4,v5,rfl,h4,h5,hb⟩;obtain ⟨Aq,cq,rfl⟩:=Kd.R_slice h4;obtain ⟨Bq,eq,rfl⟩:=Kd.R_slice h5;have K5:=Aside0.mk (below_alloc (below_step K4.out hb) (.cells #[.int .i64 q1,.string q2,.int .i64 q3,.slice Aq q4.length cq,.slice Bq q5.length eq] 27 (0,0)));have L5:=Aside0.mk (below_alloc (L4.out.trans (hbase2 L4.out.size hb)) (.cells #[.int .i64 q1,.string q2,.int .i64 q3,.slice Aq q4.length cq,.slice Bq q5.length eq] 27 (0,0)));have SB5:=Aside0.mk (Kd.R_alloc (Kd.R_below SB4.out hb) (.cells #[.int .i64 q1,.string q2,.int .i64 q3,.slice Aq q4.length cq,.slice Bq q5.length eq] 27 (0,0)));have BX5:=Aside0.mk (blk_alloc (blk_below BX4.out hb) (.cells #[.int .i64 q1,.string q2,.int .i64 q3,.slice Aq q4.length cq,.slice Bq q5.length eq] 27 (0,0)));clear h4 h5 hb)
    | (go_at_call 6;(with_reducible refine (http_Response.calls k A3 c3 bs (⟨#[72,69,65,68]⟩:ByteArray) false h1 h2 h3 h4_ h5_ _ _ _ (Kd.C_below M3.out.2.2 K5.out) M3.out.2.1 Hh.out).mono ?_);rintro E w6 ⟨v4,v5,rfl,h4,h5,hb⟩;obtain ⟨Ah,ch,rfl⟩:=Kd.R_slice h4;obtain ⟨Bh,eh,rfl⟩:=Kd.R_slice h5;have L6:=Aside0.mk (below_alloc (L5.out.trans (hbase2 L5.out.size hb)) (.cells #[.int .i64 h1,.string h2,.int .i64 h3,.slice Ah h4_.length ch,.slice Bh h5_.length eh] 27 (0,0)));have SB6:=Aside0.mk (Kd.R_alloc (Kd.R_below SB5.out hb) (.cells #[.int .i64 h1,.string h2,.int .i64 h3,.slice Ah h4_.length ch,.slice Bh h5_.length eh] 27 (0,0)));have BX6:=Aside0.mk (blk_alloc (blk_below BX5.out hb) (.cells #[.int .i64 h1,.string h2,.int .i64 h3,.slice Ah h4_.length ch,.slice Bh h5_.length eh] 27 (0,0)));have qx:(w6.alloc (.cells #[.int .i64 h1,.string h2,.int .i64 h3,.slice Ah h4_.length ch,.slice Bh h5_.length eh] 27 (0,0))).cell? ⟨w4.heap.size,4,none⟩=some (.slice Br r5.length er):=(blk_cell BX6.out 4).trans rfl;clear h4 h5 hb)
    | (go_at_call 7;refine (tollbarref01_SameBytes.calls k Br er r5 A0 c0 l0 true _ (Kd.R_reads' SB6.out).2.2 (Kd.R_reads' SB6.out).2.1 (Kd.C_below HC.out L6.out) HCC.out HSB.out).mono ?_;rintro E w7 ⟨rfl,hb⟩;have L7:=Aside0.mk (below_step L6.out hb.below);clear hb))
   go_ret
   exact ⟨rfl,L7.out⟩
  ·cases h
 ·cases h
end Go.Proofs.YtagffbblalldiaaDoor.P
namespace Go.Proofs.YtagffbblalldiaaDoor.Pure
open Go.RowKit Go.Proofs.YtagffbblalldiaaDoor.P Go.Proofs.YtagffbblalldiaaDoorW.PrintWords Go.Proofs.YtagffbblalldiaaDoorW.PrintLast Go.Proofs.YtagffbblalldiaaDoorW.PrintMore
set_option linter.unusedVariables false
set_option linter.unusedSimpArgs false
theorem and_mask (x : Int) (j : Nat) (hj : j ≤ 62) : Go.bits .and .i64 x (2 ^ j - 1) = x % 2 ^ j := by
  have hpos : 0 < 2 ^ j := Nat.two_pow_pos j
  have hlt : 2 ^ j ≤ 2 ^ 62 := Nat.pow_le_pow_right (by decide) hj
  have hc : ((2 : Int) ^ j - 1) = ((2 ^ j - 1 : Nat) : Int) := by rw [Int.natCast_sub hpos]; simp
  have hb : (2 ^ j - 1) % 2 ^ 64 = 2 ^ j - 1 := Nat.mod_eq_of_lt (by omega)
  have hd : ((2 : Int) ^ j) ∣ 2 ^ 64 := ⟨2 ^ (64 - j), by rw [← Int.pow_add]; congr 1; omega⟩
  have hk : (BitVec.ofInt 64 x &&& BitVec.ofInt 64 ((2 ^ j - 1 : Nat) : Int)).toNat = (x % ((2 ^ 64 : Nat) : Int)).toNat % 2 ^ j := by
    rw [BitVec.toNat_and, BitVec.ofInt_natCast, BitVec.toNat_ofNat, hb, Nat.and_two_pow_sub_one_eq_mod, BitVec.toNat_ofInt]
  have hg : bits .and .i64 x (2 ^ j - 1) = IntKind.i64.wrap (((BitVec.ofInt 64 x &&& BitVec.ofInt 64 ((2 ^ j - 1 : Nat) : Int)).toNat : Nat) : Int) := by rw [hc]; rfl
  have hx : (((x % ((2 ^ 64 : Nat) : Int)).toNat % 2 ^ j : Nat) : Int) = x % 2 ^ j := by
    rw [Int.natCast_emod, Int.toNat_of_nonneg (Int.emod_nonneg _ (by decide))]
    have := Int.emod_emod_of_dvd x hd
    simpa using this
  rw [hg, hk, hx, IntKind.wrap_i64]
  have h1 : 0 ≤ x % (2 : Int) ^ j := Int.emod_nonneg _ (by have : (0 : Int) < 2 ^ j := by exact_mod_cast hpos
                                                           omega)
  have h2 : x % (2 : Int) ^ j < 2 ^ j := Int.emod_lt_of_pos _ (by exact_mod_cast hpos)
  have h3 : (2 : Int) ^ j ≤ 2 ^ 62 := by exact_mod_cast hlt
  have h4 : (2 : Int) ^ 62 = 4611686018427387904 := by decide
  omega
theorem str_append (xs ys:List Int):strOfNums (xs ++ ys)=strOfNums xs ++ strOfNums ys:=by
 apply ByteArray.ext
 simp [strOfNums]
theorem str_size (xs:List Int):(strOfNums xs).size=xs.length:=strOfNums_size xs
theorem rd_append_left (l x:List Int) (i:Int) (h0:0 ≤ i) (h:i < (l.length:Int)):rd (l ++ x) i=rd l i:=by
 unfold rd
 rw [List.getD_eq_getElem?_getD,List.getD_eq_getElem?_getD,List.getElem?_append_left (by omega)]
theorem rd_append_right (l x:List Int) (i:Int) (h:(l.length:Int) ≤ i):rd (l ++ x) i=rd x (i - l.length):=by
 unfold rd
 rw [List.getD_eq_getElem?_getD,List.getD_eq_getElem?_getD,List.getElem?_append_right (by omega)]
 congr 2
 omega
theorem take_two (l:List Int) (i:Int) (h0:0 ≤ i) (h:i + 1 < (l.length:Int)):l.take (i + 2).toNat=l.take i.toNat ++ [rd l i,rd l (i + 1)]:=by
 obtain ⟨n,rfl⟩:=Int.eq_ofNat_of_zero_le h0
 have e1:((n:Int) + 2).toNat=n + 1 + 1:=by omega
 have h1:n + 1 < l.length:=by omega
 rw [e1,List.take_succ_eq_append_getElem h1,List.take_succ_eq_append_getElem (by omega)]
 have e2:((n:Int) + 1).toNat=n + 1:=by omega
 simp only [Int.toNat_natCast,rd,e2,List.getD_eq_getElem?_getD,List.getElem?_eq_getElem h1,List.getElem?_eq_getElem (show n < l.length by omega),Option.getD_some,List.append_assoc,List.cons_append,List.nil_append]
theorem w64 {i:Int} {n:Nat} (c:Int) (h0:0 ≤ i) (h:i < (n:Int)) (hn:n ≤ 140737488355328) (hc0 : -3 ≤ c) (hc:c ≤ 3):wrap64 (i + c)=i + c:=by
 unfold wrap64;omega
theorem toList_data (s:ByteArray):s.toList=s.data.toList:=by
 simp [ByteArray.toList_eq]
/-- The line at the place i of l,with the bound m;d bytes are left. -/
def cutAt (l:List Int) (m:Int):Nat → Int → (ByteArray × Int × Int)
 | 0,_=>((⟨#[]⟩:ByteArray),0,0)
 | d + 1,i =>
  if rd l i=10 then ((⟨#[]⟩:ByteArray),0,20)
  else if rd l i=13 then
   (if i + 1 < (l.length:Int) then (if rd l (i + 1)=10 then (strOfNums (l.take i.toNat),i + 2,0) else ((⟨#[]⟩:ByteArray),0,20)) else ((⟨#[]⟩:ByteArray),0,0))
  else if m ≤ i then ((⟨#[]⟩:ByteArray),0,2) else cutAt l m d (i + 1)
theorem cut_l0 (l:List Int) (a:Int) (hn:l.length ≤ 140737488355328) (d:Nat) : ∀ (k:Nat) (i:Int),0 ≤ i → (l.length:Int) - i=d → 3 * d + 3 ≤ k →
 line_Cut.l0 k l a l (l.length:Int) i=some (cutAt l (mx a 0) d i):=by
 induction d with
 | zero =>
  intro k i h0 hd hk
  obtain ⟨k,rfl⟩ : ∃ m,k=m + 1:=⟨k - 1,by omega⟩
  simp only [line_Cut.l0,cutAt];rw [if_neg (by omega)]
 | succ d ih =>
  intro k i h0 hd hk
  obtain ⟨k,rfl⟩ : ∃ m,k=m + 3:=⟨k - 3,by omega⟩
  have hlt:i < (l.length:Int):=by omega
  have hw1:wrap64 (i + 1)=i + 1:=w64 1 h0 hlt hn (by omega) (by omega)
  have hw2:wrap64 (i + 2)=i + 2:=w64 2 h0 hlt hn (by omega) (by omega)
  have ih' := ih k (i + 1) (by omega) (by omega) (by omega)
  unfold line_Cut.l0
  rw [if_pos hlt,if_pos h0,if_pos hlt]
  unfold line_Cut.j1 line_Cut.j2
  simp only [cutAt,hw1,hw2,ih']
  by_cases h10:rd l i=10
  ·simp [h10]
  ·rw [if_neg h10]
   by_cases h13:rd l i=13
   ·simp only [h13]
    by_cases h1:i + 1 < (l.length:Int)
    ·by_cases hr:rd l (i + 1)=10
     ·have hne : ¬ (i + 1=(l.length:Int)):=by omega
      have hle:i ≤ (l.length:Int):=by omega
      have h01:0 ≤ i + 1:=by omega
      simp [h1,hr,hne,hle,h01,h0]
     ·have h01:0 ≤ i + 1:=by omega
      simp [h1,hr,h01]
    ·have he:i + 1=(l.length:Int):=by omega
     simp [he]
   ·simp only [h13,if_false,h10]
    by_cases hm:mx a 0 ≤ i
    ·simp [hm]
    ·simp [hm]
/-- What Cut tells. -/
def cutSpec (l:List Int) (a:Int):(ByteArray × Int × Int):=cutAt l (mx a 0) l.length 0
theorem cut_f (l:List Int) (a:Int) (hn:l.length ≤ 140737488355328) (k:Nat) (hk:3 * l.length + 3 ≤ k):line_Cut.f k l a=some (cutSpec l a):=by
 unfold line_Cut.f cutSpec
 exact cut_l0 l a hn l.length k 0 (by omega) (by omega) hk
theorem cutA_shape (l:List Int) (m:Int) (d:Nat) : ∀ (i:Int),0 ≤ i → (l.length:Int) - i=d →
 ((cutAt l m d i).2.1 > 0∧(cutAt l m d i).2.1 ≤ l.length∧strOfNums (l.take (cutAt l m d i).2.1.toNat)=(cutAt l m d i).1 ++ (⟨#[13,10]⟩:ByteArray)∧((cutAt l m d i).1.size:Int)=(cutAt l m d i).2.1 - 2∧(cutAt l m d i).2.2=0)
 ∨ ((cutAt l m d i).2.1=0∧(cutAt l m d i).1=(⟨#[]⟩:ByteArray)):=by
 induction d with
 | zero=>intro i h0 hd;right;simp [cutAt]
 | succ d ih =>
  intro i h0 hd
  have hlt:i < (l.length:Int):=by omega
  have ih' := ih (i + 1) (by omega) (by omega)
  simp only [cutAt]
  by_cases h10:rd l i=10
  ·simp [h10]
  ·rw [if_neg h10]
   by_cases h13:rd l i=13
   ·rw [if_pos h13]
    by_cases h1:i + 1 < (l.length:Int)
    ·rw [if_pos h1]
     by_cases hr:rd l (i + 1)=10
     ·rw [if_pos hr]
      left
      refine ⟨by show i + 2 > 0;omega,by show i + 2 ≤ _;omega,?_,?_,rfl⟩
      ·show strOfNums (l.take (i + 2).toNat)=_
       rw [take_two l i h0 h1,str_append,h13,hr]
       rfl
      ·show ((strOfNums (l.take i.toNat)).size:Int)=i + 2 - 2
       rw [str_size,List.length_take]
       omega
     ·rw [if_neg hr];right;exact ⟨rfl,rfl⟩
    ·rw [if_neg h1];right;exact ⟨rfl,rfl⟩
   ·rw [if_neg h13]
    by_cases hm:m ≤ i
    ·rw [if_pos hm];right;exact ⟨rfl,rfl⟩
    ·rw [if_neg hm];exact ih'
theorem cutS_shape (l:List Int) (m:Int) :
 (cutSpec l m).2.1 > 0∧(cutSpec l m).2.1 ≤ l.length∧((cutSpec l m).1.size:Int)=(cutSpec l m).2.1 - 2∧(cutSpec l m).2.2=0 ∨ (cutSpec l m).2.1=0∧(cutSpec l m).1=(⟨#[]⟩:ByteArray):=by
 rcases cutA_shape l (mx m 0) l.length 0 (by omega) (by omega) with h|h
 ·exact Or.inl ⟨h.1,h.2.1,h.2.2.2.1,h.2.2.2.2⟩
 ·exact Or.inr h
def mkS (l:List UInt8):ByteArray:=⟨l.toArray⟩
theorem mkS_data (l:List UInt8):(mkS l).data.toList=l:=by simp [mkS]
theorem mkS_self (s:ByteArray):mkS s.data.toList=s:=by simp [mkS]
theorem mkS_size (l:List UInt8):(mkS l).size=l.length:=by rw [← data_length,mkS_data]
theorem mkS_toList (l:List UInt8):(mkS l).toList=l:=by rw [toList_data,mkS_data]
theorem wn0 (n:Nat) (h:n ≤ 4398046511104):wrap64 ((n:Int) + 0)=(n:Int):=by unfold wrap64;omega
theorem wn1 (n:Nat) (h:n ≤ 4398046511104):wrap64 ((n:Int) + 1)=(n:Int) + 1:=by unfold wrap64;omega
theorem wnm (n:Nat) (h:n ≤ 4398046511104):wrap64 ((n:Int) + 1 - 1)=(n:Int):=by unfold wrap64;omega
theorem wi1 (i:Int) (h0:0 ≤ i) (h:i ≤ 4398046511104):wrap64 (i + 1)=i + 1:=by unfold wrap64;omega
theorem rdOf_mk (ps:List (List UInt8)) (i:Int) (h0:0 ≤ i) (h:i < (ps.length:Int)):rdOf ByteArray.empty (ps.map mkS) i=mkS (ps.getD i.toNat []):=by
 unfold rdOf
 rw [List.getD_eq_getElem?_getD,List.getElem?_map,List.getD_eq_getElem?_getD,List.getElem?_eq_getElem (by omega)]
 rfl
theorem mkS_extract (l:List UInt8) (a b:Nat):(mkS l).extract a b=mkS ((l.drop a).take (b - a)):=by
 rw [← mkS_self ((mkS l).extract a b),Lib.extract_data,mkS_data]
theorem mkS_bytes (l:List UInt8):bytesOf (mkS l)=l.map fun b=>(b.toNat:Int):=by unfold bytesOf;rw [mkS_data]
theorem str_bytes (l:List UInt8):strOfNums (l.map fun b=>(b.toNat:Int))=mkS l:=by
 unfold strOfNums mkS
 rw [List.map_map]
 congr 2
 conv=>rhs;rw [← List.map_id l]
 exact List.map_congr_left fun b _=>by simp
theorem index_append (sp:UInt8) (a b:List UInt8) (h:sp ∉ a):Lib.indexByte (a ++ sp :: b) sp=a.length:=by
 induction a with
 | nil=>simp [Lib.indexByte]
 | cons c a ih =>
  have hc:c ≠ sp:=fun e=>h (e ▸ List.mem_cons_self ..)
  have hb:(c == sp)=false:=by simpa using hc
  have h3:=ih (fun e=>h (List.mem_cons_of_mem _ e))
  have hn:((a.length:Int) == -1)=false:=by simp only [beq_eq_false_iff_ne];omega
  simp [Lib.indexByte,hb,h3,hn]
theorem index_none (sp:UInt8) (a:List UInt8) (h:sp ∉ a):Lib.indexByte a sp = -1:=by
 induction a with
 | nil=>simp [Lib.indexByte]
 | cons c a ih =>
  have hc:c ≠ sp:=fun e=>h (e ▸ List.mem_cons_self ..)
  have hb:(c == sp)=false:=by simpa using hc
  have h3:=ih (fun e=>h (List.mem_cons_of_mem _ e))
  simp [Lib.indexByte,hb,h3]
theorem slIndex (s:List UInt8) (sp:UInt8):stringslite_Index.f (mkS s) ⟨#[sp]⟩=some (Lib.indexByte s sp):=by
 show some (Lib.indexByte (mkS s).data.toList sp)=_
 rw [mkS_data]
theorem Cut_no (sp:UInt8) (s:List UInt8) (h:sp ∉ s):strings_Cut.f (mkS s) ⟨#[sp]⟩=some (mkS s,(⟨#[]⟩:ByteArray),false):=by
 unfold strings_Cut.f stringslite_Cut.f
 rw [slIndex,index_none sp s h,Option.bind_some,if_neg (by decide),Option.bind_some]
theorem Cut_yes (sp:UInt8) (a b:List UInt8) (h:sp ∉ a) (hn:(a ++ sp :: b).length ≤ 140737488355328):strings_Cut.f (mkS (a ++ sp :: b)) ⟨#[sp]⟩=some (mkS a,mkS b,true):=by
 unfold strings_Cut.f stringslite_Cut.f
 have hl:(a ++ sp :: b).length=a.length + b.length + 1:=by rw [List.length_append,List.length_cons];omega
 rw [hl] at hn
 have h1:((⟨#[sp]⟩:ByteArray).size:Int)=1:=rfl
 have hw:wrap64 ((a.length:Int) + 1)=(a.length:Int) + 1:=by unfold wrap64;omega
 have e1:((a.length:Int) + 1).toNat=a.length + 1:=by omega
 rw [slIndex,index_append sp a b h,Option.bind_some,h1,hw,mkS_size,hl,if_pos (by omega),if_pos (by omega),if_pos (by omega),if_pos (by omega),if_pos (by omega),Option.bind_some,e1,Int.toNat_natCast,mkS_extract,mkS_extract,List.drop_zero,Nat.sub_zero,List.take_left,← List.drop_drop,List.drop_left]
 rw [show List.drop 1 (sp :: b)=b from rfl,List.take_of_length_le (by omega)]
/-- What stands ahead of the first sp,and behind it. -/
theorem split_first (sp:UInt8) (s:List UInt8):sp ∉ s ∨ ∃ a b,s=a ++ sp :: b∧sp ∉ a:=by
 induction s with
 | nil=>exact .inl (by simp)
 | cons c s ih =>
  by_cases hc:c=sp
  ·exact .inr ⟨[],s,by rw [hc];rfl,by simp⟩
  ·rcases ih with h|⟨a,b,rfl,h⟩
   ·refine .inl fun hm=>?_
    rcases List.mem_cons.1 hm with e|e
    ·exact hc e.symm
    ·exact h e
   ·refine .inr ⟨c :: a,b,rfl,fun hm=>?_⟩
    rcases List.mem_cons.1 hm with e|e
    ·exact hc e.symm
    ·exact h e
def tokB (c:Int):Bool:=(sign_Token_1.f c).getD false
def valB (c:Int):Bool:=(sign_Value_1.f c).getD false
theorem Token_f (s:ByteArray) (h:s.size ≤ 140737488355328):sign_Token.f s=some (!s.toList.isEmpty && (bytesOf s).all tokB):=if_pos h
theorem Value_f (s:ByteArray) (h:s.size ≤ 140737488355328):sign_Value.f s=some ((bytesOf s).all valB):=if_pos h
/-- Is a byte a blank? -/
def blk (b:UInt8):Bool:=([32,9]:List UInt8).contains b
/-- A text without blanks at its ends. -/
def trm (l:List UInt8):List UInt8:=(l.reverse.dropWhile blk).reverse.dropWhile blk
theorem trm_length (l:List UInt8):(trm l).length ≤ l.length:=by
 unfold trm
 have h1:((l.reverse.dropWhile blk).reverse.dropWhile blk).length ≤ (l.reverse.dropWhile blk).reverse.length:=(List.dropWhile_suffix _).length_le
 have h2:(l.reverse.dropWhile blk).length ≤ l.reverse.length:=(List.dropWhile_suffix _).length_le
 rw [List.length_reverse] at h1 h2
 omega
theorem Trim_f (s:ByteArray) (h:s.size ≤ 9223372036854775807):sign_Trim.f s=some ⟨(trm s.data.toList).toArray⟩:=by
 unfold sign_Trim.f strings_Trim.f
 rw [if_pos ⟨h,by decide,by decide⟩]
 rfl
/-- Is a field right? -/
def rightB (a t:ByteArray):Bool:=decide (a.size ≤ 100) && ((!a.toList.isEmpty && (bytesOf a).all tokB) && (decide (t.size ≤ 1000) && ((bytesOf t).all valB && (mkS (trm t.data.toList)).toList == t.toList)))
theorem Trim_mk (s:ByteArray) (h:s.size ≤ 9223372036854775807):sign_Trim.f s=some (mkS (trm s.data.toList)):=Trim_f s h
theorem field_right_f (a t:ByteArray):field_right.f a t=some (rightB a t):=by
 unfold field_right.f rightB
 by_cases h1:(a.size:Int) ≤ 100
 ·rw [if_pos h1,Token_f a (by omega),Option.bind_some,decide_eq_true (show a.size ≤ 100 by omega),Bool.true_and]
  cases hT:(!a.toList.isEmpty && (bytesOf a).all tokB)
  ·rw [if_neg (by simp),Bool.false_and]
  ·rw [if_pos rfl,Bool.true_and]
   by_cases h2:(t.size:Int) ≤ 1000
   ·rw [if_pos h2,Value_f t (by omega),Option.bind_some,decide_eq_true (show t.size ≤ 1000 by omega),Bool.true_and]
    cases (bytesOf t).all valB
    ·rw [if_neg (by simp),Bool.false_and]
    ·rw [if_pos rfl,Bool.true_and,Trim_mk t (by omega),Option.bind_some]
   ·rw [if_neg h2,decide_eq_false (show ¬ t.size ≤ 1000 by omega),Bool.false_and]
 ·rw [if_neg h1,decide_eq_false (show ¬ a.size ≤ 100 by omega),Bool.false_and]
def fieldOk (l:List UInt8):Bool:=if 58 ∈ l then rightB (mkS (l.takeWhile (· != 58))) (mkS (trm ((l.dropWhile (· != 58)).drop 1))) else false
theorem take_first (sp:UInt8) (a b:List UInt8) (h:sp ∉ a):(a ++ sp :: b).takeWhile (· != sp)=a∧((a ++ sp :: b).dropWhile (· != sp)).drop 1=b:=by
 induction a with
 | nil=>simp [List.takeWhile_cons,List.dropWhile_cons]
 | cons x a ih =>
  have hx:x ≠ sp:=fun e=>h (by rw [e];exact List.mem_cons_self ..)
  have:=ih (fun e=>h (List.mem_cons_of_mem _ e))
  simp only [List.cons_append,List.takeWhile_cons,List.dropWhile_cons,bne_iff_ne,ne_eq,hx,not_false_eq_true,if_true]
  exact ⟨by rw [this.1],this.2⟩
theorem fieldOk_no (l:List UInt8) (h:58 ∉ l):fieldOk l=false:=by unfold fieldOk;rw [if_neg h]
theorem fieldOk_yes (a b:List UInt8) (h:58 ∉ a):fieldOk (a ++ 58 :: b)=rightB (mkS a) (mkS (trm b)):=by
 unfold fieldOk
 obtain ⟨e1,e2⟩:=take_first 58 a b h
 rw [if_pos (by simp),e1,e2]
theorem field_f (l:List UInt8) (hn:l.length ≤ 140737488355328) : ∃ x y,field_Parse.f (mkS l)=some (x,y,if fieldOk l=true then 0 else 20):=by
 unfold field_Parse.f
 rcases split_first 58 l with h|⟨a,b,rfl,h⟩
 ·rw [Cut_no 58 l h,Option.bind_some,fieldOk_no l h]
  simp only
  rw [Trim_mk _ (by decide),Option.bind_some]
  exact ⟨_,_,rfl⟩
 ·rw [Cut_yes 58 a b h hn,Option.bind_some,fieldOk_yes a b h]
  simp only
  rw [Trim_mk _ (by rw [mkS_size];rw [List.length_append,List.length_cons] at hn;omega),Option.bind_some,if_pos trivial,field_right_f,Option.bind_some,mkS_data]
  cases rightB (mkS a) (mkS (trm b)) <;> exact ⟨_,_,rfl⟩
theorem fold_tells (s:ByteArray) (hn:s.size ≤ 140737488355328):sign_Fold.f s=some (strOfNums ((bytesOf s).map foldC)):=if_pos hn
def Bytes (xs:List Int):Prop := ∀ x ∈ xs,0 ≤ x∧x ≤ 255
theorem bytes_of (s:ByteArray):Bytes (bytesOf s):=by
 intro x hx
 obtain ⟨b,_,rfl⟩:=List.mem_map.1 hx
 have:=b.toNat_lt
 omega
theorem foldC_byte (x:Int) (h0:0 ≤ x) (h1:x ≤ 255):0 ≤ foldC x∧foldC x ≤ 255:=by unfold foldC;split <;> omega
theorem bytes_fold {xs:List Int} (h:Bytes xs):Bytes (xs.map foldC):=by
 intro x hx
 obtain ⟨y,hy,rfl⟩:=List.mem_map.1 hx
 exact foldC_byte y (h y hy).1 (h y hy).2
theorem bytes_str {xs:List Int} (h:Bytes xs):bytesOf (strOfNums xs)=xs:=by
 unfold bytesOf
 rw [strOfNums_data,List.map_map]
 conv=>rhs;rw [← List.map_id xs]
 refine List.map_congr_left fun x hx=>?_
 have:=h x hx
 show ((UInt8.ofNat x.toNat).toNat:Int)=x
 rw [UInt8.toNat_ofNat']
 omega
theorem str_inj {xs ys:List Int} (hx:Bytes xs) (hy:Bytes ys):((strOfNums xs).toList == (strOfNums ys).toList)=decide (xs=ys):=by
 rw [Bool.eq_iff_iff,beq_iff_eq,decide_eq_true_eq]
 refine ⟨fun e=>?_,fun e=>by rw [e]⟩
 rw [← bytes_str hx,← bytes_str hy]
 unfold bytesOf
 rw [← toList_data,← toList_data,e]
/-- The value of a digit,or -1. -/
def digV (c:Int):Int:=Lib.indexByte [48,49,50,51,52,53,54,55,56,57,97,98,99,100,101,102] (foldC c).toNat.toUInt8
/-- The number of digits,from n on. -/
def numL (base:Int):List Int → Int → Option Int
 | [],n=>some n
 | c :: r,n=>if 0 ≤ digV c∧digV c < base then numL base r (n * base + digV c) else none
theorem digV_lt (c:Int) (h0:0 ≤ c) (h1:c ≤ 255):digV c < 16:=by
 obtain ⟨n,rfl⟩:=Int.eq_ofNat_of_zero_le h0
 have h : ∀ m:Fin 256,digV (m.val:Int) < 16:=by decide +kernel
 exact h ⟨n,by omega⟩
theorem one_fold (s:ByteArray) (i:Int) (h0:0 ≤ i) (h:i < (s.size:Int)):sign_Fold.f (s.extract i.toNat (i + 1).toNat)=some (strOfNums [foldC (bt s i)]):=by
 have hl:i.toNat < s.data.toList.length:=by rw [data_length];omega
 have e1:(s.extract i.toNat (i + 1).toNat).data.toList=[s.data.toList[i.toNat]]:=by
  rw [Lib.extract_data,show (i + 1).toNat - i.toNat=1 by omega,List.drop_eq_getElem_cons hl]
  rfl
 have hz:(s.extract i.toNat (i + 1).toNat).size=1:=by rw [← data_length,e1];rfl
 rw [fold_tells _ (by omega)]
 unfold bytesOf
 rw [e1]
 have e2:((s.data.toList[i.toNat]).toNat:Int)=bt s i:=by
  unfold bt
  rw [dif_pos (by omega)]
  rfl
 simp only [List.map_cons,List.map_nil,e2]
theorem bt_one (x:Int) (h0:0 ≤ x) (h1:x ≤ 255):bt (strOfNums [x]) 0=x:=by
 have h:=bytes_str (xs:=[x]) (by intro y hy;rw [List.mem_singleton.1 hy];exact ⟨h0,h1⟩)
 rw [← rd_bytesOf,h]
 rfl
theorem index_dig (s:ByteArray) (i:Int):strings_IndexByte.f (⟨#[48,49,50,51,52,53,54,55,56,57,97,98,99,100,101,102]⟩:ByteArray) (bt (strOfNums [foldC (bt s i)]) 0)=some (digV (bt s i)):=by
 have hr:=bt_range s i
 have hf:=foldC_byte _ hr.1 hr.2
 rw [bt_one _ hf.1 hf.2]
 rfl
theorem pow_pos' (b:Int) (hb:1 ≤ b) : ∀ n:Nat,1 ≤ b ^ n
 | 0=>by simp
 | n + 1=>by
  rw [Int.pow_succ]
  have h1:=pow_pos' b hb n
  have h2:=Int.mul_le_mul_of_nonneg_left hb (show 0 ≤ b ^ n by omega)
  rw [Int.mul_one] at h2
  omega
theorem pow_mono' (b:Int) (hb:1 ≤ b) (i:Nat) : ∀ d:Nat,b ^ i ≤ b ^ (i + d)
 | 0=>Int.le_refl _
 | d + 1=>by
  rw [← Nat.add_assoc,Int.pow_succ]
  have h0:=pow_mono' b hb i d
  have h1:=pow_pos' b hb (i + d)
  have h2:=Int.mul_le_mul_of_nonneg_left hb (show 0 ≤ b ^ (i + d) by omega)
  rw [Int.mul_one] at h2
  omega
/-- Too long: none. -/
theorem number_long (s:ByteArray) (base most:Int) (hm:(s.size:Int) > most) (hs:s.size ≤ 140737488355327) (d:Nat) : ∀ (k:Nat) (n i:Int),0 ≤ i → (s.size:Int) - i=d → 2 * d + 1 ≤ k →
 sign_number.l0 k s base most n (s.size:Int) i=some (0,false):=by
 induction d with
 | zero =>
  intro k n i h0 hd hk
  obtain ⟨k,rfl⟩ : ∃ m,k=m + 1:=⟨k - 1,by omega⟩
  simp only [sign_number.l0]
  rw [if_neg (by omega)]
  repeat' split
  all_goals first|rfl|(exfalso;omega)
 | succ d ih =>
  intro k n i h0 hd hk
  obtain ⟨k,rfl⟩ : ∃ m,k=m + 2:=⟨k - 2,by omega⟩
  have hw:wrap64 (i + 1)=i + 1:=by unfold wrap64;omega
  have ih' := fun n=>ih k n (i + 1) (by omega) (by omega) (by omega)
  simp only [sign_number.l0]
  rw [if_pos (by omega),if_pos h0,hw,if_pos (by omega),if_pos (by omega),one_fold s i h0 (by omega),Option.bind_some,if_pos (by rw [str_size];simp),index_dig,Option.bind_some]
  simp only [sign_number.j1]
  rw [hw,ih',ih']
  repeat' split
  all_goals rfl
theorem number_short (s : ByteArray) (base : Int) (most : Nat) (hb0 : 0 ≤ base) (hB : base ^ most ≤ 4611686018427387904) (hb1 : 1 ≤ base) (hm : s.size ≤ most) (hs : s.size ≤ 140737488355327) (d : Nat) : ∀ (k : Nat) (n : Int) (i : Nat), i + d = s.size → 2 * d + 1 ≤ k → 0 ≤ n → n + 1 ≤ base ^ i →
    sign_number.l0 k s base most n (s.size : Int) i = some (match numL base ((bytesOf s).drop i) n with | some v => if s.size = 0 then (0, false) else (v, true) | none => (0, false)) := by
  induction d with
  | zero =>
    intro k n i hi hk h0 hn
    obtain ⟨k, rfl⟩ : ∃ m, k = m + 1 := ⟨k - 1, by omega⟩
    rw [List.drop_of_length_le (by rw [bytesOf_length]; omega)]
    simp only [sign_number.l0, numL]
    rw [if_neg (by omega)]
    by_cases hz : s.size = 0
    · have he : s.toList = [] := by rw [toList_data]; exact List.eq_nil_of_length_eq_zero (by rw [data_length]; exact hz)
      rw [if_pos he, if_pos hz]
    · have he : ¬ (s.toList = []) := by
        intro e
        rw [toList_data] at e
        have := data_length s
        rw [e] at this
        exact hz this.symm
      rw [if_neg he, if_neg hz, if_neg (by omega)]
  | succ d ih =>
    intro k n i hi hk h0 hn
    obtain ⟨k, rfl⟩ : ∃ m, k = m + 2 := ⟨k - 2, by omega⟩
    have hw : wrap64 ((i : Int) + 1) = (i : Int) + 1 := by unfold wrap64; omega
    have hl : i < (bytesOf s).length := by rw [bytesOf_length]; omega
    have hg : (bytesOf s)[i] = bt s i := by rw [← rd_bytesOf]; simp [rd, List.getD_eq_getElem?_getD, List.getElem?_eq_getElem hl]
    have hr := bt_range s i
    have hP : base ^ (i + 1) = base ^ i * base := Int.pow_succ _ _
    have hle : base ^ (i + 1) ≤ base ^ most := by
      have := pow_mono' base hb1 (i + 1) (most - (i + 1))
      rwa [show i + 1 + (most - (i + 1)) = most by omega] at this
    have h1 := Int.mul_le_mul_of_nonneg_right hn hb0
    rw [Int.add_mul, ← hP, Int.one_mul] at h1
    have h2 : 0 ≤ n * base := Int.mul_nonneg h0 hb0
    have h3 : 0 ≤ base := hb0
    have hdl := digV_lt _ hr.1 hr.2
    rw [List.drop_eq_getElem_cons hl, hg]
    simp only [sign_number.l0, numL]
    rw [if_pos (by omega), if_pos (by omega), hw, if_pos (by omega), if_pos (by omega), one_fold s i (by omega) (by omega), Option.bind_some, if_pos (by rw [str_size]; simp), index_dig, Option.bind_some]
    simp only [sign_number.j1]
    obtain ⟨D, hD⟩ : ∃ D, D = digV (bt s i) := ⟨_, rfl⟩
    rw [← hD] at hdl ⊢
    by_cases hv : 0 ≤ D ∧ D < base
    · rw [if_neg (by omega), decide_eq_false (by omega), if_neg (by simp), if_pos (by omega), hw, if_pos hv]
      have e1 : wrap64 (wrap64 (n * base) + D) = n * base + D := by unfold wrap64; omega
      rw [e1]
      have := ih k (n * base + D) (i + 1) (by omega) (by omega) (by omega) (by omega)
      rw [show (((i + 1 : Nat)) : Int) = (i : Int) + 1 by omega] at this
      exact this
    · rw [if_neg hv]
      by_cases hn0 : D < 0
      · rw [if_pos hn0, if_pos trivial]
      · rw [if_neg hn0, decide_eq_true (by omega), if_pos rfl]
/-- What number tells. -/
def numSpec (s:ByteArray) (base:Int) (most:Nat):Int × Bool :=
 if s.size=0 ∨ s.size > most then (0,false) else match numL base (bytesOf s) 0 with|some v=>(v,true)|none=>(0,false)
theorem number_f (s:ByteArray) (base:Int) (most:Nat) (hb1:1 ≤ base) (hB:base ^ most ≤ 4611686018427387904) (hs:s.size ≤ 140737488355327) (k:Nat) (hk:2 * s.size + 1 ≤ k):sign_number.f k s base most=some (numSpec s base most):=by
 unfold sign_number.f numSpec
 by_cases hm:s.size > most
 ·rw [if_pos (Or.inr hm)]
  exact number_long s base most (by omega) hs s.size k 0 0 (by omega) (by omega) hk
 ·have:=number_short s base most (by omega) hB hb1 (by omega) hs s.size k 0 0 (by omega) hk (by omega) (by simp)
  rw [show ((0:Nat):Int)=0 from rfl] at this
  rw [this]
  by_cases hz:s.size=0
  ·rw [if_pos (Or.inl hz),List.drop_zero]
   cases numL base (bytesOf s) 0 <;> simp [hz]
  ·rw [if_neg (by omega),List.drop_zero]
   cases numL base (bytesOf s) 0 <;> simp [hz]
theorem Decimal_f (s:ByteArray) (hs:s.size ≤ 140737488355327) (k:Nat) (hk:2 * s.size + 1 ≤ k):sign_Decimal.f k s=some (numSpec s 10 18):=by
 unfold sign_Decimal.f
 rw [show (18:Int)=((18:Nat):Int) from rfl,number_f s 10 18 (by decide) (by decide) hs k hk,Option.bind_some]
theorem Hex_f (s:ByteArray) (hs:s.size ≤ 140737488355327) (k:Nat) (hk:2 * s.size + 1 ≤ k):sign_Hex.f k s=some (numSpec s 16 15):=by
 unfold sign_Hex.f
 rw [show (15:Int)=((15:Nat):Int) from rfl,number_f s 16 15 (by decide) (by decide) hs k hk,Option.bind_some]
/-- Blanks behind taken away. -/
def rtrim (l:List UInt8):List UInt8:=(l.reverse.dropWhile blk).reverse
theorem rtrim_len (l:List UInt8):(rtrim l).length ≤ l.length:=by
 unfold rtrim
 rw [List.length_reverse]
 have:=(List.dropWhile_sublist blk (l:=l.reverse)).length_le
 rw [List.length_reverse] at this
 exact this
/-- The size that a chunk's line tells;is it one? -/
def sizeS (l:List UInt8):Int × Bool :=
 ((numSpec (mkS (rtrim (l.takeWhile (· != 59)))) 16 15).1,(numSpec (mkS (rtrim (l.takeWhile (· != 59)))) 16 15).2 && (bytesOf (mkS ((l.dropWhile (· != 59)).drop 1))).all valB)
theorem take_none (sp:UInt8) (l:List UInt8) (h:sp ∉ l):l.takeWhile (· != sp)=l∧(l.dropWhile (· != sp)).drop 1=[]:=by
 induction l with
 | nil=>simp
 | cons x a ih =>
  have hx:x ≠ sp:=fun e=>h (by rw [e];exact List.mem_cons_self ..)
  have:=ih (fun e=>h (List.mem_cons_of_mem _ e))
  simp only [List.takeWhile_cons,List.dropWhile_cons,bne_iff_ne,ne_eq,hx,not_false_eq_true,if_true]
  exact ⟨by rw [this.1],this.2⟩
theorem sizeS_no (l:List UInt8) (h:59 ∉ l):sizeS l=numSpec (mkS (rtrim l)) 16 15:=by
 obtain ⟨e1,e2⟩:=take_none 59 l h
 unfold sizeS
 rw [e1,e2]
 have:(bytesOf (mkS [])).all valB=true:=by rw [mkS_bytes];rfl
 rw [this,Bool.and_true]
theorem sizeS_yes (a b:List UInt8) (h:59 ∉ a):sizeS (a ++ 59 :: b)=((numSpec (mkS (rtrim a)) 16 15).1,(numSpec (mkS (rtrim a)) 16 15).2 && (bytesOf (mkS b)).all valB):=by
 obtain ⟨e1,e2⟩:=take_first 59 a b h
 unfold sizeS
 rw [e1,e2]
theorem TrimRight_f (l:List UInt8) (hl:l.length ≤ 140737488355328):strings_TrimRight.f (mkS l) ⟨#[32,9]⟩=some (mkS (rtrim l)):=by
 unfold strings_TrimRight.f
 rw [if_pos ⟨by rw [mkS_size];omega,by decide,by decide⟩,mkS_data]
 rfl
theorem numL_bound (xs:List Int) : ∀ (n v:Int) (B:Int),0 ≤ n → n < B → numL 16 xs n=some v → 0 ≤ v∧v < B * 16 ^ xs.length:=by
 induction xs with
 | nil=>intro n v B h0 h1 h;simp only [numL,Option.some.injEq] at h;subst h;simpa using ⟨h0,h1⟩
 | cons x xs ih =>
  intro n v B h0 h1 h
  rw [numL] at h
  by_cases hd:0 ≤ digV x∧digV x < 16
  ·rw [if_pos hd] at h
   have:=ih _ v (B * 16) (by omega) (by omega) h
   rw [List.length_cons,Int.pow_succ,Int.mul_comm (16 ^ xs.length) 16,← Int.mul_assoc]
   exact this
  ·rw [if_neg hd] at h;cases h
theorem hexs_bound (s : ByteArray) : 0 ≤ (numSpec s 16 15).1 ∧ (numSpec s 16 15).1 ≤ 1152921504606846976 := by
  unfold numSpec
  split
  · exact ⟨by decide, by decide⟩
  · rename_i h
    cases hv : numL 16 (bytesOf s) 0 with
    | none => exact ⟨by decide, by decide⟩
    | some v =>
      have := numL_bound (bytesOf s) 0 v 1 (by decide) (by decide) hv
      have hl : (bytesOf s).length ≤ 15 := by rw [bytesOf_length]; omega
      have h2 : (16 : Int) ^ (bytesOf s).length ≤ 16 ^ 15 := by
        have := pow_mono' 16 (by decide) (bytesOf s).length (15 - (bytesOf s).length)
        rwa [show (bytesOf s).length + (15 - (bytesOf s).length) = 15 by omega] at this
      exact ⟨this.1, by simp only; have h3 : (16 : Int) ^ 15 = 1152921504606846976 := by decide
                        omega⟩
theorem size_bound (l:List UInt8):0 ≤ (sizeS l).1∧(sizeS l).1 ≤ 1152921504606846976:=hexs_bound _
theorem line_f (l:List Int) (p:Nat) (hp:p ≤ l.length) (hl:l.length ≤ 1000000) (k:Nat) (hk:3 * l.length + 3 ≤ k) :
 chunk_reader_line.f k l p=some ((cutSpec (l.drop p) 256).1,(cutSpec (l.drop p) 256).2.2,(p:Int) + (cutSpec (l.drop p) 256).2.1,decide ((cutSpec (l.drop p) 256).2.1=0) && decide ((cutSpec (l.drop p) 256).2.2=0)):=by
 unfold chunk_reader_line.f
 have hd:(l.drop p).length=l.length - p:=List.length_drop ..
 rw [if_pos (by omega),if_pos (by omega),Int.toNat_natCast,cut_f _ _ (by omega) k (by omega),Option.bind_some]
 have hw:wrap64 ((p:Int) + (cutSpec (l.drop p) 256).2.1)=(p:Int) + (cutSpec (l.drop p) 256).2.1:=by
  rcases cutS_shape (l.drop p) 256 with h|h <;> unfold wrap64 <;> omega
 rw [hw]
theorem size_f (l : List Int) (p : Nat) (hp : p ≤ l.length) (hl : l.length ≤ 1000000) (k : Nat) (hk : 3 * l.length + 3 ≤ k) :
    chunk_reader_size.f k l p = some (if (cutSpec (l.drop p) 256).2.2 = 0 then (if (cutSpec (l.drop p) 256).2.1 = 0 then (0, 0, (p : Int), true) else
        if (sizeS (cutSpec (l.drop p) 256).1.data.toList).2 = true then ((sizeS (cutSpec (l.drop p) 256).1.data.toList).1, 0, (p : Int) + (cutSpec (l.drop p) 256).2.1, false) else (0, 30, (p : Int) + (cutSpec (l.drop p) 256).2.1, false))
      else (0, (cutSpec (l.drop p) 256).2.2, (p : Int) + (cutSpec (l.drop p) 256).2.1, false)) := by
  unfold chunk_reader_size.f
  rw [line_f l p hp hl k hk, Option.bind_some]
  have hsh := cutS_shape (l.drop p) 256
  have hd : (l.drop p).length = l.length - p := List.length_drop ..
  obtain ⟨c, hc⟩ : ∃ c, c = cutSpec (l.drop p) 256 := ⟨_, rfl⟩
  rw [← hc] at hsh ⊢
  simp only
  by_cases h1 : c.2.2 = 0
  · rw [if_pos h1, if_pos h1]
    by_cases h2 : c.2.1 = 0
    · rw [if_pos h2, decide_eq_true h2, decide_eq_true h1, if_pos (by rfl), h2, Int.add_zero]
    · rw [if_neg h2, decide_eq_false h2, Bool.false_and, if_neg (by simp)]
      have hsz : c.1.data.toList.length ≤ 1000000 := by rw [data_length]; rcases hsh with h | h <;> omega
      have e0 : c.1 = mkS c.1.data.toList := (mkS_self _).symm
      obtain ⟨u, hu⟩ : ∃ u, u = c.1.data.toList := ⟨_, rfl⟩
      rw [← hu] at e0 hsz ⊢
      rw [e0]
      have hk2 : 2 * u.length + 1 ≤ k := by
        have : u.length = c.1.size := by rw [hu, data_length]
        rcases hsh with h | h <;> omega
      rcases split_first 59 u with h | ⟨a, b, hab, h⟩
      · have hr := rtrim_len u
        rw [Cut_no 59 u h, Option.bind_some]
        simp only
        rw [TrimRight_f u (by omega), Option.bind_some, Hex_f _ (by rw [mkS_size]; omega) k (by rw [mkS_size]; omega), Option.bind_some, sizeS_no u h]
        cases (numSpec (mkS (rtrim u)) 16 15).2
        · rw [if_neg (by simp), if_neg (by simp)]
        · rw [if_pos rfl, if_pos rfl, Value_f _ (by decide), Option.bind_some, if_pos (by rfl)]
      · subst hab
        have hab : (a ++ 59 :: b).length = a.length + b.length + 1 := by rw [List.length_append, List.length_cons]; omega
        have hr := rtrim_len a
        rw [Cut_yes 59 a b h (by omega), Option.bind_some]
        simp only
        rw [TrimRight_f a (by omega), Option.bind_some, Hex_f _ (by rw [mkS_size]; omega) k (by rw [mkS_size]; omega), Option.bind_some, sizeS_yes a b h]
        cases (numSpec (mkS (rtrim a)) 16 15).2
        · rw [if_neg (by simp), Bool.false_and, if_neg (by simp)]
        · rw [if_pos rfl, Bool.true_and, Value_f _ (by rw [mkS_size]; omega), Option.bind_some]
          cases (bytesOf (mkS b)).all valB <;> rfl
  · rw [if_neg h1, if_neg h1, decide_eq_false h1, Bool.and_false]
/-- The lines behind the last chunk, at most d more: the place behind them (0: they are not whole), the error. -/
def trailS (l : List Int) : Nat → Nat → Int × Int
  | 0, _ => (0, 3)
  | d + 1, p => if (cutSpec (l.drop p) 256).2.2 = 0 then (if (cutSpec (l.drop p) 256).2.1 = 0 then (0, 0)
      else if (cutSpec (l.drop p) 256).1.toList = [] then ((p : Int) + (cutSpec (l.drop p) 256).2.1, 0)
      else if fieldOk (cutSpec (l.drop p) 256).1.data.toList = true then trailS l d (p + (cutSpec (l.drop p) 256).2.1.toNat) else (0, 20))
    else (0, (cutSpec (l.drop p) 256).2.2)
/-- The body from a place on. -/
def decS (l : List Int) : Nat → Nat → Int → List Int → List Int × Int × Int
  | 0, _, _, _ => ([], 0, 0)
  | d + 1, p, left, out => if (cutSpec (l.drop p) 256).2.2 = 0 then (if (cutSpec (l.drop p) 256).2.1 = 0 then ([], 0, 0)
      else if (sizeS (cutSpec (l.drop p) 256).1.data.toList).2 = true then (if (sizeS (cutSpec (l.drop p) 256).1.data.toList).1 = 0 then
          (if (trailS l 41 (p + (cutSpec (l.drop p) 256).2.1.toNat)).2 = 0 then (if (trailS l 41 (p + (cutSpec (l.drop p) 256).2.1.toNat)).1 = 0 then ([], 0, 0) else (out, (trailS l 41 (p + (cutSpec (l.drop p) 256).2.1.toNat)).1, 0)) else ([], 0, (trailS l 41 (p + (cutSpec (l.drop p) 256).2.1.toNat)).2))
        else if (sizeS (cutSpec (l.drop p) 256).1.data.toList).1 > left then ([], 0, 2)
        else if (dataOf (l.drop (p + (cutSpec (l.drop p) 256).2.1.toNat)) ((p + (cutSpec (l.drop p) 256).2.1.toNat : Nat) : Int) (sizeS (cutSpec (l.drop p) 256).1.data.toList).1 false).2.1 = 0 then
          (if (dataOf (l.drop (p + (cutSpec (l.drop p) 256).2.1.toNat)) ((p + (cutSpec (l.drop p) 256).2.1.toNat : Nat) : Int) (sizeS (cutSpec (l.drop p) 256).1.data.toList).1 false).2.2.2 = true then ([], 0, 0)
            else decS l d (p + (cutSpec (l.drop p) 256).2.1.toNat + (sizeS (cutSpec (l.drop p) 256).1.data.toList).1.toNat + 2) (left - (sizeS (cutSpec (l.drop p) 256).1.data.toList).1) (out ++ (l.drop (p + (cutSpec (l.drop p) 256).2.1.toNat)).take (sizeS (cutSpec (l.drop p) 256).1.data.toList).1.toNat))
        else ([], 0, 20))
      else ([], 0, 30))
    else ([], 0, (cutSpec (l.drop p) 256).2.2)
theorem trail_f (l:List Int) (hl:l.length ≤ 1000000) : ∀ (d:Nat) (n p k:Nat),n + d=41 → 1 ≤ d → p ≤ l.length → d + 3 * l.length + 4 ≤ k →
 ∃ q m,chunk_reader_trailer.l k l p n=some ((trailS l d p).2,q,m)∧((trailS l d p).2=0 → (m=true ↔ (trailS l d p).1=0)∧(m=false → q=(trailS l d p).1)):=by
 intro d
 induction d with
 | zero=>intro n p k _ h;omega
 | succ d ih =>
  intro n p k hn _ hp hk
  obtain ⟨k,rfl⟩ : ∃ m,k=m + 1:=⟨k - 1,by omega⟩
  have hsh:=cutS_shape (l.drop p) 256
  have hd:(l.drop p).length=l.length - p:=List.length_drop ..
  rw [chunk_reader_trailer.l,line_f l p hp hl k (by omega),Option.bind_some,trailS]
  obtain ⟨c,hc⟩ : ∃ c,c=cutSpec (l.drop p) 256:=⟨_,rfl⟩
  rw [← hc] at hsh ⊢
  simp only
  by_cases h1:c.2.2=0
  ·rw [if_pos h1,if_pos h1]
   by_cases h2:c.2.1=0
   ·rw [if_pos h2,decide_eq_true h2,decide_eq_true h1,if_pos (by rfl)]
    exact ⟨_,_,rfl,fun _=>⟨by simp,by simp⟩⟩
   ·rw [if_neg h2,decide_eq_false h2,Bool.false_and,if_neg (by simp)]
    by_cases h3:c.1.toList=[]
    ·rw [if_pos h3,if_pos h3]
     refine ⟨_,_,rfl,fun _=>⟨⟨by simp,fun e=>?_⟩,fun _=>rfl⟩⟩
     simp only at e
     rcases hsh with h|h <;> omega
    ·rw [if_neg h3,if_neg h3]
     have hz:c.1.data.toList.length=c.1.size:=data_length _
     have hz2:c.2.1 > 0∧c.2.1 ≤ (l.length:Int) - p∧(c.1.size:Int)=c.2.1 - 2:=by rcases hsh with h|h <;> omega
     obtain ⟨x,y,hf⟩:=field_f c.1.data.toList (by omega)
     rw [mkS_self] at hf
     rw [hf,Option.bind_some]
     simp only
     cases fieldOk c.1.data.toList
     ·rw [if_neg (by simp),if_neg (by decide),if_neg (by simp)]
      exact ⟨_,_,rfl,fun e=>by simp at e⟩
     ·rw [if_pos rfl,if_pos rfl,if_pos rfl]
      by_cases h4:(n:Int)=40
      ·obtain rfl:d=0:=by omega
       rw [if_pos h4,trailS]
       exact ⟨_,_,rfl,fun e=>by simp at e⟩
      ·rw [if_neg h4]
       have:=ih (n + 1) (p + c.2.1.toNat) k (by omega) (by omega) (by omega) (by omega)
       rw [show ((p + c.2.1.toNat:Nat):Int)=(p:Int) + c.2.1 by omega,show ((n + 1:Nat):Int)=(n:Int) + 1 by omega] at this
       exact this
  ·rw [if_neg h1,if_neg h1]
   exact ⟨_,_,rfl,fun e=>absurd e h1⟩
theorem data_f (l:List Int) (p:Nat) (n:Int) (hp:p ≤ l.length) (h0:0 ≤ n) (h1:n ≤ 1152921504606846976):chunk_reader_data.f l p n false=some (dataOf (l.drop p) p n false):=by
 unfold chunk_reader_data.f
 rw [if_pos ⟨by omega,by omega,h0,by omega⟩,Int.toNat_natCast]
theorem data_shape (rest:List Int) (p n:Int) (h0:0 ≤ p) (hp:p ≤ 1000000) (n0:0 ≤ n) (hr:rest.length ≤ 1000000):(dataOf rest p n false).2.1=0 ∨ (dataOf rest p n false).2.1=20:=by
 unfold dataOf
 repeat' split
 all_goals first|exact Or.inl rfl|exact Or.inr rfl
theorem data_ok (rest:List Int) (p n:Int) (h0:0 ≤ p) (hp:p ≤ 1000000) (n0:0 ≤ n) (hr:rest.length ≤ 1000000) (h1:(dataOf rest p n false).2.1=0) (h2 : ¬ (dataOf rest p n false).2.2.2=true) :
 (dataOf rest p n false).1=rest.take n.toNat∧(dataOf rest p n false).2.2.1=p + (n + 2)∧n + 2 ≤ (rest.length:Int)∧rd rest n=13∧rd rest (n + 1)=10:=by
 unfold dataOf at h1 h2 ⊢
 by_cases a0:n < (rest.length:Int)
 ·rw [if_pos a0] at h1 h2 ⊢
  by_cases a1:rd rest n=13
  ·rw [if_pos a1] at h1 h2 ⊢
   by_cases a2:n + 1 < (rest.length:Int)
   ·rw [if_pos a2] at h1 h2 ⊢
    by_cases a3:rd rest (n + 1)=10
    ·rw [if_pos a3]
     exact ⟨rfl,by show wrap64 (p + (n + 2))=_;unfold wrap64;omega,by omega,a1,a3⟩
    ·rw [if_neg a3] at h1;simp at h1
   ·rw [if_neg a2] at h2;simp at h2
  ·rw [if_neg a1] at h1;simp at h1
 ·rw [if_neg a0] at h2;simp at h2
theorem dec_f (l:List Int) (hl:l.length ≤ 1000000) : ∀ (d p:Nat) (left:Int) (out:List Int) (k:Nat),p ≤ l.length → l.length < p + d → out.length ≤ p → 0 ≤ left → left ≤ 9223372036854775807 → d + 3 * l.length + 60 ≤ k →
 chunk_Decode.l k l p left out=some (decS l d p left out):=by
 intro d
 induction d with
 | zero=>intro p left out k h1 h2;omega
 | succ d ih =>
  intro p left out k hp hd ho hl0 hl1 hk
  obtain ⟨k,rfl⟩ : ∃ m,k=m + 1:=⟨k - 1,by omega⟩
  have hsh:=cutS_shape (l.drop p) 256
  have hdl:(l.drop p).length=l.length - p:=List.length_drop ..
  rw [chunk_Decode.l,size_f l p hp hl k (by omega),Option.bind_some,decS]
  obtain ⟨c,hc⟩ : ∃ c,c=cutSpec (l.drop p) 256:=⟨_,rfl⟩
  rw [← hc] at hsh ⊢
  by_cases h1:c.2.2=0
  ·rw [if_pos h1,if_pos h1]
   by_cases h2:c.2.1=0
   ·rw [if_pos h2,if_pos h2]
    simp
   ·have hz2:c.2.1 > 0∧c.2.1 ≤ (l.length:Int) - p∧(c.1.size:Int)=c.2.1 - 2:=by rcases hsh with h|h <;> omega
    rw [if_neg h2,if_neg h2]
    obtain ⟨z,hz⟩ : ∃ z,z=sizeS c.1.data.toList:=⟨_,rfl⟩
    have hzb:=size_bound c.1.data.toList
    rw [← hz] at hzb ⊢
    obtain ⟨q,hq⟩ : ∃ q,q=p + c.2.1.toNat:=⟨_,rfl⟩
    have hq2:(p:Int) + c.2.1=(q:Int):=by omega
    rw [← hq,hq2]
    by_cases h3:z.2=true
    ·rw [if_pos h3,if_pos h3]
     simp only
     rw [if_pos trivial,if_neg (by simp)]
     by_cases h4:z.1=0
     ·rw [if_pos h4,if_pos h4]
      obtain ⟨q',m,ht,hm⟩:=trail_f l hl 41 0 q k (by omega) (by omega) (by omega) (by omega)
      have ht' : chunk_reader_trailer.f k l q=some ((trailS l 41 q).2,q',m):=ht
      rw [ht',Option.bind_some]
      by_cases h5:(trailS l 41 q).2=0
      ·obtain ⟨hm1,hm2⟩:=hm h5
       rw [if_pos h5,if_pos h5]
       by_cases h6:(trailS l 41 q).1=0
       ·rw [if_pos h6,if_pos (hm1.2 h6)]
       ·have hmf:m=false:=by cases m with|false=>rfl|true=>exact absurd (hm1.1 rfl) h6
        rw [if_neg h6,hmf,if_neg (by simp),hm2 hmf]
      ·rw [if_neg h5,if_neg h5]
     ·rw [if_neg h4,if_neg h4]
      by_cases h5:z.1 > left
      ·rw [if_pos h5,if_pos h5]
      ·rw [if_neg h5,if_neg h5,data_f l q z.1 (by omega) hzb.1 hzb.2,Option.bind_some]
       have hdr:(l.drop q).length=l.length - q:=List.length_drop ..
       by_cases h6:(dataOf (l.drop q) (q:Int) z.1 false).2.1=0
       ·rw [if_pos h6,if_pos h6]
        by_cases h7:(dataOf (l.drop q) (q:Int) z.1 false).2.2.2=true
        ·rw [if_pos h7,if_pos h7]
        ·obtain ⟨e1,e2,e3,_,_⟩:=data_ok (l.drop q) q z.1 (by omega) (by omega) hzb.1 (by omega) h6 h7
         have htk:((l.drop q).take z.1.toNat).length ≤ z.1.toNat:=List.length_take_le ..
         rw [if_neg h7,if_neg h7,e1,e2,if_pos (by omega),show wrap64 (left - z.1)=left - z.1 by unfold wrap64;omega,show (q:Int) + (z.1 + 2)=((q + z.1.toNat + 2:Nat):Int) by omega]
         exact ih _ _ _ k (by omega) (by omega) (by rw [List.length_append];omega) (by omega) (by omega) (by omega)
       ·rcases data_shape (l.drop q) q z.1 (by omega) (by omega) hzb.1 (by omega) with e|e
        ·exact absurd e h6
        ·rw [if_neg h6,if_neg h6,e]
    ·rw [if_neg h3,if_neg h3]
     simp
  ·rw [if_neg h1,if_neg h1]
   simp only
   rw [if_neg h1]
theorem Decode_f (l:List Int) (most:Int) (hl:l.length ≤ 1000000) (hm:most ≤ 9223372036854775807) (k:Nat) (hk:4 * l.length + 70 ≤ k):chunk_Decode.f k l most=some (decS l (l.length + 1) 0 (mx most 0) []):=by
 unfold chunk_Decode.f
 exact dec_f l hl (l.length + 1) 0 (mx most 0) [] k (by omega) (by omega) (by simp) (by unfold mx;split <;> omega) (by unfold mx;split <;> omega) (by omega)
theorem same_tells (a b:ByteArray) (ha:a.size ≤ 140737488355328) (hb:b.size ≤ 140737488355328):sign_Same.f a b=some (decide ((bytesOf a).map foldC=(bytesOf b).map foldC)):=by
 unfold sign_Same.f
 by_cases h:(a.size:Int)=b.size
 ·rw [if_pos h,fold_tells a ha,Option.bind_some,fold_tells b hb,Option.bind_some,str_inj (bytes_fold (bytes_of a)) (bytes_fold (bytes_of b))]
 ·rw [if_neg h]
  have hne : ¬ ((bytesOf a).map foldC=(bytesOf b).map foldC):=by
   intro e
   have:=congrArg List.length e
   rw [List.length_map,List.length_map,bytesOf_length,bytesOf_length] at this
   omega
  rw [decide_eq_false hne]
/-- How many commas. -/
def cntC (sp:UInt8):List UInt8 → Nat
 | []=>0
 | c :: l=>if c=sp then cntC sp l + 1 else cntC sp l
theorem cntC_count {sp:UInt8} (l:List UInt8):l.count sp=cntC sp l:=by
 induction l with
 | nil=>rfl
 | cons c l ih=>rw [List.count_cons,ih];by_cases hc:c=sp <;> simp [cntC,hc]
theorem cntC_append {sp:UInt8} (a b:List UInt8):cntC sp (a ++ b)=cntC sp a + cntC sp b:=by
 rw [← cntC_count,← cntC_count,← cntC_count,List.count_append]
theorem cntC_none {sp:UInt8} (l:List UInt8):cntC sp l=0 ↔ sp ∉ l:=by rw [← cntC_count];exact List.count_eq_zero
theorem cntC_le {sp:UInt8} (l:List UInt8):cntC sp l ≤ l.length:=by rw [← cntC_count];exact List.count_le_length
/-- The parts between commas. -/
def pcs (sp:UInt8):List UInt8 → List (List UInt8)
 | []=>[[]]
 | c :: l=>if c=sp then [] :: pcs sp l else (match pcs sp l with|p :: ps=>(c :: p) :: ps|[]=>[[c]])
theorem pcs_ne {sp:UInt8} (l:List UInt8) : ∃ p ps,pcs sp l=p :: ps:=by
 induction l with
 | nil=>exact ⟨[],[],rfl⟩
 | cons c l ih =>
  obtain ⟨p,ps,h⟩:=ih
  by_cases hc:c=sp
  ·exact ⟨[],pcs sp l,by simp [pcs,hc]⟩
  ·exact ⟨c :: p,ps,by simp [pcs,hc,h]⟩
theorem pcs_none {sp:UInt8} (l:List UInt8) (h:sp ∉ l):pcs sp l=[l]:=by
 induction l with
 | nil=>rfl
 | cons c l ih =>
  have hc:c ≠ sp:=fun e=>h (e ▸ List.mem_cons_self ..)
  simp [pcs,hc,ih (fun e=>h (List.mem_cons_of_mem _ e))]
theorem pcs_append {sp:UInt8} (a b:List UInt8):pcs sp (a ++ sp :: b)=pcs sp a ++ pcs sp b:=by
 induction a with
 | nil=>simp [pcs]
 | cons c a ih =>
  by_cases hc:c=sp
  ·simp [pcs,hc,ih]
  ·obtain ⟨p,ps,hp⟩:=pcs_ne (sp:=sp) a
   simp [pcs,hc,ih,hp]
theorem pcs_length {sp:UInt8} (l:List UInt8):(pcs sp l).length=cntC sp l + 1:=by
 induction l with
 | nil=>rfl
 | cons c l ih =>
  by_cases hc:c=sp
  ·simp [pcs,cntC,hc,ih]
  ·obtain ⟨p,ps,hp⟩:=pcs_ne (sp:=sp) l
   rw [hp] at ih
   simp only [pcs,hc,if_false,hp,cntC]
   simpa using ih
theorem pcs_le {sp:UInt8} (l:List UInt8) : ∀ p ∈ pcs sp l,p.length ≤ l.length:=by
 induction l with
 | nil=>intro p hp;simp [pcs] at hp;simp [hp]
 | cons c l ih =>
  intro p hp
  by_cases hc:c=sp
  ·simp only [pcs,hc,if_true] at hp
   rcases List.mem_cons.1 hp with rfl|hp
   ·simp
   ·have:=ih p hp;simp;omega
  ·obtain ⟨q,qs,hq⟩:=pcs_ne (sp:=sp) l
   simp only [pcs,hc,if_false,hq] at hp
   rcases List.mem_cons.1 hp with rfl|hp
   ·have:=ih q (by rw [hq];exact List.mem_cons_self ..);simp;omega
   ·have:=ih p (by rw [hq];exact List.mem_cons_of_mem _ hp);simp;omega
/-- What Split tells. -/
theorem index_splitC {sp:UInt8} (l:List UInt8) (h:0 < cntC sp l) : ∃ a b,l=a ++ sp :: b∧sp ∉ a∧Lib.indexByte l sp=a.length:=by
 induction l with
 | nil=>simp [cntC] at h
 | cons c l ih =>
  by_cases hc:c=sp
  ·exact ⟨[],l,by simp [hc],by simp,by simp [Lib.indexByte,hc]⟩
  ·have h' : 0 < cntC sp l:=by simpa [cntC,hc] using h
   obtain ⟨a,b,h1,h2,h3⟩:=ih h'
   refine ⟨c :: a,b,by simp [h1],?_,?_⟩
   ·intro hm
    rcases List.mem_cons.1 hm with e|e
    ·exact hc e.symm
    ·exact h2 e
   ·have hb:(c == sp)=false:=by simpa using hc
    have hn:((a.length:Int) == -1)=false:=by simp only [beq_eq_false_iff_ne];omega
    simp [Lib.indexByte,hb,h3,hn]
theorem gs_endC {sp:UInt8} (k:Nat) (s:ByteArray) (x3:Int) (x9:List ByteArray) (i:Nat) (hc:sp ∉ s.data.toList) (hx:x3=i) (hl:x9.length=i + 1) (hi:i ≤ 4398046511104) :
 strings_genSplit.l0 (k + 1) s ⟨#[sp]⟩ 0 x3 x9 i=some (x9.take i ++ (pcs sp s.data.toList).map mkS):=by
 simp only [strings_genSplit.l0]
 rw [if_neg (by omega),if_pos (by omega),if_pos (by omega),wn1 i hi,if_pos (by omega),if_pos (by omega),pcs_none _ hc]
 have e1:((i:Int) + 1).toNat=i + 1:=by omega
 rw [e1,Int.toNat_natCast,List.take_succ_eq_append_getElem (by rw [List.length_set];omega),List.take_set_of_le (Nat.le_refl _)]
 simp [mkS_self]
theorem extract_midC {sp : UInt8} (s : ByteArray) (a b : List UInt8) (hab : s.data.toList = a ++ sp :: b) : (s.extract (a.length + 1) s.size).data.toList = b ∧ s.extract 0 a.length = mkS a ∧ (s.extract (a.length + 1) s.size).size ≤ s.size := by
  have e2 : (s.extract (a.length + 1) s.size).data.toList = b := by
    rw [Lib.extract_to_end, hab, ← List.drop_drop, List.drop_left]; rfl
  refine ⟨e2, ?_, ?_⟩
  · have : (s.extract 0 a.length).data.toList = a := by
      rw [Lib.extract_data, hab, List.drop_zero, Nat.sub_zero, List.take_left]
    rw [← mkS_self (s.extract 0 _), this]
  · have hlen : a.length + b.length + 1 = s.size := by rw [← data_length, hab]; simp; omega
    rw [← data_length, e2]
    omega
theorem gs_stepC {sp:UInt8} (k:Nat) (s:ByteArray) (x3:Int) (x9:List ByteArray) (i:Nat) (a b:List UInt8) (hab:s.data.toList=a ++ sp :: b) (hidx:Lib.indexByte s.data.toList sp=a.length) (hx:(i:Int) < x3) (hl:i < x9.length) (hs:s.size ≤ 4398046511104) (hi:i ≤ 4398046511104) :
 ∀ R,strings_genSplit.l0 k (s.extract (a.length + 1) s.size) ⟨#[sp]⟩ 0 x3 (x9.set i (mkS a)) ((i:Int) + 1)=R → strings_genSplit.l0 (k + 1) s ⟨#[sp]⟩ 0 x3 x9 i=R:=by
 intro R hR
 have hlen:a.length + b.length + 1=s.size:=by rw [← data_length,hab];simp;omega
 have hix:strings_Index.f s ⟨#[sp]⟩=some (a.length:Int):=by
  show some (Lib.indexByte s.data.toList sp)=_
  rw [hidx]
 have hs1:((⟨#[sp]⟩:ByteArray).size:Int)=1:=rfl
 have e1:((a.length:Int) + 1).toNat=a.length + 1:=by omega
 obtain ⟨_,e3,_⟩:=extract_midC s a b hab
 simp only [strings_genSplit.l0]
 rw [if_pos hx,hix]
 rw [Option.bind_some]
 rw [if_neg (by omega),wn0 _ (by omega),hs1,wn1 _ (by omega),if_pos (by omega),if_pos (by omega),if_pos (by omega),if_pos (by omega),if_pos (by omega),if_pos (by omega),wn1 i hi,e1,Int.toNat_natCast,Int.toNat_natCast,e3]
 exact hR
theorem gs_l0C {sp:UInt8} (d:Nat) : ∀ (k:Nat) (s:ByteArray) (x3:Int) (x9:List ByteArray) (i:Nat),cntC sp s.data.toList=d → x3=i + d → x9.length=i + d + 1 → d + 1 ≤ k → s.size ≤ 4398046511104 →
 i + d ≤ 4398046511104 → strings_genSplit.l0 k s ⟨#[sp]⟩ 0 x3 x9 i=some (x9.take i ++ (pcs sp s.data.toList).map mkS):=by
 induction d with
 | zero =>
  intro k s x3 x9 i hc hx hl hk hs hid
  obtain ⟨k,rfl⟩ : ∃ m,k=m + 1:=⟨k - 1,by omega⟩
  exact gs_endC k s x3 x9 i ((cntC_none _).1 hc) (by omega) (by omega) (by omega)
 | succ d ih =>
  intro k s x3 x9 i hc hx hl hk hs hid
  obtain ⟨k,rfl⟩ : ∃ m,k=m + 1:=⟨k - 1,by omega⟩
  obtain ⟨a,b,hab,ha,hidx⟩:=index_splitC (sp:=sp) s.data.toList (by omega)
  obtain ⟨e2,_,e4⟩:=extract_midC s a b hab
  have hcb:cntC sp b=d:=by
   rw [hab,cntC_append,(cntC_none a).2 ha] at hc
   simp only [cntC,if_true] at hc
   omega
  refine gs_stepC k s x3 x9 i a b hab hidx (by omega) (by omega) hs (by omega) _ ?_
  have:=ih k (s.extract (a.length + 1) s.size) x3 (x9.set i (mkS a)) (i + 1) (by rw [e2];exact hcb) (by omega) (by rw [List.length_set];omega) (by omega) (by omega) (by omega)
  rw [show (((i + 1:Nat)):Int)=(i:Int) + 1 by omega] at this
  rw [this,e2,hab,pcs_append,pcs_none a ha,List.take_succ_eq_append_getElem (by rw [List.length_set];omega),List.take_set_of_le (Nat.le_refl _)]
  simp
theorem gs_firstC {sp:UInt8} (k:Nat) (s:ByteArray) (hs:s.size ≤ 4398046511103) :
 ∀ R,strings_genSplit.l0 k s ⟨#[sp]⟩ 0 ((cntC sp s.data.toList:Nat):Int) (List.replicate (cntC sp s.data.toList + 1) (⟨#[]⟩:ByteArray)) 0=R → strings_genSplit.f (k + 1) s ⟨#[sp]⟩ 0 (-1)=R:=by
 intro R hR
 have hcl:=cntC_le (sp:=sp) s.data.toList
 rw [data_length] at hcl
 have hcf:strings_Count.f s ⟨#[sp]⟩=some ((cntC sp s.data.toList:Nat):Int):=by
  rw [← cntC_count];rfl
 obtain ⟨c,hc⟩ : ∃ c,c=cntC sp s.data.toList:=⟨_,rfl⟩
 rw [← hc] at hcf hcl hR
 have hm:mn ((c:Int) + 1) ((s.size:Int) + 1)=(c:Int) + 1:=by unfold mn;split <;> omega
 have e1:((c:Int) + 1).toNat=c + 1:=by omega
 have hne : ¬ ((⟨#[sp]⟩:ByteArray).toList=[]):=by rw [toList_data];simp
 unfold strings_genSplit.f
 rw [if_neg (by decide),if_neg hne,if_pos (by decide),hcf]
 rw [Option.bind_some]
 simp only [strings_genSplit.j0]
 rw [wn1 c (by omega),wn1 s.size (by omega),hm,wnm c (by omega),e1,if_pos (by omega),if_pos (by omega)]
 exact hR
theorem Split_fC {sp:UInt8} (s:ByteArray) (hs:s.size ≤ 4398046511103) (k:Nat) (hk:s.size + 3 ≤ k):strings_Split.f k s ⟨#[sp]⟩=some ((pcs sp s.data.toList).map mkS):=by
 obtain ⟨k,rfl⟩ : ∃ m,k=m + 1:=⟨k - 1,by omega⟩
 have hcl:=cntC_le (sp:=sp) s.data.toList
 rw [data_length] at hcl
 unfold strings_Split.f
 have:=gs_l0C (cntC sp s.data.toList) k s ((cntC sp s.data.toList:Nat):Int) (List.replicate (cntC sp s.data.toList + 1) (⟨#[]⟩:ByteArray)) 0 rfl (by omega) (by rw [List.length_replicate];omega) (by omega) (by omega) (by omega)
 rw [show ((0:Nat):Int)=0 from rfl] at this
 rw [gs_firstC k s hs _ this]
 simp
/-- The parts of a list: trimmed,the empty ones left out. -/
def commaParts (l:List UInt8):List (List UInt8):=((pcs 44 l).map trm).filter (fun p => !p.isEmpty)
theorem split_step (ps:List (List UInt8)) (i:Int) (h0:0 ≤ i) (hlt:i < (ps.length:Int)):((ps.drop i.toNat).map trm).filter (fun p => !p.isEmpty)=(if trm (ps.getD i.toNat [])=[] then [] else [trm (ps.getD i.toNat [])]) ++ ((ps.drop (i + 1).toNat).map trm).filter (fun p => !p.isEmpty):=by
 have hl:i.toNat < ps.length:=by omega
 have hg:ps.getD i.toNat []=ps[i.toNat]:=by rw [List.getD_eq_getElem?_getD,List.getElem?_eq_getElem hl];rfl
 rw [hg,List.drop_eq_getElem_cons hl,show (i + 1).toNat=i.toNat + 1 by omega,List.map_cons,List.filter_cons]
 by_cases he:trm ps[i.toNat]=[]
 ·rw [if_pos he,he];rfl
 ·rw [if_neg he,if_pos (by simpa using he)];rfl
theorem split_l0 (ps:List (List UInt8)) (hl : ∀ p ∈ ps,p.length ≤ 4398046511104) (hn:ps.length ≤ 4398046511104) (d:Nat) : ∀ (k:Nat) (out:List ByteArray) (i:Int),0 ≤ i → (ps.length:Int) - i=d → d + 1 ≤ k → (out.length:Int) ≤ i →
 sign_Split.l0 k out (ps.map mkS) (ps.length:Int) i=some (out ++ (((ps.drop i.toNat).map trm).filter (fun p => !p.isEmpty)).map mkS):=by
 induction d with
 | zero =>
  intro k out i h0 hd hk ho
  obtain ⟨k,rfl⟩ : ∃ m,k=m + 1:=⟨k - 1,by omega⟩
  simp only [sign_Split.l0]
  rw [if_neg (by omega),List.drop_of_length_le (by omega)]
  simp
 | succ d ih =>
  intro k out i h0 hd hk ho
  obtain ⟨k,rfl⟩ : ∃ m,k=m + 1:=⟨k - 1,by omega⟩
  have hlt:i.toNat < ps.length:=by omega
  have hg:ps.getD i.toNat []=ps[i.toNat]:=by rw [List.getD_eq_getElem?_getD,List.getElem?_eq_getElem hlt];rfl
  have hlp:=hl _ (List.getElem_mem hlt)
  rw [← hg] at hlp
  rw [split_step ps i h0 (by omega)]
  simp only [sign_Split.l0]
  rw [if_pos (by omega),if_pos h0,if_pos (by rw [List.length_map];omega),rdOf_mk ps i h0 (by omega),Trim_f _ (by rw [mkS_size];omega),mkS_data]
  simp only [Option.bind_some,wi1 i h0 (by omega)]
  rw [show (⟨(trm (ps.getD i.toNat [])).toArray⟩:ByteArray)=mkS (trm (ps.getD i.toNat [])) from rfl,mkS_toList]
  by_cases he:trm (ps.getD i.toNat [])=[]
  ·rw [if_pos he,if_pos he,ih k out (i + 1) (by omega) (by omega) (by omega) (by omega)]
   rfl
  ·rw [if_neg he,if_neg he,if_pos (by omega),ih k _ (i + 1) (by omega) (by omega) (by omega) (by rw [List.length_append];simp;omega)]
   simp only [List.map_append,List.map_cons,List.map_nil,List.append_assoc]
theorem signSplit_f (s:ByteArray) (hs:s.size ≤ 4398046511103) (k:Nat) (hk:s.size + 3 ≤ k):sign_Split.f k s=some ((commaParts s.data.toList).map mkS):=by
 unfold sign_Split.f
 have hpl:=pcs_length (sp:=44) s.data.toList
 have hcl:=cntC_le (sp:=44) s.data.toList
 rw [data_length] at hcl
 rw [Split_fC s hs k hk]
 simp only [Option.bind_some,List.length_map]
 rw [split_l0 (pcs 44 s.data.toList) (fun p hp=>by have:=pcs_le _ p hp;rw [data_length] at this;omega) (by omega) (pcs 44 s.data.toList).length k [] 0 (by omega) (by omega) (by omega) (by simp)]
 rfl
theorem rdT_at (xs:List (S48)) (i:Nat) (h:i < xs.length):rd_T48 xs (i:Int)=xs[i]:=by
 unfold rd_T48
 rw [Int.toNat_natCast,List.getD_eq_getElem?_getD,List.getElem?_eq_getElem h];rfl
theorem rdB_at (xs:List ByteArray) (i:Nat) (h:i < xs.length):rdOf ByteArray.empty xs (i:Int)=xs[i]:=by
 unfold rdOf
 rw [Int.toNat_natCast,List.getD_eq_getElem?_getD,List.getElem?_eq_getElem h];rfl
/-- The same names. -/
def sameN (a b:ByteArray):Bool:=decide ((bytesOf a).map foldC=(bytesOf b).map foldC)
theorem same_f (a b:ByteArray) (ha:a.size ≤ 140737488355328) (hb:b.size ≤ 140737488355328):sign_Same.f a b=some (sameN a b):=same_tells a b ha hb
/-- Few fields,of short texts. -/
def FB (fs:List (S48)):Prop:=fs.length ≤ 1000 ∧ ∀ f ∈ fs,f.f0.size ≤ 1048576∧f.f1.size ≤ 1048576
/-- The values of a name. -/
def getS (name:ByteArray):List (S48) → List ByteArray
 | []=>[]
 | f :: r=>if sameN f.f0 name=true then f.f1 :: getS name r else getS name r
theorem getS_len (name:ByteArray) : ∀ fs,(getS name fs).length ≤ fs.length
 | []=>Nat.le_refl _
 | f :: r=>by rw [getS];have:=getS_len name r;split <;> simp only [List.length_cons] <;> omega
theorem getS_mem (name:ByteArray) : ∀ (fs:List (S48)) (v:ByteArray),v ∈ getS name fs → ∃ f ∈ fs,v=f.f1∧sameN f.f0 name=true
 | [],v,h=>by cases h
 | f :: r,v,h=>by
  rw [getS] at h
  by_cases hs:sameN f.f0 name=true
  ·rw [if_pos hs] at h
   rcases List.mem_cons.1 h with rfl|h
   ·exact ⟨f,List.mem_cons_self,rfl,hs⟩
   ·obtain ⟨g,hg,e⟩:=getS_mem name r v h;exact ⟨g,List.mem_cons_of_mem _ hg,e⟩
  ·rw [if_neg hs] at h
   obtain ⟨g,hg,e⟩:=getS_mem name r v h;exact ⟨g,List.mem_cons_of_mem _ hg,e⟩
theorem get_l0 (name:ByteArray) (hn:name.size ≤ 1048576) (fs:List (S48)) (hf:FB fs) (d:Nat) : ∀ (k i:Nat) (out:List ByteArray),i + d=fs.length → d < k → out.length ≤ i →
 field_Get.l0 k name out fs (fs.length:Int) (i:Int)=some (out ++ getS name (fs.drop i)):=by
 have hfl:=hf.1
 induction d with
 | zero =>
  intro k i out hi hk ho
  obtain ⟨k,rfl⟩ : ∃ m,k=m + 1:=⟨k - 1,by omega⟩
  rw [field_Get.l0,if_neg (by omega),List.drop_of_length_le (by omega),getS,List.append_nil]
 | succ d ih =>
  intro k i out hi hk ho
  obtain ⟨k,rfl⟩ : ∃ m,k=m + 1:=⟨k - 1,by omega⟩
  have hlt:i < fs.length:=by omega
  have hb:=hf.2 _ (List.getElem_mem hlt)
  have hw:wrap64 ((i:Int) + 1)=((i + 1:Nat):Int):=by unfold wrap64;omega
  rw [field_Get.l0,if_pos (by omega),if_pos (by omega),if_pos (by omega),rdT_at fs i hlt,same_f _ _ (by omega) (by omega),Option.bind_some,hw,List.drop_eq_getElem_cons hlt,getS]
  by_cases hs:sameN fs[i].f0 name=true
  ·rw [if_pos hs,if_pos hs,if_pos (by omega),ih k (i + 1) _ (by omega) (by omega) (by rw [List.length_append];simp;omega)]
   simp only [List.append_assoc,List.singleton_append]
  ·rw [if_neg hs,if_neg hs,ih k (i + 1) _ (by omega) (by omega) (by omega)]
theorem Get_f (fs:List (S48)) (name:ByteArray) (hf:FB fs) (hn:name.size ≤ 1048576) (k:Nat) (hk:fs.length < k):field_Get.f k fs name=some (getS name fs):=by
 have:=get_l0 name hn fs hf fs.length k 0 [] (by omega) hk (Nat.zero_le _)
 rw [List.drop_zero,List.nil_append] at this
 exact this
/-- A value's parts. -/
def partsS (v:ByteArray):List ByteArray:=(commaParts v.data.toList).map mkS
theorem comma_len (l:List UInt8):(commaParts l).length ≤ l.length + 1:=by
 unfold commaParts
 have h1:=List.length_filter_le (fun p => !p.isEmpty) ((pcs 44 l).map trm)
 rw [List.length_map,pcs_length] at h1
 have h2:=cntC_le (sp:=44) l
 omega
theorem parts_len (v:ByteArray):(partsS v).length ≤ v.size + 1:=by
 unfold partsS
 rw [List.length_map]
 have:=comma_len v.data.toList
 rw [data_length] at this
 exact this
theorem comma_size (l:List UInt8) : ∀ p ∈ commaParts l,p.length ≤ l.length:=by
 intro p hp
 unfold commaParts at hp
 obtain ⟨q,hq,rfl⟩:=List.mem_map.1 (List.mem_filter.1 hp).1
 exact Nat.le_trans (trm_length q) (pcs_le l q hq)
theorem parts_size (v:ByteArray) : ∀ p ∈ partsS v,p.size ≤ v.size:=by
 intro p hp
 obtain ⟨q,hq,rfl⟩:=List.mem_map.1 hp
 rw [mkS_size,← data_length]
 exact comma_size _ q hq
theorem list_l0 (vs:List ByteArray) (hl:vs.length ≤ 1000) (hv : ∀ v ∈ vs,v.size ≤ 1048576) (d:Nat) : ∀ (k i:Nat) (out:List ByteArray),i + d=vs.length → d + 1048580 ≤ k → out.length ≤ 1048577 * i →
 field_List.l0 k out vs (vs.length:Int) (i:Int)=some (out ++ (vs.drop i).flatMap partsS):=by
 induction d with
 | zero =>
  intro k i out hi hk ho
  obtain ⟨k,rfl⟩ : ∃ m,k=m + 1:=⟨k - 1,by omega⟩
  rw [field_List.l0,if_neg (by omega),List.drop_of_length_le (by omega),List.flatMap_nil,List.append_nil]
 | succ d ih =>
  intro k i out hi hk ho
  obtain ⟨k,rfl⟩ : ∃ m,k=m + 1:=⟨k - 1,by omega⟩
  have hlt:i < vs.length:=by omega
  have hb:=hv _ (List.getElem_mem hlt)
  have hp:=parts_len vs[i]
  have hw:wrap64 ((i:Int) + 1)=((i + 1:Nat):Int):=by unfold wrap64;omega
  rw [field_List.l0,if_pos (by omega),if_pos (by omega),if_pos (by omega),rdB_at vs i hlt,signSplit_f _ (by omega) k (by omega),Option.bind_some,hw,List.drop_eq_getElem_cons hlt,List.flatMap_cons]
  have e:(commaParts vs[i].data.toList).map mkS=partsS vs[i]:=rfl
  rw [e,if_pos (by omega),ih k (i + 1) _ (by omega) (by omega) (by rw [List.length_append];omega),List.append_assoc]
/-- All parts of a name's values. -/
def listS (name:ByteArray) (fs:List (S48)):List ByteArray:=(getS name fs).flatMap partsS
theorem get_bounds (fs:List (S48)) (name:ByteArray) (hf:FB fs):(getS name fs).length ≤ 1000 ∧ ∀ v ∈ getS name fs,v.size ≤ 1048576:=by
 refine ⟨Nat.le_trans (getS_len name fs) hf.1,fun v hv=>?_⟩
 obtain ⟨f,hm,rfl,_⟩:=getS_mem name fs v hv
 exact (hf.2 f hm).2
theorem List_f (fs:List (S48)) (name:ByteArray) (hf:FB fs) (hn:name.size ≤ 1048576) (k:Nat) (hk:1049600 ≤ k):field_List.f k fs name=some (listS name fs):=by
 obtain ⟨h1,h2⟩:=get_bounds fs name hf
 have hfl:=hf.1
 unfold field_List.f
 rw [Get_f fs name hf hn k (by omega),Option.bind_some]
 have:=list_l0 (getS name fs) h1 h2 (getS name fs).length k 0 [] (by omega) (by omega) (by simp)
 rw [List.drop_zero,List.nil_append] at this
 exact this
theorem flat_len (B:Nat) : ∀ vs:List ByteArray,(∀ v ∈ vs,v.size ≤ B) → (vs.flatMap partsS).length ≤ vs.length * (B + 1)
 | [],_=>by simp
 | v :: r,h=>by
  rw [List.flatMap_cons,List.length_append,List.length_cons,Nat.succ_mul]
  have h1:=flat_len B r (fun u hu=>h u (List.mem_cons_of_mem _ hu))
  have h2:=parts_len v
  have h3:=h v List.mem_cons_self
  omega
theorem list_bounds (fs:List (S48)) (name:ByteArray) (hf:FB fs):(listS name fs).length ≤ 1048577000 ∧ ∀ p ∈ listS name fs,p.size ≤ 1048576:=by
 obtain ⟨h1,h2⟩:=get_bounds fs name hf
 refine ⟨?_,fun p hp=>?_⟩
 ·have h3:=flat_len 1048576 (getS name fs) h2
  unfold listS
  have h4:(getS name fs).length * 1048577 ≤ 1000 * 1048577:=Nat.mul_le_mul_right _ h1
  omega
 ·unfold listS at hp
  obtain ⟨v,hv,hp⟩:=List.mem_flatMap.1 hp
  exact Nat.le_trans (parts_size v p hp) (h2 v hv)
theorem numL_nn (b:Int) (hb:0 ≤ b) : ∀ (l:List Int) (n v:Int),0 ≤ n → numL b l n=some v → 0 ≤ v
 | [],n,v,hn,h=>by simp only [numL,Option.some.injEq] at h;omega
 | c :: r,n,v,hn,h=>by
  rw [numL] at h
  split at h
  ·next hc=>exact numL_nn b hb r _ v (by have:=Int.mul_nonneg hn hb;omega) h
  ·cases h
theorem num_nn (s:ByteArray):0 ≤ (numSpec s 10 18).1:=by
 unfold numSpec
 split
 ·exact Int.le_refl _
 ·split
  ·next v hv=>exact numL_nn 10 (by decide) _ 0 v (Int.le_refl _) hv
  ·exact Int.le_refl _
def lenNm:ByteArray:=⟨#[99,111,110,116,101,110,116,45,108,101,110,103,116,104]⟩
def teNm:ByteArray:=⟨#[116,114,97,110,115,102,101,114,45,101,110,99,111,100,105,110,103]⟩
def lenNM:ByteArray:=⟨#[67,111,110,116,101,110,116,45,76,101,110,103,116,104]⟩
def teNM:ByteArray:=⟨#[84,114,97,110,115,102,101,114,45,69,110,99,111,100,105,110,103]⟩
theorem getS_nm (p q:ByteArray) (h:(bytesOf p).map foldC=(bytesOf q).map foldC) : ∀ fs,getS p fs=getS q fs
 | []=>rfl
 | f :: r=>by rw [getS,getS,getS_nm p q h r];unfold sameN;rw [h]
theorem listS_nm (p q:ByteArray) (h:(bytesOf p).map foldC=(bytesOf q).map foldC) (fs:List (S48)):listS p fs=listS q fs:=by unfold listS;rw [getS_nm p q h]
theorem len_nm:(bytesOf lenNM).map foldC=(bytesOf lenNm).map foldC:=by decide +kernel
theorem te_nm:(bytesOf teNM).map foldC=(bytesOf teNm).map foldC:=by decide +kernel
/-- Is a name there? -/
def thereS (name:ByteArray) (fs:List (S48)):Bool:=decide (((getS name fs).length:Int) > 0)
theorem there_f (fs:List (S48)) (name:ByteArray) (hf:FB fs) (hn:name.size ≤ 1048576) (k:Nat) (hk:fs.length < k):frame_there.f k fs name=some (thereS name fs):=by
 unfold frame_there.f
 rw [Get_f fs name hf hn k hk,Option.bind_some];rfl
theorem thereLen_f (fs:List (S48)) (hf:FB fs) (k:Nat) (hk:fs.length < k):frame_there.f k fs ⟨#[67,111,110,116,101,110,116,45,76,101,110,103,116,104]⟩=some (thereS lenNm fs):=by
 have h:=there_f fs lenNM hf (by decide) k hk
 have e:thereS lenNM fs=thereS lenNm fs:=by unfold thereS;rw [getS_nm _ _ len_nm]
 rw [e] at h
 exact h
theorem thereTe_f (fs:List (S48)) (hf:FB fs) (k:Nat) (hk:fs.length < k):frame_there.f k fs ⟨#[84,114,97,110,115,102,101,114,45,69,110,99,111,100,105,110,103]⟩=some (thereS teNm fs):=by
 have h:=there_f fs teNM hf (by decide) k hk
 have e:thereS teNM fs=thereS teNm fs:=by unfold thereS;rw [getS_nm _ _ te_nm]
 rw [e] at h
 exact h
/-- The length that parts tell. -/
def lenS:List ByteArray → Int × Bool
 | []=>(0,false)
 | p :: r=>if (numSpec p 10 18).2=true∧(r.all fun q=>decide (numSpec q 10 18=((numSpec p 10 18).1,true)))=true then ((numSpec p 10 18).1,true) else (0,false)
theorem len_rest (ps:List ByteArray) (hl:ps.length ≤ 1048577000) (hs : ∀ p ∈ ps,p.size ≤ 1048576) (n:Int) (hn:0 ≤ n) (d:Nat) : ∀ (k i:Nat),i + d=ps.length → d + 2100000 ≤ k →
 frame_length.l0 k n ps (ps.length:Int) (i:Int)=some (if ((ps.drop i).all fun q=>decide (numSpec q 10 18=(n,true)))=true then (n,true) else (0,false)):=by
 induction d with
 | zero =>
  intro k i hi hk
  obtain ⟨k,rfl⟩ : ∃ m,k=m + 1:=⟨k - 1,by omega⟩
  rw [frame_length.l0,if_neg (by omega),List.drop_of_length_le (by omega),List.all_nil,if_pos rfl,decide_eq_true hn]
 | succ d ih =>
  intro k i hi hk
  obtain ⟨k,rfl⟩ : ∃ m,k=m + 1:=⟨k - 1,by omega⟩
  have hlt:i < ps.length:=by omega
  have hb:=hs _ (List.getElem_mem hlt)
  have hw:wrap64 ((i:Int) + 1)=((i + 1:Nat):Int):=by unfold wrap64;omega
  rw [frame_length.l0,if_pos (by omega),if_pos (by omega),if_pos (by omega),rdB_at ps i hlt,Decimal_f _ (by omega) k (by omega),Option.bind_some,hw,List.drop_eq_getElem_cons hlt,List.all_cons]
  obtain ⟨z,hz⟩ : ∃ z,z=numSpec ps[i] 10 18:=⟨_,rfl⟩
  rw [← hz]
  by_cases h1:z.2=true
  ·rw [if_pos h1,if_pos hn]
   by_cases h2:z.1=n
   ·have e:z=(n,true):=Prod.ext h2 h1
    rw [if_pos h2,h2,ih k (i + 1) (by omega) (by omega),decide_eq_true e,Bool.true_and]
   ·have e : ¬ z=(n,true):=fun e=>h2 (by rw [e])
    rw [if_neg h2,decide_eq_false e,Bool.false_and,if_neg (by simp)]
  ·have e : ¬ z=(n,true):=fun e=>h1 (by rw [e])
   rw [if_neg h1,decide_eq_false e,Bool.false_and,if_neg (by simp)]
theorem length_fs (fs:List (S48)) (hf:FB fs) (k:Nat) (hk:1060000000 ≤ k):frame_length.f k fs=some (if listS lenNm fs=[] then (-1,false) else lenS (listS lenNm fs)):=by
 have hlb:=list_bounds fs lenNm hf
 obtain ⟨ps,hps⟩ : ∃ ps,ps=listS lenNm fs:=⟨_,rfl⟩
 have hL:field_List.f k fs (⟨#[67,111,110,116,101,110,116,45,76,101,110,103,116,104]⟩:ByteArray)=some ps:=by
  have h:=List_f fs lenNM hf (by decide) k (by omega)
  rw [listS_nm _ _ len_nm,← hps] at h
  exact h
 unfold frame_length.f
 rw [hL,Option.bind_some,← hps]
 rw [← hps] at hlb
 obtain ⟨k,rfl⟩ : ∃ m,k=m + 1:=⟨k - 1,by omega⟩
 cases ps with
 | nil =>
  rw [frame_length.l0,if_neg (by simp),if_pos rfl]
  rfl
 | cons p r =>
  have hb:=hlb.2 p List.mem_cons_self
  have hr0:rdOf ByteArray.empty (p :: r) 0=p:=rdB_at (p :: r) 0 (by simp)
  rw [frame_length.l0,if_pos (by simp only [List.length_cons];omega),if_pos (by omega),if_pos (by simp only [List.length_cons];omega),hr0,Decimal_f _ (by omega) k (by omega),Option.bind_some,show (if (p :: r)=[] then ((-1:Int),false) else lenS (p :: r))=lenS (p :: r) from if_neg (by simp),lenS]
  obtain ⟨z,hz⟩ : ∃ z,z=numSpec p 10 18:=⟨_,rfl⟩
  have hnn:=num_nn p
  rw [← hz] at hnn ⊢
  by_cases h1:z.2=true
  ·have h:=len_rest (p :: r) hlb.1 hlb.2 z.1 hnn r.length k 1 (by simp only [List.length_cons];omega) (by have:=hlb.1;simp only [List.length_cons] at this;omega)
   have h' : frame_length.l0 k z.1 (p :: r) ((p :: r).length:Int) 1=_:=h
   rw [if_pos h1,if_neg (by decide),show wrap64 (0 + 1)=1 by unfold wrap64;omega,h']
   simp only [List.drop_succ_cons,List.drop_zero]
   by_cases h2:(r.all fun q=>decide (numSpec q 10 18=(z.1,true)))=true
   ·rw [if_pos h2,if_pos ⟨h1,h2⟩]
   ·rw [if_neg h2,if_neg (fun h=>h2 h.2)]
  ·rw [if_neg h1,if_neg (fun h=>h1 h.1)]
def chunkedW:ByteArray:=⟨#[99,104,117,110,107,101,100]⟩
/-- Are they chunked? -/
def chunkedS (fs:List (S48)):Bool:=match listS teNm fs with|[p]=>sameN p chunkedW|_=>false
theorem chunked_f (fs:List (S48)) (hf:FB fs) (k:Nat) (hk:1049600 ≤ k):frame_chunked.f k fs=some (chunkedS fs):=by
 have hlb:=list_bounds fs teNm hf
 have hL:field_List.f k fs (⟨#[84,114,97,110,115,102,101,114,45,69,110,99,111,100,105,110,103]⟩:ByteArray)=some (listS teNm fs):=by
  have h:=List_f fs teNM hf (by decide) k (by omega)
  rw [listS_nm _ _ te_nm] at h
  exact h
 unfold frame_chunked.f chunkedS
 rw [hL,Option.bind_some]
 match hps:listS teNm fs with
 | []=>rw [if_neg (by simp)]
 | [p] =>
  rw [hps] at hlb
  have hb:=hlb.2 p List.mem_cons_self
  have hr0:rdOf ByteArray.empty [p] 0=p:=rdB_at [p] 0 (by simp)
  rw [if_pos (by simp),if_pos (by simp),hr0,same_f p _ (by omega) (by decide),Option.bind_some]
  rfl
 | p :: q :: r=>rw [if_neg (by simp only [List.length_cons];omega)]
/-- How long a request's body is. -/
def reqLen (fs:List (S48)) (minor:Int):Int × Bool × Int :=
 if thereS teNm fs=true then (if thereS lenNm fs=true ∨ minor=0 then (0,false,400) else if chunkedS fs=true then (0,true,0) else (0,false,501))
 else if thereS lenNm fs=true then (if (lenS (listS lenNm fs)).2=true then (if (lenS (listS lenNm fs)).1 > 4096 then (0,false,413) else ((lenS (listS lenNm fs)).1,false,0)) else (0,false,400)) else (0,false,0)
theorem lenS_if (ps:List ByteArray):(if ps=[] then ((-1:Int),false) else lenS ps).2=(lenS ps).2∧((lenS ps).2=true → (if ps=[] then ((-1:Int),false) else lenS ps).1=(lenS ps).1):=by
 by_cases h:ps=[]
 ·rw [if_pos h,h];exact ⟨rfl,fun h=>by cases h⟩
 ·rw [if_neg h];exact ⟨rfl,fun _=>rfl⟩
theorem frameReq_f (fs:List (S48)) (minor:Int) (hf:FB fs) (k:Nat) (hk:1060000010 ≤ k):frame_Request.f k fs minor=some (reqLen fs minor):=by
 have hfl:=hf.1
 obtain ⟨k,rfl⟩ : ∃ m,k=m + 2:=⟨k - 2,by omega⟩
 obtain ⟨hl1,hl2⟩:=lenS_if (listS lenNm fs)
 unfold frame_Request.f reqLen
 rw [thereLen_f fs hf _ (by omega),Option.bind_some,thereTe_f fs hf _ (by omega),Option.bind_some,length_fs fs hf _ (by omega),Option.bind_some]
 obtain ⟨z,hz⟩ : ∃ z,z=(if listS lenNm fs=[] then ((-1:Int),false) else lenS (listS lenNm fs)):=⟨_,rfl⟩
 rw [← hz] at hl1 hl2 ⊢
 obtain ⟨y,hy⟩ : ∃ y,y=lenS (listS lenNm fs):=⟨_,rfl⟩
 rw [← hy] at hl1 hl2 ⊢
 have hj1 : ∀ L T b,frame_Request.j1 (k + 1) L T z.1 z.2 b=some (if b=true then (0,false,501) else if T=true then (0,true,0) else if L=true then (if y.2=true then (if y.1 > 4096 then (0,false,413) else (y.1,false,0)) else (0,false,400)) else (0,false,0)):=by
  intro L T b
  rw [frame_Request.j1,hl1]
  cases b <;> cases T <;> cases L <;> try rfl
  cases h:y.2
  ·rfl
  ·rw [hl2 h]
   by_cases h9:y.1 > 4096
   ·simp [h9]
   ·simp [h9]
 have hj0 : ∀ L T x,frame_Request.j0 (k + 2) fs L T z.1 z.2 x=some (if x=true then (0,false,400) else if T=true then (if chunkedS fs=true then (0,true,0) else (0,false,501)) else if L=true then (if y.2=true then (if y.1 > 4096 then (0,false,413) else (y.1,false,0)) else (0,false,400)) else (0,false,0)):=by
  intro L T x
  rw [frame_Request.j0,chunked_f fs hf (k + 1) (by omega),Option.bind_some,hj1,hj1]
  cases x <;> cases T <;> cases chunkedS fs <;> rfl
 rw [hj0,hj0,hj0]
 by_cases hm:minor=0
 ·rw [beq_iff_eq.2 hm]
  cases thereS teNm fs <;> cases thereS lenNm fs <;> simp [hm]
 ·rw [beq_eq_false_iff_ne.2 hm]
  cases thereS teNm fs <;> cases thereS lenNm fs <;> simp [hm]
/-- How a response's body is told. -/
def noBody (method:ByteArray) (code:Int):Bool:=(method.toList == [72,69,65,68]) || (decide (code < 200) || ((code == 204) || (code == 304)))
def respLen (method:ByteArray) (code minor:Int) (fs:List (S48)):Int × Int × Bool :=
 if noBody method code=true then (0,0,true)
 else if (reqLen fs minor).2.2=0 then (if (reqLen fs minor).2.1=true then (2,0,true) else if thereS lenNm fs=true then (1,(reqLen fs minor).1,true) else (3,0,true)) else (0,0,false)
theorem frameResp_f (method:ByteArray) (code:Int) (reason:ByteArray) (minor:Int) (fs:List (S48)) (b:List Int) (hf:FB fs) (k:Nat) (hk:1060000020 ≤ k):frame_Response.f k method code reason minor fs b=some (respLen method code minor fs):=by
 have hfl:=hf.1
 obtain ⟨k,rfl⟩ : ∃ m,k=m + 1:=⟨k - 1,by omega⟩
 have hj : ∀ x,frame_Response.j0 (k + 1) x code reason minor fs b=some (if x=true then (0,0,true) else if (reqLen fs minor).2.2=0 then (if (reqLen fs minor).2.1=true then (2,0,true) else if thereS lenNm fs=true then (1,(reqLen fs minor).1,true) else (3,0,true)) else (0,0,false)):=by
  intro x
  rw [frame_Response.j0,frameReq_f fs minor hf k (by omega),Option.bind_some,thereLen_f fs hf k (by omega),Option.bind_some]
  by_cases h1:(reqLen fs minor).2.2=0
  ·cases x <;> cases (reqLen fs minor).2.1 <;> cases thereS lenNm fs <;> simp [h1]
  ·cases x <;> simp [h1]
 unfold frame_Response.f respLen noBody
 by_cases h1:method.toList=[72,69,65,68]
 ·rw [if_pos h1,hj,if_pos rfl,beq_iff_eq.2 h1,Bool.true_or,if_pos rfl]
 ·rw [if_neg h1,beq_eq_false_iff_ne.2 h1,Bool.false_or]
  by_cases h2:code < 200
  ·rw [if_pos h2,hj,if_pos rfl,decide_eq_true h2,Bool.true_or,if_pos rfl]
  ·rw [if_neg h2,decide_eq_false h2,Bool.false_or]
   by_cases h3:code=204
   ·rw [if_pos h3,hj,if_pos rfl,beq_iff_eq.2 h3,Bool.true_or,if_pos rfl]
   ·rw [if_neg h3,hj,beq_eq_false_iff_ne.2 h3,Bool.false_or]
def bodyS (b:List Int) (size:Int) (coded:Bool):List Int × Int × Int :=
 if coded=true then (if (decS b (b.length + 1) 0 4096 []).2.2=2 then ([],-1,413) else if (decS b (b.length + 1) 0 4096 []).2.2=0 then (if (decS b (b.length + 1) 0 4096 []).2.1=0 then ([],-1,0) else ((decS b (b.length + 1) 0 4096 []).1,(decS b (b.length + 1) 0 4096 []).2.1,0)) else ([],-1,400))
 else if (b.length:Int) < size then ([],-1,0) else (b.take size.toNat,size,0)
theorem lenS_nn (ps:List ByteArray):0 ≤ (lenS ps).1:=by
 cases ps with
 | nil=>decide
 | cons p r =>
  rw [lenS]
  split
  ·exact num_nn p
  ·decide
theorem reqLen_size (fs:List (S48)) (m:Int):0 ≤ (reqLen fs m).1∧(reqLen fs m).1 ≤ 4096:=by
 have h0:0 ≤ (lenS (listS lenNm fs)).1:=lenS_nn _
 unfold reqLen
 repeat' split
 all_goals first|exact ⟨by decide,by decide⟩|(constructor <;> simp only [] <;> omega)
/-- The field that a line tells. -/
def fieldX (l:List UInt8):S48:=⟨mkS (l.takeWhile (· != 58)),mkS (trm ((l.dropWhile (· != 58)).drop 1))⟩
theorem field_ok (l:List UInt8) (hn:l.length ≤ 140737488355328) (hr:fieldOk l=true):field_Parse.f (mkS l)=some ((fieldX l).f0,(fieldX l).f1,0):=by
 unfold field_Parse.f
 rcases split_first 58 l with h|⟨a,b,rfl,h⟩
 ·rw [fieldOk_no l h] at hr;cases hr
 ·rw [fieldOk_yes a b h] at hr
  obtain ⟨e1,e2⟩:=take_first 58 a b h
  unfold fieldX
  rw [e1,e2,Cut_yes 58 a b h hn,Option.bind_some]
  simp only
  rw [Trim_mk _ (by rw [mkS_size];rw [List.length_append,List.length_cons] at hn;omega),Option.bind_some,if_pos trivial,field_right_f,Option.bind_some,mkS_data,hr]
  rfl
theorem field_no (l:List UInt8) (hn:l.length ≤ 140737488355328) (hr:fieldOk l=false) : ∃ x y,field_Parse.f (mkS l)=some (x,y,20):=by
 obtain ⟨x,y,h⟩:=field_f l hn
 rw [hr] at h
 exact ⟨x,y,h⟩
/-- The lines behind the first one;how many bytes the head has;a status. -/
def tailS (l:List Int) (e:Int):Nat → Nat → List ByteArray × Int × Int
 | 0,_=>([],0,0)
 | d + 1,p=>if (cutSpec (l.drop p) 2048).2.2=20 then ([],0,400)
  else if (cutSpec (l.drop p) 2048).2.1=0 then ([],0,e)
  else if (cutSpec (l.drop p) 2048).1.toList=[] then ([],(p:Int) + (cutSpec (l.drop p) 2048).2.1,0)
  else ((cutSpec (l.drop p) 2048).1 :: (tailS l e d (p + (cutSpec (l.drop p) 2048).2.1.toNat)).1,(tailS l e d (p + (cutSpec (l.drop p) 2048).2.1.toNat)).2)
/-- The lines of a head,without the empty one;how many bytes it has;a status. -/
def linesS (l:List Int) (e:Int):List ByteArray × Int × Int :=
 if (cutSpec l 2048).2.2=20 then ([],0,400)
 else if (cutSpec l 2048).2.1=0 then ([],0,e)
 else ((cutSpec l 2048).1 :: (tailS l e (l.length + 1) (cutSpec l 2048).2.1.toNat).1,(tailS l e (l.length + 1) (cutSpec l 2048).2.1.toNat).2)
/-- The fields that lines tell,n fields before them;a status. -/
def fieldsS:List ByteArray → Nat → List (S48) × Int
 | [],_=>([],0)
 | s :: ss,n=>if fieldOk s.data.toList=true then (if n=40 then ([],431) else if (fieldsS ss (n + 1)).2=0 then (fieldX s.data.toList :: (fieldsS ss (n + 1)).1,0) else ([],(fieldsS ss (n + 1)).2)) else ([],400)
def bdS (l:List Int):List Int:=l.take 2048
def extS (l:List Int):Int:=if 2048 ≤ (l.length:Int) then 431 else 0
theorem bdS_length (l:List Int):(bdS l).length ≤ 2048∧(bdS l).length ≤ l.length:=by unfold bdS;rw [List.length_take];omega
theorem mn_take (l:List Int):l.take (mn (l.length:Int) 2048).toNat=bdS l:=by
 unfold bdS mn
 split
 ·rfl
 ·rw [Int.toNat_natCast,List.take_of_length_le (Nat.le_refl _),List.take_of_length_le (by omega)]
theorem rightB_size {a t:ByteArray} (h:rightB a t=true):a.size ≤ 100∧t.size ≤ 1000:=by
 unfold rightB at h
 simp only [Bool.and_eq_true,decide_eq_true_eq] at h
 exact ⟨h.1,h.2.2.1⟩
theorem fieldX_right {l:List UInt8} (h:fieldOk l=true):rightB (fieldX l).f0 (fieldX l).f1=true:=by
 unfold fieldOk at h
 split at h
 ·exact h
 ·cases h
theorem fieldsS_FB (ss:List ByteArray) : ∀ n,n ≤ 40 → (fieldsS ss n).1.length + n ≤ 40 ∧ ∀ f ∈ (fieldsS ss n).1,rightB f.f0 f.f1=true:=by
 induction ss with
 | nil=>intro n hn;exact ⟨by simpa [fieldsS] using hn,fun f hf=>by cases hf⟩
 | cons s ss ih =>
  intro n hn
  rw [fieldsS]
  split
  ·rename_i h1
   split
   ·exact ⟨by simpa using hn,fun f hf=>by cases hf⟩
   ·rename_i h2
    have:=ih (n + 1) (by omega)
    split
    ·refine ⟨by simp only [List.length_cons];omega,fun f hf=>?_⟩
     rcases List.mem_cons.1 hf with rfl|hf
     ·exact fieldX_right h1
     ·exact this.2 f hf
    ·exact ⟨by simpa using hn,fun f hf=>by cases hf⟩
  ·exact ⟨by simpa using hn,fun f hf=>by cases hf⟩
theorem fields_FB (ss:List ByteArray):FB (fieldsS ss 0).1:=by
 have:=fieldsS_FB ss 0 (by omega)
 refine ⟨by omega,fun f hf=>?_⟩
 have:=rightB_size (this.2 f hf)
 omega
theorem tail_le (l:List Int) (e:Int) : ∀ (d p:Nat),p ≤ l.length → (tailS l e d p).2.1 ≤ (l.length:Int)∧0 ≤ (tailS l e d p).2.1∧((tailS l e d p).2.1 ≠ 0 → (tailS l e d p).2.2=0):=by
 intro d
 induction d with
 | zero=>intro p hp;exact ⟨by simp [tailS],by simp [tailS],fun _=>rfl⟩
 | succ d ih =>
  intro p hp
  have hsh:=cutS_shape (l.drop p) 2048
  have hdl:(l.drop p).length=l.length - p:=List.length_drop ..
  rw [tailS]
  split
  ·exact ⟨by simp,by simp,fun h=>absurd rfl h⟩
  ·split
   ·exact ⟨by simp,by simp,fun h=>absurd rfl h⟩
   ·rename_i h2
    have hz:(cutSpec (l.drop p) 2048).2.1 > 0∧(cutSpec (l.drop p) 2048).2.1 ≤ (l.length:Int) - p:=by rcases hsh with h|h <;> omega
    split
    ·exact ⟨by show (p:Int) + _ ≤ _;omega,by show 0 ≤ (p:Int) + _;omega,fun _=>rfl⟩
    ·exact ih _ (by omega)
theorem lines_le (l:List Int) (e:Int):(linesS l e).2.1 ≤ (l.length:Int)∧0 ≤ (linesS l e).2.1∧((linesS l e).2.1 ≠ 0 → (linesS l e).2.2=0)∧((linesS l e).1=[] → (linesS l e).2.1=0):=by
 have hsh:=cutS_shape l 2048
 unfold linesS
 split
 ·exact ⟨by simp,by simp,fun h=>absurd rfl h,fun _=>rfl⟩
 ·split
  ·exact ⟨by simp,by simp,fun h=>absurd rfl h,fun _=>rfl⟩
  ·rename_i h2
   have hz:(cutSpec l 2048).2.1 > 0∧(cutSpec l 2048).2.1 ≤ (l.length:Int):=by rcases hsh with h|h <;> omega
   have:=tail_le l e (l.length + 1) (cutSpec l 2048).2.1.toNat (by omega)
   exact ⟨this.1,this.2.1,this.2.2,fun h=>by cases h⟩
/-- A line's text has no 10,no 13: it is no longer than what it was cut from. -/
theorem cut_len (l:List Int) (h:l.length ≤ 2048):(cutSpec l 2048).1.size ≤ 2048:=by
 rcases cutS_shape l 2048 with h1|h1
 ·omega
 ·rw [h1.2];decide
theorem trail_le (l:List Int) : ∀ (d p:Nat),p ≤ l.length → (trailS l d p).1 ≤ (l.length:Int):=by
 intro d
 induction d with
 | zero=>intro p _;exact Int.natCast_nonneg _
 | succ d ih =>
  intro p hp
  have hsh:=cutS_shape (l.drop p) 256
  have hdl:(l.drop p).length=l.length - p:=List.length_drop ..
  rw [trailS]
  obtain ⟨c,hc⟩ : ∃ c,c=cutSpec (l.drop p) 256:=⟨_,rfl⟩
  rw [← hc] at hsh ⊢
  by_cases h1:c.2.2=0
  ·rw [if_pos h1]
   by_cases h2:c.2.1=0
   ·rw [if_pos h2];exact Int.natCast_nonneg _
   ·have hz2:c.2.1 > 0∧c.2.1 ≤ (l.length:Int) - p:=by rcases hsh with h|h <;> omega
    rw [if_neg h2]
    by_cases h3:c.1.toList=[]
    ·rw [if_pos h3];show (p:Int) + c.2.1 ≤ _;omega
    ·rw [if_neg h3]
     by_cases h4:fieldOk c.1.data.toList=true
     ·rw [if_pos h4];exact ih _ (by omega)
     ·rw [if_neg h4];exact Int.natCast_nonneg _
  ·rw [if_neg h1];exact Int.natCast_nonneg _
theorem dec_le (l:List Int) (hl:l.length ≤ 1000000) : ∀ (d p:Nat) (left:Int) (out:List Int),p ≤ l.length → (decS l d p left out).2.1 ≤ (l.length:Int):=by
 intro d
 induction d with
 | zero=>intro p left out _;exact Int.natCast_nonneg _
 | succ d ih =>
  intro p left out hp
  have hsh:=cutS_shape (l.drop p) 256
  have hdl:(l.drop p).length=l.length - p:=List.length_drop ..
  have hz0:(0:Int) ≤ (l.length:Int):=Int.natCast_nonneg _
  rw [decS]
  obtain ⟨c,hc⟩ : ∃ c,c=cutSpec (l.drop p) 256:=⟨_,rfl⟩
  rw [← hc] at hsh ⊢
  have hzb:=size_bound c.1.data.toList
  obtain ⟨z,hz⟩ : ∃ z,z=sizeS c.1.data.toList:=⟨_,rfl⟩
  obtain ⟨q,hq⟩ : ∃ q,q=p + c.2.1.toNat:=⟨_,rfl⟩
  rw [← hz] at hzb
  rw [← hz,← hq]
  by_cases h1:c.2.2=0
  ·rw [if_pos h1]
   by_cases h2:c.2.1=0
   ·rw [if_pos h2];exact hz0
   ·have hz2:c.2.1 > 0∧c.2.1 ≤ (l.length:Int) - p:=by rcases hsh with h|h <;> omega
    have hqd:(l.drop q).length=l.length - q:=List.length_drop ..
    rw [if_neg h2]
    by_cases h3:z.2=true
    ·rw [if_pos h3]
     by_cases h4:z.1=0
     ·rw [if_pos h4]
      by_cases h5:(trailS l 41 q).2=0
      ·rw [if_pos h5]
       by_cases h6:(trailS l 41 q).1=0
       ·rw [if_pos h6];exact hz0
       ·rw [if_neg h6];exact trail_le l 41 q (by omega)
      ·rw [if_neg h5];exact hz0
     ·rw [if_neg h4]
      by_cases h5:z.1 > left
      ·rw [if_pos h5];exact hz0
      ·rw [if_neg h5]
       by_cases h6:(dataOf (l.drop q) (q:Int) z.1 false).2.1=0
       ·rw [if_pos h6]
        by_cases h7:(dataOf (l.drop q) (q:Int) z.1 false).2.2.2=true
        ·rw [if_pos h7];exact hz0
        ·rw [if_neg h7]
         obtain ⟨_,_,e3,_,_⟩:=data_ok (l.drop q) q z.1 (by omega) (by omega) hzb.1 (by omega) h6 h7
         exact ih _ _ _ (by omega)
       ·rw [if_neg h6];exact hz0
    ·rw [if_neg h3];exact hz0
  ·rw [if_neg h1];exact hz0
theorem decS_size (l:List Int) (hb:l.length ≤ 1000000) : ∀ (d p:Nat) (left:Int) (out:List Int),p ≤ l.length → out.length ≤ l.length → l.length < p + d → out.length ≤ p → (decS l d p left out).1.length ≤ l.length:=by
 intro d
 induction d with
 | zero=>intro p left out h1 h2 h3;omega
 | succ d ih =>
  intro p left out hp ho hd hop
  have hsh:=cutS_shape (l.drop p) 256
  have hdl:(l.drop p).length=l.length - p:=List.length_drop ..
  rw [decS]
  obtain ⟨c,hc⟩ : ∃ c,c=cutSpec (l.drop p) 256:=⟨_,rfl⟩
  rw [← hc] at hsh ⊢
  by_cases h1:c.2.2=0
  ·rw [if_pos h1]
   by_cases h2:c.2.1=0
   ·rw [if_pos h2];simp
   ·have hz2:c.2.1 > 0∧c.2.1 ≤ (l.length:Int) - p:=by rcases hsh with h|h <;> omega
    have hzb:=size_bound c.1.data.toList
    have hdq:(l.drop (p + c.2.1.toNat)).length=l.length - (p + c.2.1.toNat):=List.length_drop ..
    rw [if_neg h2]
    split
    ·split
     ·split
      ·split
       ·simp
       ·exact ho
      ·simp
     ·split
      ·simp
      ·split
       ·split
        ·simp
        ·rename_i h6 h7
         obtain ⟨_,_,e3,_,_⟩:=data_ok (l.drop (p + c.2.1.toNat)) ((p + c.2.1.toNat:Nat):Int) (sizeS c.1.data.toList).1 (by omega) (by omega) hzb.1 (by omega) h6 h7
         have htk:((l.drop (p + c.2.1.toNat)).take (sizeS c.1.data.toList).1.toNat).length ≤ (sizeS c.1.data.toList).1.toNat:=List.length_take_le ..
         exact ih _ _ _ (by omega) (by rw [List.length_append];omega) (by omega) (by rw [List.length_append];omega)
       ·simp
    ·simp
  ·rw [if_neg h1];simp
theorem trail_pos (l:List Int) : ∀ (d p:Nat),0 ≤ (trailS l d p).1:=by
 intro d
 induction d with
 | zero=>intro p;exact Int.le_refl _
 | succ d ih =>
  intro p
  have hsh:=cutS_shape (l.drop p) 256
  rw [trailS]
  repeat' split
  ·exact Int.le_refl _
  ·show 0 ≤ (p:Int) + _
   rcases hsh with h|h <;> omega
  ·exact ih _
  ·exact Int.le_refl _
  ·exact Int.le_refl _
theorem dec_none' (l:List Int) : ∀ (d p:Nat) (left:Int) (out:List Int),¬ (decS l d p left out).2.1 > 0 → (decS l d p left out).2.2=0 → (decS l d p left out).1=[]∧(decS l d p left out).2.1=0:=by
 intro d
 induction d with
 | zero=>intro p left out _ _;exact ⟨rfl,rfl⟩
 | succ d ih =>
  intro p left out g1 g2
  rw [decS] at g1 g2 ⊢
  obtain ⟨c,hc⟩ : ∃ c,c=cutSpec (l.drop p) 256:=⟨_,rfl⟩
  rw [← hc] at g1 g2 ⊢
  obtain ⟨z,hz⟩ : ∃ z,z=sizeS c.1.data.toList:=⟨_,rfl⟩
  obtain ⟨q,hq⟩ : ∃ q,q=p + c.2.1.toNat:=⟨_,rfl⟩
  rw [← hz,← hq] at g1 g2 ⊢
  by_cases h1:c.2.2=0
  ·rw [if_pos h1] at g1 g2 ⊢
   by_cases h2:c.2.1=0
   ·rw [if_pos h2];exact ⟨rfl,rfl⟩
   ·rw [if_neg h2] at g1 g2 ⊢
    by_cases h3:z.2=true
    ·rw [if_pos h3] at g1 g2 ⊢
     by_cases h4:z.1=0
     ·rw [if_pos h4] at g1 g2 ⊢
      by_cases h5:(trailS l 41 q).2=0
      ·rw [if_pos h5] at g1 g2 ⊢
       by_cases h6:(trailS l 41 q).1=0
       ·rw [if_pos h6];exact ⟨rfl,rfl⟩
       ·rw [if_neg h6] at g1
        have:=trail_pos l 41 q
        exact absurd (show (trailS l 41 q).1 > 0 by omega) g1
      ·rw [if_neg h5];exact ⟨rfl,rfl⟩
     ·rw [if_neg h4] at g1 g2 ⊢
      by_cases h5:z.1 > left
      ·rw [if_pos h5];exact ⟨rfl,rfl⟩
      ·rw [if_neg h5] at g1 g2 ⊢
       by_cases h6:(dataOf (l.drop q) (q:Int) z.1 false).2.1=0
       ·rw [if_pos h6] at g1 g2 ⊢
        by_cases h7:(dataOf (l.drop q) (q:Int) z.1 false).2.2.2=true
        ·rw [if_pos h7];exact ⟨rfl,rfl⟩
        ·rw [if_neg h7] at g1 g2 ⊢
         exact ih _ _ _ g1 g2
       ·rw [if_neg h6];exact ⟨rfl,rfl⟩
    ·rw [if_neg h3];exact ⟨rfl,rfl⟩
  ·rw [if_neg h1];exact ⟨rfl,rfl⟩
theorem body_le (b:List Int) (hb:b.length ≤ 1000000) (size:Int) (hs:0 ≤ size) (coded:Bool):(bodyS b size coded).2.1 ≤ (b.length:Int)∧(-1 ≤ (bodyS b size coded).2.1)∧(bodyS b size coded).1.length ≤ b.length∧(0 ≤ (bodyS b size coded).2.1 → (bodyS b size coded).2.2=0):=by
 unfold bodyS
 cases coded
 ·rw [if_neg (show ¬ (false=true) by simp)]
  by_cases h:(b.length:Int) < size
  ·rw [if_pos h];exact ⟨by simp only [];omega,by decide,by simp,fun _=>rfl⟩
  ·rw [if_neg h];exact ⟨by simp only [];omega,by simp only [];omega,by simp only [List.length_take];omega,fun _=>rfl⟩
 ·rw [if_pos rfl]
  have hle:=dec_le b hb (b.length + 1) 0 4096 [] (by omega)
  have hsz:=decS_size b hb (b.length + 1) 0 4096 [] (by omega) (by simp) (by omega) (by simp)
  have hz:=dec_none' b (b.length + 1) 0 4096 []
  obtain ⟨r,hr⟩ : ∃ r,r=decS b (b.length + 1) 0 4096 []:=⟨_,rfl⟩
  rw [← hr] at hle hsz hz ⊢
  by_cases h1:r.2.2=2
  ·rw [if_pos h1];exact ⟨by simp only [];omega,by decide,by simp,fun h=>absurd h (by decide)⟩
  ·rw [if_neg h1]
   by_cases h2:r.2.2=0
   ·rw [if_pos h2]
    by_cases h3:r.2.1=0
    ·rw [if_pos h3];exact ⟨by simp only [];omega,by decide,by simp,fun _=>rfl⟩
    ·rw [if_neg h3]
     have:r.2.1 > 0:=by
      by_cases h4:r.2.1 > 0
      ·exact h4
      ·exact absurd (hz h4 h2).2 h3
     exact ⟨hle,by simp only [];omega,hsz,fun _=>rfl⟩
   ·rw [if_neg h2];exact ⟨by simp only [];omega,by decide,by simp,fun h=>absurd h (by decide)⟩
theorem body_f (b:List Int) (hb:b.length ≤ 1000000) (size:Int) (hs:0 ≤ size) (coded:Bool) (k:Nat) (hk:4000100 ≤ k):http_body.f k b size coded=some (bodyS b size coded):=by
 unfold http_body.f bodyS
 cases coded
 ·rw [if_neg (show ¬ (false=true) by simp),if_neg (show ¬ (false=true) by simp)]
  by_cases h:(b.length:Int) < size
  ·rw [if_pos h,if_pos h]
  ·unfold bytes_Clone.f
   rw [if_neg h,if_neg h,if_pos hs,if_pos (by omega),if_pos (by rw [List.length_take];omega),Option.bind_some]
 ·rw [if_pos rfl,if_pos rfl,Decode_f b 4096 hb (by decide) k (by omega),Option.bind_some,show mx 4096 0=4096 by decide]
  obtain ⟨r,hr⟩ : ∃ r,r=decS b (b.length + 1) 0 4096 []:=⟨_,rfl⟩
  rw [← hr]
  by_cases h1:r.2.2=2
  ·rw [if_pos h1,if_pos h1]
  ·rw [if_neg h1,if_neg h1]
   by_cases h2:r.2.2=0
   ·rw [if_pos h2,if_pos h2]
    by_cases h3:r.2.1=0
    ·rw [if_pos h3,if_pos h3]
    ·rw [if_neg h3,if_neg h3]
   ·rw [if_neg h2,if_neg h2]
def headEnd (t:List ByteArray × Int × Int) (g:List (S48) × Int) (fs:List (S48)) (st:Option ByteArray):List (S48) × Int × Int × Option ByteArray :=
 if g.2=0 then (if t.2.1=0 then ([],0,t.2.2,st) else (fs ++ g.1,t.2.1,0,st)) else ([],0,g.2,st)
theorem head_l (fst:Nat → ByteArray → Option Int) (l:List Int) (hl:l.length ≤ 4398046511104) (st:Option ByteArray) : ∀ (d p k:Nat) (fs:List (S48)),0 < p → p ≤ (bdS l).length → (bdS l).length < p + d → fs.length ≤ 40 → d + 6200 ≤ k →
 http_head.l fst k l fs (p:Int) st=some (headEnd (tailS (bdS l) (extS l) d p) (fieldsS (tailS (bdS l) (extS l) d p).1 fs.length) fs st):=by
 intro d
 induction d with
 | zero=>intro p k fs _ h1 h2;omega
 | succ d ih =>
  intro p k fs h0 hp hd hf hk
  obtain ⟨k,rfl⟩ : ∃ m,k=m + 1:=⟨k - 1,by omega⟩
  have hb:=bdS_length l
  have hsh:=cutS_shape ((bdS l).drop p) 2048
  have hdl:((bdS l).drop p).length=(bdS l).length - p:=List.length_drop ..
  have hcl:=cut_len ((bdS l).drop p) (by omega)
  rw [http_head.l,mn_take,if_pos (by omega),if_pos (by omega),Int.toNat_natCast,cut_f _ 2048 (by omega) k (by omega),Option.bind_some,tailS]
  obtain ⟨c,hc⟩ : ∃ c,c=cutSpec ((bdS l).drop p) 2048:=⟨_,rfl⟩
  rw [← hc] at hsh hcl ⊢
  by_cases h1:c.2.2=20
  ·rw [if_pos h1,if_pos h1];rfl
  ·rw [if_neg h1,if_neg h1]
   by_cases h2:c.2.1=0
   ·rw [if_pos h2,if_pos h2]
    unfold extS
    split <;> rfl
   ·have hz:c.2.1 > 0∧c.2.1 ≤ ((bdS l).length:Int) - p:=by rcases hsh with h|h <;> omega
    have hw:wrap64 ((p:Int) + c.2.1)=((p + c.2.1.toNat:Nat):Int):=by unfold wrap64;omega
    have hw2:(p:Int) + c.2.1=((p + c.2.1.toNat:Nat):Int):=by omega
    rw [if_neg h2,if_neg h2,if_neg (show ¬ (p:Int)=0 by omega),hw,hw2]
    by_cases h3:c.1.toList=[]
    ·rw [if_pos h3,if_pos h3]
     unfold headEnd
     rw [fieldsS,if_pos rfl,if_neg (show ¬ ((p + c.2.1.toNat:Nat):Int)=0 by omega),List.append_nil]
    ·rw [if_neg h3,if_neg h3]
     have hcn:c.1.data.toList.length ≤ 2048:=by rw [data_length];exact hcl
     simp only [fieldsS]
     cases hfo:fieldOk c.1.data.toList
     ·obtain ⟨x,y,hxy⟩:=field_no c.1.data.toList (by omega) hfo
      rw [mkS_self] at hxy
      rw [hxy,Option.bind_some,if_neg (show ¬ ((20:Int)=0) by decide),if_neg (by simp)]
      rfl
     ·have hxy:=field_ok c.1.data.toList (by omega) hfo
      rw [mkS_self] at hxy
      rw [hxy,Option.bind_some,if_pos rfl,if_pos rfl]
      by_cases h4:fs.length=40
      ·rw [if_pos (show (fs.length:Int)=40 by omega),if_pos h4];rfl
      ·rw [if_neg (show ¬ (fs.length:Int)=40 by omega),if_neg h4,if_pos (by omega)]
       have hlen:(fs ++ [fieldX c.1.data.toList]).length=fs.length + 1:=by simp
       have:=ih (p + c.2.1.toNat) k (fs ++ [fieldX c.1.data.toList]) (by omega) (by omega) (by omega) (by omega) (by omega)
       rw [hlen] at this
       refine this.trans ?_
       obtain ⟨t,ht⟩ : ∃ t,t=tailS (bdS l) (extS l) d (p + c.2.1.toNat):=⟨_,rfl⟩
       rw [← ht]
       obtain ⟨g,hg⟩ : ∃ g,g=fieldsS t.1 (fs.length + 1):=⟨_,rfl⟩
       rw [← hg]
       unfold headEnd
       by_cases h5:g.2=0
       ·rw [if_pos h5,if_pos h5,if_pos rfl]
        by_cases h6:t.2.1=0
        ·rw [if_pos h6,if_pos h6]
        ·rw [if_neg h6,if_neg h6,List.append_assoc];rfl
       ·rw [if_neg h5,if_neg h5,if_neg h5]
theorem head_nil (fst:Nat → ByteArray → Option Int) (l:List Int) (k:Nat) (hk:8300 ≤ k) (h:(linesS (bdS l) (extS l)).1=[]):http_head.f fst (k + 1) l=some ([],0,(linesS (bdS l) (extS l)).2.2,none):=by
 have hb:=bdS_length l
 unfold linesS at h ⊢
 rw [http_head.f,http_head.l,mn_take,if_pos (by omega),if_pos (by omega),show (0:Int).toNat=0 from rfl,List.drop_zero,cut_f _ 2048 (by omega) k (by omega),Option.bind_some]
 obtain ⟨c,hc⟩ : ∃ c,c=cutSpec (bdS l) 2048:=⟨_,rfl⟩
 rw [← hc] at h ⊢
 by_cases h1:c.2.2=20
 ·rw [if_pos h1,if_pos h1]
 ·rw [if_neg h1] at h ⊢
  rw [if_neg h1]
  by_cases h2:c.2.1=0
  ·rw [if_pos h2,if_pos h2]
   unfold extS
   split <;> rfl
  ·rw [if_neg h2] at h;cases h
theorem head_cons (fst:Nat → ByteArray → Option Int) (l:List Int) (hl:l.length ≤ 4398046511104) (k:Nat) (hk:8300 ≤ k) (s:ByteArray) (ss:List ByteArray) (h:(linesS (bdS l) (extS l)).1=s :: ss) :
 http_head.f fst (k + 1) l=(fst k s).bind fun code=>if code=0 then some (headEnd (ss,(linesS (bdS l) (extS l)).2) (fieldsS ss 0) [] (some s)) else some ([],0,code,some s):=by
 have hb:=bdS_length l
 have hsh:=cutS_shape (bdS l) 2048
 unfold linesS at h ⊢
 rw [http_head.f,http_head.l,mn_take,if_pos (by omega),if_pos (by omega),show (0:Int).toNat=0 from rfl,List.drop_zero,cut_f _ 2048 (by omega) k (by omega),Option.bind_some]
 obtain ⟨c,hc⟩ : ∃ c,c=cutSpec (bdS l) 2048:=⟨_,rfl⟩
 rw [← hc] at h hsh ⊢
 by_cases h1:c.2.2=20
 ·rw [if_pos h1] at h;cases h
 ·rw [if_neg h1] at h ⊢
  rw [if_neg h1]
  by_cases h2:c.2.1=0
  ·rw [if_pos h2] at h;cases h
  ·have hz:c.2.1 > 0∧c.2.1 ≤ ((bdS l).length:Int):=by rcases hsh with h|h <;> omega
   have hw:wrap64 ((0:Int) + c.2.1)=((c.2.1.toNat:Nat):Int):=by unfold wrap64;omega
   rw [if_neg h2] at h ⊢
   rw [if_neg h2,if_pos rfl,hw,head_l fst l hl (some c.1) ((bdS l).length + 1) c.2.1.toNat k [] (by omega) (by omega) (by omega) (by simp) (by omega)]
   simp only [List.cons.injEq] at h
   rw [← h.1,← h.2]
   rfl
theorem tail_sizes (l:List Int) (e:Int) (hl:l.length ≤ 2048) : ∀ (d p:Nat),∀ s ∈ (tailS l e d p).1,s.size ≤ 2048:=by
 intro d
 induction d with
 | zero=>intro p s hs;cases hs
 | succ d ih =>
  intro p s hs
  have hdl:(l.drop p).length=l.length - p:=List.length_drop ..
  have hc:=cut_len (l.drop p) (by omega)
  rw [tailS] at hs
  split at hs
  ·cases hs
  ·split at hs
   ·cases hs
   ·split at hs
    ·cases hs
    ·rcases List.mem_cons.1 hs with rfl|hs
     ·exact hc
     ·exact ih _ s hs
theorem lines_sizes (l:List Int) (e:Int) (hl:l.length ≤ 2048) : ∀ s ∈ (linesS l e).1,s.size ≤ 2048:=by
 intro s hs
 have hc:=cut_len l hl
 unfold linesS at hs
 split at hs
 ·cases hs
 ·split at hs
  ·cases hs
  ·rcases List.mem_cons.1 hs with rfl|hs
   ·exact hc
   ·exact tail_sizes l e hl _ _ s hs
theorem CutPrefix_f (s p:List UInt8):strings_CutPrefix.f (mkS s) (mkS p)=some (if s.take p.length=p then (mkS (s.drop p.length),true) else (mkS s,false)):=by
 unfold strings_CutPrefix.f stringslite_CutPrefix.f stringslite_HasPrefix.f
 rw [mkS_size,mkS_size]
 by_cases h:p.length ≤ s.length
 ·rw [if_pos (by omega),if_pos (by omega),if_pos (by omega),Option.bind_some,Int.toNat_natCast,mkS_extract,mkS_extract,mkS_toList,mkS_toList,List.drop_zero,Nat.sub_zero]
  by_cases e:s.take p.length=p
  ·rw [if_pos e,e,if_pos (by simp),if_pos (by omega),if_pos (by omega),Option.bind_some,List.take_of_length_le (by rw [List.length_drop];omega)]
  ·rw [if_neg e,if_neg (by simpa using e),Option.bind_some]
 ·rw [if_neg (by omega),Option.bind_some,if_neg (by decide),Option.bind_some,if_neg ?_]
  intro e
  have:=congrArg List.length e
  rw [List.length_take] at this
  omega
theorem CutPrefix_yes (s p:List UInt8) (h:s.take p.length=p):strings_CutPrefix.f (mkS s) (mkS p)=some (mkS (s.drop p.length),true):=by rw [CutPrefix_f,if_pos h]
theorem CutPrefix_no (s p:List UInt8) (h : ¬ s.take p.length=p):strings_CutPrefix.f (mkS s) (mkS p)=some (mkS s,false):=by rw [CutPrefix_f,if_neg h]
theorem byteAll {P:UInt8 → Prop} (h : ∀ n:Fin 256,P (UInt8.ofNat n.val)) (b:UInt8):P b:=by
 have:=h ⟨b.toNat,b.toNat_lt⟩
 rwa [show UInt8.ofNat (⟨b.toNat,b.toNat_lt⟩:Fin 256).val=b from UInt8.ofNat_toNat] at this
def digU (b:UInt8):Bool:=([48,49,50,51,52,53,54,55,56,57]:List UInt8).contains b
/-- The last digit of a version that is known. -/
def minL (l:List UInt8):Option Int:=if l=[72,84,84,80,47,49,46,48] then some 0 else if l=[72,84,84,80,47,49,46,49] then some 1 else none
theorem minor_f (l:List UInt8):line_minor.f (mkS l)=some (match minL l with|some n=>(n,true)|none=>(0,false)):=by
 unfold line_minor.f minL
 rw [mkS_toList]
 by_cases h1:l=[72,84,84,80,47,49,46,48]
 ·rw [if_pos h1,if_pos h1]
 ·rw [if_neg h1,if_neg h1]
  by_cases h2:l=[72,84,84,80,47,49,46,49]
  ·rw [if_pos h2,if_pos h2]
  ·rw [if_neg h2,if_neg h2]
def statBad:Int × ByteArray × Int × (List (S48)) × List Int × Bool:=(0,(⟨#[]⟩:ByteArray),0,[],[],false)
def dig3 (a b c:UInt8):Bool:=digU a && (digU b && digU c)
def code3 (a b c:UInt8):Int:=100 * ((a.toNat:Int) - 48) + 10 * ((b.toNat:Int) - 48) + ((c.toNat:Int) - 48)
/-- What stands behind a status line's code. -/
def statEnd (n code:Int) (tl:List UInt8):Int × ByteArray × Int × (List (S48)) × List Int × Bool :=
 if code < 100 ∨ 599 < code then statBad else
 match tl with
 | []=>(code,mkS [],n,[],[],true)
 | x :: r=>if x=32∧(bytesOf (mkS r)).all valB=true∧r.length ≤ 100 then (code,mkS r,n,[],[],true) else statBad
/-- What a status line tells. -/
def statSpec (l:List UInt8):Int × ByteArray × Int × (List (S48)) × List Int × Bool :=
 match minL (l.take 8),l.drop 8 with
 | some n,x :: a :: b :: c :: tl=>if x=32 then (if dig3 a b c=true then statEnd n (code3 a b c) tl else statBad) else statBad
 | _,_=>statBad
theorem statSpec_yes {l:List UInt8} {n:Int} {a b c:UInt8} {tl:List UInt8} (h1:minL (l.take 8)=some n) (h2:l.drop 8=32 :: a :: b :: c :: tl):statSpec l=if dig3 a b c=true then statEnd n (code3 a b c) tl else statBad:=by
 unfold statSpec
 rw [h1,h2]
 exact if_pos rfl
theorem statEnd_out {n code:Int} {tl:List UInt8} (h:code < 100 ∨ 599 < code):statEnd n code tl=statBad:=by unfold statEnd;rw [if_pos h]
theorem statEnd_nil0 {n code:Int} (h : ¬ (code < 100 ∨ 599 < code)):statEnd n code []=(code,mkS [],n,[],[],true):=by unfold statEnd;rw [if_neg h]
theorem statEnd_cons {n code:Int} {x:UInt8} {r:List UInt8} (h : ¬ (code < 100 ∨ 599 < code)):statEnd n code (x :: r)=if x=32∧(bytesOf (mkS r)).all valB=true∧r.length ≤ 100 then (code,mkS r,n,[],[],true) else statBad:=by unfold statEnd;rw [if_neg h]
theorem statSpec_min {l:List UInt8} (h1:minL (l.take 8)=none):statSpec l=statBad:=by
 unfold statSpec
 rw [h1]
theorem statSpec_no {l:List UInt8} (h : ∀ a b c tl,l.drop 8 ≠ 32 :: a :: b :: c :: tl):statSpec l=statBad:=by
 unfold statSpec
 split
 ·rename_i h2
  split
  ·rename_i hx;subst hx;exact absurd h2 (h _ _ _ _)
  ·rfl
 ·rfl
theorem minL_some {l:List UInt8} {n:Int} (h:minL l=some n):l.length=8∧32 ∉ l∧((n=0∧l=[72,84,84,80,47,49,46,48]) ∨ (n=1∧l=[72,84,84,80,47,49,46,49])):=by
 unfold minL at h
 split at h
 ·rename_i e;subst e;exact ⟨rfl,by decide,.inl ⟨(Option.some.inj h).symm,rfl⟩⟩
 ·split at h
  ·rename_i e;subst e;exact ⟨rfl,by decide,.inr ⟨(Option.some.inj h).symm,rfl⟩⟩
  ·cases h
theorem digV_dig (a:UInt8):(digU a=true → digV (a.toNat:Int)=(a.toNat:Int) - 48)∧(0 ≤ digV (a.toNat:Int)∧digV (a.toNat:Int) < 10 ↔ digU a=true) :=
 byteAll (P:=fun a=>(digU a=true → digV (a.toNat:Int)=(a.toNat:Int) - 48)∧(0 ≤ digV (a.toNat:Int)∧digV (a.toNat:Int) < 10 ↔ digU a=true)) (by decide +kernel) a
theorem num3 (a b c:UInt8):numSpec (mkS [a,b,c]) 10 18=if dig3 a b c=true then (code3 a b c,true) else (0,false):=by
 obtain ⟨a1,a2⟩:=digV_dig a
 obtain ⟨b1,b2⟩:=digV_dig b
 obtain ⟨c1,c2⟩:=digV_dig c
 unfold numSpec dig3
 rw [mkS_size,if_neg (by simp),mkS_bytes]
 simp only [List.map_cons,List.map_nil,numL]
 cases ha:digU a
 ·rw [if_neg (fun h=>by have:=a2.1 h;rw [ha] at this;cases this)];rfl
 ·rw [if_pos (a2.2 ha)]
  cases hb:digU b
  ·rw [if_neg (fun h=>by have:=b2.1 h;rw [hb] at this;cases this)];rfl
  ·rw [if_pos (b2.2 hb)]
   cases hc:digU c
   ·rw [if_neg (fun h=>by have:=c2.1 h;rw [hc] at this;cases this)];rfl
   ·rw [if_pos (c2.2 hc),a1 ha,b1 hb,c1 hc]
    simp only [Bool.and_self,if_true]
    congr 1
    unfold code3
    omega
theorem Status_rest (k:Nat) (n:Int) (rest:List UInt8) (hn:rest.length ≤ 140737488355327) (hk:10 ≤ k) (h3:3 ≤ rest.length) :
 line_Status.j0 (k + 1) (mkS rest) n false=some (match rest with|a :: b :: c :: tl=>if dig3 a b c=true then statEnd n (code3 a b c) tl else statBad|_=>statBad):=by
 obtain ⟨a,b,c,tl,rfl⟩ : ∃ a b c tl,rest=a :: b :: c :: tl:=by
  match rest,h3 with
  | a :: b :: c :: tl,_=>exact ⟨a,b,c,tl,rfl⟩
 have hl:(a :: b :: c :: tl).length=tl.length + 3:=rfl
 have e1:(mkS (a :: b :: c :: tl)).extract 0 3=mkS [a,b,c]:=by rw [mkS_extract];rfl
 have e2:(mkS (a :: b :: c :: tl)).extract 3 (tl.length + 3)=mkS tl:=by rw [mkS_extract,List.take_of_length_le (by rw [List.length_drop,hl];omega)];rfl
 have hz:(mkS [a,b,c]).size=3:=mkS_size _
 simp only [line_Status.j0]
 rw [if_neg (by simp),mkS_size,hl,if_pos (by decide),if_pos (by omega),e1,e2,Decimal_f _ (by omega) k (by omega),Option.bind_some,num3,show (⟨#[32]⟩:ByteArray)=mkS [32] from rfl,mkS_toList]
 cases hd:dig3 a b c
 ·simp only [Bool.false_eq_true,if_false]
  obtain ⟨R,hR⟩ : ∃ R,strings_CutPrefix.f (mkS tl) (mkS [32])=some R:=⟨_,CutPrefix_f _ _⟩
  rw [hR]
  rfl
 ·simp only [if_true]
  by_cases c1:code3 a b c < 100
  ·rw [statEnd_out (Or.inl c1)]
   obtain ⟨R,hR⟩ : ∃ R,strings_CutPrefix.f (mkS tl) (mkS [32])=some R:=⟨_,CutPrefix_f _ _⟩
   rw [hR,Option.bind_some,if_pos c1]
   rfl
  ·by_cases c2:code3 a b c > 599
   ·rw [statEnd_out (Or.inr c2)]
    obtain ⟨R,hR⟩ : ∃ R,strings_CutPrefix.f (mkS tl) (mkS [32])=some R:=⟨_,CutPrefix_f _ _⟩
    rw [hR,Option.bind_some,if_neg c1,if_pos c2]
    rfl
   ·have hc : ¬ (code3 a b c < 100 ∨ 599 < code3 a b c):=by omega
    cases tl with
    | nil =>
     rw [statEnd_nil0 hc,CutPrefix_no [] [32] (by simp),Option.bind_some,if_neg c1,if_neg c2,if_neg (by simp),if_pos rfl,Value_f _ (by rw [mkS_size];simp),Option.bind_some,if_pos (by rfl),if_neg (by rw [mkS_size];simp)]
    | cons x r =>
     have hr:r.length ≤ 140737488355327:=by simp only [List.length_cons] at hn;omega
     rw [statEnd_cons hc]
     by_cases hx:x=32
     ·subst hx
      rw [CutPrefix_yes (32 :: r) [32] (by rfl),Option.bind_some,if_neg c1,if_neg c2,if_pos rfl]
      rw [show List.drop ([32]:List UInt8).length (32 :: r)=r from rfl,Value_f _ (by rw [mkS_size];omega),Option.bind_some,mkS_size]
      cases hv:(bytesOf (mkS r)).all valB
      ·rw [if_neg (by simp),if_neg (fun h=>by cases h.2.1)];rfl
      ·by_cases h100:r.length ≤ 100
       ·rw [if_pos rfl,if_neg (by omega),if_pos ⟨rfl,rfl,h100⟩]
       ·rw [if_pos rfl,if_pos (by omega),if_neg (fun h=>h100 h.2.2)]
        rfl
     ·rw [CutPrefix_no (x :: r) [32] (by simpa using hx),Option.bind_some,if_neg c1,if_neg c2,if_neg (by simp),if_neg (by simp),if_neg (fun h=>hx h.1)]
      rfl
theorem Status_f (l:List UInt8) (hn:l.length ≤ 140737488355327) (k:Nat) (hk:20 ≤ k):line_Status.f k (mkS l)=some (statSpec l):=by
 obtain ⟨k,rfl⟩ : ∃ m,k=m + 1:=⟨k - 1,by omega⟩
 have hbad : ∀ x n,line_Status.j0 (k + 1) x n true=some statBad:=by intro x n;simp only [line_Status.j0];rfl
 unfold line_Status.f
 rcases split_first 32 l with h|⟨a,b,rfl,h⟩
 ·rw [Cut_no 32 l h,Option.bind_some,minor_f,Option.bind_some,if_neg (by simp),hbad,statSpec_no]
  intro a b c tl e
  exact h (List.mem_of_mem_drop (by rw [e];simp))
 ·rw [Cut_yes 32 a b h (by omega),Option.bind_some,minor_f,Option.bind_some,if_pos rfl]
  have hlen:(a ++ 32 :: b).length=a.length + b.length + 1:=by rw [List.length_append,List.length_cons];omega
  cases hm:minL a with
  | none =>
   rw [if_neg (by simp),hbad]

   congr 1
   cases h8:minL ((a ++ 32 :: b).take 8) with
   | none=>exact (statSpec_min h8).symm
   | some n =>
    refine (statSpec_no fun x y z tl e=>?_).symm
    obtain ⟨h1,h2,_⟩:=minL_some h8
    have hsp:a ++ 32 :: b=(a ++ 32 :: b).take 8 ++ 32 :: (x :: y :: z :: tl):=by rw [← e,List.take_append_drop]
    have ha:a=(a ++ 32 :: b).take 8:=by
     have i1:=index_append 32 a b h
     have i2:=index_append 32 ((a ++ 32 :: b).take 8) (x :: y :: z :: tl) h2
     rw [← hsp,i1,h1] at i2
     have:a.length=8:=by omega
     rw [← this,List.take_left]
    rw [ha,h8] at hm
    cases hm
  | some n =>
   obtain ⟨h1,_,_⟩:=minL_some hm
   have ht:(a ++ 32 :: b).take 8=a:=by rw [← h1,List.take_left]
   have hdr:(a ++ 32 :: b).drop 8=32 :: b:=by rw [← h1,List.drop_left]
   rw [if_pos rfl,mkS_size]
   by_cases h3:(b.length:Int) < 3
   ·rw [decide_eq_true h3,hbad,statSpec_no]
    intro x y z tl e
    rw [hdr] at e
    injection e with _ e
    rw [e] at h3
    simp only [List.length_cons] at h3
    omega
   ·rw [decide_eq_false h3,Status_rest k n b (by omega) (by omega) (by omega)]
    obtain ⟨x,y,z,tl,rfl⟩ : ∃ x y z tl,b=x :: y :: z :: tl:=by
     match b,h3 with
     | [],h=>exact absurd (by simp) h
     | [_],h=>exact absurd (by simp) h
     | [_,_],h=>exact absurd (by simp) h
     | x :: y :: z :: tl,_=>exact ⟨x,y,z,tl,rfl⟩
    rw [statSpec_yes (by rw [ht];exact hm) hdr]
def respBad (b:Bool):Int × ByteArray × Int × List (S48) × List Int × Int × Bool:=(0,⟨#[]⟩,0,[],[],0,b)
def restS (b:List Int) (kind size:Int) (ended:Bool):List Int × Int × Bool :=
 if kind=3 then (if (b.length:Int) > 4096 then ([],-1,false) else if ended=true then (b,(b.length:Int),true) else ([],-1,true))
 else ((bodyS b size (kind == 2)).1,(bodyS b size (kind == 2)).2.1,(bodyS b size (kind == 2)).2.2 == 0)
def respF (l:List Int) (y:Int × Int × Bool) (ended:Bool) (q:Int × ByteArray × Int × (List (S48)) × List Int × Bool) (g:List (S48)) (n:Int):Int × ByteArray × Int × List (S48) × List Int × Int × Bool :=
 if y.2.2=true then
  (if (restS (l.drop n.toNat) y.1 y.2.1 ended).2.1 < 0 then respBad ((restS (l.drop n.toNat) y.1 y.2.1 ended).2.2 && !ended)
   else if (restS (l.drop n.toNat) y.1 y.2.1 ended).2.2=true then (q.1,q.2.1,q.2.2.1,g,(restS (l.drop n.toNat) y.1 y.2.1 ended).1,n + (restS (l.drop n.toNat) y.1 y.2.1 ended).2.1,true) else respBad false)
 else respBad false
def respL (l:List Int) (m:ByteArray) (ended:Bool):List ByteArray × Int × Int → Int × ByteArray × Int × List (S48) × List Int × Int × Bool
 | ([],_,c)=>respBad (c == 0 && !ended)
 | (s :: ss,n,c)=>if (statSpec s.data.toList).2.2.2.2.2=true then (if (fieldsS ss 0).2=0 then (if n=0 then respBad (c == 0 && !ended) else respF l (respLen m (statSpec s.data.toList).1 (statSpec s.data.toList).2.2.1 (fieldsS ss 0).1) ended (statSpec s.data.toList) (fieldsS ss 0).1 n) else respBad false) else respBad false
/-- The response with which bytes begin. -/
def respS2 (l:List Int) (m:ByteArray) (ended:Bool):Int × ByteArray × Int × List (S48) × List Int × Int × Bool:=respL l m ended (linesS (bdS l) (extS l))
theorem lines_at (l:List Int):(linesS (bdS l) (extS l)).2.1 ≤ (l.length:Int)∧0 ≤ (linesS (bdS l) (extS l)).2.1∧(linesS (bdS l) (extS l)).2.1 ≤ 2048:=by
 have hb:=bdS_length l
 have:=lines_le (bdS l) (extS l)
 omega
theorem respLen_size (m:ByteArray) (c mi:Int) (fs:List (S48)):0 ≤ (respLen m c mi fs).2.1:=by
 have:=(reqLen_size fs mi).1
 unfold respLen
 repeat' split
 all_goals first|exact Int.le_refl _|exact this
theorem statSpec_bare (l:List UInt8):(statSpec l).2.2.2.1=[]∧(statSpec l).2.2.2.2.1=[]:=by
 have hb:statBad.2.2.2.1=([]:List (S48))∧statBad.2.2.2.2.1=([]:List Int):=⟨rfl,rfl⟩
 unfold statSpec
 split
 ·split
  ·split
   ·unfold statEnd
    split
    ·exact hb
    ·split
     ·exact ⟨rfl,rfl⟩
     ·split
      ·exact ⟨rfl,rfl⟩
      ·exact hb
   ·exact hb
  ·exact hb
 ·exact hb
theorem rest_f (b:List Int) (hb:b.length ≤ 1000000) (kind size:Int) (hs:0 ≤ size) (ended:Bool) (k:Nat) (hk:4000100 ≤ k):http_rest.f k b kind size ended=some (restS b kind size ended):=by
 unfold http_rest.f restS
 by_cases h3:kind=3
 ·rw [if_pos h3,if_pos h3]
  by_cases h4:(b.length:Int) > 4096
  ·rw [if_pos h4,if_pos h4]
  ·rw [if_neg h4,if_neg h4]
   cases ended
   ·rw [if_neg (show ¬ (false=true) by simp),if_neg (show ¬ (false=true) by simp)]
   ·unfold bytes_Clone.f
    rw [if_pos rfl,if_pos rfl,if_pos (by omega),Option.bind_some]
 ·rw [if_neg h3,if_neg h3,body_f b hb size hs _ k hk,Option.bind_some]
theorem http_Response_f (l:List Int) (hl:l.length ≤ 1000000) (m:ByteArray) (ended:Bool) (k:Nat) (hk:1070000100 ≤ k):http_Response.f k l m ended=some (respS2 l m ended):=by
 obtain ⟨k,rfl⟩ : ∃ j,k=j + 1:=⟨k - 1,by omega⟩
 have hb:=bdS_length l
 have hsz:=lines_sizes (bdS l) (extS l) hb.1
 have hla:=lines_at l
 have hn1:=head_nil statusFst l k (by omega)
 have hn2:=head_cons statusFst l (by omega) k (by omega)
 unfold respS2 http_Response.f
 obtain ⟨L,hL⟩ : ∃ L,L=linesS (bdS l) (extS l):=⟨_,rfl⟩
 rw [← hL] at hsz hn1 hn2 hla ⊢
 obtain ⟨ss,n,c⟩:=L
 simp only at hla
 cases ss with
 | nil =>
  rw [hn1 rfl,Option.bind_some]
  rfl
 | cons s ss =>
  have hs:=hsz s (List.mem_cons_self ..)
  have hq : ∀ k,1000000 ≤ k → line_Status.f k s=some (statSpec s.data.toList):=fun k hk=>by
   have:=Status_f s.data.toList (by rw [data_length];omega) k (by omega)
   rw [mkS_self] at this
   exact this
  have hnil:=statSpec_bare s.data.toList
  have hr:statusFst k s=some (if (statSpec s.data.toList).2.2.2.2.2=true then 0 else 400):=by
   unfold statusFst
   rw [hq k (by omega),Option.bind_some,hnil.1,hnil.2,if_pos ⟨rfl,rfl⟩]
   split <;> rfl
  rw [hn2 s ss rfl,hr,Option.bind_some,respL]
  obtain ⟨q,hqq⟩ : ∃ q,q=statSpec s.data.toList:=⟨_,rfl⟩
  have hFB:=fields_FB ss
  rw [← hqq] at hq hnil ⊢
  obtain ⟨g,hg⟩ : ∃ g,g=fieldsS ss 0:=⟨_,rfl⟩
  rw [← hg] at hFB ⊢
  by_cases h1:q.2.2.2.2.2=true
  ·rw [if_pos h1,if_pos h1,if_pos rfl]
   unfold headEnd
   by_cases h2:g.2=0
   ·rw [if_pos h2,if_pos h2]
    simp only
    by_cases h3:n=0
    ·rw [if_pos h3,if_pos h3,Option.bind_some]
     rfl
    ·have hy:=respLen_size m q.1 q.2.2.1 g.1
     have hfr:=frameResp_f m q.1 q.2.1 q.2.2.1 g.1 [] hFB (k + 1) (by omega)
     rw [if_neg h3,if_neg h3,Option.bind_some,if_neg h3,Option.bind_some,hq _ (by omega),Option.bind_some,List.nil_append,hfr,Option.bind_some]
     obtain ⟨y,hyy⟩ : ∃ y,y=respLen m q.1 q.2.2.1 g.1:=⟨_,rfl⟩
     rw [← hyy] at hy ⊢
     unfold respF
     by_cases h4:y.2.2=true
     ·have hdl:(l.drop n.toNat).length=l.length - n.toNat:=List.length_drop ..
      rw [if_pos h4,if_pos h4,if_pos (show (0:Int) ≤ n by omega),if_pos (show n ≤ (l.length:Int) by omega),rest_f (l.drop n.toNat) (by omega) y.1 y.2.1 hy ended (k + 1) (by omega),Option.bind_some]
      have hb2:=body_le (l.drop n.toNat) (by omega) y.2.1 hy (y.1 == 2)
      have hrl:(restS (l.drop n.toNat) y.1 y.2.1 ended).2.1 ≤ ((l.drop n.toNat).length:Int):=by
       unfold restS
       split
       ·split
        ·show (-1:Int) ≤ _;omega
        ·split
         ·exact Int.le_refl _
         ·show (-1:Int) ≤ _;omega
       ·exact hb2.1
      obtain ⟨z,hz⟩ : ∃ z,z=restS (l.drop n.toNat) y.1 y.2.1 ended:=⟨_,rfl⟩
      rw [← hz] at hrl ⊢
      by_cases h5:z.2.1 < 0
      ·rw [if_pos h5,if_pos h5];rfl
      ·rw [if_neg h5,if_neg h5]
       by_cases h6:z.2.2=true
       ·rw [if_pos h6,if_pos h6,show wrap64 (n + z.2.1)=n + z.2.1 by unfold wrap64;omega]
       ·rw [if_neg h6,if_neg h6];rfl
     ·rw [if_neg h4,if_neg h4];rfl
   ·rw [if_neg h2,if_neg h2,Option.bind_some,if_pos rfl]
    have:(g.2 == 0)=false:=beq_eq_false_iff_ne.2 h2
    simp only [this,Bool.false_and]
    rfl
  ·rw [if_neg h1,if_neg h1,if_neg (by decide),Option.bind_some]
   rfl
theorem sameB_l0 (xs:List Int) (hn:xs.length ≤ 4398046511104) (d:Nat) : ∀ (k:Nat) (i:Int),0 ≤ i → (xs.length:Int) - i=d → d + 1 ≤ k → tollbarref01_SameBytes.l0 k xs xs i=some true:=by
 induction d with
 | zero =>
  intro k i h0 hd hk
  obtain ⟨k,rfl⟩ : ∃ m,k=m + 1:=⟨k - 1,by omega⟩
  simp only [tollbarref01_SameBytes.l0]
  rw [if_neg (by omega)]
 | succ d ih =>
  intro k i h0 hd hk
  obtain ⟨k,rfl⟩ : ∃ m,k=m + 1:=⟨k - 1,by omega⟩
  simp only [tollbarref01_SameBytes.l0]
  rw [if_pos (by omega),if_pos h0,if_pos (by omega),if_pos trivial,show wrap64 (i + 1)=i + 1 by unfold wrap64;omega]
  exact ih k (i + 1) (by omega) (by omega) (by omega)
theorem sameB_eq (xs:List Int) (hn:xs.length ≤ 4398046511104) (k:Nat) (hk:xs.length + 1 ≤ k):tollbarref01_SameBytes.f k xs xs=some true:=by
 unfold tollbarref01_SameBytes.f
 rw [if_pos rfl]
 exact sameB_l0 xs hn xs.length k 0 (by omega) (by omega) hk
def Cln (xs:List Int):Prop := ∀ x ∈ xs,x ≠ 13∧x ≠ 10
theorem cln_nil:Cln []:=fun x hx=>by cases hx
theorem cutT_line (xs:List Int) (hs:Cln xs) (r:List Int) (m:Int) (hm:(xs.length:Int) ≤ m) (d:Nat) : ∀ (j e:Nat),j + d=xs.length → e=d + 2 + r.length →
 cutAt (xs ++ ([13,10] ++ r)) m e j=(strOfNums xs,(xs.length:Int) + 2,0):=by
 induction d with
 | zero =>
  intro j e hj he
  subst he
  obtain rfl:j=xs.length:=by omega
  have e1:rd (xs ++ ([13,10] ++ r)) (xs.length:Int)=13:=by rw [rd_append_right _ _ _ (by omega),Int.sub_self];rfl
  have e2:rd (xs ++ ([13,10] ++ r)) ((xs.length:Int) + 1)=10:=by rw [rd_append_right _ _ _ (by omega),show (xs.length:Int) + 1 - xs.length=1 by omega];rfl
  rw [show 0 + 2 + r.length=(r.length + 1) + 1 by omega]
  simp only [cutAt]
  rw [e1,if_neg (by decide),if_pos rfl,if_pos (by rw [List.length_append];simp;omega),e2,if_pos rfl,Int.toNat_natCast,List.take_left]
 | succ d ih =>
  intro j e hj he
  subst he
  have hlt:j < xs.length:=by omega
  have e1:rd (xs ++ ([13,10] ++ r)) (j:Int)=xs[j]:=by
   rw [rd_append_left _ _ _ (by omega) (by omega)]
   simp [rd,List.getD_eq_getElem?_getD,List.getElem?_eq_getElem hlt]
  obtain ⟨h13,h10⟩:=hs _ (List.getElem_mem hlt)
  rw [show d + 1 + 2 + r.length=(d + 2 + r.length) + 1 by omega]
  simp only [cutAt]
  rw [e1,if_neg h10,if_neg h13,if_neg (by omega)]
  have:=ih (j + 1) (d + 2 + r.length) (by omega) rfl
  rw [show ((j + 1:Nat):Int)=(j:Int) + 1 by omega] at this
  exact this
theorem cutT (xs:List Int) (hs:Cln xs) (r:List Int) (m:Int) (hm:(xs.length:Int) ≤ m):cutSpec (xs ++ ([13,10] ++ r)) m=(strOfNums xs,(xs.length:Int) + 2,0):=by
 have e1:mx m 0=m:=by unfold mx;split <;> omega
 unfold cutSpec
 rw [e1]
 exact cutT_line xs hs r m hm xs.length 0 _ (by omega) (by rw [List.length_append,List.length_append];simp;omega)
/-- Lines,one behind the other. -/
def flatL:List (List Int) → List Int
 | []=>[]
 | s :: ss=>s ++ ([13,10] ++ flatL ss)
theorem str_nil (xs:List Int):(strOfNums xs).toList=[] ↔ xs=[]:=by
 have h:=str_size xs
 constructor
 ·intro e
  have:(strOfNums xs).size=0:=by rw [← data_length,← toList_data,e];rfl
  exact List.eq_nil_of_length_eq_zero (by omega)
 ·rintro rfl;rw [toList_data];rfl
def LinesOk (ss:List (List Int)):Prop := ∀ s ∈ ss,Cln s∧s ≠ []∧s.length ≤ 2048
theorem tail_text (L:List Int) (e:Int) (r:List Int) : ∀ (ss:List (List Int)) (p d:Nat),L.drop p=flatL ss ++ ([13,10] ++ r) → LinesOk ss → ss.length < d →
 tailS L e d p=(ss.map strOfNums,(p:Int) + ((flatL ss).length:Int) + 2,0):=by
 intro ss
 induction ss with
 | nil =>
  intro p d h hs hd
  obtain ⟨d,rfl⟩ : ∃ m,d=m + 1:=⟨d - 1,by simp only [List.length_nil] at hd;omega⟩
  have hc:=cutT [] cln_nil r 2048 (by decide)
  rw [List.nil_append] at hc
  rw [tailS,h,flatL,List.nil_append,hc,if_neg (by decide),if_neg (by decide),if_pos ((str_nil []).2 rfl)]
  simp
 | cons s ss ih =>
  intro p d h hs hd
  obtain ⟨d,rfl⟩ : ∃ m,d=m + 1:=⟨d - 1,by simp only [List.length_cons] at hd;omega⟩
  obtain ⟨h1,h2,h3⟩:=hs s (List.mem_cons_self ..)
  have hfl:flatL (s :: ss) ++ ([13,10] ++ r)=s ++ ([13,10] ++ (flatL ss ++ ([13,10] ++ r))):=by rw [flatL,List.append_assoc,List.append_assoc]
  rw [hfl] at h
  have hc:=cutT s h1 (flatL ss ++ ([13,10] ++ r)) 2048 (by omega)
  have hd2:L.drop (p + (s.length + 2))=flatL ss ++ ([13,10] ++ r):=by
   rw [← List.drop_drop,h,← List.append_assoc,List.drop_append_of_le_length (by simp),List.drop_of_length_le (by simp),List.nil_append]
  rw [tailS,h,hc]
  simp only
  rw [if_neg (by decide),if_neg (by omega),if_neg (fun he=>h2 ((str_nil s).1 he)),show ((s.length:Int) + 2).toNat=s.length + 2 by omega,
   ih (p + (s.length + 2)) d hd2 (fun t ht=>hs t (List.mem_cons_of_mem _ ht)) (by simp only [List.length_cons] at hd;omega)]
  simp only [List.map_cons,flatL,List.length_append,List.length_cons,List.length_nil,Prod.mk.injEq,true_and,and_true]
  omega
theorem flatL_len (ss:List (List Int)):ss.length ≤ (flatL ss).length:=by
 induction ss with
 | nil=>exact Nat.le_refl _
 | cons s ss ih=>simp only [flatL,List.length_append,List.length_cons,List.length_nil];omega
theorem lines_text (l:List Int) (e:Int) (s:List Int) (ss:List (List Int)) (r:List Int) (h:l=s ++ ([13,10] ++ (flatL ss ++ ([13,10] ++ r)))) (hs:Cln s) (hn:s.length ≤ 2048) (hss:LinesOk ss) :
 linesS l e=(strOfNums s :: ss.map strOfNums,(s.length:Int) + ((flatL ss).length:Int) + 4,0):=by
 have hc:=cutT s hs (flatL ss ++ ([13,10] ++ r)) 2048 (by omega)
 rw [← h] at hc
 have hd2:l.drop (s.length + 2)=flatL ss ++ ([13,10] ++ r):=by
  rw [h,← List.append_assoc,List.drop_append_of_le_length (by simp),List.drop_of_length_le (by simp),List.nil_append]
 have hf:=flatL_len ss
 have hl:l.length=s.length + 2 + (flatL ss).length + 2 + r.length:=by rw [h];simp only [List.length_append,List.length_cons,List.length_nil];omega
 unfold linesS
 rw [hc]
 simp only
 rw [if_neg (by decide),if_neg (by omega),show ((s.length:Int) + 2).toNat=s.length + 2 by omega,tail_text l e r ss (s.length + 2) (l.length + 1) hd2 hss (by omega)]
 simp only [Prod.mk.injEq,true_and,and_true]
 omega
theorem up {α:Type} {g:Nat → Option α} (hm : ∀ k,LeO (g k) (g (k + 1))) {n:Nat} {r:α} (h:g n=some r) : ∀ d,g (n + d)=some r
 | 0=>h
 | d + 1=>hm _ _ (up hm h d)
theorem up_to {α:Type} {g:Nat → Option α} (hm : ∀ k,LeO (g k) (g (k + 1))) {n k:Nat} {r:α} (h:g n=some r) (hk:n ≤ k):g k=some r:=by
 obtain ⟨d,rfl⟩ : ∃ d,k=n + d:=⟨k - n,by omega⟩
 exact up hm h d
def endsD (c:Nat):ByteArray:=(tollbarref01_Decimal.f 60 (200 + (c:Int))).getD ⟨#[]⟩
def endsFs (c:Nat):ByteArray:=((⟨#[72,84,84,80,47,49,46,49,32]⟩:ByteArray) ++ endsD c) ++ (⟨#[32,120]⟩:ByteArray)
theorem ends_dec : ∀ c:Fin 256,tollbarref01_Decimal.f 60 (200 + (c.val:Int))=some (endsD c.val)∧(endsD c.val).size=3:=by decide +kernel
theorem ends_stat : ∀ c:Fin 256,(statSpec (endsFs c.val).data.toList).1=200 + (c.val:Int)∧(statSpec (endsFs c.val).data.toList).2.2.1=1∧(statSpec (endsFs c.val).data.toList).2.2.2.2.2=true∧(bytesOf (endsFs c.val)).all (fun x=>decide (x ≠ 13) && decide (x ≠ 10))=true:=by decide +kernel
def endA:S48:=⟨⟨#[65]⟩,⟨#[98]⟩⟩
theorem ends_field:fieldsS [strOfNums [65,58,32,98]] 0=([endA],0):=by kernel_rfl
theorem ends_te:thereS teNm [endA]=false:=by kernel_rfl
theorem ends_len:thereS lenNm [endA]=false:=by kernel_rfl
theorem ends_S (c:Nat):bytesOf (((⟨#[72,84,84,80,47,49,46,49,32]⟩:ByteArray) ++ endsD c) ++ (⟨#[32,120,13,10,65,58,32,98,13,10,13,10]⟩:ByteArray))=bytesOf (endsFs c) ++ ([13,10] ++ (flatL [[65,58,32,98]] ++ ([13,10] ++ []))):=by
 unfold endsFs
 have e : ∀ a b:ByteArray,bytesOf (a ++ b)=bytesOf a ++ bytesOf b:=fun a b=>by
  unfold bytesOf
  rw [ByteArray.data_append,Array.toList_append,List.map_append]
 rw [e,e,e,e]
 have e1:bytesOf (⟨#[32,120,13,10,65,58,32,98,13,10,13,10]⟩:ByteArray)=[32,120,13,10,65,58,32,98,13,10,13,10]:=by decide
 have e2:bytesOf (⟨#[32,120]⟩:ByteArray)=[32,120]:=by decide
 rw [e1,e2]
 simp [flatL]
theorem ends_strB (h:ByteArray):(strOfNums (bytesOf h)).data.toList=h.data.toList:=by
 have:bytesOf h=h.data.toList.map fun b=>(b.toNat:Int):=rfl
 rw [this,str_bytes,mkS_data]
theorem ends_resp (c:Nat) (hc:c < 256) (body:List Int) (hb:body.length ≤ 5000) (b:List Int) (hbb:b=bytesOf (((⟨#[72,84,84,80,47,49,46,49,32]⟩:ByteArray) ++ endsD c) ++ (⟨#[32,120,13,10,65,58,32,98,13,10,13,10]⟩:ByteArray)) ++ body) (m:ByteArray) (ended:Bool) :
 b.length=24 + body.length∧b.drop 24=body∧respS2 b m ended=respF b (respLen m (200 + (c:Int)) 1 [endA]) ended (statSpec (endsFs c).data.toList) [endA] 24:=by
 have hd:=ends_dec ⟨c,hc⟩
 obtain ⟨s1,s2,s3,s4⟩:=ends_stat ⟨c,hc⟩
 simp only at hd s1 s2 s3 s4
 have hFl:(bytesOf (endsFs c)).length=14:=by
  rw [bytesOf_length]
  unfold endsFs
  rw [ByteArray.size_append,ByteArray.size_append,hd.2]
  rfl
 have hcl:Cln (bytesOf (endsFs c)):=fun x hx=>by
  have:=List.all_eq_true.1 s4 x hx
  simpa using this
 have e24:(bytesOf (endsFs c) ++ ([13,10] ++ (flatL [[65,58,32,98]] ++ ([13,10] ++ [])))).length=24:=by
  simp only [List.length_append,hFl,flatL,List.length_cons,List.length_nil]
 rw [ends_S c] at hbb
 have hlen:b.length=24 + body.length:=by rw [hbb,List.length_append,e24]
 refine ⟨hlen,by rw [hbb,List.drop_append_of_le_length (by omega),List.drop_of_length_le (by omega),List.nil_append],?_⟩
 have hbd:bdS b=bytesOf (endsFs c) ++ ([13,10] ++ (flatL [[65,58,32,98]] ++ ([13,10] ++ body.take 2024))):=by
  unfold bdS
  rw [hbb,List.take_append,e24,List.take_of_length_le (by omega)]
  simp only [List.append_assoc,List.nil_append]
 have hok:LinesOk [[65,58,32,98]]:=by
  intro t ht
  rw [List.mem_singleton.1 ht]
  exact ⟨by intro x hx;revert x;decide,by decide,by decide⟩
 have hl:=lines_text (bdS b) (extS b) (bytesOf (endsFs c)) [[65,58,32,98]] (body.take 2024) hbd hcl (by omega) hok
 unfold respS2
 rw [hl,respL,ends_strB,if_pos s3,List.map_cons,List.map_nil,ends_field,if_pos rfl,hFl]
 simp only
 rw [if_neg (by decide),s1,s2]
 rfl
theorem ends_len0 (mi:Int):reqLen [endA] mi=(0,false,0):=by
 unfold reqLen
 rw [ends_te,ends_len]
 rfl
theorem ends_none (m:ByteArray) (n:Int) (h:noBody m n=true):respLen m n 1 [endA]=(0,0,true):=by unfold respLen;rw [if_pos h]
theorem ends_toend (m:ByteArray) (n:Int) (h:noBody m n=false):respLen m n 1 [endA]=(3,0,true):=by
 unfold respLen
 rw [if_neg (by rw [h];simp),ends_len0,if_pos rfl,if_neg (by simp),ends_len,if_neg (by simp)]
theorem ends_at0 (b body:List Int) (hd:b.drop 24=body) (ended:Bool) (q:Int × ByteArray × Int × (List (S48)) × List Int × Bool):respF b (0,0,true) ended q [endA] 24=(q.1,q.2.1,q.2.2.1,[endA],[],24,true):=by
 unfold respF restS bodyS
 rw [show (24:Int).toNat=24 from rfl,hd]
 simp only
 rw [if_pos trivial,if_neg (show ¬ ((0:Int)=3) by decide),if_neg (show ¬ (((0:Int) == 2)=true) by decide),if_neg (show ¬ ((body.length:Int) < 0) by omega)]
 rfl
theorem ends_get:((⟨#[71,69,84]⟩:ByteArray).toList == ([72,69,65,68]:List UInt8))=false:=by rw [toList_data];rfl
theorem ends_nb1 (c:Nat) (hn:200 + (c:Int)=204 ∨ 200 + (c:Int)=304):noBody ⟨#[71,69,84]⟩ (200 + (c:Int))=true:=by
 unfold noBody
 rw [ends_get]
 rcases hn with e|e <;> rw [e] <;> rfl
theorem ends_nb0 (c:Nat) (hn : ¬ (200 + (c:Int)=204 ∨ 200 + (c:Int)=304)):noBody ⟨#[71,69,84]⟩ (200 + (c:Int))=false:=by
 unfold noBody
 rw [ends_get,decide_eq_false (show ¬ (200 + (c:Int) < 200) by omega),beq_eq_false_iff_ne.2 (fun e=>hn (Or.inl e)),beq_eq_false_iff_ne.2 (fun e=>hn (Or.inr e))]
 rfl
theorem ends_nbh (c:Nat):noBody ⟨#[72,69,65,68]⟩ (200 + (c:Int))=true:=by
 unfold noBody
 rw [show ((⟨#[72,69,65,68]⟩:ByteArray).toList == [72,69,65,68])=true by rw [toList_data];rfl]
 rfl
theorem ends_B (body : List Int) (h : ¬ (body.length : Int) > 5000) (c : Nat) (hcl : c < 256) (hz3 : (endsD c).size = 3) (k : Nat) (hk : 1075000000 ≤ k) :
    endsB k body (200 + (c : Int)) (((⟨#[72, 84, 84, 80, 47, 49, 46, 49, 32]⟩ : ByteArray) ++ endsD c) ++ (⟨#[32, 120, 13, 10, 65, 58, 32, 98, 13, 10, 13, 10]⟩ : ByteArray)) = some true := by
  obtain ⟨b, hb⟩ : ∃ b, b = bytesOf (((⟨#[72, 84, 84, 80, 47, 49, 46, 49, 32]⟩ : ByteArray) ++ endsD c) ++ (⟨#[32, 120, 13, 10, 65, 58, 32, 98, 13, 10, 13, 10]⟩ : ByteArray)) ++ body := ⟨_, rfl⟩
  have hsz : (((⟨#[72, 84, 84, 80, 47, 49, 46, 49, 32]⟩ : ByteArray) ++ endsD c) ++ (⟨#[32, 120, 13, 10, 65, 58, 32, 98, 13, 10, 13, 10]⟩ : ByteArray)).size = 24 := by
    rw [ByteArray.size_append, ByteArray.size_append, hz3]
    rfl
  obtain ⟨hl, hdr, _⟩ := ends_resp c hcl body (by omega) b hb ⟨#[71, 69, 84]⟩ true
  have rr := fun m e => (ends_resp c hcl body (by omega) b hb m e).2.2
  obtain ⟨s1, s2, s3, s4⟩ := ends_stat ⟨c, hcl⟩
  simp only at s1
  have rr' : ∀ m e, respS2 b m e = respF b (respLen m (200 + (c : Int)) 1 [endA]) e (statSpec (endsFs c).data.toList) [endA] 24 := rr
  clear rr s2 s3 s4
  generalize statSpec (endsFs c).data.toList = q at rr' s1
  obtain ⟨a, q2, q3, q4, q5, q6⟩ := q
  simp only at s1
  unfold endsB
  rw [← hb, hsz, http_Response_f b (by omega) _ _ _ (by omega), Option.bind_some, http_Response_f b (by omega) _ _ _ (by omega), Option.bind_some, http_Response_f b (by omega) _ _ _ (by omega), Option.bind_some, rr', rr', rr',
    ends_none ⟨#[72, 69, 65, 68]⟩ (200 + (c : Int)) (ends_nbh c), ends_at0 b body hdr]
  rw [if_pos ⟨rfl, rfl, rfl, s1⟩]
  by_cases hn : 200 + (c : Int) = 204 ∨ 200 + (c : Int) = 304
  · have hnb := ends_nb1 c hn
    rw [if_pos hn, ends_none _ _ hnb, ends_at0 b body hdr, ends_at0 b body hdr, if_pos ⟨rfl, rfl, rfl, rfl, rfl⟩]
  · have hnb := ends_nb0 c hn
    have hr3 : ∀ e, respF b (3, 0, true) e (a, q2, q3, q4, q5, q6) [endA] 24 = if (restS body 3 0 e).2.1 < 0 then respBad ((restS body 3 0 e).2.2 && !e) else if (restS body 3 0 e).2.2 = true then (a, q2, q3, [endA], (restS body 3 0 e).1, 24 + (restS body 3 0 e).2.1, true) else respBad false := fun e => by
      unfold respF
      rw [show (24 : Int).toNat = 24 from rfl, hdr, if_pos rfl]
    have r1 : ∀ e, (body.length : Int) > 4096 → restS body 3 0 e = ([], -1, false) := fun e h => by unfold restS; rw [if_pos rfl, if_pos h]
    have r2 : ∀ e, ¬ (body.length : Int) > 4096 → restS body 3 0 e = if e = true then (body, (body.length : Int), true) else ([], -1, true) := fun e h => by unfold restS; rw [if_pos rfl, if_neg h]
    have hz : ¬ (body.length : Int) < 0 := by omega
    rw [if_neg hn, ends_toend _ _ hnb]
    by_cases h4 : (body.length : Int) > 4096
    · rw [hr3, hr3, r1 _ h4, r1 _ h4, if_pos h4, if_pos ⟨rfl, rfl, rfl, rfl⟩]
    · have e1 : respF b (3, 0, true) true (a, q2, q3, q4, q5, q6) [endA] 24 = (a, q2, q3, [endA], body, 24 + (body.length : Int), true) := by
        rw [hr3, r2 true h4]
        exact if_neg hz
      have e2 : respF b (3, 0, true) false (a, q2, q3, q4, q5, q6) [endA] 24 = respBad true := by
        rw [hr3, r2 false h4]
        rfl
      rw [e1, e2, if_neg h4]
      rw [if_pos ⟨rfl, rfl, by show (24 : Int) + (body.length : Int) = _; omega, rfl⟩, sameB_eq body (by omega) _ (by omega), Option.bind_some, if_pos rfl]
theorem HttpEnds : ∀ (l0:List Int) (a1:Int),l0.length ≤ maxLen → l0.length * 1 ≤ 140737488351232 → (∀ x ∈ l0,(Lit.int .u8 x).wf=true) → (Lit.int .i64 a1).wf=true → ∃ k,tollbarlaw08_HttpEnds.f k l0 a1=some true:=by
 intro body a1 _ _ _ _
 by_cases h:(body.length:Int) > 5000
 ·exact ⟨0,by unfold tollbarlaw08_HttpEnds.f;rw [if_pos h]⟩
 refine ⟨1080000000,?_⟩
 unfold tollbarlaw08_HttpEnds.f
 have hm:Go.bits .and .i64 a1 255=a1 % 256:=and_mask a1 8 (by decide)
 have h0:0 ≤ a1 % 256:=Int.emod_nonneg _ (by decide)
 have h1:a1 % 256 < 256:=Int.emod_lt_of_pos _ (by decide)
 obtain ⟨c,hc⟩ : ∃ c:Nat,a1 % 256=(c:Int):=⟨(a1 % 256).toNat,by omega⟩
 have hcl:c < 256:=by omega
 have hw:IntKind.i64.wrap (200 + (c:Int))=200 + (c:Int):=by rw [i64_w];unfold wrap64;omega
 have hd:=ends_dec ⟨c,hcl⟩
 simp only at hd
 have hdk:tollbarref01_Decimal.f 1080000000 (200 + (c:Int))=some (endsD c):=up_to (fun k=>tollbarref01_Decimal.mono (200 + (c:Int)) k) hd.1 (by omega)
 rw [if_neg h,hm,hc,hw,hdk,Option.bind_some,if_pos (by omega)]
 exact ends_B body h c hcl hd.2 _ (by omega)
end Go.Proofs.YtagffbblalldiaaDoor.Pure
