/- Each function below answers as its Lean twin says; plain lemmas; a row where its theorem stands. No further condition. (Laid by this repo's pack.py out of its texts and of the print's words.) -/
import Derived.Test.YtfjeinnemimjoaaGreatDoorZc6af24e6
import Derived.Test.YtfjeinnemimjoaaGreatDoorZc563c9a8
import Derived.Test.YtfjeinnemimjoaaGreatDoorZd3f7ee2d
import Derived.Test.YtfjeinnemimjoaaGreatDoorZd8313b99
import Derived.Lib.SlBytesConst
import Derived.Lib.IndexBytes
import Derived.Lib.Strings
import Derived.Shelf.Strings.SlTrimAscii
import Derived.Lib.SlTrimSet
import Derived.Lib.LastIndexByte
namespace Go.Proofs.YtfjeinnemimjoaaGreatDoor.P
open Go.RowKit Go.Proofs.YtfjeinnemimjoaaGreatDoorW.PrintWords Go.Proofs.YtfjeinnemimjoaaGreatDoorW.PrintLast Go.Proofs.YtfjeinnemimjoaaGreatDoorW.PrintMore
attribute [local go_sem] max2_int min2_int max_two min_two max_three min_three max_four min_four
set_option linter.unusedVariables false
set_option linter.unusedSimpArgs false
def as_b:List Int:=[71,69,84,32,47,32,72,84,84,80,47,49,46,49,13,10,72,111,115,116,58,32,97,13,10,13,10]
def as_n:List Int:=[71,69,84,32,47,32,72,84,84,80,47,49,46,49,10,72,111,115,116,58,32,97,13,10,13,10]
def as_w:List Int:=[80,85,84,32,47,32,72,84,84,80,47,49,46,49,13,10,72,111,115,116,58,32,97,13,10,69,120,112,101,99,116,58,32,49,48,48,45,67,111,110,116,105,110,117,101,13,10,67,111,110,116,101,110,116,45,76,101,110,103,116,104,58,32,50,13,10,13,10,97]
def as_fs:List (S55):=[⟨⟨#[72,111,115,116]⟩,⟨#[97]⟩⟩]
theorem as_1:http_Request.f 80 (as_b ++ bytesOf ⟨#[109,111,114,101]⟩)=some (⟨#[71,69,84]⟩,⟨#[47]⟩,1,as_fs,[],27,0):=by kernel_rfl
theorem as_2:http_Request.f 80 (as_b.take 20)=some (⟨#[]⟩,⟨#[]⟩,0,[],[],0,0):=by kernel_rfl
theorem as_3:http_Request.f 80 as_n=some (⟨#[]⟩,⟨#[]⟩,0,[],[],0,400):=by kernel_rfl
theorem as_4:http_Host.f 80 ⟨#[71,69,84]⟩ ⟨#[47]⟩ 1 as_fs []=some ⟨#[97]⟩:=by kernel_rfl
theorem as_5:http_WriteRequest.f 80 ⟨#[71,69,84]⟩ ⟨#[47]⟩ 1 as_fs []=some as_b:=by kernel_rfl
theorem as_6:tollbarref01_SameBytes.f 80 as_b as_b=some true:=by kernel_rfl
theorem as_7:http_Waits.f 80 as_w=some true:=by kernel_rfl
theorem as_8:http_Waits.f 80 as_b=some false:=by kernel_rfl
def tollbarlaw08_asking.f:Option Bool:=some true
set_option maxHeartbeats 8000000 in
set_option maxRecDepth 100000 in
theorem tollbarlaw08_asking.calls (r:Bool) (w:World) (h:tollbarlaw08_asking.f=some r) (ht:Tabs w) :
 Calls Tryz.prog 19 #[] w fun e w' => e = .returned (.bool r)∧Below w.heap.size w w' := by
 obtain rfl:=Option.some.inj h
 clear h
 have HTB:=Aside0.mk ht
 clear ht
 have hu3:=Tryz.underlying33
 have kc:=fun (w:World) (C:Array Value) (n c:Nat)=>Lib.run_convert_bytes_const (P:=Tryz.prog) w 23 5 C n c Tryz.underlying23 Tryz.underlying5
 have CB:=Aside0.mk (show Kd.C (Kd.int .u8) (w.alloc (.cells #[.int .u8 71,.int .u8 69,.int .u8 84,.int .u8 32,.int .u8 47,.int .u8 32,.int .u8 72,.int .u8 84,.int .u8 84,.int .u8 80,.int .u8 47,.int .u8 49,.int .u8 46,.int .u8 49,.int .u8 13,.int .u8 10,.int .u8 72,.int .u8 111,.int .u8 115,.int .u8 116,.int .u8 58,.int .u8 32,.int .u8 97,.int .u8 13,.int .u8 10,.int .u8 13,.int .u8 10] 5 (27,28))) (some ⟨w.heap.size,0,none⟩) as_b.length as_b from C_const w 5 as_b (27,28) zb46)
 have B0:=Aside0.mk (below_alloc (Below.refl w.heap.size w) (.cells #[.int .u8 71,.int .u8 69,.int .u8 84,.int .u8 32,.int .u8 47,.int .u8 32,.int .u8 72,.int .u8 84,.int .u8 84,.int .u8 80,.int .u8 47,.int .u8 49,.int .u8 46,.int .u8 49,.int .u8 13,.int .u8 10,.int .u8 72,.int .u8 111,.int .u8 115,.int .u8 116,.int .u8 58,.int .u8 32,.int .u8 97,.int .u8 13,.int .u8 10,.int .u8 13,.int .u8 10] 5 (27,28)))
 obtain ⟨i0,hi0,hz0,hsz0,hby0⟩:=info_parts info5
 have HI:=Aside0.mk (And.intro hi0 (And.intro hz0 (And.intro hsz0 hby0)))
 clear hi0 hz0 hsz0 hby0
 have BE : ∀ V:World,BufM V (w.alloc (.cells #[.int .u8 71,.int .u8 69,.int .u8 84,.int .u8 32,.int .u8 47,.int .u8 32,.int .u8 72,.int .u8 84,.int .u8 84,.int .u8 80,.int .u8 47,.int .u8 49,.int .u8 46,.int .u8 49,.int .u8 13,.int .u8 10,.int .u8 72,.int .u8 111,.int .u8 115,.int .u8 116,.int .u8 58,.int .u8 32,.int .u8 97,.int .u8 13,.int .u8 10,.int .u8 13,.int .u8 10] 5 (27,28))).heap.size (.slice (some ⟨w.heap.size + 1,0,none⟩) 0 0) []:=fun V=>⟨w.heap.size + 1,0,rfl,zb40,Nat.le_refl _,fun j u h=>by simp at h,fun j h=>by omega⟩
 have BEE:=Aside0.mk BE
 clear BE
 go_enter Tryz.func19,Tryz.ntmps19
 go_wp2_with (first
  | ((with_reducible refine gate_builtin (b:=.append) (xs:=#[.tmp 14,.tmp 15]) rfl ?_);at_builtin;refine wp_bufM rfl (.tmp 14) (.tmp 15) 23 23 rfl (w.alloc (.cells #[.int .u8 71,.int .u8 69,.int .u8 84,.int .u8 32,.int .u8 47,.int .u8 32,.int .u8 72,.int .u8 84,.int .u8 84,.int .u8 80,.int .u8 47,.int .u8 49,.int .u8 46,.int .u8 49,.int .u8 13,.int .u8 10,.int .u8 72,.int .u8 111,.int .u8 115,.int .u8 116,.int .u8 58,.int .u8 32,.int .u8 97,.int .u8 13,.int .u8 10,.int .u8 13,.int .u8 10] 5 (27,28))).heap.size 5 i0 Tryz.underlying23 HI.out.1 HI.out.2.1 HI.out.2.2.1 HI.out.2.2.2 _ (.slice (some ⟨w.heap.size,0,none⟩) as_b.length 27) [] as_b rfl rfl (BEE.out _) (src_ints Tryz.underlying23 (Kd.C_alloc CB.out _)) zb46 (below_alloc (Below.refl (w.alloc (.cells #[.int .u8 71,.int .u8 69,.int .u8 84,.int .u8 32,.int .u8 47,.int .u8 32,.int .u8 72,.int .u8 84,.int .u8 84,.int .u8 80,.int .u8 47,.int .u8 49,.int .u8 46,.int .u8 49,.int .u8 13,.int .u8 10,.int .u8 72,.int .u8 111,.int .u8 115,.int .u8 116,.int .u8 58,.int .u8 32,.int .u8 97,.int .u8 13,.int .u8 10,.int .u8 13,.int .u8 10] 5 (27,28))).heap.size (w.alloc (.cells #[.int .u8 71,.int .u8 69,.int .u8 84,.int .u8 32,.int .u8 47,.int .u8 32,.int .u8 72,.int .u8 84,.int .u8 84,.int .u8 80,.int .u8 47,.int .u8 49,.int .u8 46,.int .u8 49,.int .u8 13,.int .u8 10,.int .u8 72,.int .u8 111,.int .u8 115,.int .u8 116,.int .u8 58,.int .u8 32,.int .u8 97,.int .u8 13,.int .u8 10,.int .u8 13,.int .u8 10] 5 (27,28)))) _).size ?_;intro v3 w3 hB3 hb3;obtain ⟨y3,hy3⟩ : ∃ y,y=([]:List Int) ++ as_b:=⟨_,rfl⟩;rw [← hy3] at hB3;obtain ⟨A3,c3,e3⟩:=hB3.form;subst e3;have Y3:=Aside0.mk hy3;have BU3:=Aside0.mk hB3;have L3:=Aside0.mk ((below_alloc (Below.refl (w.alloc (.cells #[.int .u8 71,.int .u8 69,.int .u8 84,.int .u8 32,.int .u8 47,.int .u8 32,.int .u8 72,.int .u8 84,.int .u8 84,.int .u8 80,.int .u8 47,.int .u8 49,.int .u8 46,.int .u8 49,.int .u8 13,.int .u8 10,.int .u8 72,.int .u8 111,.int .u8 115,.int .u8 116,.int .u8 58,.int .u8 32,.int .u8 97,.int .u8 13,.int .u8 10,.int .u8 13,.int .u8 10] 5 (27,28))).heap.size (w.alloc (.cells #[.int .u8 71,.int .u8 69,.int .u8 84,.int .u8 32,.int .u8 47,.int .u8 32,.int .u8 72,.int .u8 84,.int .u8 84,.int .u8 80,.int .u8 47,.int .u8 49,.int .u8 46,.int .u8 49,.int .u8 13,.int .u8 10,.int .u8 72,.int .u8 111,.int .u8 115,.int .u8 116,.int .u8 58,.int .u8 32,.int .u8 97,.int .u8 13,.int .u8 10,.int .u8 13,.int .u8 10] 5 (27,28)))) (.cells #[] 5)).trans hb3);clear hy3 hB3 hb3)
  | ((with_reducible refine gate_builtin (b:=.append) (xs:=#[.tmp 16,.const (.string ⟨#[109,111,114,101]⟩)]) rfl ?_);at_builtin;refine wp_bufM rfl (.tmp 16) (.const (.string ⟨#[109,111,114,101]⟩)) 23 9 rfl (w.alloc (.cells #[.int .u8 71,.int .u8 69,.int .u8 84,.int .u8 32,.int .u8 47,.int .u8 32,.int .u8 72,.int .u8 84,.int .u8 84,.int .u8 80,.int .u8 47,.int .u8 49,.int .u8 46,.int .u8 49,.int .u8 13,.int .u8 10,.int .u8 72,.int .u8 111,.int .u8 115,.int .u8 116,.int .u8 58,.int .u8 32,.int .u8 97,.int .u8 13,.int .u8 10,.int .u8 13,.int .u8 10] 5 (27,28))).heap.size 5 i0 Tryz.underlying23 HI.out.1 HI.out.2.1 HI.out.2.2.1 HI.out.2.2.2 _ (.string ⟨#[109,111,114,101]⟩) y3 (bytesOf ⟨#[109,111,114,101]⟩) rfl rfl BU3.out (src_bytes _ Tryz.underlying9 ⟨#[109,111,114,101]⟩) (by rw [Y3.out];decide) L3.out.size ?_;intro v4 w4 hB4 hb4;obtain ⟨y4,hy4⟩ : ∃ y,y=y3 ++ bytesOf ⟨#[109,111,114,101]⟩:=⟨_,rfl⟩;rw [← hy4] at hB4;obtain ⟨A4,c4,e4⟩:=hB4.form;subst e4;have Y4:=Aside0.mk (show y4=as_b ++ bytesOf ⟨#[109,111,114,101]⟩ by rw [hy4,Y3.out];rfl);have BU4:=Aside0.mk hB4;have LW:=Aside0.mk (L3.out.trans hb4);have L4:=Aside0.mk (B0.out.trans (hbase2 B0.out.size (L3.out.trans hb4)));have CB4:=Aside0.mk (Kd.C_below CB.out (L3.out.trans hb4));clear hy4 hB4 hb4))
 go_at_call 20
 refine (http_Request.calls 80 A4 c4 y4 _ _ _ _ _ _ _ w4 (BufM.reads' BU4.out (by rw [Y4.out];decide)).2.2 (BufM.reads' BU4.out (by rw [Y4.out];decide)).2.1 (by rw [Y4.out];exact as_1)).mono ?_
 rintro e w5 ⟨v1,v2,rfl,h1,h2,hb⟩
 obtain ⟨A1,c1,rfl,hl1,hC1⟩:=Kd.R_reads h1
 obtain ⟨A2,c2,rfl⟩:=Kd.R_slice h2
 have B5:=Aside0.mk (below_alloc (below_step L4.out hb) (.cells #[.string ⟨#[71,69,84]⟩,.string ⟨#[47]⟩,.int .i64 1,.slice A1 1 c1,.slice A2 0 c2] 33 (0,0)))
 have R1:=Aside0.mk (Kd.C_alloc hC1 (.cells #[.string ⟨#[71,69,84]⟩,.string ⟨#[47]⟩,.int .i64 1,.slice A1 1 c1,.slice A2 0 c2] 33 (0,0)))
 have X5:=Aside0.mk (blk_new w5 (.cells #[.string ⟨#[71,69,84]⟩,.string ⟨#[47]⟩,.int .i64 1,.slice A1 1 c1,.slice A2 0 c2] 33 (0,0)))
 have C5:=Aside0.mk (Kd.C_alloc (Kd.C_below CB4.out hb) (.cells #[.string ⟨#[71,69,84]⟩,.string ⟨#[47]⟩,.int .i64 1,.slice A1 1 c1,.slice A2 0 c2] 33 (0,0)))
 clear h1 h2 hC1 hb
 obtain ⟨hsl,hrd,hcc⟩:=print_take_of (P:=Tryz.prog) (Value.int .u8) 0 23 5 .i64 Tryz.underlying23 HI.out.1 HI.out.2.2.1 (some ⟨w.heap.size,0,none⟩) 27 as_b 20 zb46 zb46 zb46
 have C6:=Aside0.mk (Kd.C_of_reads (h1:=fun _=>rfl) (hrd _ (Kd.reads_of_C C5.out)))
 have hsl' : ∀ W:World,(Instr.slice 23 (.slice (some ⟨w.heap.size,0,none⟩) 27 27) none (some (.int .i64 20)) none).run Tryz.prog W = .ok (.slice (some ⟨w.heap.size,0,none⟩) 20 27) W:=hsl
 clear hsl hrd hcc
 simp only [show as_fs.length=1 from rfl,List.length_nil]
 go_wp2_with fail
 go_at_call 20
 refine (http_Request.calls 80 (some ⟨w.heap.size,0,none⟩) 27 (as_b.take 20) _ _ _ _ _ _ _ _ C6.out zb46 as_2).mono ?_
 rintro e w6 ⟨v3,v4,rfl,h3,h4,hb⟩
 obtain ⟨A5,c5,rfl⟩:=Kd.R_slice h3
 obtain ⟨A6,c6,rfl⟩:=Kd.R_slice h4
 have B6:=Aside0.mk (below_alloc (below_step B5.out hb) (.cells #[.string ⟨#[]⟩,.string ⟨#[]⟩,.int .i64 0,.slice A5 0 c5,.slice A6 0 c6] 33 (0,0)))
 have C7:=Aside0.mk (Kd.C_alloc (Kd.C_below C5.out hb) (.cells #[.string ⟨#[]⟩,.string ⟨#[]⟩,.int .i64 0,.slice A5 0 c5,.slice A6 0 c6] 33 (0,0)))
 have R2:=Aside0.mk (Kd.C_alloc (Kd.C_below R1.out hb) (.cells #[.string ⟨#[]⟩,.string ⟨#[]⟩,.int .i64 0,.slice A5 0 c5,.slice A6 0 c6] 33 (0,0)))
 have X6:=Aside0.mk (blk_alloc (blk_below X5.out hb) (.cells #[.string ⟨#[]⟩,.string ⟨#[]⟩,.int .i64 0,.slice A5 0 c5,.slice A6 0 c6] 33 (0,0)))
 have hz:(w6.alloc (.cells #[.string ⟨#[]⟩,.string ⟨#[]⟩,.int .i64 0,.slice A5 0 c5,.slice A6 0 c6] 33 (0,0))).heap.size=w6.heap.size + 1:=by simp
 have kc2:=Lib.run_convert_bytes_const (P:=Tryz.prog) (w6.alloc (.cells #[.string ⟨#[]⟩,.string ⟨#[]⟩,.int .i64 0,.slice A5 0 c5,.slice A6 0 c6] 33 (0,0))) 23 5 #[.int .u8 71,.int .u8 69,.int .u8 84,.int .u8 32,.int .u8 47,.int .u8 32,.int .u8 72,.int .u8 84,.int .u8 84,.int .u8 80,.int .u8 47,.int .u8 49,.int .u8 46,.int .u8 49,.int .u8 10,.int .u8 72,.int .u8 111,.int .u8 115,.int .u8 116,.int .u8 58,.int .u8 32,.int .u8 97,.int .u8 13,.int .u8 10,.int .u8 13,.int .u8 10] 26 26 Tryz.underlying23 Tryz.underlying5
 rw [hz] at kc2
 have hcn:=C_const (w6.alloc (.cells #[.string ⟨#[]⟩,.string ⟨#[]⟩,.int .i64 0,.slice A5 0 c5,.slice A6 0 c6] 33 (0,0))) 5 as_n (26,27) zb46
 rw [hz] at hcn
 have CN:=Aside0.mk hcn
 clear h3 h4 hb hcn hz hsl'
 simp only [List.length_nil]
 go_wp2_with fail
 go_at_call 20
 refine (http_Request.calls 80 (some ⟨w6.heap.size + 1,0,none⟩) 26 as_n _ _ _ _ _ _ _ _ CN.out zb46 as_3).mono ?_
 rintro e w7 ⟨v5,v6,rfl,h5,h6,hb⟩
 obtain ⟨A7,c7,rfl⟩:=Kd.R_slice h5
 obtain ⟨A8,c8,rfl⟩:=Kd.R_slice h6
 have B7:=Aside0.mk (below_alloc (below_step (below_alloc B6.out _) hb) (.cells #[.string ⟨#[]⟩,.string ⟨#[]⟩,.int .i64 0,.slice A7 0 c7,.slice A8 0 c8] 33 (0,0)))
 have C8:=Aside0.mk (Kd.C_alloc (Kd.C_below (Kd.C_alloc C7.out _) hb) (.cells #[.string ⟨#[]⟩,.string ⟨#[]⟩,.int .i64 0,.slice A7 0 c7,.slice A8 0 c8] 33 (0,0)))
 have R3:=Aside0.mk (Kd.C_alloc (Kd.C_below (Kd.C_alloc R2.out _) hb) (.cells #[.string ⟨#[]⟩,.string ⟨#[]⟩,.int .i64 0,.slice A7 0 c7,.slice A8 0 c8] 33 (0,0)))
 have X7:=Aside0.mk (blk_alloc (blk_below (blk_alloc X6.out _) hb) (.cells #[.string ⟨#[]⟩,.string ⟨#[]⟩,.int .i64 0,.slice A7 0 c7,.slice A8 0 c8] 33 (0,0)))
 have q0:(w7.alloc (.cells #[.string ⟨#[]⟩,.string ⟨#[]⟩,.int .i64 0,.slice A7 0 c7,.slice A8 0 c8] 33 (0,0))).cell? ⟨w5.heap.size,0,none⟩=some (.string ⟨#[71,69,84]⟩):=(blk_cell X7.out 0).trans rfl
 have q1:(w7.alloc (.cells #[.string ⟨#[]⟩,.string ⟨#[]⟩,.int .i64 0,.slice A7 0 c7,.slice A8 0 c8] 33 (0,0))).cell? ⟨w5.heap.size,1,none⟩=some (.string ⟨#[47]⟩):=(blk_cell X7.out 1).trans rfl
 have q2:(w7.alloc (.cells #[.string ⟨#[]⟩,.string ⟨#[]⟩,.int .i64 0,.slice A7 0 c7,.slice A8 0 c8] 33 (0,0))).cell? ⟨w5.heap.size,2,none⟩=some (.int .i64 1):=(blk_cell X7.out 2).trans rfl
 have q3:(w7.alloc (.cells #[.string ⟨#[]⟩,.string ⟨#[]⟩,.int .i64 0,.slice A7 0 c7,.slice A8 0 c8] 33 (0,0))).cell? ⟨w5.heap.size,3,none⟩=some (.slice A1 1 c1):=(blk_cell X7.out 3).trans rfl
 have q4:(w7.alloc (.cells #[.string ⟨#[]⟩,.string ⟨#[]⟩,.int .i64 0,.slice A7 0 c7,.slice A8 0 c8] 33 (0,0))).cell? ⟨w5.heap.size,4,none⟩=some (.slice A2 0 c2):=(blk_cell X7.out 4).trans rfl
 clear h5 h6 hb kc2
 simp only [List.length_nil]
 go_wp2_with fail
 go_at_call 27
 refine (http_Host.calls 80 ⟨#[71,69,84]⟩ ⟨#[47]⟩ 1 A1 c1 as_fs A2 c2 [] ⟨#[97]⟩ _ R3.out hl1 ⟨rfl,zb40,fun h=>absurd h (Nat.lt_irrefl 0)⟩ (Nat.zero_le _) as_4).mono ?_
 rintro e w8 ⟨rfl,hb⟩
 have B8:=Aside0.mk (below_step B7.out hb)
 have C9:=Aside0.mk (Kd.C_below C8.out hb)
 have R4:=Aside0.mk (Kd.C_below R3.out hb)
 have X8:=Aside0.mk (blk_below X7.out hb)
 have q0:w8.cell? ⟨w5.heap.size,0,none⟩=some (.string ⟨#[71,69,84]⟩):=(blk_cell X8.out 0).trans rfl
 have q1:w8.cell? ⟨w5.heap.size,1,none⟩=some (.string ⟨#[47]⟩):=(blk_cell X8.out 1).trans rfl
 have q2:w8.cell? ⟨w5.heap.size,2,none⟩=some (.int .i64 1):=(blk_cell X8.out 2).trans rfl
 have q3:w8.cell? ⟨w5.heap.size,3,none⟩=some (.slice A1 1 c1):=(blk_cell X8.out 3).trans rfl
 have q4:w8.cell? ⟨w5.heap.size,4,none⟩=some (.slice A2 0 c2):=(blk_cell X8.out 4).trans rfl
 clear hb
 go_wp2_with fail
 go_at_call 36
 refine (http_WriteRequest.callsB 80 ⟨#[71,69,84]⟩ ⟨#[47]⟩ 1 A1 c1 as_fs A2 c2 [] as_b w8 R4.out hl1 ⟨rfl,zb40,fun h=>absurd h (Nat.lt_irrefl 0)⟩ (Nat.zero_le _) as_5 (HTB.out.below B8.out)).mono ?_
 rintro e w9 ⟨v7,rfl,hB,hb⟩
 obtain ⟨A9,c9,rfl,hl9,hC9⟩:=hB.reads zb46
 have B9:=Aside0.mk (below_step B8.out hb)
 have C10:=Aside0.mk (Kd.C_below C9.out hb)
 have R9:=Aside0.mk hC9
 clear hB hC9 hb
 go_wp2_with fail
 go_at_call 35
 refine (tollbarref01_SameBytes.calls 80 A9 c9 as_b (some ⟨w.heap.size,0,none⟩) 27 as_b true w9 R9.out hl9 C10.out zb46 as_6).mono ?_
 rintro e w10 ⟨rfl,hd⟩
 have hb:Below w9.heap.size w9 w10:=by
  obtain ⟨n,rfl⟩:=hd.out
  exact pw_below_drewN (Below.refl _ _) _
 have B10:=Aside0.mk (below_step B9.out hb)
 have C11:=Aside0.mk (Kd.C_below C10.out hb)
 clear hd hb
 go_wp2_with fail
 go_at_call 25
 refine (http_Waits.calls 80 (some ⟨w10.heap.size,0,none⟩) 69 as_w true _ (C_const w10 5 as_w (69,70) zb46) zb46 as_7).mono ?_
 rintro e w11 ⟨rfl,hb⟩
 have B11:=Aside0.mk (below_step (below_alloc B10.out _) hb)
 have C12:=Aside0.mk (Kd.C_below (Kd.C_alloc C11.out _) hb)
 clear hb
 go_wp2_with fail
 go_at_call 25
 refine (http_Waits.calls 80 (some ⟨w.heap.size,0,none⟩) 27 as_b false w11 C12.out zb46 as_8).mono ?_
 rintro e w12 ⟨rfl,hb⟩
 have B12:=Aside0.mk (below_step B11.out hb)
 clear hb
 go_wp2
 go_ret
 exact ⟨zb183,B12.out⟩
mutual
def tollbarlaw08_HttpBare.l0:Nat → List Int → Int → Bool → Int → Int → Int → Option (Bool)
 | 0,_,_,_,_,_,_=>none
 | k + 1,x0,x1,x2,x8,x10,x11=>if (wrap64 (x11 + 3)) < x8 then (tollbarlaw08_HttpBare.j1 k x0 x1 x2 x8 x10 x11 (x10 == 0)) else (tollbarlaw08_HttpBare.j1 k x0 x1 x2 x8 x10 x11 false)
def tollbarlaw08_HttpBare.j1:Nat → List Int → Int → Bool → Int → Int → Int → Bool → Option (Bool)
 | 0,_,_,_,_,_,_,_=>none
 | k + 1,x0,x1,x2,x8,x10,x11,x38=>if x38=true then (if 0 ≤ x11 then (if x11 ≤ (wrap64 (x11 + 4)) then (if (wrap64 (x11 + 4)) ≤ (x0.length:Int) then (if (strOfNums ((x0.take ((wrap64 (x11 + 4)):Int).toNat).drop (x11:Int).toNat)).toList=([13,10,13,10]:List UInt8) then (tollbarlaw08_HttpBare.l0 k x0 x1 x2 x8 x11 (wrap64 (x11 + 1))) else (tollbarlaw08_HttpBare.l0 k x0 x1 x2 x8 x10 (wrap64 (x11 + 1)))) else (none)) else (none)) else (none)) else (if x10=0 then (some false) else (if 0 ≤ (Int.tmod (Go.bits .and .i64 x1 1048575) x10) then (if (Int.tmod (Go.bits .and .i64 x1 1048575) x10) < (x0.length:Int) then (if (rd x0 (Int.tmod (Go.bits .and .i64 x1 1048575) x10))=10 then (some true) else (if x2=true then (if (rd x0 (Int.tmod (Go.bits .and .i64 x1 1048575) x10))=13 then (some true) else ((some (([]:List Int):List Int)).bind fun y939=>(if (Int.tmod (Go.bits .and .i64 x1 1048575) x10) ≤ (x0.length:Int) then (if y939.length + (x0.take ((Int.tmod (Go.bits .and .i64 x1 1048575) x10):Int).toNat).length < 140737488355328 then ((some (y939 ++ (x0.take ((Int.tmod (Go.bits .and .i64 x1 1048575) x10):Int).toNat):List Int)).bind fun y943=>((some (([13]:List Int):List Int)).bind fun y946=>(if y943.length + y946.length < 140737488355328 then ((some (y943 ++ y946:List Int)).bind fun y949=>(if y949.length + (x0.drop ((Int.tmod (Go.bits .and .i64 x1 1048575) x10):Int).toNat).length < 140737488355328 then ((http_Request.f k (y949 ++ (x0.drop ((Int.tmod (Go.bits .and .i64 x1 1048575) x10):Int).toNat))).bind fun bt956=>(if bt956.2.2.2.2.2.1=0 then (some (bt956.2.2.2.2.2.2 == 400)) else (some false))) else (none))) else (none)))) else (none)) else (none)))) else (if (Int.tmod (Go.bits .and .i64 x1 1048575) x10) > 0 then (if 0 ≤ (wrap64 ((Int.tmod (Go.bits .and .i64 x1 1048575) x10) - 1)) then (if (wrap64 ((Int.tmod (Go.bits .and .i64 x1 1048575) x10) - 1)) < (x0.length:Int) then (if (rd x0 (wrap64 ((Int.tmod (Go.bits .and .i64 x1 1048575) x10) - 1)))=13 then (some true) else ((some (([]:List Int):List Int)).bind fun y969=>(if (Int.tmod (Go.bits .and .i64 x1 1048575) x10) ≤ (x0.length:Int) then (if y969.length + (x0.take ((Int.tmod (Go.bits .and .i64 x1 1048575) x10):Int).toNat).length < 140737488355328 then ((some (y969 ++ (x0.take ((Int.tmod (Go.bits .and .i64 x1 1048575) x10):Int).toNat):List Int)).bind fun y973=>((some (([10]:List Int):List Int)).bind fun y976=>(if y973.length + y976.length < 140737488355328 then ((some (y973 ++ y976:List Int)).bind fun y979=>(if y979.length + (x0.drop ((Int.tmod (Go.bits .and .i64 x1 1048575) x10):Int).toNat).length < 140737488355328 then ((http_Request.f k (y979 ++ (x0.drop ((Int.tmod (Go.bits .and .i64 x1 1048575) x10):Int).toNat))).bind fun bt986=>(if bt986.2.2.2.2.2.1=0 then (some (bt986.2.2.2.2.2.2 == 400)) else (some false))) else (none))) else (none)))) else (none)) else (none)))) else (none)) else (none)) else ((some (([]:List Int):List Int)).bind fun y998=>(if (Int.tmod (Go.bits .and .i64 x1 1048575) x10) ≤ (x0.length:Int) then (if y998.length + (x0.take ((Int.tmod (Go.bits .and .i64 x1 1048575) x10):Int).toNat).length < 140737488355328 then ((some (y998 ++ (x0.take ((Int.tmod (Go.bits .and .i64 x1 1048575) x10):Int).toNat):List Int)).bind fun y1002=>((some (([10]:List Int):List Int)).bind fun y1005=>(if y1002.length + y1005.length < 140737488355328 then ((some (y1002 ++ y1005:List Int)).bind fun y1008=>(if y1008.length + (x0.drop ((Int.tmod (Go.bits .and .i64 x1 1048575) x10):Int).toNat).length < 140737488355328 then ((http_Request.f k (y1008 ++ (x0.drop ((Int.tmod (Go.bits .and .i64 x1 1048575) x10):Int).toNat))).bind fun bt1015=>(if bt1015.2.2.2.2.2.1=0 then (some (bt1015.2.2.2.2.2.2 == 400)) else (some false))) else (none))) else (none)))) else (none)) else (none)))))) else (none)) else (none)))
end
def tollbarlaw08_HttpBare.f (k:Nat) (l0:List Int) (a1:Int) (a2:Bool):Option (Bool):=(tollbarlaw08_asking.f).bind fun t923=>(if t923=true then (if (l0.length:Int) > 2000 then (some true) else ((http_Request.f k l0).bind fun bt924=>(if bt924.2.2.2.2.2.1=0 then (some true) else (tollbarlaw08_HttpBare.l0 k l0 a1 a2 bt924.2.2.2.2.2.1 0 0)))) else (some false))
def tollbarlaw08_HttpBare.T24:Bool × List (List Nat × List Nat):=(true,[([],[]),([],[]),([],[]),([1,2],[1,2]),([0,3],[0,3]),([],[]),([5],[5]),([4,6,4],[4,6]),([],[]),([],[]),([8,9],[8,9]),([7,10,7],[7,10]),([11,11,0,1,2,3,4,5,6,7,8,9,10,11],[11])])
def tollbarlaw08_HttpBare.B24:List Nat:=[0,0,0,6,15,0,32,127,0,0,768,2047,4095]
theorem tollbarlaw08_HttpBare.tab24:rtab .any (opsOf Tryz.f6 24)=tollbarlaw08_HttpBare.T24:=by kernel_rfl
theorem tollbarlaw08_HttpBare.bits24:waitsOk tollbarlaw08_HttpBare.T24.2 tollbarlaw08_HttpBare.B24=true:=by kernel_rfl
set_option maxHeartbeats 8000000 in
set_option maxRecDepth 100000 in
theorem tollbarlaw08_HttpBare.calls (k:Nat) (A0:Option Addr) (c0:Nat) (l0:List Int) (a1:Int) (a2:Bool) (r:Bool) (w:World) (hr0:Kd.C (Kd.int .u8) w A0 l0.length l0) (hc0:l0.length ≤ c0) (h:tollbarlaw08_HttpBare.f k l0 a1 a2=some r) (hr:r=true) (ht:Tabs w) :
 Calls Tryz.prog 6 #[.slice A0 l0.length c0,.int .i64 a1,.bool a2] w fun e w' => e = .returned (.bool r)∧Below w.heap.size w w' := by
 have HTB:=Aside0.mk ht
 clear ht
 have HRT:=Aside0.mk hr
 clear hr
 have hu33:=Tryz.underlying33
 have HR0:=Aside0.mk hr0
 have HC0:=Aside0.mk hc0
 clear hr0 hc0
 have HB:=Aside0.mk (Below.refl w.heap.size w)
 unfold tollbarlaw08_HttpBare.f at h
 have H:=h
 clear h
 replace H:=Option.bind_eq_some_iff.mp H
 obtain ⟨t923,A40,H⟩:=H
 try dsimp only at H
 have A4:=Aside0.mk A40
 clear A40
 by_cases c5:t923=true;rotate_left
 ·replace c5:=Bool.eq_false_iff.mpr c5
  subst c5
  rw [if_neg (show ¬ (false=true) by decide)] at H
  exact absurd ((Option.some.inj H).trans HRT.out) zb46
 subst c5
 rw [if_pos rfl] at H
 by_cases c6:(l0.length:Int) > 2000
 ·rw [if_pos c6] at H
  have c6b0:decide (2000 < (l0.length:Int))=true:=decide_eq_true c6
  have c6b1:decide (2000 < l0.length)=true:=decide_eq_true zb30
  clear c6
  obtain rfl:=Option.some.inj H
  go_enter Tryz.func6,Tryz.ntmps6
  go_wp2_with (first|((with_reducible refine gate_callee (f:=19) rfl ?_);refine goesL_ (some 18) rfl rfl Tryz.func19 zb10 rfl #[] rfl zb1 ?_;(with_reducible refine (tollbarlaw08_asking.calls  true _ A4.out ?hT).mono ?_);(case hT=>exact HTB.out.below zb96);rintro e w7 ⟨rfl,hb⟩;(try clear A4);refine ⟨_,rfl,?_⟩;replace HB:=Aside0.mk (below_step zb0 hb);(try clear hb)))
  go_ret
  exact ⟨zb3,zb0⟩
 rw [if_neg c6] at H
 have c6b0:decide (2000 < (l0.length:Int))=false:=decide_eq_false c6
 have c6b1:decide (2000 < l0.length)=false:=decide_eq_false zb30
 clear c6
 replace H:=Option.bind_eq_some_iff.mp H
 obtain ⟨⟨t74,t75,t76,t73,t71,t933,t934⟩,A80,H⟩:=H
 try dsimp only at H
 have A8:=Aside0.mk A80
 clear A80
 by_cases c9:t933=0
 ·rw [if_pos c9] at H
  have c9b0:=beq_iff_eq.mpr c9
  have c9b1:=bne_eq_false_iff_eq.mpr c9
  clear c9
  obtain rfl:=Option.some.inj H
  go_enter Tryz.func6,Tryz.ntmps6
  go_wp2_with (first|((with_reducible refine gate_callee (f:=19) rfl ?_);refine goesL_ (some 18) rfl rfl Tryz.func19 zb10 rfl #[] rfl zb1 ?_;(with_reducible refine (tollbarlaw08_asking.calls  true _ A4.out ?hT).mono ?_);(case hT=>exact HTB.out.below zb96);rintro e w10 ⟨rfl,hb⟩;(try clear A4);refine ⟨_,rfl,?_⟩;replace HB:=Aside0.mk (below_step zb0 hb);(try clear hb))|((with_reducible refine gate_callee (f:=20) rfl ?_);refine goesL_ (some 25) rfl rfl Tryz.func20 zb10 rfl #[.slice A0 l0.length c0] rfl zb1 ?_;(with_reducible refine (http_Request.calls k _ _ l0 t74 t75 t76 t73 t71 t933 t934 _ ?side1 ?side2 A8.out).mono ?_);(case side1=>exact zb35);(case side2=>exact HC0.out);rintro e w11 ⟨v928,v931,rfl,ho0,ho1,hb⟩;(try clear A8);refine ⟨_,rfl,?_⟩;have HO929:=Aside0.mk (Kd.R_lower ho0 (below_size zb0));have HO932:=Aside0.mk (Kd.R_lower ho1 (below_size zb0));replace HB:=Aside0.mk (below_step zb0 hb);try clear hb ho0 ho1)|((with_reducible refine gate_dst (N:=7) rfl ?_);refine box_event rfl (N:=7) rfl (cs:=#[.string (⟨#[]⟩:ByteArray),.string (⟨#[]⟩:ByteArray),.int .i64 0,.slice none 0 0,.slice none 0 0]) (t:=33) zS ?_;intro gb68 hg w12 hbox hb;replace HO929:=Aside0.mk (Kd.R_below (by (with_reducible repeat (first|apply Kd.R_alloc|apply Kd.R_drewN|apply Kd.R_drew));exact HO929.out) hb);replace HO932:=Aside0.mk (Kd.R_below (by (with_reducible repeat (first|apply Kd.R_alloc|apply Kd.R_drewN|apply Kd.R_drew));exact HO932.out) hb);have BK68:=Aside0.mk (hbox);have GW68:=zG hg zb0;have GE68:=GW68;replace HB:=Aside0.mk (below_step zb0 hb);clear hb hbox hg;obtain ⟨hcz13_0,hcz13_1,hcz13_2,hcz13_3,hcz13_4,hfz13_0,hfz13_1,hfz13_2,hfz13_3,hfz13_4⟩:=zq5 BK68.out;obtain ⟨Ao14,co14,eo14⟩:=Kd.R_slice HO929.out;subst eo14;obtain ⟨Ao15,co15,eo15⟩:=Kd.R_slice HO932.out;subst eo15))
  go_ret
  exact ⟨zb3,zb2⟩
 rw [if_neg c9] at H
 have c9b0:=beq_eq_false_iff_ne.mpr c9
 have c9b1:=bne_iff_ne.mpr c9
 have H' := Aside0.mk H
 clear H
 go_enter Tryz.func6,Tryz.ntmps6
 go_wp2_with (first|((with_reducible refine gate_callee (f:=19) rfl ?_);refine goesL_ (some 18) rfl rfl Tryz.func19 zb10 rfl #[] rfl zb1 ?_;(with_reducible refine (tollbarlaw08_asking.calls  true _ A4.out ?hT).mono ?_);(case hT=>exact HTB.out.below zb96);rintro e w16 ⟨rfl,hb⟩;(try clear A4);refine ⟨_,rfl,?_⟩;replace HB:=Aside0.mk (below_step zb0 hb);(try clear hb))|((with_reducible refine gate_callee (f:=20) rfl ?_);refine goesL_ (some 25) rfl rfl Tryz.func20 zb10 rfl #[.slice A0 l0.length c0] rfl zb1 ?_;(with_reducible refine (http_Request.calls k _ _ l0 t74 t75 t76 t73 t71 t933 t934 _ ?side1 ?side2 A8.out).mono ?_);(case side1=>exact zb35);(case side2=>exact HC0.out);rintro e w17 ⟨v928,v931,rfl,ho0,ho1,hb⟩;(try clear A8);refine ⟨_,rfl,?_⟩;have HO929:=Aside0.mk (Kd.R_lower ho0 (below_size zb0));have HO932:=Aside0.mk (Kd.R_lower ho1 (below_size zb0));replace HB:=Aside0.mk (below_step zb0 hb);try clear hb ho0 ho1)|((with_reducible refine gate_dst (N:=7) rfl ?_);refine box_event rfl (N:=7) rfl (cs:=#[.string (⟨#[]⟩:ByteArray),.string (⟨#[]⟩:ByteArray),.int .i64 0,.slice none 0 0,.slice none 0 0]) (t:=33) zS ?_;intro gb68 hg w18 hbox hb;replace HO929:=Aside0.mk (Kd.R_below (by (with_reducible repeat (first|apply Kd.R_alloc|apply Kd.R_drewN|apply Kd.R_drew));exact HO929.out) hb);replace HO932:=Aside0.mk (Kd.R_below (by (with_reducible repeat (first|apply Kd.R_alloc|apply Kd.R_drewN|apply Kd.R_drew));exact HO932.out) hb);have BK68:=Aside0.mk (hbox);have GW68:=zG hg zb0;have GE68:=GW68;replace HB:=Aside0.mk (below_step zb0 hb);clear hb hbox hg;obtain ⟨hcz19_0,hcz19_1,hcz19_2,hcz19_3,hcz19_4,hfz19_0,hfz19_1,hfz19_2,hfz19_3,hfz19_4⟩:=zq5 BK68.out;obtain ⟨Ao20,co20,eo20⟩:=Kd.R_slice HO929.out;subst eo20;obtain ⟨Ao21,co21,eo21⟩:=Kd.R_slice HO932.out;subst eo21))
 go_loopg [10,11] k (fun kq v10 v11 w' => ∃ (x10_1:Int) (x11_1:Int),v10 = .int .i64 x10_1∧v11 = .int .i64 x11_1∧Aside0 (tollbarlaw08_HttpBare.l0 kq l0 a1 a2 t933 x10_1 x11_1=some r)∧Aside0 (kq ≤ k)∧Aside0 (Kd.R k55 55 w' w.heap.size (fun _=>True) (.slice Ao20 t73.length co20) t73)∧Aside0 (Kd.R (Kd.int .u8) 5 w' w.heap.size (fun _=>True) (.slice Ao21 t71.length co21) t71)∧Aside0 (w'.heap[gb68]? = some (.cells #[.string t74,.string t75,.int .i64 t76,(.slice Ao20 t73.length co20),(.slice Ao21 t71.length co21)] 33 (0,0)))∧Aside0 (Below w.heap.size w w'))
 case atStart=>exact ⟨(0),(0),zb8,zb8,H',⟨Nat.le_refl _⟩,⟨by (with_reducible repeat (first|apply Kd.R_alloc|apply Kd.R_drewN|apply Kd.R_drew));exact Kd.R_mono (Kd.R_far (p:=⟨gb68,4,none⟩) (Kd.R_far (p:=⟨gb68,3,none⟩) (Kd.R_far (p:=⟨gb68,2,none⟩) (Kd.R_far (p:=⟨gb68,1,none⟩) (Kd.R_far (p:=⟨gb68,0,none⟩) (Kd.R_types HO929.out BK68.out (by decide)) (fun _ hk=>hk.2) (.string t74)) (fun _ hk=>hk.2) (.string t75)) (fun _ hk=>hk.2) (.int .i64 t76)) (fun _ hk=>hk.2) (.slice Ao20 t73.length co20)) (fun _ hk=>hk.2) (.slice Ao21 t71.length co21)) (fun _ hk=>trivial)⟩,⟨by (with_reducible repeat (first|apply Kd.R_alloc|apply Kd.R_drewN|apply Kd.R_drew));exact Kd.R_mono (Kd.R_far (p:=⟨gb68,4,none⟩) (Kd.R_far (p:=⟨gb68,3,none⟩) (Kd.R_far (p:=⟨gb68,2,none⟩) (Kd.R_far (p:=⟨gb68,1,none⟩) (Kd.R_far (p:=⟨gb68,0,none⟩) (Kd.R_types HO932.out BK68.out (by decide)) (fun _ hk=>hk.2) (.string t74)) (fun _ hk=>hk.2) (.string t75)) (fun _ hk=>hk.2) (.int .i64 t76)) (fun _ hk=>hk.2) (.slice Ao20 t73.length co20)) (fun _ hk=>hk.2) (.slice Ao21 t71.length co21)) (fun _ hk=>trivial)⟩,⟨by (with_reducible repeat (first|refine blk_drewN ?_ _|refine blk_drew ?_|refine blk_alloc ?_ _));refine blk_put (cs:=#[.string t74,.string t75,.int .i64 t76,.slice Ao20 t73.length co20,.slice none 0 0]) ?_ 4 _ rfl;(with_reducible repeat (first|refine blk_drewN ?_ _|refine blk_drew ?_|refine blk_alloc ?_ _));refine blk_put (cs:=#[.string t74,.string t75,.int .i64 t76,.slice none 0 0,.slice none 0 0]) ?_ 3 _ rfl;(with_reducible repeat (first|refine blk_drewN ?_ _|refine blk_drew ?_|refine blk_alloc ?_ _));refine blk_put (cs:=#[.string t74,.string t75,.int .i64 0,.slice none 0 0,.slice none 0 0]) ?_ 2 _ rfl;(with_reducible repeat (first|refine blk_drewN ?_ _|refine blk_drew ?_|refine blk_alloc ?_ _));refine blk_put (cs:=#[.string t74,.string (⟨#[]⟩:ByteArray),.int .i64 0,.slice none 0 0,.slice none 0 0]) ?_ 1 _ rfl;(with_reducible repeat (first|refine blk_drewN ?_ _|refine blk_drew ?_|refine blk_alloc ?_ _));refine blk_put (cs:=#[.string (⟨#[]⟩:ByteArray),.string (⟨#[]⟩:ByteArray),.int .i64 0,.slice none 0 0,.slice none 0 0]) ?_ 0 _ rfl;(with_reducible repeat (first|refine blk_drewN ?_ _|refine blk_drew ?_|refine blk_alloc ?_ _));exact BK68.out⟩,⟨zb2⟩⟩
 case round =>
  clear H'
  try clear c1
  try clear c2
  try clear p2
  try clear c5
  try clear c6
  try clear c6b0
  try clear c6b1
  try clear c9
  try clear c9b0
  try clear c9b1
  try clear c19
  try clear c20
  try clear hcz13_0
  try clear hcz13_1
  try clear hcz13_2
  try clear hcz13_3
  try clear hcz13_4
  try clear hcz19_0
  try clear hcz19_1
  try clear hcz19_2
  try clear hcz19_3
  try clear hcz19_4
  try clear hfz13_0
  try clear hfz13_1
  try clear hfz13_2
  try clear hfz13_3
  try clear hfz13_4
  try clear hfz19_0
  try clear hfz19_1
  try clear hfz19_2
  try clear hfz19_3
  try clear hfz19_4
  obtain ⟨x10_1,x11_1,rfl,rfl,HA,HK1,HO_70,HO_69,BK68,HB⟩:=hrel
  cases gk with
  | zero=>exact absurd HA.out (by simp [tollbarlaw08_HttpBare.l0])
  | succ k1 =>
   have H:=HA.out
   clear HA
   simp only [tollbarlaw08_HttpBare.l0] at H
   have HC22:=Aside0.mk H
   clear H
   go_upto_region 10 with (fail)
   go_cut [38] (fun v38 wc => ∃ (kq:Nat) (x38_21:Bool),v38 = .bool x38_21∧Aside0 (tollbarlaw08_HttpBare.j1 kq l0 a1 a2 t933 x10_1 x11_1 x38_21=some r)∧Aside0 (kq ≤ k1)∧Aside0 (Kd.R k55 55 wc w.heap.size (fun _=>True) (.slice Ao20 t73.length co20) t73)∧Aside0 (Kd.R (Kd.int .u8) 5 wc w.heap.size (fun _=>True) (.slice Ao21 t71.length co21) t71)∧Aside0 (wc.heap[gb68]? = some (.cells #[.string t74,.string t75,.int .i64 t76,(.slice Ao20 t73.length co20),(.slice Ao21 t71.length co21)] 33 (0,0)))∧Aside0 (Below w.heap.size w wc))
   case first =>
    have H:=HC22.out
    clear HC22
    by_cases c23:(wrap64 (x11_1 + 3)) < t933
    ·rw [if_pos c23] at H
     have c23b0:=decide_eq_true c23
     clear c23
     (first|rw [c23b0]|(simp only [i64_w,i32_w];rw [c23b0])|skip)
     have H' := Aside0.mk H
     clear H
     go_wp2
     go_meet
     case rel=>exact ⟨_,((x10_1 == 0)),zb8,H',⟨zb131⟩,⟨zb12⟩,⟨zb7⟩,⟨zb9⟩,⟨zb2⟩⟩
    rw [if_neg c23] at H
    have c23b0:=decide_eq_false c23
    clear c23
    (first|rw [c23b0]|(simp only [i64_w,i32_w];rw [c23b0])|skip)
    have H' := Aside0.mk H
    clear H
    go_wp2
    go_meet
    case rel=>exact ⟨_,(false),zb8,H',⟨zb131⟩,⟨zb12⟩,⟨zb7⟩,⟨zb9⟩,⟨zb2⟩⟩
   case rest =>
    clear HC22
    try clear c1
    try clear c2
    try clear p2
    try clear c5
    try clear c6
    try clear c6b0
    try clear c6b1
    try clear p6
    try clear c9
    try clear c9b0
    try clear c9b1
    try clear c19
    try clear c20
    try clear c23
    try clear c23b0
    try clear hcz13_0
    try clear hcz13_1
    try clear hcz13_2
    try clear hcz13_3
    try clear hcz13_4
    try clear hcz19_0
    try clear hcz19_1
    try clear hcz19_2
    try clear hcz19_3
    try clear hcz19_4
    try clear hfz13_0
    try clear hfz13_1
    try clear hfz13_2
    try clear hfz13_3
    try clear hfz13_4
    try clear hfz19_0
    try clear hfz19_1
    try clear hfz19_2
    try clear hfz19_3
    try clear hfz19_4
    try clear p2
    obtain ⟨kq,x38_21,rfl,HA,HJ21,HO_70,HO_69,BK68,HB⟩:=hcut
    cases kq with
    | zero=>exact absurd HA.out (by simp [tollbarlaw08_HttpBare.j1])
    | succ kj21 =>
     have H:=HA.out
     clear HA
     simp only [tollbarlaw08_HttpBare.j1] at H
     by_cases c24:x38_21=true
     ·subst c24
      rw [if_pos rfl] at H
      by_cases c25:0 ≤ x11_1;rotate_left
      ·rw [if_neg c25] at H
       exact absurd H zb40
      rw [if_pos c25] at H
      have c25b0:=eq_true c25
      have c25b1:=decide_eq_true c25
      clear c25
      by_cases c26:x11_1 ≤ (wrap64 (x11_1 + 4))
      ·rw [if_pos c26] at H
       have c26b0:=eq_true c26
       have c26b1:=decide_eq_true c26
       by_cases c27:(wrap64 (x11_1 + 4)) ≤ (l0.length:Int);rotate_left
       ·rw [if_neg c27] at H
        exact absurd H zb40
       rw [if_pos c27] at H
       have c27b0:=eq_true c27
       have c27b1:=decide_eq_true c27
       by_cases c28:(strOfNums ((l0.take ((wrap64 (x11_1 + 4)):Int).toNat).drop (x11_1:Int).toNat)).toList=([13,10,13,10]:List UInt8);rotate_left
       ·rw [if_neg c28] at H
        have c28b0:=beq_eq_false_iff_ne.mpr c28
        have c28b1:=bne_iff_ne.mpr c28
        have H' := Aside0.mk H
        clear H
        obtain ⟨i031,hi031,_,hsz31,_⟩:=info_parts info5
        obtain ⟨A31,hcut31,hA31,hC31⟩:=print_mid_of (P:=Tryz.prog) (Value.int .u8) 0 23 5 .i64 .i64 Tryz.underlying23 hi031 hsz31 A0 c0 l0 x11_1 (wrap64 (x11_1 + 4)) (of_decide_eq_true zb5) zb151 (of_decide_eq_true zb5) HC0.out
        have HR936:=Aside0.mk (Kd.C_of_reads (h1:=fun _=>rfl) (hA31 _ (Kd.reads_of_C HR0.out)))
        have HC936:=Aside0.mk hC31
        clear hA31 hC31 hi031 hsz31
        have hcv32:=Kd.C_string (P:=Tryz.prog) (A:=A31) (c:=(c0 - x11_1.toNat)) Tryz.underlying23 Tryz.underlying5 Tryz.underlying9 (Kd.C_below HR936.out HB.out)
        have hlen32:((l0.take ((wrap64 (x11_1 + 4)):Int).toNat).drop (x11_1:Int).toNat).length=((wrap64 (x11_1 + 4)):Int).toNat - (x11_1:Int).toNat:=by have q1_:((wrap64 (x11_1 + 4)):Int) ≤ (l0.length:Int):=of_decide_eq_true zb5;rw [List.length_drop,List.length_take];omega
        rw [hlen32] at hcv32
        clear hlen32
        go_wp2
        go_roundg kj21
        case measure=>have:=HK1.out;have:=HJ21.out;omega
        case rel=>exact ⟨(x10_1),(wrap64 (x11_1 + 1)),zb8,zb8,H',⟨by have:=HK1.out;have:=HJ21.out;omega⟩,⟨zb12⟩,⟨zb7⟩,⟨zb9⟩,⟨zb2⟩⟩
       rw [if_pos c28] at H
       have c28b0:=beq_iff_eq.mpr c28
       have c28b1:=bne_eq_false_iff_eq.mpr c28
       clear c28
       have H' := Aside0.mk H
       clear H
       obtain ⟨i029,hi029,_,hsz29,_⟩:=info_parts info5
       obtain ⟨A29,hcut29,hA29,hC29⟩:=print_mid_of (P:=Tryz.prog) (Value.int .u8) 0 23 5 .i64 .i64 Tryz.underlying23 hi029 hsz29 A0 c0 l0 x11_1 (wrap64 (x11_1 + 4)) (of_decide_eq_true zb5) zb151 (of_decide_eq_true zb5) HC0.out
       have HR936:=Aside0.mk (Kd.C_of_reads (h1:=fun _=>rfl) (hA29 _ (Kd.reads_of_C HR0.out)))
       have HC936:=Aside0.mk hC29
       clear hA29 hC29 hi029 hsz29
       have hcv30:=Kd.C_string (P:=Tryz.prog) (A:=A29) (c:=(c0 - x11_1.toNat)) Tryz.underlying23 Tryz.underlying5 Tryz.underlying9 (Kd.C_below HR936.out HB.out)
       have hlen30:((l0.take ((wrap64 (x11_1 + 4)):Int).toNat).drop (x11_1:Int).toNat).length=((wrap64 (x11_1 + 4)):Int).toNat - (x11_1:Int).toNat:=by have q1_:((wrap64 (x11_1 + 4)):Int) ≤ (l0.length:Int):=of_decide_eq_true zb5;rw [List.length_drop,List.length_take];omega
       rw [hlen30] at hcv30
       clear hlen30
       go_wp2
       go_roundg kj21
       case measure=>have:=HK1.out;have:=HJ21.out;omega
       case rel=>exact ⟨(x11_1),(wrap64 (x11_1 + 1)),zb8,zb8,H',⟨by have:=HK1.out;have:=HJ21.out;omega⟩,⟨zb12⟩,⟨zb7⟩,⟨zb9⟩,⟨zb2⟩⟩
      ·rw [if_neg c26] at H
       exact absurd H zb40
     replace c24:=Bool.eq_false_iff.mpr c24
     subst c24
     rw [if_neg (show ¬ (false=true) by decide)] at H
     by_cases c33:x10_1=0
     ·rw [if_pos c33] at H
      have c33b0:=beq_iff_eq.mpr c33
      have c33b1:=bne_eq_false_iff_eq.mpr c33
      clear c33
      exact absurd ((Option.some.inj H).trans HRT.out) zb46
     rw [if_neg c33] at H
     have c33b0:=beq_eq_false_iff_ne.mpr c33
     have c33b1:=bne_iff_ne.mpr c33
     obtain ⟨ji34,hji34⟩ : ∃ j_:Int,(Int.tmod (Go.bits .and .i64 a1 1048575) x10_1)=j_:=⟨_,rfl⟩
     replace H:(if 0 ≤ (ji34) then (if (ji34) < (l0.length:Int) then (if (rd l0 (ji34))=10 then (some true) else (if a2=true then (if (rd l0 (ji34))=13 then (some true) else ((some (([]:List Int):List Int)).bind fun y939=>(if (ji34) ≤ (l0.length:Int) then (if y939.length + (l0.take ((ji34):Int).toNat).length < 140737488355328 then ((some (y939 ++ (l0.take ((ji34):Int).toNat):List Int)).bind fun y943=>((some (([13]:List Int):List Int)).bind fun y84=>(if y943.length + y84.length < 140737488355328 then ((some (y943 ++ y84:List Int)).bind fun y949=>(if y949.length + (l0.drop ((ji34):Int).toNat).length < 140737488355328 then ((http_Request.f kj21 (y949 ++ (l0.drop ((ji34):Int).toNat))).bind fun bt956=>(if bt956.2.2.2.2.2.1=0 then (some (bt956.2.2.2.2.2.2 == 400)) else (some false))) else (none))) else (none)))) else (none)) else (none)))) else (if (ji34) > 0 then (if 0 ≤ (wrap64 ((ji34) - 1)) then (if (wrap64 ((ji34) - 1)) < (l0.length:Int) then (if (rd l0 (wrap64 ((ji34) - 1)))=13 then (some true) else ((some (([]:List Int):List Int)).bind fun y969=>(if (ji34) ≤ (l0.length:Int) then (if y969.length + (l0.take ((ji34):Int).toNat).length < 140737488355328 then ((some (y969 ++ (l0.take ((ji34):Int).toNat):List Int)).bind fun y973=>((some (([10]:List Int):List Int)).bind fun y79=>(if y973.length + y79.length < 140737488355328 then ((some (y973 ++ y79:List Int)).bind fun y979=>(if y979.length + (l0.drop ((ji34):Int).toNat).length < 140737488355328 then ((http_Request.f kj21 (y979 ++ (l0.drop ((ji34):Int).toNat))).bind fun bt986=>(if bt986.2.2.2.2.2.1=0 then (some (bt986.2.2.2.2.2.2 == 400)) else (some false))) else (none))) else (none)))) else (none)) else (none)))) else (none)) else (none)) else ((some (([]:List Int):List Int)).bind fun y998=>(if (ji34) ≤ (l0.length:Int) then (if y998.length + (l0.take ((ji34):Int).toNat).length < 140737488355328 then ((some (y998 ++ (l0.take ((ji34):Int).toNat):List Int)).bind fun y81=>((some (([10]:List Int):List Int)).bind fun y77=>(if y81.length + y77.length < 140737488355328 then ((some (y81 ++ y77:List Int)).bind fun y82=>(if y82.length + (l0.drop ((ji34):Int).toNat).length < 140737488355328 then ((http_Request.f kj21 (y82 ++ (l0.drop ((ji34):Int).toNat))).bind fun bt1015=>(if bt1015.2.2.2.2.2.1=0 then (some (bt1015.2.2.2.2.2.2 == 400)) else (some false))) else (none))) else (none)))) else (none)) else (none)))))) else (none)) else (none))=some r:=by first|(rw [hji34] at H;exact H)|(simp only [hji34] at H ⊢;exact H)
     by_cases c35:0 ≤ (ji34)
     ·rw [if_pos c35] at H
      have c35b0:=decide_eq_true c35
      clear c35
      by_cases c36:(ji34) < (l0.length:Int)
      ·rw [if_pos c36] at H
       have c36b0:=decide_eq_true c36
       clear c36
       by_cases c37:(rd l0 (ji34))=10
       ·rw [if_pos c37] at H
        have c37b0:=beq_iff_eq.mpr c37
        have c37b1:=bne_eq_false_iff_eq.mpr c37
        clear c37
        obtain rfl:=Option.some.inj H
        have p72:0 ≤ ((ji34):Int):=of_decide_eq_true zb5
        have q72:(ji34) < (l0.length:Int):=of_decide_eq_true zb5
        obtain ⟨ad72,e72,hx72_0⟩:=Kd.at_int HR0.out (ji34) p72 q72
        cases e72
        replace hx72_0:=(HB.out.cell (World.block_lt_of_cell? w _ hx72_0)).trans hx72_0
        replace p72:=eq_true p72
        replace q72:=eq_true q72
        go_wp2
        go_ret
        exact ⟨zb111,zb2⟩
       rw [if_neg c37] at H
       have c37b0:=beq_eq_false_iff_ne.mpr c37
       have c37b1:=bne_iff_ne.mpr c37
       by_cases c38:a2=true
       ·subst c38
        rw [if_pos rfl] at H
        by_cases c39:(rd l0 (ji34))=13
        ·rw [if_pos c39] at H
         have c39b0:=beq_iff_eq.mpr c39
         have c39b1:=bne_eq_false_iff_eq.mpr c39
         clear c39
         obtain rfl:=Option.some.inj H
         have p72:0 ≤ ((ji34):Int):=of_decide_eq_true zb5
         have q72:(ji34) < (l0.length:Int):=of_decide_eq_true zb5
         obtain ⟨ad72,e72,hx72_0⟩:=Kd.at_int HR0.out (ji34) p72 q72
         cases e72
         replace hx72_0:=(HB.out.cell (World.block_lt_of_cell? w _ hx72_0)).trans hx72_0
         replace p72:=eq_true p72
         replace q72:=eq_true q72
         have p938:0 ≤ ((ji34):Int):=of_decide_eq_true zb5
         have q938:(ji34) < (l0.length:Int):=of_decide_eq_true zb5
         obtain ⟨ad938,e938,hx938_0⟩:=Kd.at_int HR0.out (ji34) p938 q938
         obtain rfl:ad72=ad938:=(by injection e938)
         replace hx938_0:=(HB.out.cell (World.block_lt_of_cell? w _ hx938_0)).trans hx938_0
         replace p938:=eq_true p938
         replace q938:=eq_true q938
         go_wp2
         go_ret
         exact ⟨zb111,zb2⟩
        rw [if_neg c39] at H
        have c39b0:=beq_eq_false_iff_ne.mpr c39
        have c39b1:=bne_iff_ne.mpr c39
        obtain ⟨y939,hy939⟩ : ∃ y_:List Int,y_=(([]:List Int)):=⟨_,rfl⟩
        replace H:(if (ji34) ≤ (l0.length:Int) then (if y939.length + (l0.take ((ji34):Int).toNat).length < 140737488355328 then ((some (y939 ++ (l0.take ((ji34):Int).toNat):List Int)).bind fun y943=>((some (([13]:List Int):List Int)).bind fun y84=>(if y943.length + y84.length < 140737488355328 then ((some (y943 ++ y84:List Int)).bind fun y949=>(if y949.length + (l0.drop ((ji34):Int).toNat).length < 140737488355328 then ((http_Request.f kj21 (y949 ++ (l0.drop ((ji34):Int).toNat))).bind fun bt956=>(if bt956.2.2.2.2.2.1=0 then (some (bt956.2.2.2.2.2.2 == 400)) else (some false))) else (none))) else (none)))) else (none)) else (none))=some r:=by first|(rw [hy939];with_reducible exact H)|(have H2_:=(Option.bind_some _ _).symm.trans H;rw [hy939];with_reducible exact H2_)|(have H2_:=(Option.bind_some _ _).symm.trans H;with_reducible exact H2_)|with_reducible exact H|(rw [hy939];exact H)|exact H
        have Ny939:=Aside0.mk hy939
        clear hy939
        have c40b0:=eq_true (of_decide_eq_true zb5:0 ≤ (ji34))
        by_cases c41:(ji34) ≤ (l0.length:Int);rotate_left
        ·rw [if_neg c41] at H
         exact absurd H zb40
        rw [if_pos c41] at H
        have c41b0:=eq_true c41
        have c41b1:=decide_eq_true c41
        clear c41
        by_cases c42:y939.length + (l0.take ((ji34):Int).toNat).length < 140737488355328
        ·rw [if_pos c42] at H
         have LMc42:=Aside0.mk c42
         clear c42
         obtain ⟨y943,hy943⟩ : ∃ y_:List Int,y_=(y939 ++ (l0.take ((ji34):Int).toNat)):=⟨_,rfl⟩
         replace H:((some (([13]:List Int):List Int)).bind fun y84=>(if y943.length + y84.length < 140737488355328 then ((some (y943 ++ y84:List Int)).bind fun y949=>(if y949.length + (l0.drop ((ji34):Int).toNat).length < 140737488355328 then ((http_Request.f kj21 (y949 ++ (l0.drop ((ji34):Int).toNat))).bind fun bt956=>(if bt956.2.2.2.2.2.1=0 then (some (bt956.2.2.2.2.2.2 == 400)) else (some false))) else (none))) else (none)))=some r:=by first|(rw [hy943];with_reducible exact H)|(have H2_:=(Option.bind_some _ _).symm.trans H;rw [hy943];with_reducible exact H2_)|(have H2_:=(Option.bind_some _ _).symm.trans H;with_reducible exact H2_)|with_reducible exact H|(rw [hy943];exact H)|exact H
         have Ny943:=Aside0.mk hy943
         clear hy943
         obtain ⟨y84,hy84⟩ : ∃ y_:List Int,y_=(([13]:List Int)):=⟨_,rfl⟩
         replace H:(if y943.length + y84.length < 140737488355328 then ((some (y943 ++ y84:List Int)).bind fun y949=>(if y949.length + (l0.drop ((ji34):Int).toNat).length < 140737488355328 then ((http_Request.f kj21 (y949 ++ (l0.drop ((ji34):Int).toNat))).bind fun bt956=>(if bt956.2.2.2.2.2.1=0 then (some (bt956.2.2.2.2.2.2 == 400)) else (some false))) else (none))) else (none))=some r:=by first|(rw [hy84];with_reducible exact H)|(have H2_:=(Option.bind_some _ _).symm.trans H;rw [hy84];with_reducible exact H2_)|(have H2_:=(Option.bind_some _ _).symm.trans H;with_reducible exact H2_)|with_reducible exact H|(rw [hy84];exact H)|exact H
         have Ny84:=Aside0.mk hy84
         clear hy84
         by_cases c43:y943.length + y84.length < 140737488355328;rotate_left
         ·rw [if_neg c43] at H
          exact absurd H zb40
         rw [if_pos c43] at H
         have LMc43:=Aside0.mk c43
         clear c43
         obtain ⟨y949,hy949⟩ : ∃ y_:List Int,y_=(y943 ++ y84):=⟨_,rfl⟩
         replace H:(if y949.length + (l0.drop ((ji34):Int).toNat).length < 140737488355328 then ((http_Request.f kj21 (y949 ++ (l0.drop ((ji34):Int).toNat))).bind fun bt956=>(if bt956.2.2.2.2.2.1=0 then (some (bt956.2.2.2.2.2.2 == 400)) else (some false))) else (none))=some r:=by first|(rw [hy949];with_reducible exact H)|(have H2_:=(Option.bind_some _ _).symm.trans H;rw [hy949];with_reducible exact H2_)|(have H2_:=(Option.bind_some _ _).symm.trans H;with_reducible exact H2_)|with_reducible exact H|(rw [hy949];exact H)|exact H
         have Ny949:=Aside0.mk hy949
         clear hy949
         have c44b0:=eq_true (of_decide_eq_true zb5:0 ≤ (ji34))
         have c45b0:=eq_true (of_decide_eq_true zb5:(ji34) ≤ (l0.length:Int))
         by_cases c46:y949.length + (l0.drop ((ji34):Int).toNat).length < 140737488355328
         ·rw [if_pos c46] at H
          have LMc46:=Aside0.mk c46
          clear c46
          obtain ⟨y953,hy953⟩ : ∃ y_:List Int,y_=(y949 ++ (l0.drop ((ji34):Int).toNat)):=⟨_,rfl⟩
          replace H:((http_Request.f kj21 y953).bind fun bt956=>(if bt956.2.2.2.2.2.1=0 then (some (bt956.2.2.2.2.2.2 == 400)) else (some false)))=some r:=by first|(rw [hy953];with_reducible exact H)|(have H2_:=(Option.bind_some _ _).symm.trans H;rw [hy953];with_reducible exact H2_)|(have H2_:=(Option.bind_some _ _).symm.trans H;with_reducible exact H2_)|with_reducible exact H|(rw [hy953];exact H)|exact H
          have Ny953:=Aside0.mk hy953
          clear hy953
          replace H:=Option.bind_eq_some_iff.mp H
          obtain ⟨⟨t956,t957,t958,t959,t962,t965,t966⟩,A470,H⟩:=H
          try dsimp only at H
          have A47:=Aside0.mk A470
          clear A470
          by_cases c48:t965=0;rotate_left
          ·rw [if_neg c48] at H
           have c48b0:=beq_eq_false_iff_ne.mpr c48
           have c48b1:=bne_iff_ne.mpr c48
           exact absurd ((Option.some.inj H).trans HRT.out) zb46
          rw [if_pos c48] at H
          have c48b0:=beq_iff_eq.mpr c48
          have c48b1:=bne_eq_false_iff_eq.mpr c48
          clear c48
          obtain rfl:=Option.some.inj H
          have p72:0 ≤ ((ji34):Int):=of_decide_eq_true zb5
          have q72:(ji34) < (l0.length:Int):=of_decide_eq_true zb5
          obtain ⟨ad72,e72,hx72_0⟩:=Kd.at_int HR0.out (ji34) p72 q72
          cases e72
          replace hx72_0:=(HB.out.cell (World.block_lt_of_cell? w _ hx72_0)).trans hx72_0
          replace p72:=eq_true p72
          replace q72:=eq_true q72
          have p938:0 ≤ ((ji34):Int):=of_decide_eq_true zb5
          have q938:(ji34) < (l0.length:Int):=of_decide_eq_true zb5
          obtain ⟨ad938,e938,hx938_0⟩:=Kd.at_int HR0.out (ji34) p938 q938
          obtain rfl:ad72=ad938:=(by injection e938)
          replace hx938_0:=(HB.out.cell (World.block_lt_of_cell? w _ hx938_0)).trans hx938_0
          replace p938:=eq_true p938
          replace q938:=eq_true q938
          try go_wp2
          replace HO_70:=Aside0.mk (Kd.R_drew HO_70.out)
          replace HO_69:=Aside0.mk (Kd.R_drew HO_69.out)
          replace BK68:=Aside0.mk (blk_drew BK68.out)
          replace HB:=Aside0.mk (below_drew1 HB.out)
          obtain ⟨i050,hi050,_,hsz50,_⟩:=info_parts info5
          obtain ⟨hcut50,hA50,hC50⟩:=print_take_of (P:=Tryz.prog) (Value.int .u8) 0 23 5 .i64 Tryz.underlying23 hi050 hsz50 (some ad72) c0 l0 (ji34) (of_decide_eq_true zb5) (of_decide_eq_true zb5) HC0.out
          have HR942:=Aside0.mk (Kd.C_of_reads (h1:=fun _=>rfl) (hA50 _ (Kd.reads_of_C HR0.out)))
          have HC942:=Aside0.mk hC50
          clear hA50 hC50 hi050 hsz50
          obtain ⟨i051,hi051,_,hsz51,_⟩:=info_parts info5
          obtain ⟨A51,hcut51,hA51,hC51⟩:=print_drop_of (P:=Tryz.prog) (Value.int .u8) 0 23 5 .i64 Tryz.underlying23 hi051 hsz51 (some ad72) c0 l0 (ji34) (of_decide_eq_true zb5) (of_decide_eq_true zb5) HC0.out
          have HR952:=Aside0.mk (Kd.C_of_reads (h1:=fun _=>rfl) (hA51 _ (Kd.reads_of_C HR0.out)))
          have HC952:=Aside0.mk hC51
          clear hA51 hC51 hi051 hsz51
          refine start_ (n:=13) (S:=fun w' => True) (ds:=[]) (zl 13 0) zb10 rfl rfl trivial (fun hHeld=>?_);refine with_tabW tollbarlaw08_HttpBare.tab24 tollbarlaw08_HttpBare.bits24 (fun HT_ HW_=>?_)
          generalize wc.drew=w49 at HO_70 HO_69 BK68 HB HR942 HR952 hHeld ⊢
          refine zpu 1 (N:=some 86) (zl 13 2) HT_.out rfl rfl ?_
          refine zpu 2 (N:=some 87) (zl 13 6) HT_.out rfl rfl ?_
          refine zpu 3 (N:=some 88) (zl 13 14) HT_.out rfl rfl ?_
          refine zpu 5 (N:=some 90) (zl 13 46) HT_.out rfl rfl ?_
          refine zpu 8 (N:=some 93) (zl 13 302) HT_.out rfl rfl ?_
          refine zpu 9 (N:=some 94) (zl 13 814) HT_.out rfl rfl ?_
          refine zpu 10 (N:=some 95) (zl 13 1838) HT_.out rfl rfl ?_
          refine join_ (σ:=Value × Value × Value) 3 (zl 13 1919) (fun s_=>[(85,s_.1),(89,s_.2.1),(91,s_.2.2)]) (fun s_ w' => (Kd.R (Kd.int .u8) 5 w' w.heap.size (fun k_=>some k_ ≠ (s_.2.2:Value).ownBlock∧some k_ ≠ (.slice Ao21 t71.length co21:Value).ownBlock) s_.2.1 y943)∧(Kd.R (Kd.int .u8) 5 w' w.heap.size (fun k_=>some k_ ≠ (s_.2.1:Value).ownBlock∧some k_ ≠ (.slice Ao21 t71.length co21:Value).ownBlock) s_.2.2 y84)∧(Kd.R k55 55 w' w.heap.size (fun _=>True) (.slice Ao20 t73.length co20) t73)∧(Kd.R (Kd.int .u8) 5 w' w.heap.size (fun k_=>some k_ ≠ (s_.2.1:Value).ownBlock∧some k_ ≠ (s_.2.2:Value).ownBlock) (.slice Ao21 t71.length co21) t71)∧(w'.heap[gb68]? = some (.cells #[.string t74,.string t75,.int .i64 t76,.slice Ao20 t73.length co20,.slice Ao21 t71.length co21] 33 (0,0)))∧(Below w.heap.size w w')) ?_ ?_
          rotate_left
          ·intro hCont
           refine two_ (i:=0) (j:=6) (Ni:=some 85) (Nj:=some 91) (zl 13 1839) (zl 13 1902) rfl rfl rfl rfl (two_of HT_.out zb10) zb46 zb46 (fun K hK=>?_) (fun K hK=>?_)
           ·skip
            refine Kd.R_lit_step (Kd.int .u8) _ 5 ?hg (N:=85) ?hd (xs:=([]:List Int)) (inner:=[]) (ok:=fun _=>True) (okp:=fun _=>True) ?hr ?hp (fun _ hk=>hk) trivial (Below.refl _ _) (Nat.le_refl _) zb40 ?_;(case hd=>rfl);(case hg=>rfl);(case hr=>first|(go_simp;done)|(go_simp;rfl));(case hp=>exact (Reps.none _ _))
            intro v940 w52 ho53 hb hg_ hnew_
            clear hg_ hnew_
            (first|rw [← Ny939.out] at ho53|(simp only [Int.reduceToNat] at ho53;rw [← Ny939.out] at ho53))
            have n0_:=Aside0.mk (Kd.R_below zb12 hb)
            have n1_:=Aside0.mk (Kd.R_elder' zb7 (Kd.R_base ho53) hb)
            have n2_:=Aside0.mk (Kd.R_lower (Kd.R_new' ho53 (Kd.R_lt zb7)) (below_size zb2))
            have n3_:=Aside0.mk (blk_below (g:=gb68) (o:=.cells #[.string t74,.string t75,.int .i64 t76,.slice Ao20 t73.length co20,.slice Ao21 t71.length co21] 33 (0,0)) zb9 hb)
            have n4_:=Aside0.mk (below_step zb2 hb)
            clear HO_70 HO_69 BK68 HB
            have HO_70:=n0_
            have HO_69:=n1_
            have HO941:=n2_
            have BK68:=n3_
            have HB:=n4_
            clear n0_ n1_ n2_ n3_ n4_ hb ho53
            refine hK.out _ _ trivial (fun hHeld=>?_)
            clear hK K
            refine norm_ (a' := ?_) ?_ ?_
            rotate_left
            ·show Act.put _ (some 85) _=_
             simp only [Act.put,zqA,zqB,zqC,i64_w,i32_w]
             rfl
            refine two_ (i:=4) (j:=6) (Ni:=some 89) (Nj:=some 91) (zl 13 1855) (zl 13 1903) rfl rfl rfl rfl (two_of HT_.out zb10) zb46 zb46 (fun K hK=>?_) (fun K hK=>?_)
            ·skip
             refine Kd.R_append_rows_step (Kd.int .u8) (w0:=w) w.heap.size zb63 (.tmp 85) (.tmp 88) 23 5 (.int .u8 0) 1 rfl Tryz.underlying23 info5 rfl zb46 zb30 v940 y939 (l0.take ((ji34):Int).toNat) _ _ _ (fun k_=>some k_ ≠ (.slice Ao21 t71.length co21:Value).ownBlock) (fun _=>False) rfl rfl ?aO ?aR (fun _ _ h=>h) (fun _ h=>h.elim) ?aF ?aB ?aS ?aL ?_
             (case aR=>exact zb37)
             (case aB=>exact zb27)
             (case aF=>exact zb139)
             (case aO=>exact (by (with_reducible repeat (first|apply Kd.R_alloc|apply Kd.R_drewN|apply Kd.R_drew));exact Kd.R_mono HO941.out (fun _ hk=>hk.2)))
             (case aS=>exact zb23)
             (case aL=>exact zb101)
             intro v944 w54 ho hb hg hat
             rw [← Ny943.out] at ho
             have n0_:=Aside0.mk (Kd.R_over' zb12 (Kd.R_typed zb125) zb46 hg)
             have n1_:=Aside0.mk (Kd.R_after (ok:=(fun _=>True)) zb7 hg hat)
             have n2_:=Aside0.mk (blk_grown (g:=gb68) (o:=.cells #[.string t74,.string t75,.int .i64 t76,.slice Ao20 t73.length co20,.slice Ao21 t71.length co21] 33 (0,0)) zb9 hg (Kd.R_ne HO941.out BK68.out zb46))
             have n3_:=Aside0.mk (hb)
             have n4_:=Aside0.mk (ho)
             clear HO_70 HO_69 BK68 HB HO941
             have HO_70:=n0_
             have HO_69:=n1_
             have BK68:=n2_
             have HB:=n3_
             have HO945:=n4_
             clear n0_ n1_ n2_ n3_ n4_ ho hb hg hat
             refine hK.out _ _ trivial (fun hHeld=>?_)
             clear hK K
             refine norm_ (a' := ?_) ?_ ?_
             rotate_left
             ·show Act.put _ (some 89) _=_
              simp only [Act.put,zqA,zqB,zqC,i64_w,i32_w]
              rfl
             refine one_ (i:=6) (N:=some 91) (zl 13 1919) rfl rfl (one_of HT_.out zb10) zb46 (fun K hK=>?_)
             refine Kd.R_lit_step (Kd.int .u8) _ 5 ?hg (N:=91) ?hd (xs:=([13]:List Int)) (inner:=[.int .u8 13]) (ok:=fun _=>True) (okp:=fun _=>True) ?hr ?hp (fun _ hk=>hk) trivial (Below.refl _ _) (Nat.le_refl _) zb40 ?_;(case hd=>rfl);(case hg=>rfl);(case hr=>first|(go_simp;done)|(go_simp;rfl));(case hp=>exact (Reps.one (show Kd.M (Kd.int .u8) _ _ _ 13 [.int .u8 13] from rfl) (Reps.none _ _)))
             intro v947 w55 ho56 hb hg_ hnew_
             clear hg_ hnew_
             (first|rw [← Ny84.out] at ho56|(simp only [Int.reduceToNat] at ho56;rw [← Ny84.out] at ho56))
             have n0_:=Aside0.mk (Kd.R_below zb12 hb)
             have n1_:=Aside0.mk (Kd.R_elder' zb7 (Kd.R_base ho56) hb)
             have n2_:=Aside0.mk (Kd.R_elder' zb163 (Kd.R_base ho56) hb)
             have n3_:=Aside0.mk (Kd.R_lower (Kd.R_new' (Kd.R_new' ho56 (Kd.R_lt zb7)) (Kd.R_lt zb163)) (below_size zb2))
             have n4_:=Aside0.mk (blk_below (g:=gb68) (o:=.cells #[.string t74,.string t75,.int .i64 t76,.slice Ao20 t73.length co20,.slice Ao21 t71.length co21] 33 (0,0)) zb9 hb)
             have n5_:=Aside0.mk (below_step zb2 hb)
             clear HO_70 HO_69 HO945 BK68 HB
             have HO_70:=n0_
             have HO_69:=n1_
             have HO945:=n2_
             have HO85:=n3_
             have BK68:=n4_
             have HB:=n5_
             clear n0_ n1_ n2_ n3_ n4_ n5_ hb ho56
             refine hK.out _ _ trivial (fun hHeld=>?_)
             clear hK K
             refine norm_ (a' := ?_) ?_ ?_
             rotate_left
             ·show Act.put _ (some 91) _=_
              simp only [Act.put,zqA,zqB,zqC,i64_w,i32_w]
              rfl
             exact norm_ zb150 (hCont (v940,v944,v947) _ ⟨zb120,(by (with_reducible repeat (first|apply Kd.R_alloc|apply Kd.R_drewN|apply Kd.R_drew));exact Kd.R_mono HO85.out (fun _ hk=>⟨hk.2,hk.1.2⟩)),zb12,zb93,zb9,zb2⟩)
            skip
            refine Kd.R_lit_step (Kd.int .u8) _ 5 ?hg (N:=91) ?hd (xs:=([13]:List Int)) (inner:=[.int .u8 13]) (ok:=fun _=>True) (okp:=fun _=>True) ?hr ?hp (fun _ hk=>hk) trivial (Below.refl _ _) (Nat.le_refl _) zb40 ?_;(case hd=>rfl);(case hg=>rfl);(case hr=>first|(go_simp;done)|(go_simp;rfl));(case hp=>exact (Reps.one (show Kd.M (Kd.int .u8) _ _ _ 13 [.int .u8 13] from rfl) (Reps.none _ _)))
            intro v947 w54 ho55 hb hg_ hnew_
            clear hg_ hnew_
            (first|rw [← Ny84.out] at ho55|(simp only [Int.reduceToNat] at ho55;rw [← Ny84.out] at ho55))
            have n0_:=Aside0.mk (Kd.R_below zb12 hb)
            have n1_:=Aside0.mk (Kd.R_elder' zb7 (Kd.R_base ho55) hb)
            have n2_:=Aside0.mk (Kd.R_elder' zb125 (Kd.R_base ho55) hb)
            have n3_:=Aside0.mk (Kd.R_lower (Kd.R_new' (Kd.R_new' ho55 (Kd.R_lt zb7)) (Kd.R_lt zb125)) (below_size zb2))
            have n4_:=Aside0.mk (blk_below (g:=gb68) (o:=.cells #[.string t74,.string t75,.int .i64 t76,.slice Ao20 t73.length co20,.slice Ao21 t71.length co21] 33 (0,0)) zb9 hb)
            have n5_:=Aside0.mk (below_step zb2 hb)
            clear HO_70 HO_69 HO941 BK68 HB
            have HO_70:=n0_
            have HO_69:=n1_
            have HO941:=n2_
            have HO85:=n3_
            have BK68:=n4_
            have HB:=n5_
            clear n0_ n1_ n2_ n3_ n4_ n5_ hb ho55
            refine hK.out _ _ trivial (fun hHeld=>?_)
            clear hK K
            refine norm_ (a' := ?_) ?_ ?_
            rotate_left
            ·show Act.put _ (some 91) _=_
             simp only [Act.put,zqA,zqB,zqC,i64_w,i32_w]
             rfl
            refine one_ (i:=4) (N:=some 89) (zl 13 1919) rfl rfl (one_of HT_.out zb10) zb46 (fun K hK=>?_)
            refine Kd.R_append_rows_step (Kd.int .u8) (w0:=w) w.heap.size zb63 (.tmp 85) (.tmp 88) 23 5 (.int .u8 0) 1 rfl Tryz.underlying23 info5 rfl zb46 zb30 v940 y939 (l0.take ((ji34):Int).toNat) _ _ _ (fun k_=>some k_ ≠ (.slice Ao21 t71.length co21:Value).ownBlock∧some k_ ≠ (v947:Value).ownBlock) (fun _=>False) rfl rfl ?aO ?aR (fun _ _ h=>h) (fun _ h=>h.elim) ?aF ?aB ?aS ?aL ?_
            (case aR=>exact zb37)
            (case aB=>exact zb27)
            (case aF=>exact zb64)
            (case aO=>exact zb178)
            (case aS=>exact zb23)
            (case aL=>exact zb101)
            intro v944 w56 ho hb hg hat
            rw [← Ny943.out] at ho
            have n0_:=Aside0.mk (Kd.R_over' zb12 (Kd.R_typed zb125) zb46 hg)
            have n1_:=Aside0.mk (Kd.R_after (ok:=(fun k_=>some k_ ≠ (v947:Value).ownBlock)) zb140 hg hat)
            have n2_:=Aside0.mk (blk_grown (g:=gb68) (o:=.cells #[.string t74,.string t75,.int .i64 t76,.slice Ao20 t73.length co20,.slice Ao21 t71.length co21] 33 (0,0)) zb9 hg (Kd.R_ne HO941.out BK68.out zb46))
            have n3_:=Aside0.mk (Kd.R_after (ok:=(fun k_=>some k_ ≠ (.slice Ao21 t71.length co21:Value).ownBlock)) zb180 hg hat)
            have n4_:=Aside0.mk (hb)
            have n5_:=Aside0.mk (ho)
            clear HO_70 HO_69 BK68 HO85 HB HO941
            have HO_70:=n0_
            have HO_69:=n1_
            have BK68:=n2_
            have HO85:=n3_
            have HB:=n4_
            have HO945:=n5_
            clear n0_ n1_ n2_ n3_ n4_ n5_ ho hb hg hat
            refine hK.out _ _ trivial (fun hHeld=>?_)
            clear hK K
            refine norm_ (a' := ?_) ?_ ?_
            rotate_left
            ·show Act.put _ (some 89) _=_
             simp only [Act.put,zqA,zqB,zqC,i64_w,i32_w]
             rfl
            exact norm_ zb150 (hCont (v940,v944,v947) _ ⟨zb120,zb144,zb12,zb60,zb9,zb2⟩)
           skip
           refine Kd.R_lit_step (Kd.int .u8) _ 5 ?hg (N:=91) ?hd (xs:=([13]:List Int)) (inner:=[.int .u8 13]) (ok:=fun _=>True) (okp:=fun _=>True) ?hr ?hp (fun _ hk=>hk) trivial (Below.refl _ _) (Nat.le_refl _) zb40 ?_;(case hd=>rfl);(case hg=>rfl);(case hr=>first|(go_simp;done)|(go_simp;rfl));(case hp=>exact (Reps.one (show Kd.M (Kd.int .u8) _ _ _ 13 [.int .u8 13] from rfl) (Reps.none _ _)))
           intro v947 w52 ho53 hb hg_ hnew_
           clear hg_ hnew_
           (first|rw [← Ny84.out] at ho53|(simp only [Int.reduceToNat] at ho53;rw [← Ny84.out] at ho53))
           have n0_:=Aside0.mk (Kd.R_below zb12 hb)
           have n1_:=Aside0.mk (Kd.R_elder' zb7 (Kd.R_base ho53) hb)
           have n2_:=Aside0.mk (Kd.R_lower (Kd.R_new' ho53 (Kd.R_lt zb7)) (below_size zb2))
           have n3_:=Aside0.mk (blk_below (g:=gb68) (o:=.cells #[.string t74,.string t75,.int .i64 t76,.slice Ao20 t73.length co20,.slice Ao21 t71.length co21] 33 (0,0)) zb9 hb)
           have n4_:=Aside0.mk (below_step zb2 hb)
           clear HO_70 HO_69 BK68 HB
           have HO_70:=n0_
           have HO_69:=n1_
           have HO85:=n2_
           have BK68:=n3_
           have HB:=n4_
           clear n0_ n1_ n2_ n3_ n4_ hb ho53
           refine hK.out _ _ trivial (fun hHeld=>?_)
           clear hK K
           refine norm_ (a' := ?_) ?_ ?_
           rotate_left
           ·show Act.put _ (some 91) _=_
            simp only [Act.put,zqA,zqB,zqC,i64_w,i32_w]
            rfl
           refine one_ (i:=0) (N:=some 85) (zl 13 1903) rfl rfl (one_of HT_.out zb10) zb46 (fun K hK=>?_)
           refine Kd.R_lit_step (Kd.int .u8) _ 5 ?hg (N:=85) ?hd (xs:=([]:List Int)) (inner:=[]) (ok:=fun _=>True) (okp:=fun _=>True) ?hr ?hp (fun _ hk=>hk) trivial (Below.refl _ _) (Nat.le_refl _) zb40 ?_;(case hd=>rfl);(case hg=>rfl);(case hr=>first|(go_simp;done)|(go_simp;rfl));(case hp=>exact (Reps.none _ _))
           intro v940 w54 ho55 hb hg_ hnew_
           clear hg_ hnew_
           (first|rw [← Ny939.out] at ho55|(simp only [Int.reduceToNat] at ho55;rw [← Ny939.out] at ho55))
           have n0_:=Aside0.mk (Kd.R_below zb12 hb)
           have n1_:=Aside0.mk (Kd.R_elder' zb7 (Kd.R_base ho55) hb)
           have n2_:=Aside0.mk (Kd.R_elder' zb69 (Kd.R_base ho55) hb)
           have n3_:=Aside0.mk (Kd.R_lower (Kd.R_new' (Kd.R_new' ho55 (Kd.R_lt zb7)) (Kd.R_lt zb69)) (below_size zb2))
           have n4_:=Aside0.mk (blk_below (g:=gb68) (o:=.cells #[.string t74,.string t75,.int .i64 t76,.slice Ao20 t73.length co20,.slice Ao21 t71.length co21] 33 (0,0)) zb9 hb)
           have n5_:=Aside0.mk (below_step zb2 hb)
           clear HO_70 HO_69 HO85 BK68 HB
           have HO_70:=n0_
           have HO_69:=n1_
           have HO85:=n2_
           have HO941:=n3_
           have BK68:=n4_
           have HB:=n5_
           clear n0_ n1_ n2_ n3_ n4_ n5_ hb ho55
           refine hK.out _ _ trivial (fun hHeld=>?_)
           clear hK K
           refine norm_ (a' := ?_) ?_ ?_
           rotate_left
           ·show Act.put _ (some 85) _=_
            simp only [Act.put,zqA,zqB,zqC,i64_w,i32_w]
            rfl
           refine one_ (i:=4) (N:=some 89) (zl 13 1919) rfl rfl (one_of HT_.out zb10) zb46 (fun K hK=>?_)
           refine Kd.R_append_rows_step (Kd.int .u8) (w0:=w) w.heap.size zb63 (.tmp 85) (.tmp 88) 23 5 (.int .u8 0) 1 rfl Tryz.underlying23 info5 rfl zb46 zb30 v940 y939 (l0.take ((ji34):Int).toNat) _ _ _ (fun k_=>some k_ ≠ (.slice Ao21 t71.length co21:Value).ownBlock∧some k_ ≠ (v947:Value).ownBlock) (fun _=>False) rfl rfl ?aO ?aR (fun _ _ h=>h) (fun _ h=>h.elim) ?aF ?aB ?aS ?aL ?_
           (case aR=>exact zb37)
           (case aB=>exact zb27)
           (case aF=>exact zb64)
           (case aO=>exact zb178)
           (case aS=>exact zb23)
           (case aL=>exact zb101)
           intro v944 w56 ho hb hg hat
           rw [← Ny943.out] at ho
           have n0_:=Aside0.mk (Kd.R_over' zb12 (Kd.R_typed zb125) zb46 hg)
           have n1_:=Aside0.mk (Kd.R_after (ok:=(fun k_=>some k_ ≠ (v947:Value).ownBlock)) zb93 hg hat)
           have n2_:=Aside0.mk (blk_grown (g:=gb68) (o:=.cells #[.string t74,.string t75,.int .i64 t76,.slice Ao20 t73.length co20,.slice Ao21 t71.length co21] 33 (0,0)) zb9 hg (Kd.R_ne HO941.out BK68.out zb46))
           have n3_:=Aside0.mk (Kd.R_after (ok:=(fun k_=>some k_ ≠ (.slice Ao21 t71.length co21:Value).ownBlock)) zb180 hg hat)
           have n4_:=Aside0.mk (hb)
           have n5_:=Aside0.mk (ho)
           clear HO_70 HO_69 BK68 HO85 HB HO941
           have HO_70:=n0_
           have HO_69:=n1_
           have BK68:=n2_
           have HO85:=n3_
           have HB:=n4_
           have HO945:=n5_
           clear n0_ n1_ n2_ n3_ n4_ n5_ ho hb hg hat
           refine hK.out _ _ trivial (fun hHeld=>?_)
           clear hK K
           refine norm_ (a' := ?_) ?_ ?_
           rotate_left
           ·show Act.put _ (some 89) _=_
            simp only [Act.put,zqA,zqB,zqC,i64_w,i32_w]
            rfl
           exact norm_ zb150 (hCont (v940,v944,v947) _ ⟨zb120,zb144,zb12,zb60,zb9,zb2⟩)
          rintro ⟨v940,v944,v947⟩ w57 ⟨h0_,h1_,h2_,h3_,h4_,h5_⟩
          have n0_:Aside0 (Kd.R (Kd.int .u8) 5 w57 w.heap.size (fun k_=>some k_ ≠ (v947:Value).ownBlock∧some k_ ≠ (.slice Ao21 t71.length co21:Value).ownBlock) v944 y943):=⟨h0_⟩
          have n1_:Aside0 (Kd.R (Kd.int .u8) 5 w57 w.heap.size (fun k_=>some k_ ≠ (v944:Value).ownBlock∧some k_ ≠ (.slice Ao21 t71.length co21:Value).ownBlock) v947 y84):=⟨h1_⟩
          have n2_:Aside0 (Kd.R k55 55 w57 w.heap.size (fun _=>True) (.slice Ao20 t73.length co20) t73):=⟨h2_⟩
          have n3_:Aside0 (Kd.R (Kd.int .u8) 5 w57 w.heap.size (fun k_=>some k_ ≠ (v944:Value).ownBlock∧some k_ ≠ (v947:Value).ownBlock) (.slice Ao21 t71.length co21) t71):=⟨h3_⟩
          have n4_:Aside0 (w57.heap[gb68]? = some (.cells #[.string t74,.string t75,.int .i64 t76,.slice Ao20 t73.length co20,.slice Ao21 t71.length co21] 33 (0,0))):=⟨h4_⟩
          have n5_:Aside0 (Below w.heap.size w w57):=⟨h5_⟩
          clear HO_70 HO_69 BK68 HB h0_ h1_ h2_ h3_ h4_ h5_
          have HO945:=n0_
          have HO85:=n1_
          have HO_70:=n2_
          have HO_69:=n3_
          have BK68:=n4_
          have HB:=n5_
          clear n0_ n1_ n2_ n3_ n4_ n5_
          have hHeld:=trivial
          obtain ⟨Ao59,co59,eo59⟩:=Kd.R_slice HO85.out
          (first|subst eo59|(injection eo59 with f1_ f2_ f3_;have f4_:=f1_.symm;have f5_:=f3_.symm;clear f1_ f2_ f3_;subst f4_;subst f5_))
          refine norm_ (a' := ?_) ?_ ?_
          rotate_left
          ·simp only [putAll,Act.put,zqA,zqB,zqC];rfl
          refine one_ (i:=7) (N:=some 92) (zl 13 2047) rfl rfl (one_of HT_.out zb10) zb46 (fun K hK=>?_)
          refine Kd.R_append_rows_step (Kd.int .u8) (w0:=w) w.heap.size zb63 (.tmp 89) (.tmp 91) 23 5 (.int .u8 0) 1 rfl Tryz.underlying23 info5 rfl zb46 zb30 v944 y943 y84 _ _ _ (fun k_=>some k_ ≠ (.slice Ao21 t71.length co21:Value).ownBlock∧some k_ ≠ (.slice Ao59 y84.length co59:Value).ownBlock) (fun _=>False) rfl rfl ?aO ?aR (fun _ _ h=>h) (fun _ h=>h.elim) ?aF ?aB ?aS ?aL ?_
          (case aR=>repeat (first|exact (Kd.R_reads' HO85.out).2.2|(with_reducible refine Kd.C_alloc ?_ _)|(with_reducible refine Kd.C_drewN ?_ _)|(with_reducible refine Kd.C_drew ?_)))
          (case aB=>exact zb27)
          (case aF=>exact zb64)
          (case aO=>exact zb120)
          (case aS=>exact zb23)
          (case aL=>have:=LMc43.out;omega)
          intro v950 w58 ho hb hg hat
          rw [← Ny949.out] at ho
          have n0_:=Aside0.mk (Kd.R_over' zb12 (Kd.R_typed zb163) zb46 hg)
          have n1_:=Aside0.mk (Kd.R_after (ok:=(fun k_=>some k_ ≠ (.slice Ao59 y84.length co59:Value).ownBlock)) zb60 hg hat)
          have n2_:=Aside0.mk (blk_grown (g:=gb68) (o:=.cells #[.string t74,.string t75,.int .i64 t76,.slice Ao20 t73.length co20,.slice Ao21 t71.length co21] 33 (0,0)) zb9 hg (Kd.R_ne HO945.out BK68.out zb46))
          have n3_:=Aside0.mk (Kd.R_after (ok:=(fun k_=>some k_ ≠ (.slice Ao21 t71.length co21:Value).ownBlock)) zb144 hg hat)
          have n4_:=Aside0.mk (hb)
          have n5_:=Aside0.mk (ho)
          clear HO_70 HO_69 BK68 HO85 HB HO945
          have HO_70:=n0_
          have HO_69:=n1_
          have BK68:=n2_
          have HO85:=n3_
          have HB:=n4_
          have HO951:=n5_
          clear n0_ n1_ n2_ n3_ n4_ n5_ ho hb hg hat
          refine hK.out _ _ trivial (fun hHeld=>?_)
          clear hK K
          refine norm_ (a' := ?_) ?_ ?_
          rotate_left
          ·show Act.put _ (some 92) _=_
           simp only [Act.put,zqA,zqB,zqC,i64_w,i32_w]
           rfl
          refine one_ (i:=11) (N:=some 96) (zl 13 4095) rfl rfl (one_of HT_.out zb10) zb46 (fun K hK=>?_)
          refine Kd.R_append_rows_step (Kd.int .u8) (w0:=w) w.heap.size zb63 (.tmp 92) (.tmp 95) 23 5 (.int .u8 0) 1 rfl Tryz.underlying23 info5 rfl zb46 zb30 v950 y949 (l0.drop ((ji34):Int).toNat) _ _ _ (fun k_=>some k_ ≠ (.slice Ao21 t71.length co21:Value).ownBlock∧some k_ ≠ (.slice Ao59 y84.length co59:Value).ownBlock) (fun _=>False) rfl rfl ?aO ?aR (fun _ _ h=>h) (fun _ h=>h.elim) ?aF ?aB ?aS ?aL ?_
          (case aR=>first|(rw [← show (l0.drop ((ji34):Int).toNat).length=(l0.length - (ji34).toNat) from List.length_drop];repeat (first|exact (Kd.C_below HR952.out HB.out)|(with_reducible refine Kd.C_alloc ?_ _)|(with_reducible refine Kd.C_drewN ?_ _)|(with_reducible refine Kd.C_drew ?_)))|(repeat (first|exact (Kd.C_below HR952.out HB.out)|(with_reducible refine Kd.C_alloc ?_ _)|(with_reducible refine Kd.C_drewN ?_ _)|(with_reducible refine Kd.C_drew ?_))))
          (case aB=>exact zb27)
          (case aF=>exact zb64)
          (case aO=>exact (by (with_reducible repeat (first|apply Kd.R_alloc|apply Kd.R_drewN|apply Kd.R_drew));exact HO951.out))
          (case aS=>exact zb23)
          (case aL=>have:=LMc46.out;have hlx_:=(show (l0.drop ((ji34):Int).toNat).length=(l0.length - (ji34).toNat) from List.length_drop);omega)
          intro v954 w60 ho hb hg hat
          rw [← Ny953.out] at ho
          have n0_:=Aside0.mk (Kd.R_over' zb12 (Kd.R_typed (by (with_reducible repeat (first|apply Kd.R_alloc|apply Kd.R_drewN|apply Kd.R_drew));exact HO951.out)) zb46 hg)
          have n1_:=Aside0.mk (Kd.R_after (ok:=(fun k_=>some k_ ≠ (.slice Ao59 y84.length co59:Value).ownBlock)) zb7 hg hat)
          have n2_:=Aside0.mk (blk_grown (g:=gb68) (o:=.cells #[.string t74,.string t75,.int .i64 t76,.slice Ao20 t73.length co20,.slice Ao21 t71.length co21] 33 (0,0)) zb9 hg (Kd.R_ne HO951.out BK68.out zb46))
          have n3_:=Aside0.mk (Kd.R_after (ok:=(fun k_=>some k_ ≠ (.slice Ao21 t71.length co21:Value).ownBlock)) zb69 hg hat)
          have n4_:=Aside0.mk (hb)
          have n5_:=Aside0.mk (ho)
          clear HO_70 HO_69 BK68 HO85 HB HO951
          have HO_70:=n0_
          have HO_69:=n1_
          have BK68:=n2_
          have HO85:=n3_
          have HB:=n4_
          have HO955:=n5_
          clear n0_ n1_ n2_ n3_ n4_ n5_ ho hb hg hat
          refine hK.out _ _ trivial (fun hHeld=>?_)
          clear hK K
          refine norm_ (a' := ?_) ?_ ?_
          rotate_left
          ·show Act.put _ (some 96) _=_
           simp only [Act.put,zqA,zqB,zqC,i64_w,i32_w]
           rfl
          refine zpu 12 (N:=some 14) (zl 13 8191) HT_.out rfl rfl ?_
          refine done_ (done_of HT_.out zb10) ?_
          obtain ⟨Ao61,co61,eo61⟩:=Kd.R_slice HO955.out
          subst eo61
          try go_wp2_with (first|((with_reducible refine gate_callee (f:=20) rfl ?_);refine goesL_ (some 99) rfl rfl Tryz.func20 zb10 rfl #[.slice Ao61 y953.length co61] rfl zb1 ?_;(with_reducible refine (http_Request.calls kj21 _ _ y953 t956 t957 t958 t959 t962 t965 t966 _ ?side1 ?side2 A47.out).mono ?_);(case side1=>repeat (first|exact (Kd.R_reads' HO955.out).2.2|(with_reducible refine Kd.C_alloc ?_ _)|(with_reducible refine Kd.C_drewN ?_ _)|(with_reducible refine Kd.C_drew ?_)));(case side2=>exact (Kd.R_reads' HO955.out).2.1);rintro e w62 ⟨v960,v963,rfl,ho0,ho1,hb⟩;(try clear A47);refine ⟨_,rfl,?_⟩;have HO961:=Aside0.mk (Kd.R_lower (Kd.R_new' ho0 (Kd.R_lt zb12)) (below_size zb2));replace HO_70:=Aside0.mk (Kd.R_elder' zb12 (Kd.R_base ho0) hb);have HO964:=Aside0.mk (Kd.R_lower (Kd.R_new' (Kd.R_new' (Kd.R_new' ho1 (Kd.R_lt zb7)) (Kd.R_lt zb69)) (Kd.R_lt zb164)) (below_size zb2));replace HO_69:=Aside0.mk (Kd.R_elder' zb7 (Kd.R_base ho1) hb);replace HO85:=Aside0.mk (Kd.R_elder' zb69 (Kd.R_base ho1) hb);replace HO955:=Aside0.mk (Kd.R_elder' zb164 (Kd.R_base ho1) hb);replace BK68:=Aside0.mk (blk_below (g:=gb68) (o:=.cells #[.string t74,.string t75,.int .i64 t76,.slice Ao20 t73.length co20,.slice Ao21 t71.length co21] 33 (0,0)) zb9 hb);replace HB:=Aside0.mk (below_step zb2 hb);try clear hb ho0 ho1)|((with_reducible refine gate_dst (N:=15) rfl ?_);refine box_event rfl (N:=15) rfl (cs:=#[.string (⟨#[]⟩:ByteArray),.string (⟨#[]⟩:ByteArray),.int .i64 0,.slice none 0 0,.slice none 0 0]) (t:=33) zS ?_;intro gb967 hg w63 hbox hb;replace HO_70:=Aside0.mk (Kd.R_below zb12 hb);replace HO_69:=Aside0.mk (Kd.R_below zb7 hb);replace HO85:=Aside0.mk (Kd.R_below zb69 hb);replace HO955:=Aside0.mk (Kd.R_below zb164 hb);replace HO961:=Aside0.mk (Kd.R_below (by (with_reducible repeat (first|apply Kd.R_alloc|apply Kd.R_drewN|apply Kd.R_drew));exact HO961.out) hb);replace HO964:=Aside0.mk (Kd.R_below (by (with_reducible repeat (first|apply Kd.R_alloc|apply Kd.R_drewN|apply Kd.R_drew));exact HO964.out) hb);have BK967:=Aside0.mk (hbox);have GW967:=zG hg zb2;have GE967:=GW967;replace HB:=Aside0.mk (below_step zb2 hb);have NB68_967:=Aside0.mk ((by rw [hg];exact Nat.ne_of_lt (blk_lt (g:=gb68) (o:=.cells #[.string t74,.string t75,.int .i64 t76,.slice Ao20 t73.length co20,.slice Ao21 t71.length co21] 33 (0,0)) zb9):gb68 ≠ gb967));have NB967_935:=Aside0.mk ((by rw [hg];exact Nat.ne_of_gt (blk_lt (g:=gb68) (o:=.cells #[.string t74,.string t75,.int .i64 t76,.slice Ao20 t73.length co20,.slice Ao21 t71.length co21] 33 (0,0)) zb9):gb967 ≠ gb68));replace BK68:=Aside0.mk (blk_below (g:=gb68) (o:=.cells #[.string t74,.string t75,.int .i64 t76,.slice Ao20 t73.length co20,.slice Ao21 t71.length co21] 33 (0,0)) zb9 hb);clear hb hbox hg;have hnb64:=NB967_935.out;have hnc64:=NB68_967.out;obtain ⟨hcz65_0,hcz65_1,hcz65_2,hcz65_3,hcz65_4,hfz65_0,hfz65_1,hfz65_2,hfz65_3,hfz65_4⟩:=zq5 BK967.out;obtain ⟨Ao66,co66,eo66⟩:=Kd.R_slice HO961.out;subst eo66;obtain ⟨Ao67,co67,eo67⟩:=Kd.R_slice HO964.out;subst eo67))
          go_ret
          exact ⟨zb111,by repeat (first|(with_reducible first|exact HB.out|apply below_alloc|apply pw_below_drewN|apply below_drew1|refine below_set ?_ GE68.out|refine below_set ?_ GE967.out)|exact HB.out)⟩
         ·rw [if_neg c46] at H
          exact absurd H zb40
        ·rw [if_neg c42] at H
         exact absurd H zb40
       replace c38:=Bool.eq_false_iff.mpr c38
       subst c38
       rw [if_neg (show ¬ (false=true) by decide)] at H
       by_cases c87:(ji34) > 0;rotate_left
       ·rw [if_neg c87] at H
        have c87b0:decide (0 < (ji34))=false:=decide_eq_false c87
        clear c87
        obtain ⟨y998,hy998⟩ : ∃ y_:List Int,y_=(([]:List Int)):=⟨_,rfl⟩
        replace H:(if (ji34) ≤ (l0.length:Int) then (if y998.length + (l0.take ((ji34):Int).toNat).length < 140737488355328 then ((some (y998 ++ (l0.take ((ji34):Int).toNat):List Int)).bind fun y81=>((some (([10]:List Int):List Int)).bind fun y77=>(if y81.length + y77.length < 140737488355328 then ((some (y81 ++ y77:List Int)).bind fun y82=>(if y82.length + (l0.drop ((ji34):Int).toNat).length < 140737488355328 then ((http_Request.f kj21 (y82 ++ (l0.drop ((ji34):Int).toNat))).bind fun bt1015=>(if bt1015.2.2.2.2.2.1=0 then (some (bt1015.2.2.2.2.2.2 == 400)) else (some false))) else (none))) else (none)))) else (none)) else (none))=some r:=by first|(rw [hy998];with_reducible exact H)|(have H2_:=(Option.bind_some _ _).symm.trans H;rw [hy998];with_reducible exact H2_)|(have H2_:=(Option.bind_some _ _).symm.trans H;with_reducible exact H2_)|with_reducible exact H|(rw [hy998];exact H)|exact H
        have Ny998:=Aside0.mk hy998
        clear hy998
        have c139b0:=eq_true (of_decide_eq_true zb5:0 ≤ (ji34))
        by_cases c140:(ji34) ≤ (l0.length:Int);rotate_left
        ·rw [if_neg c140] at H
         exact absurd H zb40
        rw [if_pos c140] at H
        have c140b0:=eq_true c140
        have c140b1:=decide_eq_true c140
        clear c140
        by_cases c141:y998.length + (l0.take ((ji34):Int).toNat).length < 140737488355328;rotate_left
        ·rw [if_neg c141] at H
         exact absurd H zb40
        rw [if_pos c141] at H
        have LMc141:=Aside0.mk c141
        clear c141
        obtain ⟨y81,hy81⟩ : ∃ y_:List Int,y_=(y998 ++ (l0.take ((ji34):Int).toNat)):=⟨_,rfl⟩
        replace H:((some (([10]:List Int):List Int)).bind fun y77=>(if y81.length + y77.length < 140737488355328 then ((some (y81 ++ y77:List Int)).bind fun y82=>(if y82.length + (l0.drop ((ji34):Int).toNat).length < 140737488355328 then ((http_Request.f kj21 (y82 ++ (l0.drop ((ji34):Int).toNat))).bind fun bt1015=>(if bt1015.2.2.2.2.2.1=0 then (some (bt1015.2.2.2.2.2.2 == 400)) else (some false))) else (none))) else (none)))=some r:=by first|(rw [hy81];with_reducible exact H)|(have H2_:=(Option.bind_some _ _).symm.trans H;rw [hy81];with_reducible exact H2_)|(have H2_:=(Option.bind_some _ _).symm.trans H;with_reducible exact H2_)|with_reducible exact H|(rw [hy81];exact H)|exact H
        have Ny81:=Aside0.mk hy81
        clear hy81
        obtain ⟨y77,hy77⟩ : ∃ y_:List Int,y_=(([10]:List Int)):=⟨_,rfl⟩
        replace H:(if y81.length + y77.length < 140737488355328 then ((some (y81 ++ y77:List Int)).bind fun y82=>(if y82.length + (l0.drop ((ji34):Int).toNat).length < 140737488355328 then ((http_Request.f kj21 (y82 ++ (l0.drop ((ji34):Int).toNat))).bind fun bt1015=>(if bt1015.2.2.2.2.2.1=0 then (some (bt1015.2.2.2.2.2.2 == 400)) else (some false))) else (none))) else (none))=some r:=by first|(rw [hy77];with_reducible exact H)|(have H2_:=(Option.bind_some _ _).symm.trans H;rw [hy77];with_reducible exact H2_)|(have H2_:=(Option.bind_some _ _).symm.trans H;with_reducible exact H2_)|with_reducible exact H|(rw [hy77];exact H)|exact H
        have Ny77:=Aside0.mk hy77
        clear hy77
        by_cases c142:y81.length + y77.length < 140737488355328;rotate_left
        ·rw [if_neg c142] at H
         exact absurd H zb40
        rw [if_pos c142] at H
        have LMc142:=Aside0.mk c142
        clear c142
        obtain ⟨y82,hy82⟩ : ∃ y_:List Int,y_=(y81 ++ y77):=⟨_,rfl⟩
        replace H:(if y82.length + (l0.drop ((ji34):Int).toNat).length < 140737488355328 then ((http_Request.f kj21 (y82 ++ (l0.drop ((ji34):Int).toNat))).bind fun bt1015=>(if bt1015.2.2.2.2.2.1=0 then (some (bt1015.2.2.2.2.2.2 == 400)) else (some false))) else (none))=some r:=by first|(rw [hy82];with_reducible exact H)|(have H2_:=(Option.bind_some _ _).symm.trans H;rw [hy82];with_reducible exact H2_)|(have H2_:=(Option.bind_some _ _).symm.trans H;with_reducible exact H2_)|with_reducible exact H|(rw [hy82];exact H)|exact H
        have Ny82:=Aside0.mk hy82
        clear hy82
        have c143b0:=eq_true (of_decide_eq_true zb5:0 ≤ (ji34))
        have c144b0:=eq_true (of_decide_eq_true zb5:(ji34) ≤ (l0.length:Int))
        by_cases c145:y82.length + (l0.drop ((ji34):Int).toNat).length < 140737488355328
        ·rw [if_pos c145] at H
         have LMc145:=Aside0.mk c145
         clear c145
         obtain ⟨y1012,hy1012⟩ : ∃ y_:List Int,y_=(y82 ++ (l0.drop ((ji34):Int).toNat)):=⟨_,rfl⟩
         replace H:((http_Request.f kj21 y1012).bind fun bt1015=>(if bt1015.2.2.2.2.2.1=0 then (some (bt1015.2.2.2.2.2.2 == 400)) else (some false)))=some r:=by first|(rw [hy1012];with_reducible exact H)|(have H2_:=(Option.bind_some _ _).symm.trans H;rw [hy1012];with_reducible exact H2_)|(have H2_:=(Option.bind_some _ _).symm.trans H;with_reducible exact H2_)|with_reducible exact H|(rw [hy1012];exact H)|exact H
         have Ny1012:=Aside0.mk hy1012
         clear hy1012
         replace H:=Option.bind_eq_some_iff.mp H
         obtain ⟨⟨t1015,t1016,t1017,t1018,t1021,t1024,t1025⟩,A1460,H⟩:=H
         try dsimp only at H
         have A146:=Aside0.mk A1460
         clear A1460
         by_cases c147:t1024=0;rotate_left
         ·rw [if_neg c147] at H
          have c147b0:=beq_eq_false_iff_ne.mpr c147
          have c147b1:=bne_iff_ne.mpr c147
          exact absurd ((Option.some.inj H).trans HRT.out) zb46
         rw [if_pos c147] at H
         have c147b0:=beq_iff_eq.mpr c147
         have c147b1:=bne_eq_false_iff_eq.mpr c147
         clear c147
         obtain rfl:=Option.some.inj H
         have p72:0 ≤ ((ji34):Int):=of_decide_eq_true zb5
         have q72:(ji34) < (l0.length:Int):=of_decide_eq_true zb5
         obtain ⟨ad72,e72,hx72_0⟩:=Kd.at_int HR0.out (ji34) p72 q72
         cases e72
         replace hx72_0:=(HB.out.cell (World.block_lt_of_cell? w _ hx72_0)).trans hx72_0
         replace p72:=eq_true p72
         replace q72:=eq_true q72
         try go_wp2
         replace HO_70:=Aside0.mk (Kd.R_drew HO_70.out)
         replace HO_69:=Aside0.mk (Kd.R_drew HO_69.out)
         replace BK68:=Aside0.mk (blk_drew BK68.out)
         replace HB:=Aside0.mk (below_drew1 HB.out)
         obtain ⟨i0149,hi0149,_,hsz149,_⟩:=info_parts info5
         obtain ⟨hcut149,hA149,hC149⟩:=print_take_of (P:=Tryz.prog) (Value.int .u8) 0 23 5 .i64 Tryz.underlying23 hi0149 hsz149 (some ad72) c0 l0 (ji34) (of_decide_eq_true zb5) (of_decide_eq_true zb5) HC0.out
         have HR1001:=Aside0.mk (Kd.C_of_reads (h1:=fun _=>rfl) (hA149 _ (Kd.reads_of_C HR0.out)))
         have HC1001:=Aside0.mk hC149
         clear hA149 hC149 hi0149 hsz149
         obtain ⟨i0150,hi0150,_,hsz150,_⟩:=info_parts info5
         obtain ⟨A150,hcut150,hA150,hC150⟩:=print_drop_of (P:=Tryz.prog) (Value.int .u8) 0 23 5 .i64 Tryz.underlying23 hi0150 hsz150 (some ad72) c0 l0 (ji34) (of_decide_eq_true zb5) (of_decide_eq_true zb5) HC0.out
         have HR1011:=Aside0.mk (Kd.C_of_reads (h1:=fun _=>rfl) (hA150 _ (Kd.reads_of_C HR0.out)))
         have HC1011:=Aside0.mk hC150
         clear hA150 hC150 hi0150 hsz150
         refine start_ (n:=13) (S:=fun w' => True) (ds:=[]) (zl 13 0) zb10 rfl rfl trivial (fun hHeld=>?_);refine with_tabW tollbarlaw08_HttpBare.tab24 tollbarlaw08_HttpBare.bits24 (fun HT_ HW_=>?_)
         generalize wc.drew=w148 at HO_70 HO_69 BK68 HB HR1001 HR1011 hHeld ⊢
         refine zpu 1 (N:=some 86) (zl 13 2) HT_.out rfl rfl ?_
         refine zpu 2 (N:=some 87) (zl 13 6) HT_.out rfl rfl ?_
         refine zpu 3 (N:=some 88) (zl 13 14) HT_.out rfl rfl ?_
         refine zpu 5 (N:=some 90) (zl 13 46) HT_.out rfl rfl ?_
         refine zpu 8 (N:=some 93) (zl 13 302) HT_.out rfl rfl ?_
         refine zpu 9 (N:=some 94) (zl 13 814) HT_.out rfl rfl ?_
         refine zpu 10 (N:=some 95) (zl 13 1838) HT_.out rfl rfl ?_
         refine join_ (σ:=Value × Value × Value) 3 (zl 13 1919) (fun s_=>[(85,s_.1),(89,s_.2.1),(91,s_.2.2)]) (fun s_ w' => (Kd.R (Kd.int .u8) 5 w' w.heap.size (fun k_=>some k_ ≠ (s_.2.2:Value).ownBlock∧some k_ ≠ (.slice Ao21 t71.length co21:Value).ownBlock) s_.2.1 y81)∧(Kd.R (Kd.int .u8) 5 w' w.heap.size (fun k_=>some k_ ≠ (s_.2.1:Value).ownBlock∧some k_ ≠ (.slice Ao21 t71.length co21:Value).ownBlock) s_.2.2 y77)∧(Kd.R k55 55 w' w.heap.size (fun _=>True) (.slice Ao20 t73.length co20) t73)∧(Kd.R (Kd.int .u8) 5 w' w.heap.size (fun k_=>some k_ ≠ (s_.2.1:Value).ownBlock∧some k_ ≠ (s_.2.2:Value).ownBlock) (.slice Ao21 t71.length co21) t71)∧(w'.heap[gb68]? = some (.cells #[.string t74,.string t75,.int .i64 t76,.slice Ao20 t73.length co20,.slice Ao21 t71.length co21] 33 (0,0)))∧(Below w.heap.size w w')) ?_ ?_
         rotate_left
         ·intro hCont
          refine two_ (i:=0) (j:=6) (Ni:=some 85) (Nj:=some 91) (zl 13 1839) (zl 13 1902) rfl rfl rfl rfl (two_of HT_.out zb10) zb46 zb46 (fun K hK=>?_) (fun K hK=>?_)
          ·skip
           refine Kd.R_lit_step (Kd.int .u8) _ 5 ?hg (N:=85) ?hd (xs:=([]:List Int)) (inner:=[]) (ok:=fun _=>True) (okp:=fun _=>True) ?hr ?hp (fun _ hk=>hk) trivial (Below.refl _ _) (Nat.le_refl _) zb40 ?_;(case hd=>rfl);(case hg=>rfl);(case hr=>first|(go_simp;done)|(go_simp;rfl));(case hp=>exact (Reps.none _ _))
           intro v999 w151 ho152 hb hg_ hnew_
           clear hg_ hnew_
           (first|rw [← Ny998.out] at ho152|(simp only [Int.reduceToNat] at ho152;rw [← Ny998.out] at ho152))
           have n0_:=Aside0.mk (Kd.R_below zb12 hb)
           have n1_:=Aside0.mk (Kd.R_elder' zb7 (Kd.R_base ho152) hb)
           have n2_:=Aside0.mk (Kd.R_lower (Kd.R_new' ho152 (Kd.R_lt zb7)) (below_size zb2))
           have n3_:=Aside0.mk (blk_below (g:=gb68) (o:=.cells #[.string t74,.string t75,.int .i64 t76,.slice Ao20 t73.length co20,.slice Ao21 t71.length co21] 33 (0,0)) zb9 hb)
           have n4_:=Aside0.mk (below_step zb2 hb)
           clear HO_70 HO_69 BK68 HB
           have HO_70:=n0_
           have HO_69:=n1_
           have HO1000:=n2_
           have BK68:=n3_
           have HB:=n4_
           clear n0_ n1_ n2_ n3_ n4_ hb ho152
           refine hK.out _ _ trivial (fun hHeld=>?_)
           clear hK K
           refine norm_ (a' := ?_) ?_ ?_
           rotate_left
           ·show Act.put _ (some 85) _=_
            simp only [Act.put,zqA,zqB,zqC,i64_w,i32_w]
            rfl
           refine two_ (i:=4) (j:=6) (Ni:=some 89) (Nj:=some 91) (zl 13 1855) (zl 13 1903) rfl rfl rfl rfl (two_of HT_.out zb10) zb46 zb46 (fun K hK=>?_) (fun K hK=>?_)
           ·skip
            refine Kd.R_append_rows_step (Kd.int .u8) (w0:=w) w.heap.size zb63 (.tmp 85) (.tmp 88) 23 5 (.int .u8 0) 1 rfl Tryz.underlying23 info5 rfl zb46 zb30 v999 y998 (l0.take ((ji34):Int).toNat) _ _ _ (fun k_=>some k_ ≠ (.slice Ao21 t71.length co21:Value).ownBlock) (fun _=>False) rfl rfl ?aO ?aR (fun _ _ h=>h) (fun _ h=>h.elim) ?aF ?aB ?aS ?aL ?_
            (case aR=>exact zb36)
            (case aB=>exact zb27)
            (case aF=>exact zb139)
            (case aO=>exact (by (with_reducible repeat (first|apply Kd.R_alloc|apply Kd.R_drewN|apply Kd.R_drew));exact Kd.R_mono HO1000.out (fun _ hk=>hk.2)))
            (case aS=>exact zb23)
            (case aL=>exact zb100)
            intro v1003 w153 ho hb hg hat
            rw [← Ny81.out] at ho
            have n0_:=Aside0.mk (Kd.R_over' zb12 (Kd.R_typed zb124) zb46 hg)
            have n1_:=Aside0.mk (Kd.R_after (ok:=(fun _=>True)) zb7 hg hat)
            have n2_:=Aside0.mk (blk_grown (g:=gb68) (o:=.cells #[.string t74,.string t75,.int .i64 t76,.slice Ao20 t73.length co20,.slice Ao21 t71.length co21] 33 (0,0)) zb9 hg (Kd.R_ne HO1000.out BK68.out zb46))
            have n3_:=Aside0.mk (hb)
            have n4_:=Aside0.mk (ho)
            clear HO_70 HO_69 BK68 HB HO1000
            have HO_70:=n0_
            have HO_69:=n1_
            have BK68:=n2_
            have HB:=n3_
            have HO1004:=n4_
            clear n0_ n1_ n2_ n3_ n4_ ho hb hg hat
            refine hK.out _ _ trivial (fun hHeld=>?_)
            clear hK K
            refine norm_ (a' := ?_) ?_ ?_
            rotate_left
            ·show Act.put _ (some 89) _=_
             simp only [Act.put,zqA,zqB,zqC,i64_w,i32_w]
             rfl
            refine one_ (i:=6) (N:=some 91) (zl 13 1919) rfl rfl (one_of HT_.out zb10) zb46 (fun K hK=>?_)
            refine Kd.R_lit_step (Kd.int .u8) _ 5 ?hg (N:=91) ?hd (xs:=([10]:List Int)) (inner:=[.int .u8 10]) (ok:=fun _=>True) (okp:=fun _=>True) ?hr ?hp (fun _ hk=>hk) trivial (Below.refl _ _) (Nat.le_refl _) zb40 ?_;(case hd=>rfl);(case hg=>rfl);(case hr=>first|(go_simp;done)|(go_simp;rfl));(case hp=>exact (Reps.one (show Kd.M (Kd.int .u8) _ _ _ 10 [.int .u8 10] from rfl) (Reps.none _ _)))
            intro v1006 w154 ho155 hb hg_ hnew_
            clear hg_ hnew_
            (first|rw [← Ny77.out] at ho155|(simp only [Int.reduceToNat] at ho155;rw [← Ny77.out] at ho155))
            have n0_:=Aside0.mk (Kd.R_below zb12 hb)
            have n1_:=Aside0.mk (Kd.R_elder' zb7 (Kd.R_base ho155) hb)
            have n2_:=Aside0.mk (Kd.R_elder' zb160 (Kd.R_base ho155) hb)
            have n3_:=Aside0.mk (Kd.R_lower (Kd.R_new' (Kd.R_new' ho155 (Kd.R_lt zb7)) (Kd.R_lt zb160)) (below_size zb2))
            have n4_:=Aside0.mk (blk_below (g:=gb68) (o:=.cells #[.string t74,.string t75,.int .i64 t76,.slice Ao20 t73.length co20,.slice Ao21 t71.length co21] 33 (0,0)) zb9 hb)
            have n5_:=Aside0.mk (below_step zb2 hb)
            clear HO_70 HO_69 HO1004 BK68 HB
            have HO_70:=n0_
            have HO_69:=n1_
            have HO1004:=n2_
            have HO78:=n3_
            have BK68:=n4_
            have HB:=n5_
            clear n0_ n1_ n2_ n3_ n4_ n5_ hb ho155
            refine hK.out _ _ trivial (fun hHeld=>?_)
            clear hK K
            refine norm_ (a' := ?_) ?_ ?_
            rotate_left
            ·show Act.put _ (some 91) _=_
             simp only [Act.put,zqA,zqB,zqC,i64_w,i32_w]
             rfl
            exact norm_ zb150 (hCont (v999,v1003,v1006) _ ⟨zb119,(by (with_reducible repeat (first|apply Kd.R_alloc|apply Kd.R_drewN|apply Kd.R_drew));exact Kd.R_mono HO78.out (fun _ hk=>⟨hk.2,hk.1.2⟩)),zb12,zb93,zb9,zb2⟩)
           skip
           refine Kd.R_lit_step (Kd.int .u8) _ 5 ?hg (N:=91) ?hd (xs:=([10]:List Int)) (inner:=[.int .u8 10]) (ok:=fun _=>True) (okp:=fun _=>True) ?hr ?hp (fun _ hk=>hk) trivial (Below.refl _ _) (Nat.le_refl _) zb40 ?_;(case hd=>rfl);(case hg=>rfl);(case hr=>first|(go_simp;done)|(go_simp;rfl));(case hp=>exact (Reps.one (show Kd.M (Kd.int .u8) _ _ _ 10 [.int .u8 10] from rfl) (Reps.none _ _)))
           intro v1006 w153 ho154 hb hg_ hnew_
           clear hg_ hnew_
           (first|rw [← Ny77.out] at ho154|(simp only [Int.reduceToNat] at ho154;rw [← Ny77.out] at ho154))
           have n0_:=Aside0.mk (Kd.R_below zb12 hb)
           have n1_:=Aside0.mk (Kd.R_elder' zb7 (Kd.R_base ho154) hb)
           have n2_:=Aside0.mk (Kd.R_elder' zb124 (Kd.R_base ho154) hb)
           have n3_:=Aside0.mk (Kd.R_lower (Kd.R_new' (Kd.R_new' ho154 (Kd.R_lt zb7)) (Kd.R_lt zb124)) (below_size zb2))
           have n4_:=Aside0.mk (blk_below (g:=gb68) (o:=.cells #[.string t74,.string t75,.int .i64 t76,.slice Ao20 t73.length co20,.slice Ao21 t71.length co21] 33 (0,0)) zb9 hb)
           have n5_:=Aside0.mk (below_step zb2 hb)
           clear HO_70 HO_69 HO1000 BK68 HB
           have HO_70:=n0_
           have HO_69:=n1_
           have HO1000:=n2_
           have HO78:=n3_
           have BK68:=n4_
           have HB:=n5_
           clear n0_ n1_ n2_ n3_ n4_ n5_ hb ho154
           refine hK.out _ _ trivial (fun hHeld=>?_)
           clear hK K
           refine norm_ (a' := ?_) ?_ ?_
           rotate_left
           ·show Act.put _ (some 91) _=_
            simp only [Act.put,zqA,zqB,zqC,i64_w,i32_w]
            rfl
           refine one_ (i:=4) (N:=some 89) (zl 13 1919) rfl rfl (one_of HT_.out zb10) zb46 (fun K hK=>?_)
           refine Kd.R_append_rows_step (Kd.int .u8) (w0:=w) w.heap.size zb63 (.tmp 85) (.tmp 88) 23 5 (.int .u8 0) 1 rfl Tryz.underlying23 info5 rfl zb46 zb30 v999 y998 (l0.take ((ji34):Int).toNat) _ _ _ (fun k_=>some k_ ≠ (.slice Ao21 t71.length co21:Value).ownBlock∧some k_ ≠ (v1006:Value).ownBlock) (fun _=>False) rfl rfl ?aO ?aR (fun _ _ h=>h) (fun _ h=>h.elim) ?aF ?aB ?aS ?aL ?_
           (case aR=>exact zb36)
           (case aB=>exact zb27)
           (case aF=>exact zb65)
           (case aO=>exact zb175)
           (case aS=>exact zb23)
           (case aL=>exact zb100)
           intro v1003 w155 ho hb hg hat
           rw [← Ny81.out] at ho
           have n0_:=Aside0.mk (Kd.R_over' zb12 (Kd.R_typed zb124) zb46 hg)
           have n1_:=Aside0.mk (Kd.R_after (ok:=(fun k_=>some k_ ≠ (v1006:Value).ownBlock)) zb140 hg hat)
           have n2_:=Aside0.mk (blk_grown (g:=gb68) (o:=.cells #[.string t74,.string t75,.int .i64 t76,.slice Ao20 t73.length co20,.slice Ao21 t71.length co21] 33 (0,0)) zb9 hg (Kd.R_ne HO1000.out BK68.out zb46))
           have n3_:=Aside0.mk (Kd.R_after (ok:=(fun k_=>some k_ ≠ (.slice Ao21 t71.length co21:Value).ownBlock)) zb181 hg hat)
           have n4_:=Aside0.mk (hb)
           have n5_:=Aside0.mk (ho)
           clear HO_70 HO_69 BK68 HO78 HB HO1000
           have HO_70:=n0_
           have HO_69:=n1_
           have BK68:=n2_
           have HO78:=n3_
           have HB:=n4_
           have HO1004:=n5_
           clear n0_ n1_ n2_ n3_ n4_ n5_ ho hb hg hat
           refine hK.out _ _ trivial (fun hHeld=>?_)
           clear hK K
           refine norm_ (a' := ?_) ?_ ?_
           rotate_left
           ·show Act.put _ (some 89) _=_
            simp only [Act.put,zqA,zqB,zqC,i64_w,i32_w]
            rfl
           exact norm_ zb150 (hCont (v999,v1003,v1006) _ ⟨zb119,zb145,zb12,zb60,zb9,zb2⟩)
          skip
          refine Kd.R_lit_step (Kd.int .u8) _ 5 ?hg (N:=91) ?hd (xs:=([10]:List Int)) (inner:=[.int .u8 10]) (ok:=fun _=>True) (okp:=fun _=>True) ?hr ?hp (fun _ hk=>hk) trivial (Below.refl _ _) (Nat.le_refl _) zb40 ?_;(case hd=>rfl);(case hg=>rfl);(case hr=>first|(go_simp;done)|(go_simp;rfl));(case hp=>exact (Reps.one (show Kd.M (Kd.int .u8) _ _ _ 10 [.int .u8 10] from rfl) (Reps.none _ _)))
          intro v1006 w151 ho152 hb hg_ hnew_
          clear hg_ hnew_
          (first|rw [← Ny77.out] at ho152|(simp only [Int.reduceToNat] at ho152;rw [← Ny77.out] at ho152))
          have n0_:=Aside0.mk (Kd.R_below zb12 hb)
          have n1_:=Aside0.mk (Kd.R_elder' zb7 (Kd.R_base ho152) hb)
          have n2_:=Aside0.mk (Kd.R_lower (Kd.R_new' ho152 (Kd.R_lt zb7)) (below_size zb2))
          have n3_:=Aside0.mk (blk_below (g:=gb68) (o:=.cells #[.string t74,.string t75,.int .i64 t76,.slice Ao20 t73.length co20,.slice Ao21 t71.length co21] 33 (0,0)) zb9 hb)
          have n4_:=Aside0.mk (below_step zb2 hb)
          clear HO_70 HO_69 BK68 HB
          have HO_70:=n0_
          have HO_69:=n1_
          have HO78:=n2_
          have BK68:=n3_
          have HB:=n4_
          clear n0_ n1_ n2_ n3_ n4_ hb ho152
          refine hK.out _ _ trivial (fun hHeld=>?_)
          clear hK K
          refine norm_ (a' := ?_) ?_ ?_
          rotate_left
          ·show Act.put _ (some 91) _=_
           simp only [Act.put,zqA,zqB,zqC,i64_w,i32_w]
           rfl
          refine one_ (i:=0) (N:=some 85) (zl 13 1903) rfl rfl (one_of HT_.out zb10) zb46 (fun K hK=>?_)
          refine Kd.R_lit_step (Kd.int .u8) _ 5 ?hg (N:=85) ?hd (xs:=([]:List Int)) (inner:=[]) (ok:=fun _=>True) (okp:=fun _=>True) ?hr ?hp (fun _ hk=>hk) trivial (Below.refl _ _) (Nat.le_refl _) zb40 ?_;(case hd=>rfl);(case hg=>rfl);(case hr=>first|(go_simp;done)|(go_simp;rfl));(case hp=>exact (Reps.none _ _))
          intro v999 w153 ho154 hb hg_ hnew_
          clear hg_ hnew_
          (first|rw [← Ny998.out] at ho154|(simp only [Int.reduceToNat] at ho154;rw [← Ny998.out] at ho154))
          have n0_:=Aside0.mk (Kd.R_below zb12 hb)
          have n1_:=Aside0.mk (Kd.R_elder' zb7 (Kd.R_base ho154) hb)
          have n2_:=Aside0.mk (Kd.R_elder' zb70 (Kd.R_base ho154) hb)
          have n3_:=Aside0.mk (Kd.R_lower (Kd.R_new' (Kd.R_new' ho154 (Kd.R_lt zb7)) (Kd.R_lt zb70)) (below_size zb2))
          have n4_:=Aside0.mk (blk_below (g:=gb68) (o:=.cells #[.string t74,.string t75,.int .i64 t76,.slice Ao20 t73.length co20,.slice Ao21 t71.length co21] 33 (0,0)) zb9 hb)
          have n5_:=Aside0.mk (below_step zb2 hb)
          clear HO_70 HO_69 HO78 BK68 HB
          have HO_70:=n0_
          have HO_69:=n1_
          have HO78:=n2_
          have HO1000:=n3_
          have BK68:=n4_
          have HB:=n5_
          clear n0_ n1_ n2_ n3_ n4_ n5_ hb ho154
          refine hK.out _ _ trivial (fun hHeld=>?_)
          clear hK K
          refine norm_ (a' := ?_) ?_ ?_
          rotate_left
          ·show Act.put _ (some 85) _=_
           simp only [Act.put,zqA,zqB,zqC,i64_w,i32_w]
           rfl
          refine one_ (i:=4) (N:=some 89) (zl 13 1919) rfl rfl (one_of HT_.out zb10) zb46 (fun K hK=>?_)
          refine Kd.R_append_rows_step (Kd.int .u8) (w0:=w) w.heap.size zb63 (.tmp 85) (.tmp 88) 23 5 (.int .u8 0) 1 rfl Tryz.underlying23 info5 rfl zb46 zb30 v999 y998 (l0.take ((ji34):Int).toNat) _ _ _ (fun k_=>some k_ ≠ (.slice Ao21 t71.length co21:Value).ownBlock∧some k_ ≠ (v1006:Value).ownBlock) (fun _=>False) rfl rfl ?aO ?aR (fun _ _ h=>h) (fun _ h=>h.elim) ?aF ?aB ?aS ?aL ?_
          (case aR=>exact zb36)
          (case aB=>exact zb27)
          (case aF=>exact zb65)
          (case aO=>exact zb175)
          (case aS=>exact zb23)
          (case aL=>exact zb100)
          intro v1003 w155 ho hb hg hat
          rw [← Ny81.out] at ho
          have n0_:=Aside0.mk (Kd.R_over' zb12 (Kd.R_typed zb124) zb46 hg)
          have n1_:=Aside0.mk (Kd.R_after (ok:=(fun k_=>some k_ ≠ (v1006:Value).ownBlock)) zb93 hg hat)
          have n2_:=Aside0.mk (blk_grown (g:=gb68) (o:=.cells #[.string t74,.string t75,.int .i64 t76,.slice Ao20 t73.length co20,.slice Ao21 t71.length co21] 33 (0,0)) zb9 hg (Kd.R_ne HO1000.out BK68.out zb46))
          have n3_:=Aside0.mk (Kd.R_after (ok:=(fun k_=>some k_ ≠ (.slice Ao21 t71.length co21:Value).ownBlock)) zb181 hg hat)
          have n4_:=Aside0.mk (hb)
          have n5_:=Aside0.mk (ho)
          clear HO_70 HO_69 BK68 HO78 HB HO1000
          have HO_70:=n0_
          have HO_69:=n1_
          have BK68:=n2_
          have HO78:=n3_
          have HB:=n4_
          have HO1004:=n5_
          clear n0_ n1_ n2_ n3_ n4_ n5_ ho hb hg hat
          refine hK.out _ _ trivial (fun hHeld=>?_)
          clear hK K
          refine norm_ (a' := ?_) ?_ ?_
          rotate_left
          ·show Act.put _ (some 89) _=_
           simp only [Act.put,zqA,zqB,zqC,i64_w,i32_w]
           rfl
          exact norm_ zb150 (hCont (v999,v1003,v1006) _ ⟨zb119,zb145,zb12,zb60,zb9,zb2⟩)
         rintro ⟨v999,v1003,v1006⟩ w156 ⟨h0_,h1_,h2_,h3_,h4_,h5_⟩
         have n0_:Aside0 (Kd.R (Kd.int .u8) 5 w156 w.heap.size (fun k_=>some k_ ≠ (v1006:Value).ownBlock∧some k_ ≠ (.slice Ao21 t71.length co21:Value).ownBlock) v1003 y81):=⟨h0_⟩
         have n1_:Aside0 (Kd.R (Kd.int .u8) 5 w156 w.heap.size (fun k_=>some k_ ≠ (v1003:Value).ownBlock∧some k_ ≠ (.slice Ao21 t71.length co21:Value).ownBlock) v1006 y77):=⟨h1_⟩
         have n2_:Aside0 (Kd.R k55 55 w156 w.heap.size (fun _=>True) (.slice Ao20 t73.length co20) t73):=⟨h2_⟩
         have n3_:Aside0 (Kd.R (Kd.int .u8) 5 w156 w.heap.size (fun k_=>some k_ ≠ (v1003:Value).ownBlock∧some k_ ≠ (v1006:Value).ownBlock) (.slice Ao21 t71.length co21) t71):=⟨h3_⟩
         have n4_:Aside0 (w156.heap[gb68]? = some (.cells #[.string t74,.string t75,.int .i64 t76,.slice Ao20 t73.length co20,.slice Ao21 t71.length co21] 33 (0,0))):=⟨h4_⟩
         have n5_:Aside0 (Below w.heap.size w w156):=⟨h5_⟩
         clear HO_70 HO_69 BK68 HB h0_ h1_ h2_ h3_ h4_ h5_
         have HO1004:=n0_
         have HO78:=n1_
         have HO_70:=n2_
         have HO_69:=n3_
         have BK68:=n4_
         have HB:=n5_
         clear n0_ n1_ n2_ n3_ n4_ n5_
         have hHeld:=trivial
         obtain ⟨Ao158,co158,eo158⟩:=Kd.R_slice HO78.out
         (first|subst eo158|(injection eo158 with f1_ f2_ f3_;have f4_:=f1_.symm;have f5_:=f3_.symm;clear f1_ f2_ f3_;subst f4_;subst f5_))
         refine norm_ (a' := ?_) ?_ ?_
         rotate_left
         ·simp only [putAll,Act.put,zqA,zqB,zqC];rfl
         refine one_ (i:=7) (N:=some 92) (zl 13 2047) rfl rfl (one_of HT_.out zb10) zb46 (fun K hK=>?_)
         refine Kd.R_append_rows_step (Kd.int .u8) (w0:=w) w.heap.size zb63 (.tmp 89) (.tmp 91) 23 5 (.int .u8 0) 1 rfl Tryz.underlying23 info5 rfl zb46 zb30 v1003 y81 y77 _ _ _ (fun k_=>some k_ ≠ (.slice Ao21 t71.length co21:Value).ownBlock∧some k_ ≠ (.slice Ao158 y77.length co158:Value).ownBlock) (fun _=>False) rfl rfl ?aO ?aR (fun _ _ h=>h) (fun _ h=>h.elim) ?aF ?aB ?aS ?aL ?_
         (case aR=>repeat (first|exact (Kd.R_reads' HO78.out).2.2|(with_reducible refine Kd.C_alloc ?_ _)|(with_reducible refine Kd.C_drewN ?_ _)|(with_reducible refine Kd.C_drew ?_)))
         (case aB=>exact zb27)
         (case aF=>exact zb65)
         (case aO=>exact zb119)
         (case aS=>exact zb23)
         (case aL=>have:=LMc142.out;omega)
         intro v1009 w157 ho hb hg hat
         rw [← Ny82.out] at ho
         have n0_:=Aside0.mk (Kd.R_over' zb12 (Kd.R_typed zb160) zb46 hg)
         have n1_:=Aside0.mk (Kd.R_after (ok:=(fun k_=>some k_ ≠ (.slice Ao158 y77.length co158:Value).ownBlock)) zb60 hg hat)
         have n2_:=Aside0.mk (blk_grown (g:=gb68) (o:=.cells #[.string t74,.string t75,.int .i64 t76,.slice Ao20 t73.length co20,.slice Ao21 t71.length co21] 33 (0,0)) zb9 hg (Kd.R_ne HO1004.out BK68.out zb46))
         have n3_:=Aside0.mk (Kd.R_after (ok:=(fun k_=>some k_ ≠ (.slice Ao21 t71.length co21:Value).ownBlock)) zb145 hg hat)
         have n4_:=Aside0.mk (hb)
         have n5_:=Aside0.mk (ho)
         clear HO_70 HO_69 BK68 HO78 HB HO1004
         have HO_70:=n0_
         have HO_69:=n1_
         have BK68:=n2_
         have HO78:=n3_
         have HB:=n4_
         have HO1010:=n5_
         clear n0_ n1_ n2_ n3_ n4_ n5_ ho hb hg hat
         refine hK.out _ _ trivial (fun hHeld=>?_)
         clear hK K
         refine norm_ (a' := ?_) ?_ ?_
         rotate_left
         ·show Act.put _ (some 92) _=_
          simp only [Act.put,zqA,zqB,zqC,i64_w,i32_w]
          rfl
         refine one_ (i:=11) (N:=some 96) (zl 13 4095) rfl rfl (one_of HT_.out zb10) zb46 (fun K hK=>?_)
         refine Kd.R_append_rows_step (Kd.int .u8) (w0:=w) w.heap.size zb63 (.tmp 92) (.tmp 95) 23 5 (.int .u8 0) 1 rfl Tryz.underlying23 info5 rfl zb46 zb30 v1009 y82 (l0.drop ((ji34):Int).toNat) _ _ _ (fun k_=>some k_ ≠ (.slice Ao21 t71.length co21:Value).ownBlock∧some k_ ≠ (.slice Ao158 y77.length co158:Value).ownBlock) (fun _=>False) rfl rfl ?aO ?aR (fun _ _ h=>h) (fun _ h=>h.elim) ?aF ?aB ?aS ?aL ?_
         (case aR=>first|(rw [← show (l0.drop ((ji34):Int).toNat).length=(l0.length - (ji34).toNat) from List.length_drop];repeat (first|exact (Kd.C_below HR1011.out HB.out)|(with_reducible refine Kd.C_alloc ?_ _)|(with_reducible refine Kd.C_drewN ?_ _)|(with_reducible refine Kd.C_drew ?_)))|(repeat (first|exact (Kd.C_below HR1011.out HB.out)|(with_reducible refine Kd.C_alloc ?_ _)|(with_reducible refine Kd.C_drewN ?_ _)|(with_reducible refine Kd.C_drew ?_))))
         (case aB=>exact zb27)
         (case aF=>exact zb65)
         (case aO=>exact (by (with_reducible repeat (first|apply Kd.R_alloc|apply Kd.R_drewN|apply Kd.R_drew));exact HO1010.out))
         (case aS=>exact zb23)
         (case aL=>have:=LMc145.out;have hlx_:=(show (l0.drop ((ji34):Int).toNat).length=(l0.length - (ji34).toNat) from List.length_drop);omega)
         intro v1013 w159 ho hb hg hat
         rw [← Ny1012.out] at ho
         have n0_:=Aside0.mk (Kd.R_over' zb12 (Kd.R_typed (by (with_reducible repeat (first|apply Kd.R_alloc|apply Kd.R_drewN|apply Kd.R_drew));exact HO1010.out)) zb46 hg)
         have n1_:=Aside0.mk (Kd.R_after (ok:=(fun k_=>some k_ ≠ (.slice Ao158 y77.length co158:Value).ownBlock)) zb7 hg hat)
         have n2_:=Aside0.mk (blk_grown (g:=gb68) (o:=.cells #[.string t74,.string t75,.int .i64 t76,.slice Ao20 t73.length co20,.slice Ao21 t71.length co21] 33 (0,0)) zb9 hg (Kd.R_ne HO1010.out BK68.out zb46))
         have n3_:=Aside0.mk (Kd.R_after (ok:=(fun k_=>some k_ ≠ (.slice Ao21 t71.length co21:Value).ownBlock)) zb70 hg hat)
         have n4_:=Aside0.mk (hb)
         have n5_:=Aside0.mk (ho)
         clear HO_70 HO_69 BK68 HO78 HB HO1010
         have HO_70:=n0_
         have HO_69:=n1_
         have BK68:=n2_
         have HO78:=n3_
         have HB:=n4_
         have HO1014:=n5_
         clear n0_ n1_ n2_ n3_ n4_ n5_ ho hb hg hat
         refine hK.out _ _ trivial (fun hHeld=>?_)
         clear hK K
         refine norm_ (a' := ?_) ?_ ?_
         rotate_left
         ·show Act.put _ (some 96) _=_
          simp only [Act.put,zqA,zqB,zqC,i64_w,i32_w]
          rfl
         refine zpu 12 (N:=some 14) (zl 13 8191) HT_.out rfl rfl ?_
         refine done_ (done_of HT_.out zb10) ?_
         obtain ⟨Ao160,co160,eo160⟩:=Kd.R_slice HO1014.out
         subst eo160
         try go_wp2_with (first|((with_reducible refine gate_callee (f:=20) rfl ?_);refine goesL_ (some 99) rfl rfl Tryz.func20 zb10 rfl #[.slice Ao160 y1012.length co160] rfl zb1 ?_;(with_reducible refine (http_Request.calls kj21 _ _ y1012 t1015 t1016 t1017 t1018 t1021 t1024 t1025 _ ?side1 ?side2 A146.out).mono ?_);(case side1=>repeat (first|exact (Kd.R_reads' HO1014.out).2.2|(with_reducible refine Kd.C_alloc ?_ _)|(with_reducible refine Kd.C_drewN ?_ _)|(with_reducible refine Kd.C_drew ?_)));(case side2=>exact (Kd.R_reads' HO1014.out).2.1);rintro e w161 ⟨v1019,v1022,rfl,ho0,ho1,hb⟩;(try clear A146);refine ⟨_,rfl,?_⟩;have HO1020:=Aside0.mk (Kd.R_lower (Kd.R_new' ho0 (Kd.R_lt zb12)) (below_size zb2));replace HO_70:=Aside0.mk (Kd.R_elder' zb12 (Kd.R_base ho0) hb);have HO1023:=Aside0.mk (Kd.R_lower (Kd.R_new' (Kd.R_new' (Kd.R_new' ho1 (Kd.R_lt zb7)) (Kd.R_lt zb70)) (Kd.R_lt zb161)) (below_size zb2));replace HO_69:=Aside0.mk (Kd.R_elder' zb7 (Kd.R_base ho1) hb);replace HO78:=Aside0.mk (Kd.R_elder' zb70 (Kd.R_base ho1) hb);replace HO1014:=Aside0.mk (Kd.R_elder' zb161 (Kd.R_base ho1) hb);replace BK68:=Aside0.mk (blk_below (g:=gb68) (o:=.cells #[.string t74,.string t75,.int .i64 t76,.slice Ao20 t73.length co20,.slice Ao21 t71.length co21] 33 (0,0)) zb9 hb);replace HB:=Aside0.mk (below_step zb2 hb);try clear hb ho0 ho1)|((with_reducible refine gate_dst (N:=15) rfl ?_);refine box_event rfl (N:=15) rfl (cs:=#[.string (⟨#[]⟩:ByteArray),.string (⟨#[]⟩:ByteArray),.int .i64 0,.slice none 0 0,.slice none 0 0]) (t:=33) zS ?_;intro gb83 hg w162 hbox hb;replace HO_70:=Aside0.mk (Kd.R_below zb12 hb);replace HO_69:=Aside0.mk (Kd.R_below zb7 hb);replace HO78:=Aside0.mk (Kd.R_below zb70 hb);replace HO1014:=Aside0.mk (Kd.R_below zb161 hb);replace HO1020:=Aside0.mk (Kd.R_below (by (with_reducible repeat (first|apply Kd.R_alloc|apply Kd.R_drewN|apply Kd.R_drew));exact HO1020.out) hb);replace HO1023:=Aside0.mk (Kd.R_below (by (with_reducible repeat (first|apply Kd.R_alloc|apply Kd.R_drewN|apply Kd.R_drew));exact HO1023.out) hb);have BK83:=Aside0.mk (hbox);have GW83:=zG hg zb2;have GE83:=GW83;replace HB:=Aside0.mk (below_step zb2 hb);have NB68_1026:=Aside0.mk ((by rw [hg];exact Nat.ne_of_lt (blk_lt (g:=gb68) (o:=.cells #[.string t74,.string t75,.int .i64 t76,.slice Ao20 t73.length co20,.slice Ao21 t71.length co21] 33 (0,0)) zb9):gb68 ≠ gb83));have NB83_935:=Aside0.mk ((by rw [hg];exact Nat.ne_of_gt (blk_lt (g:=gb68) (o:=.cells #[.string t74,.string t75,.int .i64 t76,.slice Ao20 t73.length co20,.slice Ao21 t71.length co21] 33 (0,0)) zb9):gb83 ≠ gb68));replace BK68:=Aside0.mk (blk_below (g:=gb68) (o:=.cells #[.string t74,.string t75,.int .i64 t76,.slice Ao20 t73.length co20,.slice Ao21 t71.length co21] 33 (0,0)) zb9 hb);clear hb hbox hg;have hnb163:=NB83_935.out;have hnc163:=NB68_1026.out;obtain ⟨hcz164_0,hcz164_1,hcz164_2,hcz164_3,hcz164_4,hfz164_0,hfz164_1,hfz164_2,hfz164_3,hfz164_4⟩:=zq5 BK83.out;obtain ⟨Ao165,co165,eo165⟩:=Kd.R_slice HO1020.out;subst eo165;obtain ⟨Ao166,co166,eo166⟩:=Kd.R_slice HO1023.out;subst eo166))
         go_ret
         exact ⟨zb111,by repeat (first|(with_reducible first|exact HB.out|apply below_alloc|apply pw_below_drewN|apply below_drew1|refine below_set ?_ GE68.out|refine below_set ?_ GE83.out)|exact HB.out)⟩
        ·rw [if_neg c145] at H
         exact absurd H zb40
       rw [if_pos c87] at H
       have c87b0:decide (0 < (ji34))=true:=decide_eq_true c87
       clear c87
       obtain ⟨ji88,hji88⟩ : ∃ j_:Int,(wrap64 ((ji34) - 1))=j_:=⟨_,rfl⟩
       replace H:(if 0 ≤ (ji88) then (if (ji88) < (l0.length:Int) then (if (rd l0 (ji88))=13 then (some true) else ((some (([]:List Int):List Int)).bind fun y969=>(if (ji34) ≤ (l0.length:Int) then (if y969.length + (l0.take ((ji34):Int).toNat).length < 140737488355328 then ((some (y969 ++ (l0.take ((ji34):Int).toNat):List Int)).bind fun y973=>((some (([10]:List Int):List Int)).bind fun y79=>(if y973.length + y79.length < 140737488355328 then ((some (y973 ++ y79:List Int)).bind fun y979=>(if y979.length + (l0.drop ((ji34):Int).toNat).length < 140737488355328 then ((http_Request.f kj21 (y979 ++ (l0.drop ((ji34):Int).toNat))).bind fun bt986=>(if bt986.2.2.2.2.2.1=0 then (some (bt986.2.2.2.2.2.2 == 400)) else (some false))) else (none))) else (none)))) else (none)) else (none)))) else (none)) else (none))=some r:=by first|(rw [hji88] at H;exact H)|(simp only [hji88] at H ⊢;exact H)
       have hji88w:(IntKind.i64.wrap ((ji34) - 1))=ji88:=(i64_w _).trans hji88
       by_cases c89:0 ≤ (ji88)
       ·rw [if_pos c89] at H
        have c89b0:=decide_eq_true c89
        clear c89
        by_cases c90:(ji88) < (l0.length:Int)
        ·rw [if_pos c90] at H
         have c90b0:=decide_eq_true c90
         clear c90
         by_cases c91:(rd l0 (ji88))=13
         ·rw [if_pos c91] at H
          have c91b0:=beq_iff_eq.mpr c91
          have c91b1:=bne_eq_false_iff_eq.mpr c91
          clear c91
          obtain rfl:=Option.some.inj H
          have p72:0 ≤ ((ji34):Int):=of_decide_eq_true zb5
          have q72:(ji34) < (l0.length:Int):=of_decide_eq_true zb5
          obtain ⟨ad72,e72,hx72_0⟩:=Kd.at_int HR0.out (ji34) p72 q72
          cases e72
          replace hx72_0:=(HB.out.cell (World.block_lt_of_cell? w _ hx72_0)).trans hx72_0
          replace p72:=eq_true p72
          replace q72:=eq_true q72
          have p968:0 ≤ ((ji88):Int):=of_decide_eq_true zb5
          have q968:(ji88) < (l0.length:Int):=of_decide_eq_true zb5
          obtain ⟨ad968,e968,hx968_0⟩:=Kd.at_int HR0.out (ji88) p968 q968
          obtain rfl:ad72=ad968:=(by injection e968)
          replace hx968_0:=(HB.out.cell (World.block_lt_of_cell? w _ hx968_0)).trans hx968_0
          replace p968:=eq_true p968
          replace q968:=eq_true q968
          go_wp2
          go_ret
          exact ⟨zb155,zb2⟩
         rw [if_neg c91] at H
         have c91b0:=beq_eq_false_iff_ne.mpr c91
         have c91b1:=bne_iff_ne.mpr c91
         obtain ⟨y969,hy969⟩ : ∃ y_:List Int,y_=(([]:List Int)):=⟨_,rfl⟩
         replace H:(if (ji34) ≤ (l0.length:Int) then (if y969.length + (l0.take ((ji34):Int).toNat).length < 140737488355328 then ((some (y969 ++ (l0.take ((ji34):Int).toNat):List Int)).bind fun y973=>((some (([10]:List Int):List Int)).bind fun y79=>(if y973.length + y79.length < 140737488355328 then ((some (y973 ++ y79:List Int)).bind fun y979=>(if y979.length + (l0.drop ((ji34):Int).toNat).length < 140737488355328 then ((http_Request.f kj21 (y979 ++ (l0.drop ((ji34):Int).toNat))).bind fun bt986=>(if bt986.2.2.2.2.2.1=0 then (some (bt986.2.2.2.2.2.2 == 400)) else (some false))) else (none))) else (none)))) else (none)) else (none))=some r:=by first|(rw [hy969];with_reducible exact H)|(have H2_:=(Option.bind_some _ _).symm.trans H;rw [hy969];with_reducible exact H2_)|(have H2_:=(Option.bind_some _ _).symm.trans H;with_reducible exact H2_)|with_reducible exact H|(rw [hy969];exact H)|exact H
         have Ny969:=Aside0.mk hy969
         clear hy969
         have c92b0:=eq_true (of_decide_eq_true zb5:0 ≤ (ji34))
         by_cases c93:(ji34) ≤ (l0.length:Int)
         ·rw [if_pos c93] at H
          have c93b0:=eq_true c93
          have c93b1:=decide_eq_true c93
          clear c93
          by_cases c94:y969.length + (l0.take ((ji34):Int).toNat).length < 140737488355328
          ·rw [if_pos c94] at H
           have LMc94:=Aside0.mk c94
           clear c94
           obtain ⟨y973,hy973⟩ : ∃ y_:List Int,y_=(y969 ++ (l0.take ((ji34):Int).toNat)):=⟨_,rfl⟩
           replace H:((some (([10]:List Int):List Int)).bind fun y79=>(if y973.length + y79.length < 140737488355328 then ((some (y973 ++ y79:List Int)).bind fun y979=>(if y979.length + (l0.drop ((ji34):Int).toNat).length < 140737488355328 then ((http_Request.f kj21 (y979 ++ (l0.drop ((ji34):Int).toNat))).bind fun bt986=>(if bt986.2.2.2.2.2.1=0 then (some (bt986.2.2.2.2.2.2 == 400)) else (some false))) else (none))) else (none)))=some r:=by first|(rw [hy973];with_reducible exact H)|(have H2_:=(Option.bind_some _ _).symm.trans H;rw [hy973];with_reducible exact H2_)|(have H2_:=(Option.bind_some _ _).symm.trans H;with_reducible exact H2_)|with_reducible exact H|(rw [hy973];exact H)|exact H
           have Ny973:=Aside0.mk hy973
           clear hy973
           obtain ⟨y79,hy79⟩ : ∃ y_:List Int,y_=(([10]:List Int)):=⟨_,rfl⟩
           replace H:(if y973.length + y79.length < 140737488355328 then ((some (y973 ++ y79:List Int)).bind fun y979=>(if y979.length + (l0.drop ((ji34):Int).toNat).length < 140737488355328 then ((http_Request.f kj21 (y979 ++ (l0.drop ((ji34):Int).toNat))).bind fun bt986=>(if bt986.2.2.2.2.2.1=0 then (some (bt986.2.2.2.2.2.2 == 400)) else (some false))) else (none))) else (none))=some r:=by first|(rw [hy79];with_reducible exact H)|(have H2_:=(Option.bind_some _ _).symm.trans H;rw [hy79];with_reducible exact H2_)|(have H2_:=(Option.bind_some _ _).symm.trans H;with_reducible exact H2_)|with_reducible exact H|(rw [hy79];exact H)|exact H
           have Ny79:=Aside0.mk hy79
           clear hy79
           by_cases c95:y973.length + y79.length < 140737488355328
           ·rw [if_pos c95] at H
            have LMc95:=Aside0.mk c95
            clear c95
            obtain ⟨y979,hy979⟩ : ∃ y_:List Int,y_=(y973 ++ y79):=⟨_,rfl⟩
            replace H:(if y979.length + (l0.drop ((ji34):Int).toNat).length < 140737488355328 then ((http_Request.f kj21 (y979 ++ (l0.drop ((ji34):Int).toNat))).bind fun bt986=>(if bt986.2.2.2.2.2.1=0 then (some (bt986.2.2.2.2.2.2 == 400)) else (some false))) else (none))=some r:=by first|(rw [hy979];with_reducible exact H)|(have H2_:=(Option.bind_some _ _).symm.trans H;rw [hy979];with_reducible exact H2_)|(have H2_:=(Option.bind_some _ _).symm.trans H;with_reducible exact H2_)|with_reducible exact H|(rw [hy979];exact H)|exact H
            have Ny979:=Aside0.mk hy979
            clear hy979
            have c96b0:=eq_true (of_decide_eq_true zb5:0 ≤ (ji34))
            have c97b0:=eq_true (of_decide_eq_true zb5:(ji34) ≤ (l0.length:Int))
            by_cases c98:y979.length + (l0.drop ((ji34):Int).toNat).length < 140737488355328
            ·rw [if_pos c98] at H
             have LMc98:=Aside0.mk c98
             clear c98
             obtain ⟨y983,hy983⟩ : ∃ y_:List Int,y_=(y979 ++ (l0.drop ((ji34):Int).toNat)):=⟨_,rfl⟩
             replace H:((http_Request.f kj21 y983).bind fun bt986=>(if bt986.2.2.2.2.2.1=0 then (some (bt986.2.2.2.2.2.2 == 400)) else (some false)))=some r:=by first|(rw [hy983];with_reducible exact H)|(have H2_:=(Option.bind_some _ _).symm.trans H;rw [hy983];with_reducible exact H2_)|(have H2_:=(Option.bind_some _ _).symm.trans H;with_reducible exact H2_)|with_reducible exact H|(rw [hy983];exact H)|exact H
             have Ny983:=Aside0.mk hy983
             clear hy983
             replace H:=Option.bind_eq_some_iff.mp H
             obtain ⟨⟨t986,t987,t988,t989,t992,t995,t996⟩,A990,H⟩:=H
             try dsimp only at H
             have A99:=Aside0.mk A990
             clear A990
             by_cases c100:t995=0
             ·rw [if_pos c100] at H
              have c100b0:=beq_iff_eq.mpr c100
              have c100b1:=bne_eq_false_iff_eq.mpr c100
              clear c100
              obtain rfl:=Option.some.inj H
              have p72:0 ≤ ((ji34):Int):=of_decide_eq_true zb5
              have q72:(ji34) < (l0.length:Int):=of_decide_eq_true zb5
              obtain ⟨ad72,e72,hx72_0⟩:=Kd.at_int HR0.out (ji34) p72 q72
              cases e72
              replace hx72_0:=(HB.out.cell (World.block_lt_of_cell? w _ hx72_0)).trans hx72_0
              replace p72:=eq_true p72
              replace q72:=eq_true q72
              have p968:0 ≤ ((ji88):Int):=of_decide_eq_true zb5
              have q968:(ji88) < (l0.length:Int):=of_decide_eq_true zb5
              obtain ⟨ad968,e968,hx968_0⟩:=Kd.at_int HR0.out (ji88) p968 q968
              obtain rfl:ad72=ad968:=(by injection e968)
              replace hx968_0:=(HB.out.cell (World.block_lt_of_cell? w _ hx968_0)).trans hx968_0
              replace p968:=eq_true p968
              replace q968:=eq_true q968
              try go_wp2
              replace HO_70:=Aside0.mk (Kd.R_drew HO_70.out)
              replace HO_69:=Aside0.mk (Kd.R_drew HO_69.out)
              replace BK68:=Aside0.mk (blk_drew BK68.out)
              replace HB:=Aside0.mk (below_drew1 HB.out)
              obtain ⟨i0102,hi0102,_,hsz102,_⟩:=info_parts info5
              obtain ⟨hcut102,hA102,hC102⟩:=print_take_of (P:=Tryz.prog) (Value.int .u8) 0 23 5 .i64 Tryz.underlying23 hi0102 hsz102 (some ad72) c0 l0 (ji34) (of_decide_eq_true zb5) (of_decide_eq_true zb5) HC0.out
              have HR972:=Aside0.mk (Kd.C_of_reads (h1:=fun _=>rfl) (hA102 _ (Kd.reads_of_C HR0.out)))
              have HC972:=Aside0.mk hC102
              clear hA102 hC102 hi0102 hsz102
              obtain ⟨i0103,hi0103,_,hsz103,_⟩:=info_parts info5
              obtain ⟨A103,hcut103,hA103,hC103⟩:=print_drop_of (P:=Tryz.prog) (Value.int .u8) 0 23 5 .i64 Tryz.underlying23 hi0103 hsz103 (some ad72) c0 l0 (ji34) (of_decide_eq_true zb5) (of_decide_eq_true zb5) HC0.out
              have HR982:=Aside0.mk (Kd.C_of_reads (h1:=fun _=>rfl) (hA103 _ (Kd.reads_of_C HR0.out)))
              have HC982:=Aside0.mk hC103
              clear hA103 hC103 hi0103 hsz103
              refine start_ (n:=13) (S:=fun w' => True) (ds:=[]) (zl 13 0) zb10 rfl rfl trivial (fun hHeld=>?_);refine with_tabW tollbarlaw08_HttpBare.tab24 tollbarlaw08_HttpBare.bits24 (fun HT_ HW_=>?_)
              generalize wc.drew=w101 at HO_70 HO_69 BK68 HB HR972 HR982 hHeld ⊢
              refine zpu 1 (N:=some 86) (zl 13 2) HT_.out rfl rfl ?_
              refine zpu 2 (N:=some 87) (zl 13 6) HT_.out rfl rfl ?_
              refine zpu 3 (N:=some 88) (zl 13 14) HT_.out rfl rfl ?_
              refine zpu 5 (N:=some 90) (zl 13 46) HT_.out rfl rfl ?_
              refine zpu 8 (N:=some 93) (zl 13 302) HT_.out rfl rfl ?_
              refine zpu 9 (N:=some 94) (zl 13 814) HT_.out rfl rfl ?_
              refine zpu 10 (N:=some 95) (zl 13 1838) HT_.out rfl rfl ?_
              refine join_ (σ:=Value × Value × Value) 3 (zl 13 1919) (fun s_=>[(85,s_.1),(89,s_.2.1),(91,s_.2.2)]) (fun s_ w' => (Kd.R (Kd.int .u8) 5 w' w.heap.size (fun k_=>some k_ ≠ (s_.2.2:Value).ownBlock∧some k_ ≠ (.slice Ao21 t71.length co21:Value).ownBlock) s_.2.1 y973)∧(Kd.R (Kd.int .u8) 5 w' w.heap.size (fun k_=>some k_ ≠ (s_.2.1:Value).ownBlock∧some k_ ≠ (.slice Ao21 t71.length co21:Value).ownBlock) s_.2.2 y79)∧(Kd.R k55 55 w' w.heap.size (fun _=>True) (.slice Ao20 t73.length co20) t73)∧(Kd.R (Kd.int .u8) 5 w' w.heap.size (fun k_=>some k_ ≠ (s_.2.1:Value).ownBlock∧some k_ ≠ (s_.2.2:Value).ownBlock) (.slice Ao21 t71.length co21) t71)∧(w'.heap[gb68]? = some (.cells #[.string t74,.string t75,.int .i64 t76,.slice Ao20 t73.length co20,.slice Ao21 t71.length co21] 33 (0,0)))∧(Below w.heap.size w w')) ?_ ?_
              rotate_left
              ·intro hCont
               refine two_ (i:=0) (j:=6) (Ni:=some 85) (Nj:=some 91) (zl 13 1839) (zl 13 1902) rfl rfl rfl rfl (two_of HT_.out zb10) zb46 zb46 (fun K hK=>?_) (fun K hK=>?_)
               ·skip
                refine Kd.R_lit_step (Kd.int .u8) _ 5 ?hg (N:=85) ?hd (xs:=([]:List Int)) (inner:=[]) (ok:=fun _=>True) (okp:=fun _=>True) ?hr ?hp (fun _ hk=>hk) trivial (Below.refl _ _) (Nat.le_refl _) zb40 ?_;(case hd=>rfl);(case hg=>rfl);(case hr=>first|(go_simp;done)|(go_simp;rfl));(case hp=>exact (Reps.none _ _))
                intro v970 w104 ho105 hb hg_ hnew_
                clear hg_ hnew_
                (first|rw [← Ny969.out] at ho105|(simp only [Int.reduceToNat] at ho105;rw [← Ny969.out] at ho105))
                have n0_:=Aside0.mk (Kd.R_below zb12 hb)
                have n1_:=Aside0.mk (Kd.R_elder' zb7 (Kd.R_base ho105) hb)
                have n2_:=Aside0.mk (Kd.R_lower (Kd.R_new' ho105 (Kd.R_lt zb7)) (below_size zb2))
                have n3_:=Aside0.mk (blk_below (g:=gb68) (o:=.cells #[.string t74,.string t75,.int .i64 t76,.slice Ao20 t73.length co20,.slice Ao21 t71.length co21] 33 (0,0)) zb9 hb)
                have n4_:=Aside0.mk (below_step zb2 hb)
                clear HO_70 HO_69 BK68 HB
                have HO_70:=n0_
                have HO_69:=n1_
                have HO971:=n2_
                have BK68:=n3_
                have HB:=n4_
                clear n0_ n1_ n2_ n3_ n4_ hb ho105
                refine hK.out _ _ trivial (fun hHeld=>?_)
                clear hK K
                refine norm_ (a' := ?_) ?_ ?_
                rotate_left
                ·show Act.put _ (some 85) _=_
                 simp only [Act.put,zqA,zqB,zqC,i64_w,i32_w]
                 rfl
                refine two_ (i:=4) (j:=6) (Ni:=some 89) (Nj:=some 91) (zl 13 1855) (zl 13 1903) rfl rfl rfl rfl (two_of HT_.out zb10) zb46 zb46 (fun K hK=>?_) (fun K hK=>?_)
                ·skip
                 refine Kd.R_append_rows_step (Kd.int .u8) (w0:=w) w.heap.size zb63 (.tmp 85) (.tmp 88) 23 5 (.int .u8 0) 1 rfl Tryz.underlying23 info5 rfl zb46 zb30 v970 y969 (l0.take ((ji34):Int).toNat) _ _ _ (fun k_=>some k_ ≠ (.slice Ao21 t71.length co21:Value).ownBlock) (fun _=>False) rfl rfl ?aO ?aR (fun _ _ h=>h) (fun _ h=>h.elim) ?aF ?aB ?aS ?aL ?_
                 (case aR=>exact zb38)
                 (case aB=>exact zb27)
                 (case aF=>exact zb139)
                 (case aO=>exact (by (with_reducible repeat (first|apply Kd.R_alloc|apply Kd.R_drewN|apply Kd.R_drew));exact Kd.R_mono HO971.out (fun _ hk=>hk.2)))
                 (case aS=>exact zb23)
                 (case aL=>exact zb102)
                 intro v974 w106 ho hb hg hat
                 rw [← Ny973.out] at ho
                 have n0_:=Aside0.mk (Kd.R_over' zb12 (Kd.R_typed zb126) zb46 hg)
                 have n1_:=Aside0.mk (Kd.R_after (ok:=(fun _=>True)) zb7 hg hat)
                 have n2_:=Aside0.mk (blk_grown (g:=gb68) (o:=.cells #[.string t74,.string t75,.int .i64 t76,.slice Ao20 t73.length co20,.slice Ao21 t71.length co21] 33 (0,0)) zb9 hg (Kd.R_ne HO971.out BK68.out zb46))
                 have n3_:=Aside0.mk (hb)
                 have n4_:=Aside0.mk (ho)
                 clear HO_70 HO_69 BK68 HB HO971
                 have HO_70:=n0_
                 have HO_69:=n1_
                 have BK68:=n2_
                 have HB:=n3_
                 have HO975:=n4_
                 clear n0_ n1_ n2_ n3_ n4_ ho hb hg hat
                 refine hK.out _ _ trivial (fun hHeld=>?_)
                 clear hK K
                 refine norm_ (a' := ?_) ?_ ?_
                 rotate_left
                 ·show Act.put _ (some 89) _=_
                  simp only [Act.put,zqA,zqB,zqC,i64_w,i32_w]
                  rfl
                 refine one_ (i:=6) (N:=some 91) (zl 13 1919) rfl rfl (one_of HT_.out zb10) zb46 (fun K hK=>?_)
                 refine Kd.R_lit_step (Kd.int .u8) _ 5 ?hg (N:=91) ?hd (xs:=([10]:List Int)) (inner:=[.int .u8 10]) (ok:=fun _=>True) (okp:=fun _=>True) ?hr ?hp (fun _ hk=>hk) trivial (Below.refl _ _) (Nat.le_refl _) zb40 ?_;(case hd=>rfl);(case hg=>rfl);(case hr=>first|(go_simp;done)|(go_simp;rfl));(case hp=>exact (Reps.one (show Kd.M (Kd.int .u8) _ _ _ 10 [.int .u8 10] from rfl) (Reps.none _ _)))
                 intro v977 w107 ho108 hb hg_ hnew_
                 clear hg_ hnew_
                 (first|rw [← Ny79.out] at ho108|(simp only [Int.reduceToNat] at ho108;rw [← Ny79.out] at ho108))
                 have n0_:=Aside0.mk (Kd.R_below zb12 hb)
                 have n1_:=Aside0.mk (Kd.R_elder' zb7 (Kd.R_base ho108) hb)
                 have n2_:=Aside0.mk (Kd.R_elder' zb165 (Kd.R_base ho108) hb)
                 have n3_:=Aside0.mk (Kd.R_lower (Kd.R_new' (Kd.R_new' ho108 (Kd.R_lt zb7)) (Kd.R_lt zb165)) (below_size zb2))
                 have n4_:=Aside0.mk (blk_below (g:=gb68) (o:=.cells #[.string t74,.string t75,.int .i64 t76,.slice Ao20 t73.length co20,.slice Ao21 t71.length co21] 33 (0,0)) zb9 hb)
                 have n5_:=Aside0.mk (below_step zb2 hb)
                 clear HO_70 HO_69 HO975 BK68 HB
                 have HO_70:=n0_
                 have HO_69:=n1_
                 have HO975:=n2_
                 have HO86:=n3_
                 have BK68:=n4_
                 have HB:=n5_
                 clear n0_ n1_ n2_ n3_ n4_ n5_ hb ho108
                 refine hK.out _ _ trivial (fun hHeld=>?_)
                 clear hK K
                 refine norm_ (a' := ?_) ?_ ?_
                 rotate_left
                 ·show Act.put _ (some 91) _=_
                  simp only [Act.put,zqA,zqB,zqC,i64_w,i32_w]
                  rfl
                 exact norm_ zb150 (hCont (v970,v974,v977) _ ⟨zb121,(by (with_reducible repeat (first|apply Kd.R_alloc|apply Kd.R_drewN|apply Kd.R_drew));exact Kd.R_mono HO86.out (fun _ hk=>⟨hk.2,hk.1.2⟩)),zb12,zb93,zb9,zb2⟩)
                ·skip
                 refine Kd.R_lit_step (Kd.int .u8) _ 5 ?hg (N:=91) ?hd (xs:=([10]:List Int)) (inner:=[.int .u8 10]) (ok:=fun _=>True) (okp:=fun _=>True) ?hr ?hp (fun _ hk=>hk) trivial (Below.refl _ _) (Nat.le_refl _) zb40 ?_;(case hd=>rfl);(case hg=>rfl);(case hr=>first|(go_simp;done)|(go_simp;rfl));(case hp=>exact (Reps.one (show Kd.M (Kd.int .u8) _ _ _ 10 [.int .u8 10] from rfl) (Reps.none _ _)))
                 intro v977 w106 ho107 hb hg_ hnew_
                 clear hg_ hnew_
                 (first|rw [← Ny79.out] at ho107|(simp only [Int.reduceToNat] at ho107;rw [← Ny79.out] at ho107))
                 have n0_:=Aside0.mk (Kd.R_below zb12 hb)
                 have n1_:=Aside0.mk (Kd.R_elder' zb7 (Kd.R_base ho107) hb)
                 have n2_:=Aside0.mk (Kd.R_elder' zb126 (Kd.R_base ho107) hb)
                 have n3_:=Aside0.mk (Kd.R_lower (Kd.R_new' (Kd.R_new' ho107 (Kd.R_lt zb7)) (Kd.R_lt zb126)) (below_size zb2))
                 have n4_:=Aside0.mk (blk_below (g:=gb68) (o:=.cells #[.string t74,.string t75,.int .i64 t76,.slice Ao20 t73.length co20,.slice Ao21 t71.length co21] 33 (0,0)) zb9 hb)
                 have n5_:=Aside0.mk (below_step zb2 hb)
                 clear HO_70 HO_69 HO971 BK68 HB
                 have HO_70:=n0_
                 have HO_69:=n1_
                 have HO971:=n2_
                 have HO86:=n3_
                 have BK68:=n4_
                 have HB:=n5_
                 clear n0_ n1_ n2_ n3_ n4_ n5_ hb ho107
                 refine hK.out _ _ trivial (fun hHeld=>?_)
                 clear hK K
                 refine norm_ (a' := ?_) ?_ ?_
                 rotate_left
                 ·show Act.put _ (some 91) _=_
                  simp only [Act.put,zqA,zqB,zqC,i64_w,i32_w]
                  rfl
                 refine one_ (i:=4) (N:=some 89) (zl 13 1919) rfl rfl (one_of HT_.out zb10) zb46 (fun K hK=>?_)
                 refine Kd.R_append_rows_step (Kd.int .u8) (w0:=w) w.heap.size zb63 (.tmp 85) (.tmp 88) 23 5 (.int .u8 0) 1 rfl Tryz.underlying23 info5 rfl zb46 zb30 v970 y969 (l0.take ((ji34):Int).toNat) _ _ _ (fun k_=>some k_ ≠ (.slice Ao21 t71.length co21:Value).ownBlock∧some k_ ≠ (v977:Value).ownBlock) (fun _=>False) rfl rfl ?aO ?aR (fun _ _ h=>h) (fun _ h=>h.elim) ?aF ?aB ?aS ?aL ?_
                 (case aR=>exact zb38)
                 (case aB=>exact zb27)
                 (case aF=>exact zb66)
                 (case aO=>exact zb179)
                 (case aS=>exact zb23)
                 (case aL=>exact zb102)
                 intro v974 w108 ho hb hg hat
                 rw [← Ny973.out] at ho
                 have n0_:=Aside0.mk (Kd.R_over' zb12 (Kd.R_typed zb126) zb46 hg)
                 have n1_:=Aside0.mk (Kd.R_after (ok:=(fun k_=>some k_ ≠ (v977:Value).ownBlock)) zb140 hg hat)
                 have n2_:=Aside0.mk (blk_grown (g:=gb68) (o:=.cells #[.string t74,.string t75,.int .i64 t76,.slice Ao20 t73.length co20,.slice Ao21 t71.length co21] 33 (0,0)) zb9 hg (Kd.R_ne HO971.out BK68.out zb46))
                 have n3_:=Aside0.mk (Kd.R_after (ok:=(fun k_=>some k_ ≠ (.slice Ao21 t71.length co21:Value).ownBlock)) zb182 hg hat)
                 have n4_:=Aside0.mk (hb)
                 have n5_:=Aside0.mk (ho)
                 clear HO_70 HO_69 BK68 HO86 HB HO971
                 have HO_70:=n0_
                 have HO_69:=n1_
                 have BK68:=n2_
                 have HO86:=n3_
                 have HB:=n4_
                 have HO975:=n5_
                 clear n0_ n1_ n2_ n3_ n4_ n5_ ho hb hg hat
                 refine hK.out _ _ trivial (fun hHeld=>?_)
                 clear hK K
                 refine norm_ (a' := ?_) ?_ ?_
                 rotate_left
                 ·show Act.put _ (some 89) _=_
                  simp only [Act.put,zqA,zqB,zqC,i64_w,i32_w]
                  rfl
                 exact norm_ zb150 (hCont (v970,v974,v977) _ ⟨zb121,zb146,zb12,zb60,zb9,zb2⟩)
               ·skip
                refine Kd.R_lit_step (Kd.int .u8) _ 5 ?hg (N:=91) ?hd (xs:=([10]:List Int)) (inner:=[.int .u8 10]) (ok:=fun _=>True) (okp:=fun _=>True) ?hr ?hp (fun _ hk=>hk) trivial (Below.refl _ _) (Nat.le_refl _) zb40 ?_;(case hd=>rfl);(case hg=>rfl);(case hr=>first|(go_simp;done)|(go_simp;rfl));(case hp=>exact (Reps.one (show Kd.M (Kd.int .u8) _ _ _ 10 [.int .u8 10] from rfl) (Reps.none _ _)))
                intro v977 w104 ho105 hb hg_ hnew_
                clear hg_ hnew_
                (first|rw [← Ny79.out] at ho105|(simp only [Int.reduceToNat] at ho105;rw [← Ny79.out] at ho105))
                have n0_:=Aside0.mk (Kd.R_below zb12 hb)
                have n1_:=Aside0.mk (Kd.R_elder' zb7 (Kd.R_base ho105) hb)
                have n2_:=Aside0.mk (Kd.R_lower (Kd.R_new' ho105 (Kd.R_lt zb7)) (below_size zb2))
                have n3_:=Aside0.mk (blk_below (g:=gb68) (o:=.cells #[.string t74,.string t75,.int .i64 t76,.slice Ao20 t73.length co20,.slice Ao21 t71.length co21] 33 (0,0)) zb9 hb)
                have n4_:=Aside0.mk (below_step zb2 hb)
                clear HO_70 HO_69 BK68 HB
                have HO_70:=n0_
                have HO_69:=n1_
                have HO86:=n2_
                have BK68:=n3_
                have HB:=n4_
                clear n0_ n1_ n2_ n3_ n4_ hb ho105
                refine hK.out _ _ trivial (fun hHeld=>?_)
                clear hK K
                refine norm_ (a' := ?_) ?_ ?_
                rotate_left
                ·show Act.put _ (some 91) _=_
                 simp only [Act.put,zqA,zqB,zqC,i64_w,i32_w]
                 rfl
                refine one_ (i:=0) (N:=some 85) (zl 13 1903) rfl rfl (one_of HT_.out zb10) zb46 (fun K hK=>?_)
                refine Kd.R_lit_step (Kd.int .u8) _ 5 ?hg (N:=85) ?hd (xs:=([]:List Int)) (inner:=[]) (ok:=fun _=>True) (okp:=fun _=>True) ?hr ?hp (fun _ hk=>hk) trivial (Below.refl _ _) (Nat.le_refl _) zb40 ?_;(case hd=>rfl);(case hg=>rfl);(case hr=>first|(go_simp;done)|(go_simp;rfl));(case hp=>exact (Reps.none _ _))
                intro v970 w106 ho107 hb hg_ hnew_
                clear hg_ hnew_
                (first|rw [← Ny969.out] at ho107|(simp only [Int.reduceToNat] at ho107;rw [← Ny969.out] at ho107))
                have n0_:=Aside0.mk (Kd.R_below zb12 hb)
                have n1_:=Aside0.mk (Kd.R_elder' zb7 (Kd.R_base ho107) hb)
                have n2_:=Aside0.mk (Kd.R_elder' zb71 (Kd.R_base ho107) hb)
                have n3_:=Aside0.mk (Kd.R_lower (Kd.R_new' (Kd.R_new' ho107 (Kd.R_lt zb7)) (Kd.R_lt zb71)) (below_size zb2))
                have n4_:=Aside0.mk (blk_below (g:=gb68) (o:=.cells #[.string t74,.string t75,.int .i64 t76,.slice Ao20 t73.length co20,.slice Ao21 t71.length co21] 33 (0,0)) zb9 hb)
                have n5_:=Aside0.mk (below_step zb2 hb)
                clear HO_70 HO_69 HO86 BK68 HB
                have HO_70:=n0_
                have HO_69:=n1_
                have HO86:=n2_
                have HO971:=n3_
                have BK68:=n4_
                have HB:=n5_
                clear n0_ n1_ n2_ n3_ n4_ n5_ hb ho107
                refine hK.out _ _ trivial (fun hHeld=>?_)
                clear hK K
                refine norm_ (a' := ?_) ?_ ?_
                rotate_left
                ·show Act.put _ (some 85) _=_
                 simp only [Act.put,zqA,zqB,zqC,i64_w,i32_w]
                 rfl
                refine one_ (i:=4) (N:=some 89) (zl 13 1919) rfl rfl (one_of HT_.out zb10) zb46 (fun K hK=>?_)
                refine Kd.R_append_rows_step (Kd.int .u8) (w0:=w) w.heap.size zb63 (.tmp 85) (.tmp 88) 23 5 (.int .u8 0) 1 rfl Tryz.underlying23 info5 rfl zb46 zb30 v970 y969 (l0.take ((ji34):Int).toNat) _ _ _ (fun k_=>some k_ ≠ (.slice Ao21 t71.length co21:Value).ownBlock∧some k_ ≠ (v977:Value).ownBlock) (fun _=>False) rfl rfl ?aO ?aR (fun _ _ h=>h) (fun _ h=>h.elim) ?aF ?aB ?aS ?aL ?_
                (case aR=>exact zb38)
                (case aB=>exact zb27)
                (case aF=>exact zb66)
                (case aO=>exact zb179)
                (case aS=>exact zb23)
                (case aL=>exact zb102)
                intro v974 w108 ho hb hg hat
                rw [← Ny973.out] at ho
                have n0_:=Aside0.mk (Kd.R_over' zb12 (Kd.R_typed zb126) zb46 hg)
                have n1_:=Aside0.mk (Kd.R_after (ok:=(fun k_=>some k_ ≠ (v977:Value).ownBlock)) zb93 hg hat)
                have n2_:=Aside0.mk (blk_grown (g:=gb68) (o:=.cells #[.string t74,.string t75,.int .i64 t76,.slice Ao20 t73.length co20,.slice Ao21 t71.length co21] 33 (0,0)) zb9 hg (Kd.R_ne HO971.out BK68.out zb46))
                have n3_:=Aside0.mk (Kd.R_after (ok:=(fun k_=>some k_ ≠ (.slice Ao21 t71.length co21:Value).ownBlock)) zb182 hg hat)
                have n4_:=Aside0.mk (hb)
                have n5_:=Aside0.mk (ho)
                clear HO_70 HO_69 BK68 HO86 HB HO971
                have HO_70:=n0_
                have HO_69:=n1_
                have BK68:=n2_
                have HO86:=n3_
                have HB:=n4_
                have HO975:=n5_
                clear n0_ n1_ n2_ n3_ n4_ n5_ ho hb hg hat
                refine hK.out _ _ trivial (fun hHeld=>?_)
                clear hK K
                refine norm_ (a' := ?_) ?_ ?_
                rotate_left
                ·show Act.put _ (some 89) _=_
                 simp only [Act.put,zqA,zqB,zqC,i64_w,i32_w]
                 rfl
                exact norm_ zb150 (hCont (v970,v974,v977) _ ⟨zb121,zb146,zb12,zb60,zb9,zb2⟩)
              rintro ⟨v970,v974,v977⟩ w109 ⟨h0_,h1_,h2_,h3_,h4_,h5_⟩
              have n0_:Aside0 (Kd.R (Kd.int .u8) 5 w109 w.heap.size (fun k_=>some k_ ≠ (v977:Value).ownBlock∧some k_ ≠ (.slice Ao21 t71.length co21:Value).ownBlock) v974 y973):=⟨h0_⟩
              have n1_:Aside0 (Kd.R (Kd.int .u8) 5 w109 w.heap.size (fun k_=>some k_ ≠ (v974:Value).ownBlock∧some k_ ≠ (.slice Ao21 t71.length co21:Value).ownBlock) v977 y79):=⟨h1_⟩
              have n2_:Aside0 (Kd.R k55 55 w109 w.heap.size (fun _=>True) (.slice Ao20 t73.length co20) t73):=⟨h2_⟩
              have n3_:Aside0 (Kd.R (Kd.int .u8) 5 w109 w.heap.size (fun k_=>some k_ ≠ (v974:Value).ownBlock∧some k_ ≠ (v977:Value).ownBlock) (.slice Ao21 t71.length co21) t71):=⟨h3_⟩
              have n4_:Aside0 (w109.heap[gb68]? = some (.cells #[.string t74,.string t75,.int .i64 t76,.slice Ao20 t73.length co20,.slice Ao21 t71.length co21] 33 (0,0))):=⟨h4_⟩
              have n5_:Aside0 (Below w.heap.size w w109):=⟨h5_⟩
              clear HO_70 HO_69 BK68 HB h0_ h1_ h2_ h3_ h4_ h5_
              have HO975:=n0_
              have HO86:=n1_
              have HO_70:=n2_
              have HO_69:=n3_
              have BK68:=n4_
              have HB:=n5_
              clear n0_ n1_ n2_ n3_ n4_ n5_
              have hHeld:=trivial
              obtain ⟨Ao111,co111,eo111⟩:=Kd.R_slice HO86.out
              (first|subst eo111|(injection eo111 with f1_ f2_ f3_;have f4_:=f1_.symm;have f5_:=f3_.symm;clear f1_ f2_ f3_;subst f4_;subst f5_))
              refine norm_ (a' := ?_) ?_ ?_
              rotate_left
              ·simp only [putAll,Act.put,zqA,zqB,zqC];rfl
              refine one_ (i:=7) (N:=some 92) (zl 13 2047) rfl rfl (one_of HT_.out zb10) zb46 (fun K hK=>?_)
              refine Kd.R_append_rows_step (Kd.int .u8) (w0:=w) w.heap.size zb63 (.tmp 89) (.tmp 91) 23 5 (.int .u8 0) 1 rfl Tryz.underlying23 info5 rfl zb46 zb30 v974 y973 y79 _ _ _ (fun k_=>some k_ ≠ (.slice Ao21 t71.length co21:Value).ownBlock∧some k_ ≠ (.slice Ao111 y79.length co111:Value).ownBlock) (fun _=>False) rfl rfl ?aO ?aR (fun _ _ h=>h) (fun _ h=>h.elim) ?aF ?aB ?aS ?aL ?_
              (case aR=>repeat (first|exact (Kd.R_reads' HO86.out).2.2|(with_reducible refine Kd.C_alloc ?_ _)|(with_reducible refine Kd.C_drewN ?_ _)|(with_reducible refine Kd.C_drew ?_)))
              (case aB=>exact zb27)
              (case aF=>exact zb66)
              (case aO=>exact zb121)
              (case aS=>exact zb23)
              (case aL=>have:=LMc95.out;omega)
              intro v980 w110 ho hb hg hat
              rw [← Ny979.out] at ho
              have n0_:=Aside0.mk (Kd.R_over' zb12 (Kd.R_typed zb165) zb46 hg)
              have n1_:=Aside0.mk (Kd.R_after (ok:=(fun k_=>some k_ ≠ (.slice Ao111 y79.length co111:Value).ownBlock)) zb60 hg hat)
              have n2_:=Aside0.mk (blk_grown (g:=gb68) (o:=.cells #[.string t74,.string t75,.int .i64 t76,.slice Ao20 t73.length co20,.slice Ao21 t71.length co21] 33 (0,0)) zb9 hg (Kd.R_ne HO975.out BK68.out zb46))
              have n3_:=Aside0.mk (Kd.R_after (ok:=(fun k_=>some k_ ≠ (.slice Ao21 t71.length co21:Value).ownBlock)) zb146 hg hat)
              have n4_:=Aside0.mk (hb)
              have n5_:=Aside0.mk (ho)
              clear HO_70 HO_69 BK68 HO86 HB HO975
              have HO_70:=n0_
              have HO_69:=n1_
              have BK68:=n2_
              have HO86:=n3_
              have HB:=n4_
              have HO981:=n5_
              clear n0_ n1_ n2_ n3_ n4_ n5_ ho hb hg hat
              refine hK.out _ _ trivial (fun hHeld=>?_)
              clear hK K
              refine norm_ (a' := ?_) ?_ ?_
              rotate_left
              ·show Act.put _ (some 92) _=_
               simp only [Act.put,zqA,zqB,zqC,i64_w,i32_w]
               rfl
              refine one_ (i:=11) (N:=some 96) (zl 13 4095) rfl rfl (one_of HT_.out zb10) zb46 (fun K hK=>?_)
              refine Kd.R_append_rows_step (Kd.int .u8) (w0:=w) w.heap.size zb63 (.tmp 92) (.tmp 95) 23 5 (.int .u8 0) 1 rfl Tryz.underlying23 info5 rfl zb46 zb30 v980 y979 (l0.drop ((ji34):Int).toNat) _ _ _ (fun k_=>some k_ ≠ (.slice Ao21 t71.length co21:Value).ownBlock∧some k_ ≠ (.slice Ao111 y79.length co111:Value).ownBlock) (fun _=>False) rfl rfl ?aO ?aR (fun _ _ h=>h) (fun _ h=>h.elim) ?aF ?aB ?aS ?aL ?_
              (case aR=>first|(rw [← show (l0.drop ((ji34):Int).toNat).length=(l0.length - (ji34).toNat) from List.length_drop];repeat (first|exact (Kd.C_below HR982.out HB.out)|(with_reducible refine Kd.C_alloc ?_ _)|(with_reducible refine Kd.C_drewN ?_ _)|(with_reducible refine Kd.C_drew ?_)))|(repeat (first|exact (Kd.C_below HR982.out HB.out)|(with_reducible refine Kd.C_alloc ?_ _)|(with_reducible refine Kd.C_drewN ?_ _)|(with_reducible refine Kd.C_drew ?_))))
              (case aB=>exact zb27)
              (case aF=>exact zb66)
              (case aO=>exact (by (with_reducible repeat (first|apply Kd.R_alloc|apply Kd.R_drewN|apply Kd.R_drew));exact HO981.out))
              (case aS=>exact zb23)
              (case aL=>have:=LMc98.out;have hlx_:=(show (l0.drop ((ji34):Int).toNat).length=(l0.length - (ji34).toNat) from List.length_drop);omega)
              intro v984 w112 ho hb hg hat
              rw [← Ny983.out] at ho
              have n0_:=Aside0.mk (Kd.R_over' zb12 (Kd.R_typed (by (with_reducible repeat (first|apply Kd.R_alloc|apply Kd.R_drewN|apply Kd.R_drew));exact HO981.out)) zb46 hg)
              have n1_:=Aside0.mk (Kd.R_after (ok:=(fun k_=>some k_ ≠ (.slice Ao111 y79.length co111:Value).ownBlock)) zb7 hg hat)
              have n2_:=Aside0.mk (blk_grown (g:=gb68) (o:=.cells #[.string t74,.string t75,.int .i64 t76,.slice Ao20 t73.length co20,.slice Ao21 t71.length co21] 33 (0,0)) zb9 hg (Kd.R_ne HO981.out BK68.out zb46))
              have n3_:=Aside0.mk (Kd.R_after (ok:=(fun k_=>some k_ ≠ (.slice Ao21 t71.length co21:Value).ownBlock)) zb71 hg hat)
              have n4_:=Aside0.mk (hb)
              have n5_:=Aside0.mk (ho)
              clear HO_70 HO_69 BK68 HO86 HB HO981
              have HO_70:=n0_
              have HO_69:=n1_
              have BK68:=n2_
              have HO86:=n3_
              have HB:=n4_
              have HO985:=n5_
              clear n0_ n1_ n2_ n3_ n4_ n5_ ho hb hg hat
              refine hK.out _ _ trivial (fun hHeld=>?_)
              clear hK K
              refine norm_ (a' := ?_) ?_ ?_
              rotate_left
              ·show Act.put _ (some 96) _=_
               simp only [Act.put,zqA,zqB,zqC,i64_w,i32_w]
               rfl
              refine zpu 12 (N:=some 14) (zl 13 8191) HT_.out rfl rfl ?_
              refine done_ (done_of HT_.out zb10) ?_
              obtain ⟨Ao113,co113,eo113⟩:=Kd.R_slice HO985.out
              subst eo113
              try go_wp2_with (first|((with_reducible refine gate_callee (f:=20) rfl ?_);refine goesL_ (some 99) rfl rfl Tryz.func20 zb10 rfl #[.slice Ao113 y983.length co113] rfl zb1 ?_;(with_reducible refine (http_Request.calls kj21 _ _ y983 t986 t987 t988 t989 t992 t995 t996 _ ?side1 ?side2 A99.out).mono ?_);(case side1=>repeat (first|exact (Kd.R_reads' HO985.out).2.2|(with_reducible refine Kd.C_alloc ?_ _)|(with_reducible refine Kd.C_drewN ?_ _)|(with_reducible refine Kd.C_drew ?_)));(case side2=>exact (Kd.R_reads' HO985.out).2.1);rintro e w114 ⟨v990,v993,rfl,ho0,ho1,hb⟩;(try clear A99);refine ⟨_,rfl,?_⟩;have HO991:=Aside0.mk (Kd.R_lower (Kd.R_new' ho0 (Kd.R_lt zb12)) (below_size zb2));replace HO_70:=Aside0.mk (Kd.R_elder' zb12 (Kd.R_base ho0) hb);have HO994:=Aside0.mk (Kd.R_lower (Kd.R_new' (Kd.R_new' (Kd.R_new' ho1 (Kd.R_lt zb7)) (Kd.R_lt zb71)) (Kd.R_lt zb166)) (below_size zb2));replace HO_69:=Aside0.mk (Kd.R_elder' zb7 (Kd.R_base ho1) hb);replace HO86:=Aside0.mk (Kd.R_elder' zb71 (Kd.R_base ho1) hb);replace HO985:=Aside0.mk (Kd.R_elder' zb166 (Kd.R_base ho1) hb);replace BK68:=Aside0.mk (blk_below (g:=gb68) (o:=.cells #[.string t74,.string t75,.int .i64 t76,.slice Ao20 t73.length co20,.slice Ao21 t71.length co21] 33 (0,0)) zb9 hb);replace HB:=Aside0.mk (below_step zb2 hb);try clear hb ho0 ho1)|((with_reducible refine gate_dst (N:=15) rfl ?_);refine box_event rfl (N:=15) rfl (cs:=#[.string (⟨#[]⟩:ByteArray),.string (⟨#[]⟩:ByteArray),.int .i64 0,.slice none 0 0,.slice none 0 0]) (t:=33) zS ?_;intro gb997 hg w115 hbox hb;replace HO_70:=Aside0.mk (Kd.R_below zb12 hb);replace HO_69:=Aside0.mk (Kd.R_below zb7 hb);replace HO86:=Aside0.mk (Kd.R_below zb71 hb);replace HO985:=Aside0.mk (Kd.R_below zb166 hb);replace HO991:=Aside0.mk (Kd.R_below (by (with_reducible repeat (first|apply Kd.R_alloc|apply Kd.R_drewN|apply Kd.R_drew));exact HO991.out) hb);replace HO994:=Aside0.mk (Kd.R_below (by (with_reducible repeat (first|apply Kd.R_alloc|apply Kd.R_drewN|apply Kd.R_drew));exact HO994.out) hb);have BK997:=Aside0.mk (hbox);have GW997:=zG hg zb2;have GE997:=GW997;replace HB:=Aside0.mk (below_step zb2 hb);have NB68_997:=Aside0.mk ((by rw [hg];exact Nat.ne_of_lt (blk_lt (g:=gb68) (o:=.cells #[.string t74,.string t75,.int .i64 t76,.slice Ao20 t73.length co20,.slice Ao21 t71.length co21] 33 (0,0)) zb9):gb68 ≠ gb997));have NB997_935:=Aside0.mk ((by rw [hg];exact Nat.ne_of_gt (blk_lt (g:=gb68) (o:=.cells #[.string t74,.string t75,.int .i64 t76,.slice Ao20 t73.length co20,.slice Ao21 t71.length co21] 33 (0,0)) zb9):gb997 ≠ gb68));replace BK68:=Aside0.mk (blk_below (g:=gb68) (o:=.cells #[.string t74,.string t75,.int .i64 t76,.slice Ao20 t73.length co20,.slice Ao21 t71.length co21] 33 (0,0)) zb9 hb);clear hb hbox hg;have hnb116:=NB997_935.out;have hnc116:=NB68_997.out;obtain ⟨hcz117_0,hcz117_1,hcz117_2,hcz117_3,hcz117_4,hfz117_0,hfz117_1,hfz117_2,hfz117_3,hfz117_4⟩:=zq5 BK997.out;obtain ⟨Ao118,co118,eo118⟩:=Kd.R_slice HO991.out;subst eo118;obtain ⟨Ao119,co119,eo119⟩:=Kd.R_slice HO994.out;subst eo119))
              go_ret
              exact ⟨zb155,by repeat (first|(with_reducible first|exact HB.out|apply below_alloc|apply pw_below_drewN|apply below_drew1|refine below_set ?_ GE68.out|refine below_set ?_ GE997.out)|exact HB.out)⟩
             ·rw [if_neg c100] at H
              have c100b0:=beq_eq_false_iff_ne.mpr c100
              have c100b1:=bne_iff_ne.mpr c100
              exact absurd ((Option.some.inj H).trans HRT.out) zb46
            ·rw [if_neg c98] at H
             exact absurd H zb40
           ·rw [if_neg c95] at H
            exact absurd H zb40
          ·rw [if_neg c94] at H
           exact absurd H zb40
         ·rw [if_neg c93] at H
          exact absurd H zb40
        ·rw [if_neg c90] at H
         exact absurd H zb40
       ·rw [if_neg c89] at H
        exact absurd H zb40
      ·rw [if_neg c36] at H
       exact absurd H zb40
     ·rw [if_neg c35] at H
      exact absurd H zb40
/-- THE ONE PURE STATEMENT of tollbarlaw08_HttpBare: yours. -/
def tollbarlaw08_HttpBare.Pure:Prop := ∀ (l0:List Int) (a1:Int) (a2:Bool),l0.length ≤ maxLen → l0.length * 1 ≤ 140737488351232 → (∀ x ∈ l0,(Lit.int .u8 x).wf=true) → (Lit.int .i64 a1).wf=true → ∃ k,tollbarlaw08_HttpBare.f k l0 a1 a2=some true
end Go.Proofs.YtfjeinnemimjoaaGreatDoor.P
namespace Go.Proofs.YtfjeinnemimjoaaGreatDoor.Pure
open Go.RowKit Go.Proofs.YtfjeinnemimjoaaGreatDoor.P Go.Proofs.YtfjeinnemimjoaaGreatDoorW.PrintWords Go.Proofs.YtfjeinnemimjoaaGreatDoorW.PrintLast Go.Proofs.YtfjeinnemimjoaaGreatDoorW.PrintMore
set_option linter.unusedVariables false
set_option linter.unusedSimpArgs false
theorem str_append (xs ys:List Int):strOfNums (xs ++ ys)=strOfNums xs ++ strOfNums ys:=by
 apply ByteArray.ext
 simp [strOfNums]
theorem str_size (xs:List Int):(strOfNums xs).size=xs.length:=strOfNums_size xs
theorem rd_append_left (l x:List Int) (i:Int) (h0:0 ≤ i) (h:i < (l.length:Int)):rd (l ++ x) i=rd l i:=by
 unfold rd
 rw [List.getD_eq_getElem?_getD,List.getD_eq_getElem?_getD,List.getElem?_append_left (by omega)]
theorem rd_append_right (l x:List Int) (i:Int) (h:(l.length:Int) ≤ i):rd (l ++ x) i=rd x (i - l.length):=by
 unfold rd
 rw [List.getD_eq_getElem?_getD,List.getD_eq_getElem?_getD,List.getElem?_append_right (by omega)]
 congr 2
 omega
theorem take_two (l:List Int) (i:Int) (h0:0 ≤ i) (h:i + 1 < (l.length:Int)):l.take (i + 2).toNat=l.take i.toNat ++ [rd l i,rd l (i + 1)]:=by
 obtain ⟨n,rfl⟩:=Int.eq_ofNat_of_zero_le h0
 have e1:((n:Int) + 2).toNat=n + 1 + 1:=by omega
 have h1:n + 1 < l.length:=by omega
 rw [e1,List.take_succ_eq_append_getElem h1,List.take_succ_eq_append_getElem (by omega)]
 have e2:((n:Int) + 1).toNat=n + 1:=by omega
 simp only [Int.toNat_natCast,rd,e2,List.getD_eq_getElem?_getD,List.getElem?_eq_getElem h1,List.getElem?_eq_getElem (show n < l.length by omega),Option.getD_some,List.append_assoc,List.cons_append,List.nil_append]
theorem w64 {i:Int} {n:Nat} (c:Int) (h0:0 ≤ i) (h:i < (n:Int)) (hn:n ≤ 140737488355328) (hc0 : -3 ≤ c) (hc:c ≤ 3):wrap64 (i + c)=i + c:=by
 unfold wrap64;omega
theorem toList_data (s:ByteArray):s.toList=s.data.toList:=by
 simp [ByteArray.toList_eq]
theorem isEmpty_size (s:ByteArray):s.toList.isEmpty=decide (s.size=0):=by
 rw [toList_data,Bool.eq_iff_iff,List.isEmpty_iff,decide_eq_true_eq,← data_length]
 exact List.length_eq_zero_iff.symm
/-- The line at the place i of l,with the bound m;d bytes are left. -/
def cutAt (l:List Int) (m:Int):Nat → Int → (ByteArray × Int × Int)
 | 0,_=>((⟨#[]⟩:ByteArray),0,0)
 | d + 1,i =>
  if rd l i=10 then ((⟨#[]⟩:ByteArray),0,20)
  else if rd l i=13 then
   (if i + 1 < (l.length:Int) then (if rd l (i + 1)=10 then (strOfNums (l.take i.toNat),i + 2,0) else ((⟨#[]⟩:ByteArray),0,20)) else ((⟨#[]⟩:ByteArray),0,0))
  else if m ≤ i then ((⟨#[]⟩:ByteArray),0,2) else cutAt l m d (i + 1)
theorem cut_l0 (l:List Int) (a:Int) (hn:l.length ≤ 140737488355328) (d:Nat) : ∀ (k:Nat) (i:Int),0 ≤ i → (l.length:Int) - i=d → 3 * d + 3 ≤ k →
 line_Cut.l0 k l a l (l.length:Int) i=some (cutAt l (mx a 0) d i):=by
 induction d with
 | zero =>
  intro k i h0 hd hk
  obtain ⟨k,rfl⟩ : ∃ m,k=m + 1:=⟨k - 1,by omega⟩
  simp only [line_Cut.l0,cutAt];rw [if_neg (by omega)]
 | succ d ih =>
  intro k i h0 hd hk
  obtain ⟨k,rfl⟩ : ∃ m,k=m + 3:=⟨k - 3,by omega⟩
  have hlt:i < (l.length:Int):=by omega
  have hw1:wrap64 (i + 1)=i + 1:=w64 1 h0 hlt hn (by omega) (by omega)
  have hw2:wrap64 (i + 2)=i + 2:=w64 2 h0 hlt hn (by omega) (by omega)
  have ih' := ih k (i + 1) (by omega) (by omega) (by omega)
  unfold line_Cut.l0
  rw [if_pos hlt,if_pos h0,if_pos hlt]
  unfold line_Cut.j1 line_Cut.j2
  simp only [cutAt,hw1,hw2,ih']
  by_cases h10:rd l i=10
  ·simp [h10]
  ·rw [if_neg h10]
   by_cases h13:rd l i=13
   ·simp only [h13]
    by_cases h1:i + 1 < (l.length:Int)
    ·by_cases hr:rd l (i + 1)=10
     ·have hne : ¬ (i + 1=(l.length:Int)):=by omega
      have hle:i ≤ (l.length:Int):=by omega
      have h01:0 ≤ i + 1:=by omega
      simp [h1,hr,hne,hle,h01,h0]
     ·have h01:0 ≤ i + 1:=by omega
      simp [h1,hr,h01]
    ·have he:i + 1=(l.length:Int):=by omega
     simp [he]
   ·simp only [h13,if_false,h10]
    by_cases hm:mx a 0 ≤ i
    ·simp [hm]
    ·simp [hm]
/-- What Cut tells. -/
def cutSpec (l:List Int) (a:Int):(ByteArray × Int × Int):=cutAt l (mx a 0) l.length 0
theorem cut_f (l:List Int) (a:Int) (hn:l.length ≤ 140737488355328) (k:Nat) (hk:3 * l.length + 3 ≤ k):line_Cut.f k l a=some (cutSpec l a):=by
 unfold line_Cut.f cutSpec
 exact cut_l0 l a hn l.length k 0 (by omega) (by omega) hk
theorem cutA_shape (l:List Int) (m:Int) (d:Nat) : ∀ (i:Int),0 ≤ i → (l.length:Int) - i=d →
 ((cutAt l m d i).2.1 > 0∧(cutAt l m d i).2.1 ≤ l.length∧strOfNums (l.take (cutAt l m d i).2.1.toNat)=(cutAt l m d i).1 ++ (⟨#[13,10]⟩:ByteArray)∧((cutAt l m d i).1.size:Int)=(cutAt l m d i).2.1 - 2∧(cutAt l m d i).2.2=0)
 ∨ ((cutAt l m d i).2.1=0∧(cutAt l m d i).1=(⟨#[]⟩:ByteArray)):=by
 induction d with
 | zero=>intro i h0 hd;right;simp [cutAt]
 | succ d ih =>
  intro i h0 hd
  have hlt:i < (l.length:Int):=by omega
  have ih' := ih (i + 1) (by omega) (by omega)
  simp only [cutAt]
  by_cases h10:rd l i=10
  ·simp [h10]
  ·rw [if_neg h10]
   by_cases h13:rd l i=13
   ·rw [if_pos h13]
    by_cases h1:i + 1 < (l.length:Int)
    ·rw [if_pos h1]
     by_cases hr:rd l (i + 1)=10
     ·rw [if_pos hr]
      left
      refine ⟨by show i + 2 > 0;omega,by show i + 2 ≤ _;omega,?_,?_,rfl⟩
      ·show strOfNums (l.take (i + 2).toNat)=_
       rw [take_two l i h0 h1,str_append,h13,hr]
       rfl
      ·show ((strOfNums (l.take i.toNat)).size:Int)=i + 2 - 2
       rw [str_size,List.length_take]
       omega
     ·rw [if_neg hr];right;exact ⟨rfl,rfl⟩
    ·rw [if_neg h1];right;exact ⟨rfl,rfl⟩
   ·rw [if_neg h13]
    by_cases hm:m ≤ i
    ·rw [if_pos hm];right;exact ⟨rfl,rfl⟩
    ·rw [if_neg hm];exact ih'
theorem cutS_shape (l:List Int) (m:Int) :
 (cutSpec l m).2.1 > 0∧(cutSpec l m).2.1 ≤ l.length∧((cutSpec l m).1.size:Int)=(cutSpec l m).2.1 - 2∧(cutSpec l m).2.2=0 ∨ (cutSpec l m).2.1=0∧(cutSpec l m).1=(⟨#[]⟩:ByteArray):=by
 rcases cutA_shape l (mx m 0) l.length 0 (by omega) (by omega) with h|h
 ·exact Or.inl ⟨h.1,h.2.1,h.2.2.2.1,h.2.2.2.2⟩
 ·exact Or.inr h
def mkS (l:List UInt8):ByteArray:=⟨l.toArray⟩
theorem mkS_data (l:List UInt8):(mkS l).data.toList=l:=by simp [mkS]
theorem mkS_self (s:ByteArray):mkS s.data.toList=s:=by simp [mkS]
theorem mkS_size (l:List UInt8):(mkS l).size=l.length:=by rw [← data_length,mkS_data]
theorem mkS_toList (l:List UInt8):(mkS l).toList=l:=by rw [toList_data,mkS_data]
theorem wn0 (n:Nat) (h:n ≤ 4398046511104):wrap64 ((n:Int) + 0)=(n:Int):=by unfold wrap64;omega
theorem wn1 (n:Nat) (h:n ≤ 4398046511104):wrap64 ((n:Int) + 1)=(n:Int) + 1:=by unfold wrap64;omega
theorem wnm (n:Nat) (h:n ≤ 4398046511104):wrap64 ((n:Int) + 1 - 1)=(n:Int):=by unfold wrap64;omega
theorem wi1 (i:Int) (h0:0 ≤ i) (h:i ≤ 4398046511104):wrap64 (i + 1)=i + 1:=by unfold wrap64;omega
theorem rdOf_mk (ps:List (List UInt8)) (i:Int) (h0:0 ≤ i) (h:i < (ps.length:Int)):rdOf ByteArray.empty (ps.map mkS) i=mkS (ps.getD i.toNat []):=by
 unfold rdOf
 rw [List.getD_eq_getElem?_getD,List.getElem?_map,List.getD_eq_getElem?_getD,List.getElem?_eq_getElem (by omega)]
 rfl
theorem bt_mk (l:List UInt8) (i:Nat) (h:i < l.length):bt (mkS l) i=((l[i]).toNat:Int):=by
 unfold bt
 have hs:(mkS l).size=l.length:=mkS_size l
 rw [dif_pos (by rw [Int.toNat_natCast];omega)]
 have:(mkS l)[((i:Nat):Int).toNat]'(by rw [Int.toNat_natCast];omega)=l[i]:=by simp [mkS,ByteArray.getElem_eq_getElem_data]
 rw [this]
theorem mkS_extract (l:List UInt8) (a b:Nat):(mkS l).extract a b=mkS ((l.drop a).take (b - a)):=by
 rw [← mkS_self ((mkS l).extract a b),Lib.extract_data,mkS_data]
theorem mkS_bytes (l:List UInt8):bytesOf (mkS l)=l.map fun b=>(b.toNat:Int):=by unfold bytesOf;rw [mkS_data]
theorem index_append (sp:UInt8) (a b:List UInt8) (h:sp ∉ a):Lib.indexByte (a ++ sp :: b) sp=a.length:=by
 induction a with
 | nil=>simp [Lib.indexByte]
 | cons c a ih =>
  have hc:c ≠ sp:=fun e=>h (e ▸ List.mem_cons_self ..)
  have hb:(c == sp)=false:=by simpa using hc
  have h3:=ih (fun e=>h (List.mem_cons_of_mem _ e))
  have hn:((a.length:Int) == -1)=false:=by simp only [beq_eq_false_iff_ne];omega
  simp [Lib.indexByte,hb,h3,hn]
theorem index_none (sp:UInt8) (a:List UInt8) (h:sp ∉ a):Lib.indexByte a sp = -1:=by
 induction a with
 | nil=>simp [Lib.indexByte]
 | cons c a ih =>
  have hc:c ≠ sp:=fun e=>h (e ▸ List.mem_cons_self ..)
  have hb:(c == sp)=false:=by simpa using hc
  have h3:=ih (fun e=>h (List.mem_cons_of_mem _ e))
  simp [Lib.indexByte,hb,h3]
theorem slIndex (s:List UInt8) (sp:UInt8):stringslite_Index.f (mkS s) ⟨#[sp]⟩=some (Lib.indexByte s sp):=by
 show some (Lib.indexByte (mkS s).data.toList sp)=_
 rw [mkS_data]
theorem Cut_no (sp:UInt8) (s:List UInt8) (h:sp ∉ s):strings_Cut.f (mkS s) ⟨#[sp]⟩=some (mkS s,(⟨#[]⟩:ByteArray),false):=by
 unfold strings_Cut.f stringslite_Cut.f
 rw [slIndex,index_none sp s h,Option.bind_some,if_neg (by decide),Option.bind_some]
theorem Cut_yes (sp:UInt8) (a b:List UInt8) (h:sp ∉ a) (hn:(a ++ sp :: b).length ≤ 140737488355328):strings_Cut.f (mkS (a ++ sp :: b)) ⟨#[sp]⟩=some (mkS a,mkS b,true):=by
 unfold strings_Cut.f stringslite_Cut.f
 have hl:(a ++ sp :: b).length=a.length + b.length + 1:=by rw [List.length_append,List.length_cons];omega
 rw [hl] at hn
 have h1:((⟨#[sp]⟩:ByteArray).size:Int)=1:=rfl
 have hw:wrap64 ((a.length:Int) + 1)=(a.length:Int) + 1:=by unfold wrap64;omega
 have e1:((a.length:Int) + 1).toNat=a.length + 1:=by omega
 rw [slIndex,index_append sp a b h,Option.bind_some,h1,hw,mkS_size,hl,if_pos (by omega),if_pos (by omega),if_pos (by omega),if_pos (by omega),if_pos (by omega),Option.bind_some,e1,Int.toNat_natCast,mkS_extract,mkS_extract,List.drop_zero,Nat.sub_zero,List.take_left,← List.drop_drop,List.drop_left]
 rw [show List.drop 1 (sp :: b)=b from rfl,List.take_of_length_le (by omega)]
/-- What stands ahead of the first sp,and behind it. -/
theorem split_first (sp:UInt8) (s:List UInt8):sp ∉ s ∨ ∃ a b,s=a ++ sp :: b∧sp ∉ a:=by
 induction s with
 | nil=>exact .inl (by simp)
 | cons c s ih =>
  by_cases hc:c=sp
  ·exact .inr ⟨[],s,by rw [hc];rfl,by simp⟩
  ·rcases ih with h|⟨a,b,rfl,h⟩
   ·refine .inl fun hm=>?_
    rcases List.mem_cons.1 hm with e|e
    ·exact hc e.symm
    ·exact h e
   ·refine .inr ⟨c :: a,b,rfl,fun hm=>?_⟩
    rcases List.mem_cons.1 hm with e|e
    ·exact hc e.symm
    ·exact h e
def tokB (c:Int):Bool:=(sign_Token_1.f c).getD false
def valB (c:Int):Bool:=(sign_Value_1.f c).getD false
theorem Token_f (s:ByteArray) (h:s.size ≤ 140737488355328):sign_Token.f s=some (!s.toList.isEmpty && (bytesOf s).all tokB):=if_pos h
theorem Value_f (s:ByteArray) (h:s.size ≤ 140737488355328):sign_Value.f s=some ((bytesOf s).all valB):=if_pos h
/-- Is a byte a blank? -/
def blk (b:UInt8):Bool:=([32,9]:List UInt8).contains b
/-- A text without blanks at its ends. -/
def trm (l:List UInt8):List UInt8:=(l.reverse.dropWhile blk).reverse.dropWhile blk
theorem dw_head (p:UInt8 → Bool) (l:List UInt8) : ∀ a,(l.dropWhile p).head? = some a → p a=false:=by
 induction l with
 | nil=>intro a h;simp at h
 | cons b l ih =>
  intro a h
  cases hb:p b
  ·simp [List.dropWhile,hb] at h;rw [← h];exact hb
  ·simp only [List.dropWhile,hb] at h;exact ih a h
theorem dw_append {p:UInt8 → Bool} (pre t:List UInt8) (h : ∀ a ∈ pre,p a=true):(pre ++ t).dropWhile p=t.dropWhile p:=by
 induction pre with
 | nil=>rfl
 | cons b l ih =>
  simp only [List.cons_append,List.dropWhile,h b (List.mem_cons_self ..)]
  exact ih (fun a ha=>h a (List.mem_cons_of_mem _ ha))
theorem dw_split (p:UInt8 → Bool) (l:List UInt8) : ∃ pre,l=pre ++ l.dropWhile p ∧ ∀ a ∈ pre,p a=true:=by
 induction l with
 | nil=>exact ⟨[],rfl,by simp⟩
 | cons b l ih =>
  obtain ⟨pre,h,hp⟩:=ih
  cases hb:p b
  ·exact ⟨[],by simp [List.dropWhile,hb],by simp⟩
  ·refine ⟨b :: pre,by simp only [List.dropWhile,hb,List.cons_append];rw [← h],?_⟩
   intro a ha
   rcases List.mem_cons.1 ha with rfl|ha
   ·exact hb
   ·exact hp a ha
theorem trm_length (l:List UInt8):(trm l).length ≤ l.length:=by
 unfold trm
 have h1:((l.reverse.dropWhile blk).reverse.dropWhile blk).length ≤ (l.reverse.dropWhile blk).reverse.length:=(List.dropWhile_suffix _).length_le
 have h2:(l.reverse.dropWhile blk).length ≤ l.reverse.length:=(List.dropWhile_suffix _).length_le
 rw [List.length_reverse] at h1 h2
 omega
theorem Trim_f (s:ByteArray) (h:s.size ≤ 9223372036854775807):sign_Trim.f s=some ⟨(trm s.data.toList).toArray⟩:=by
 unfold sign_Trim.f strings_Trim.f
 rw [if_pos ⟨h,by decide,by decide⟩]
 rfl
/-- Is a field right? -/
def rightB (a t:ByteArray):Bool:=decide (a.size ≤ 100) && ((!a.toList.isEmpty && (bytesOf a).all tokB) && (decide (t.size ≤ 1000) && ((bytesOf t).all valB && (mkS (trm t.data.toList)).toList == t.toList)))
theorem Trim_mk (s:ByteArray) (h:s.size ≤ 9223372036854775807):sign_Trim.f s=some (mkS (trm s.data.toList)):=Trim_f s h
theorem field_right_f (a t:ByteArray):field_right.f a t=some (rightB a t):=by
 unfold field_right.f rightB
 by_cases h1:(a.size:Int) ≤ 100
 ·rw [if_pos h1,Token_f a (by omega),Option.bind_some,decide_eq_true (show a.size ≤ 100 by omega),Bool.true_and]
  cases hT:(!a.toList.isEmpty && (bytesOf a).all tokB)
  ·rw [if_neg (by simp),Bool.false_and]
  ·rw [if_pos rfl,Bool.true_and]
   by_cases h2:(t.size:Int) ≤ 1000
   ·rw [if_pos h2,Value_f t (by omega),Option.bind_some,decide_eq_true (show t.size ≤ 1000 by omega),Bool.true_and]
    cases (bytesOf t).all valB
    ·rw [if_neg (by simp),Bool.false_and]
    ·rw [if_pos rfl,Bool.true_and,Trim_mk t (by omega),Option.bind_some]
   ·rw [if_neg h2,decide_eq_false (show ¬ t.size ≤ 1000 by omega),Bool.false_and]
 ·rw [if_neg h1,decide_eq_false (show ¬ a.size ≤ 100 by omega),Bool.false_and]
def fieldOk (l:List UInt8):Bool:=if 58 ∈ l then rightB (mkS (l.takeWhile (· != 58))) (mkS (trm ((l.dropWhile (· != 58)).drop 1))) else false
theorem take_first (sp:UInt8) (a b:List UInt8) (h:sp ∉ a):(a ++ sp :: b).takeWhile (· != sp)=a∧((a ++ sp :: b).dropWhile (· != sp)).drop 1=b:=by
 induction a with
 | nil=>simp [List.takeWhile_cons,List.dropWhile_cons]
 | cons x a ih =>
  have hx:x ≠ sp:=fun e=>h (by rw [e];exact List.mem_cons_self ..)
  have:=ih (fun e=>h (List.mem_cons_of_mem _ e))
  simp only [List.cons_append,List.takeWhile_cons,List.dropWhile_cons,bne_iff_ne,ne_eq,hx,not_false_eq_true,if_true]
  exact ⟨by rw [this.1],this.2⟩
theorem fieldOk_no (l:List UInt8) (h:58 ∉ l):fieldOk l=false:=by unfold fieldOk;rw [if_neg h]
theorem fieldOk_yes (a b:List UInt8) (h:58 ∉ a):fieldOk (a ++ 58 :: b)=rightB (mkS a) (mkS (trm b)):=by
 unfold fieldOk
 obtain ⟨e1,e2⟩:=take_first 58 a b h
 rw [if_pos (by simp),e1,e2]
theorem field_f (l:List UInt8) (hn:l.length ≤ 140737488355328) : ∃ x y,field_Parse.f (mkS l)=some (x,y,if fieldOk l=true then 0 else 20):=by
 unfold field_Parse.f
 rcases split_first 58 l with h|⟨a,b,rfl,h⟩
 ·rw [Cut_no 58 l h,Option.bind_some,fieldOk_no l h]
  simp only
  rw [Trim_mk _ (by decide),Option.bind_some]
  exact ⟨_,_,rfl⟩
 ·rw [Cut_yes 58 a b h hn,Option.bind_some,fieldOk_yes a b h]
  simp only
  rw [Trim_mk _ (by rw [mkS_size];rw [List.length_append,List.length_cons] at hn;omega),Option.bind_some,if_pos trivial,field_right_f,Option.bind_some,mkS_data]
  cases rightB (mkS a) (mkS (trm b)) <;> exact ⟨_,_,rfl⟩
theorem fold_tells (s:ByteArray) (hn:s.size ≤ 140737488355328):sign_Fold.f s=some (strOfNums ((bytesOf s).map foldC)):=if_pos hn
def Bytes (xs:List Int):Prop := ∀ x ∈ xs,0 ≤ x∧x ≤ 255
theorem bytes_of (s:ByteArray):Bytes (bytesOf s):=by
 intro x hx
 obtain ⟨b,_,rfl⟩:=List.mem_map.1 hx
 have:=b.toNat_lt
 omega
theorem foldC_byte (x:Int) (h0:0 ≤ x) (h1:x ≤ 255):0 ≤ foldC x∧foldC x ≤ 255:=by unfold foldC;split <;> omega
theorem bytes_fold {xs:List Int} (h:Bytes xs):Bytes (xs.map foldC):=by
 intro x hx
 obtain ⟨y,hy,rfl⟩:=List.mem_map.1 hx
 exact foldC_byte y (h y hy).1 (h y hy).2
theorem bytes_str {xs:List Int} (h:Bytes xs):bytesOf (strOfNums xs)=xs:=by
 unfold bytesOf
 rw [strOfNums_data,List.map_map]
 conv=>rhs;rw [← List.map_id xs]
 refine List.map_congr_left fun x hx=>?_
 have:=h x hx
 show ((UInt8.ofNat x.toNat).toNat:Int)=x
 rw [UInt8.toNat_ofNat']
 omega
theorem str_inj {xs ys:List Int} (hx:Bytes xs) (hy:Bytes ys):((strOfNums xs).toList == (strOfNums ys).toList)=decide (xs=ys):=by
 rw [Bool.eq_iff_iff,beq_iff_eq,decide_eq_true_eq]
 refine ⟨fun e=>?_,fun e=>by rw [e]⟩
 rw [← bytes_str hx,← bytes_str hy]
 unfold bytesOf
 rw [← toList_data,← toList_data,e]
theorem same_tells (a b:ByteArray) (ha:a.size ≤ 140737488355328) (hb:b.size ≤ 140737488355328):sign_Same.f a b=some (decide ((bytesOf a).map foldC=(bytesOf b).map foldC)):=by
 unfold sign_Same.f
 by_cases h:(a.size:Int)=b.size
 ·rw [if_pos h,fold_tells a ha,Option.bind_some,fold_tells b hb,Option.bind_some,str_inj (bytes_fold (bytes_of a)) (bytes_fold (bytes_of b))]
 ·rw [if_neg h]
  have hne : ¬ ((bytesOf a).map foldC=(bytesOf b).map foldC):=by
   intro e
   have:=congrArg List.length e
   rw [List.length_map,List.length_map,bytesOf_length,bytesOf_length] at this
   omega
  rw [decide_eq_false hne]
/-- How many commas. -/
def cntC (sp:UInt8):List UInt8 → Nat
 | []=>0
 | c :: l=>if c=sp then cntC sp l + 1 else cntC sp l
theorem cntC_count {sp:UInt8} (l:List UInt8):l.count sp=cntC sp l:=by
 induction l with
 | nil=>rfl
 | cons c l ih=>rw [List.count_cons,ih];by_cases hc:c=sp <;> simp [cntC,hc]
theorem cntC_append {sp:UInt8} (a b:List UInt8):cntC sp (a ++ b)=cntC sp a + cntC sp b:=by
 rw [← cntC_count,← cntC_count,← cntC_count,List.count_append]
theorem cntC_none {sp:UInt8} (l:List UInt8):cntC sp l=0 ↔ sp ∉ l:=by rw [← cntC_count];exact List.count_eq_zero
theorem cntC_le {sp:UInt8} (l:List UInt8):cntC sp l ≤ l.length:=by rw [← cntC_count];exact List.count_le_length
/-- The parts between commas. -/
def pcs (sp:UInt8):List UInt8 → List (List UInt8)
 | []=>[[]]
 | c :: l=>if c=sp then [] :: pcs sp l else (match pcs sp l with|p :: ps=>(c :: p) :: ps|[]=>[[c]])
theorem pcs_ne {sp:UInt8} (l:List UInt8) : ∃ p ps,pcs sp l=p :: ps:=by
 induction l with
 | nil=>exact ⟨[],[],rfl⟩
 | cons c l ih =>
  obtain ⟨p,ps,h⟩:=ih
  by_cases hc:c=sp
  ·exact ⟨[],pcs sp l,by simp [pcs,hc]⟩
  ·exact ⟨c :: p,ps,by simp [pcs,hc,h]⟩
theorem pcs_none {sp:UInt8} (l:List UInt8) (h:sp ∉ l):pcs sp l=[l]:=by
 induction l with
 | nil=>rfl
 | cons c l ih =>
  have hc:c ≠ sp:=fun e=>h (e ▸ List.mem_cons_self ..)
  simp [pcs,hc,ih (fun e=>h (List.mem_cons_of_mem _ e))]
theorem pcs_append {sp:UInt8} (a b:List UInt8):pcs sp (a ++ sp :: b)=pcs sp a ++ pcs sp b:=by
 induction a with
 | nil=>simp [pcs]
 | cons c a ih =>
  by_cases hc:c=sp
  ·simp [pcs,hc,ih]
  ·obtain ⟨p,ps,hp⟩:=pcs_ne (sp:=sp) a
   simp [pcs,hc,ih,hp]
theorem pcs_length {sp:UInt8} (l:List UInt8):(pcs sp l).length=cntC sp l + 1:=by
 induction l with
 | nil=>rfl
 | cons c l ih =>
  by_cases hc:c=sp
  ·simp [pcs,cntC,hc,ih]
  ·obtain ⟨p,ps,hp⟩:=pcs_ne (sp:=sp) l
   rw [hp] at ih
   simp only [pcs,hc,if_false,hp,cntC]
   simpa using ih
theorem pcs_le {sp:UInt8} (l:List UInt8) : ∀ p ∈ pcs sp l,p.length ≤ l.length:=by
 induction l with
 | nil=>intro p hp;simp [pcs] at hp;simp [hp]
 | cons c l ih =>
  intro p hp
  by_cases hc:c=sp
  ·simp only [pcs,hc,if_true] at hp
   rcases List.mem_cons.1 hp with rfl|hp
   ·simp
   ·have:=ih p hp;simp;omega
  ·obtain ⟨q,qs,hq⟩:=pcs_ne (sp:=sp) l
   simp only [pcs,hc,if_false,hq] at hp
   rcases List.mem_cons.1 hp with rfl|hp
   ·have:=ih q (by rw [hq];exact List.mem_cons_self ..);simp;omega
   ·have:=ih p (by rw [hq];exact List.mem_cons_of_mem _ hp);simp;omega
/-- What Split tells. -/
theorem index_splitC {sp:UInt8} (l:List UInt8) (h:0 < cntC sp l) : ∃ a b,l=a ++ sp :: b∧sp ∉ a∧Lib.indexByte l sp=a.length:=by
 induction l with
 | nil=>simp [cntC] at h
 | cons c l ih =>
  by_cases hc:c=sp
  ·exact ⟨[],l,by simp [hc],by simp,by simp [Lib.indexByte,hc]⟩
  ·have h' : 0 < cntC sp l:=by simpa [cntC,hc] using h
   obtain ⟨a,b,h1,h2,h3⟩:=ih h'
   refine ⟨c :: a,b,by simp [h1],?_,?_⟩
   ·intro hm
    rcases List.mem_cons.1 hm with e|e
    ·exact hc e.symm
    ·exact h2 e
   ·have hb:(c == sp)=false:=by simpa using hc
    have hn:((a.length:Int) == -1)=false:=by simp only [beq_eq_false_iff_ne];omega
    simp [Lib.indexByte,hb,h3,hn]
theorem gs_endC {sp:UInt8} (k:Nat) (s:ByteArray) (x3:Int) (x9:List ByteArray) (i:Nat) (hc:sp ∉ s.data.toList) (hx:x3=i) (hl:x9.length=i + 1) (hi:i ≤ 4398046511104) :
 strings_genSplit.l0 (k + 1) s ⟨#[sp]⟩ 0 x3 x9 i=some (x9.take i ++ (pcs sp s.data.toList).map mkS):=by
 simp only [strings_genSplit.l0]
 rw [if_neg (by omega),if_pos (by omega),if_pos (by omega),wn1 i hi,if_pos (by omega),if_pos (by omega),pcs_none _ hc]
 have e1:((i:Int) + 1).toNat=i + 1:=by omega
 rw [e1,Int.toNat_natCast,List.take_succ_eq_append_getElem (by rw [List.length_set];omega),List.take_set_of_le (Nat.le_refl _)]
 simp [mkS_self]
theorem extract_midC {sp : UInt8} (s : ByteArray) (a b : List UInt8) (hab : s.data.toList = a ++ sp :: b) : (s.extract (a.length + 1) s.size).data.toList = b ∧ s.extract 0 a.length = mkS a ∧ (s.extract (a.length + 1) s.size).size ≤ s.size := by
  have e2 : (s.extract (a.length + 1) s.size).data.toList = b := by
    rw [Lib.extract_to_end, hab, ← List.drop_drop, List.drop_left]; rfl
  refine ⟨e2, ?_, ?_⟩
  · have : (s.extract 0 a.length).data.toList = a := by
      rw [Lib.extract_data, hab, List.drop_zero, Nat.sub_zero, List.take_left]
    rw [← mkS_self (s.extract 0 _), this]
  · have hlen : a.length + b.length + 1 = s.size := by rw [← data_length, hab]; simp; omega
    rw [← data_length, e2]
    omega
theorem gs_stepC {sp:UInt8} (k:Nat) (s:ByteArray) (x3:Int) (x9:List ByteArray) (i:Nat) (a b:List UInt8) (hab:s.data.toList=a ++ sp :: b) (hidx:Lib.indexByte s.data.toList sp=a.length) (hx:(i:Int) < x3) (hl:i < x9.length) (hs:s.size ≤ 4398046511104) (hi:i ≤ 4398046511104) :
 ∀ R,strings_genSplit.l0 k (s.extract (a.length + 1) s.size) ⟨#[sp]⟩ 0 x3 (x9.set i (mkS a)) ((i:Int) + 1)=R → strings_genSplit.l0 (k + 1) s ⟨#[sp]⟩ 0 x3 x9 i=R:=by
 intro R hR
 have hlen:a.length + b.length + 1=s.size:=by rw [← data_length,hab];simp;omega
 have hix:strings_Index.f s ⟨#[sp]⟩=some (a.length:Int):=by
  show some (Lib.indexByte s.data.toList sp)=_
  rw [hidx]
 have hs1:((⟨#[sp]⟩:ByteArray).size:Int)=1:=rfl
 have e1:((a.length:Int) + 1).toNat=a.length + 1:=by omega
 obtain ⟨_,e3,_⟩:=extract_midC s a b hab
 simp only [strings_genSplit.l0]
 rw [if_pos hx,hix]
 rw [Option.bind_some]
 rw [if_neg (by omega),wn0 _ (by omega),hs1,wn1 _ (by omega),if_pos (by omega),if_pos (by omega),if_pos (by omega),if_pos (by omega),if_pos (by omega),if_pos (by omega),wn1 i hi,e1,Int.toNat_natCast,Int.toNat_natCast,e3]
 exact hR
theorem gs_l0C {sp:UInt8} (d:Nat) : ∀ (k:Nat) (s:ByteArray) (x3:Int) (x9:List ByteArray) (i:Nat),cntC sp s.data.toList=d → x3=i + d → x9.length=i + d + 1 → d + 1 ≤ k → s.size ≤ 4398046511104 →
 i + d ≤ 4398046511104 → strings_genSplit.l0 k s ⟨#[sp]⟩ 0 x3 x9 i=some (x9.take i ++ (pcs sp s.data.toList).map mkS):=by
 induction d with
 | zero =>
  intro k s x3 x9 i hc hx hl hk hs hid
  obtain ⟨k,rfl⟩ : ∃ m,k=m + 1:=⟨k - 1,by omega⟩
  exact gs_endC k s x3 x9 i ((cntC_none _).1 hc) (by omega) (by omega) (by omega)
 | succ d ih =>
  intro k s x3 x9 i hc hx hl hk hs hid
  obtain ⟨k,rfl⟩ : ∃ m,k=m + 1:=⟨k - 1,by omega⟩
  obtain ⟨a,b,hab,ha,hidx⟩:=index_splitC (sp:=sp) s.data.toList (by omega)
  obtain ⟨e2,_,e4⟩:=extract_midC s a b hab
  have hcb:cntC sp b=d:=by
   rw [hab,cntC_append,(cntC_none a).2 ha] at hc
   simp only [cntC,if_true] at hc
   omega
  refine gs_stepC k s x3 x9 i a b hab hidx (by omega) (by omega) hs (by omega) _ ?_
  have:=ih k (s.extract (a.length + 1) s.size) x3 (x9.set i (mkS a)) (i + 1) (by rw [e2];exact hcb) (by omega) (by rw [List.length_set];omega) (by omega) (by omega) (by omega)
  rw [show (((i + 1:Nat)):Int)=(i:Int) + 1 by omega] at this
  rw [this,e2,hab,pcs_append,pcs_none a ha,List.take_succ_eq_append_getElem (by rw [List.length_set];omega),List.take_set_of_le (Nat.le_refl _)]
  simp
theorem gs_firstC {sp:UInt8} (k:Nat) (s:ByteArray) (hs:s.size ≤ 4398046511103) :
 ∀ R,strings_genSplit.l0 k s ⟨#[sp]⟩ 0 ((cntC sp s.data.toList:Nat):Int) (List.replicate (cntC sp s.data.toList + 1) (⟨#[]⟩:ByteArray)) 0=R → strings_genSplit.f (k + 1) s ⟨#[sp]⟩ 0 (-1)=R:=by
 intro R hR
 have hcl:=cntC_le (sp:=sp) s.data.toList
 rw [data_length] at hcl
 have hcf:strings_Count.f s ⟨#[sp]⟩=some ((cntC sp s.data.toList:Nat):Int):=by
  rw [← cntC_count];rfl
 obtain ⟨c,hc⟩ : ∃ c,c=cntC sp s.data.toList:=⟨_,rfl⟩
 rw [← hc] at hcf hcl hR
 have hm:mn ((c:Int) + 1) ((s.size:Int) + 1)=(c:Int) + 1:=by unfold mn;split <;> omega
 have e1:((c:Int) + 1).toNat=c + 1:=by omega
 have hne : ¬ ((⟨#[sp]⟩:ByteArray).toList=[]):=by rw [toList_data];simp
 unfold strings_genSplit.f
 rw [if_neg (by decide),if_neg hne,if_pos (by decide),hcf]
 rw [Option.bind_some]
 simp only [strings_genSplit.j0]
 rw [wn1 c (by omega),wn1 s.size (by omega),hm,wnm c (by omega),e1,if_pos (by omega),if_pos (by omega)]
 exact hR
theorem Split_fC {sp:UInt8} (s:ByteArray) (hs:s.size ≤ 4398046511103) (k:Nat) (hk:s.size + 3 ≤ k):strings_Split.f k s ⟨#[sp]⟩=some ((pcs sp s.data.toList).map mkS):=by
 obtain ⟨k,rfl⟩ : ∃ m,k=m + 1:=⟨k - 1,by omega⟩
 have hcl:=cntC_le (sp:=sp) s.data.toList
 rw [data_length] at hcl
 unfold strings_Split.f
 have:=gs_l0C (cntC sp s.data.toList) k s ((cntC sp s.data.toList:Nat):Int) (List.replicate (cntC sp s.data.toList + 1) (⟨#[]⟩:ByteArray)) 0 rfl (by omega) (by rw [List.length_replicate];omega) (by omega) (by omega) (by omega)
 rw [show ((0:Nat):Int)=0 from rfl] at this
 rw [gs_firstC k s hs _ this]
 simp
/-- The parts of a list: trimmed,the empty ones left out. -/
def commaParts (l:List UInt8):List (List UInt8):=((pcs 44 l).map trm).filter (fun p => !p.isEmpty)
theorem split_step (ps:List (List UInt8)) (i:Int) (h0:0 ≤ i) (hlt:i < (ps.length:Int)):((ps.drop i.toNat).map trm).filter (fun p => !p.isEmpty)=(if trm (ps.getD i.toNat [])=[] then [] else [trm (ps.getD i.toNat [])]) ++ ((ps.drop (i + 1).toNat).map trm).filter (fun p => !p.isEmpty):=by
 have hl:i.toNat < ps.length:=by omega
 have hg:ps.getD i.toNat []=ps[i.toNat]:=by rw [List.getD_eq_getElem?_getD,List.getElem?_eq_getElem hl];rfl
 rw [hg,List.drop_eq_getElem_cons hl,show (i + 1).toNat=i.toNat + 1 by omega,List.map_cons,List.filter_cons]
 by_cases he:trm ps[i.toNat]=[]
 ·rw [if_pos he,he];rfl
 ·rw [if_neg he,if_pos (by simpa using he)];rfl
theorem split_l0 (ps:List (List UInt8)) (hl : ∀ p ∈ ps,p.length ≤ 4398046511104) (hn:ps.length ≤ 4398046511104) (d:Nat) : ∀ (k:Nat) (out:List ByteArray) (i:Int),0 ≤ i → (ps.length:Int) - i=d → d + 1 ≤ k → (out.length:Int) ≤ i →
 sign_Split.l0 k out (ps.map mkS) (ps.length:Int) i=some (out ++ (((ps.drop i.toNat).map trm).filter (fun p => !p.isEmpty)).map mkS):=by
 induction d with
 | zero =>
  intro k out i h0 hd hk ho
  obtain ⟨k,rfl⟩ : ∃ m,k=m + 1:=⟨k - 1,by omega⟩
  simp only [sign_Split.l0]
  rw [if_neg (by omega),List.drop_of_length_le (by omega)]
  simp
 | succ d ih =>
  intro k out i h0 hd hk ho
  obtain ⟨k,rfl⟩ : ∃ m,k=m + 1:=⟨k - 1,by omega⟩
  have hlt:i.toNat < ps.length:=by omega
  have hg:ps.getD i.toNat []=ps[i.toNat]:=by rw [List.getD_eq_getElem?_getD,List.getElem?_eq_getElem hlt];rfl
  have hlp:=hl _ (List.getElem_mem hlt)
  rw [← hg] at hlp
  rw [split_step ps i h0 (by omega)]
  simp only [sign_Split.l0]
  rw [if_pos (by omega),if_pos h0,if_pos (by rw [List.length_map];omega),rdOf_mk ps i h0 (by omega),Trim_f _ (by rw [mkS_size];omega),mkS_data]
  simp only [Option.bind_some,wi1 i h0 (by omega)]
  rw [show (⟨(trm (ps.getD i.toNat [])).toArray⟩:ByteArray)=mkS (trm (ps.getD i.toNat [])) from rfl,mkS_toList]
  by_cases he:trm (ps.getD i.toNat [])=[]
  ·rw [if_pos he,if_pos he,ih k out (i + 1) (by omega) (by omega) (by omega) (by omega)]
   rfl
  ·rw [if_neg he,if_neg he,if_pos (by omega),ih k _ (i + 1) (by omega) (by omega) (by omega) (by rw [List.length_append];simp;omega)]
   simp only [List.map_append,List.map_cons,List.map_nil,List.append_assoc]
theorem signSplit_f (s:ByteArray) (hs:s.size ≤ 4398046511103) (k:Nat) (hk:s.size + 3 ≤ k):sign_Split.f k s=some ((commaParts s.data.toList).map mkS):=by
 unfold sign_Split.f
 have hpl:=pcs_length (sp:=44) s.data.toList
 have hcl:=cntC_le (sp:=44) s.data.toList
 rw [data_length] at hcl
 rw [Split_fC s hs k hk]
 simp only [Option.bind_some,List.length_map]
 rw [split_l0 (pcs 44 s.data.toList) (fun p hp=>by have:=pcs_le _ p hp;rw [data_length] at this;omega) (by omega) (pcs 44 s.data.toList).length k [] 0 (by omega) (by omega) (by omega) (by simp)]
 rfl
theorem rdT_at (xs:List (S55)) (i:Nat) (h:i < xs.length):rd_T55 xs (i:Int)=xs[i]:=by
 unfold rd_T55
 rw [Int.toNat_natCast,List.getD_eq_getElem?_getD,List.getElem?_eq_getElem h];rfl
theorem rdB_at (xs:List ByteArray) (i:Nat) (h:i < xs.length):rdOf ByteArray.empty xs (i:Int)=xs[i]:=by
 unfold rdOf
 rw [Int.toNat_natCast,List.getD_eq_getElem?_getD,List.getElem?_eq_getElem h];rfl
/-- The same names. -/
def sameN (a b:ByteArray):Bool:=decide ((bytesOf a).map foldC=(bytesOf b).map foldC)
theorem same_f (a b:ByteArray) (ha:a.size ≤ 140737488355328) (hb:b.size ≤ 140737488355328):sign_Same.f a b=some (sameN a b):=same_tells a b ha hb
/-- Few fields,of short texts. -/
def FB (fs:List (S55)):Prop:=fs.length ≤ 1000 ∧ ∀ f ∈ fs,f.f0.size ≤ 1048576∧f.f1.size ≤ 1048576
/-- The values of a name. -/
def getS (name:ByteArray):List (S55) → List ByteArray
 | []=>[]
 | f :: r=>if sameN f.f0 name=true then f.f1 :: getS name r else getS name r
theorem getS_len (name:ByteArray) : ∀ fs,(getS name fs).length ≤ fs.length
 | []=>Nat.le_refl _
 | f :: r=>by rw [getS];have:=getS_len name r;split <;> simp only [List.length_cons] <;> omega
theorem getS_mem (name:ByteArray) : ∀ (fs:List (S55)) (v:ByteArray),v ∈ getS name fs → ∃ f ∈ fs,v=f.f1∧sameN f.f0 name=true
 | [],v,h=>by cases h
 | f :: r,v,h=>by
  rw [getS] at h
  by_cases hs:sameN f.f0 name=true
  ·rw [if_pos hs] at h
   rcases List.mem_cons.1 h with rfl|h
   ·exact ⟨f,List.mem_cons_self,rfl,hs⟩
   ·obtain ⟨g,hg,e⟩:=getS_mem name r v h;exact ⟨g,List.mem_cons_of_mem _ hg,e⟩
  ·rw [if_neg hs] at h
   obtain ⟨g,hg,e⟩:=getS_mem name r v h;exact ⟨g,List.mem_cons_of_mem _ hg,e⟩
theorem get_l0 (name:ByteArray) (hn:name.size ≤ 1048576) (fs:List (S55)) (hf:FB fs) (d:Nat) : ∀ (k i:Nat) (out:List ByteArray),i + d=fs.length → d < k → out.length ≤ i →
 field_Get.l0 k name out fs (fs.length:Int) (i:Int)=some (out ++ getS name (fs.drop i)):=by
 have hfl:=hf.1
 induction d with
 | zero =>
  intro k i out hi hk ho
  obtain ⟨k,rfl⟩ : ∃ m,k=m + 1:=⟨k - 1,by omega⟩
  rw [field_Get.l0,if_neg (by omega),List.drop_of_length_le (by omega),getS,List.append_nil]
 | succ d ih =>
  intro k i out hi hk ho
  obtain ⟨k,rfl⟩ : ∃ m,k=m + 1:=⟨k - 1,by omega⟩
  have hlt:i < fs.length:=by omega
  have hb:=hf.2 _ (List.getElem_mem hlt)
  have hw:wrap64 ((i:Int) + 1)=((i + 1:Nat):Int):=by unfold wrap64;omega
  rw [field_Get.l0,if_pos (by omega),if_pos (by omega),if_pos (by omega),rdT_at fs i hlt,same_f _ _ (by omega) (by omega),Option.bind_some,hw,List.drop_eq_getElem_cons hlt,getS]
  by_cases hs:sameN fs[i].f0 name=true
  ·rw [if_pos hs,if_pos hs,if_pos (by omega),ih k (i + 1) _ (by omega) (by omega) (by rw [List.length_append];simp;omega)]
   simp only [List.append_assoc,List.singleton_append]
  ·rw [if_neg hs,if_neg hs,ih k (i + 1) _ (by omega) (by omega) (by omega)]
theorem Get_f (fs:List (S55)) (name:ByteArray) (hf:FB fs) (hn:name.size ≤ 1048576) (k:Nat) (hk:fs.length < k):field_Get.f k fs name=some (getS name fs):=by
 have:=get_l0 name hn fs hf fs.length k 0 [] (by omega) hk (Nat.zero_le _)
 rw [List.drop_zero,List.nil_append] at this
 exact this
/-- A value's parts. -/
def partsS (v:ByteArray):List ByteArray:=(commaParts v.data.toList).map mkS
theorem comma_len (l:List UInt8):(commaParts l).length ≤ l.length + 1:=by
 unfold commaParts
 have h1:=List.length_filter_le (fun p => !p.isEmpty) ((pcs 44 l).map trm)
 rw [List.length_map,pcs_length] at h1
 have h2:=cntC_le (sp:=44) l
 omega
theorem parts_len (v:ByteArray):(partsS v).length ≤ v.size + 1:=by
 unfold partsS
 rw [List.length_map]
 have:=comma_len v.data.toList
 rw [data_length] at this
 exact this
theorem comma_size (l:List UInt8) : ∀ p ∈ commaParts l,p.length ≤ l.length:=by
 intro p hp
 unfold commaParts at hp
 obtain ⟨q,hq,rfl⟩:=List.mem_map.1 (List.mem_filter.1 hp).1
 exact Nat.le_trans (trm_length q) (pcs_le l q hq)
theorem parts_size (v:ByteArray) : ∀ p ∈ partsS v,p.size ≤ v.size:=by
 intro p hp
 obtain ⟨q,hq,rfl⟩:=List.mem_map.1 hp
 rw [mkS_size,← data_length]
 exact comma_size _ q hq
theorem list_l0 (vs:List ByteArray) (hl:vs.length ≤ 1000) (hv : ∀ v ∈ vs,v.size ≤ 1048576) (d:Nat) : ∀ (k i:Nat) (out:List ByteArray),i + d=vs.length → d + 1048580 ≤ k → out.length ≤ 1048577 * i →
 field_List.l0 k out vs (vs.length:Int) (i:Int)=some (out ++ (vs.drop i).flatMap partsS):=by
 induction d with
 | zero =>
  intro k i out hi hk ho
  obtain ⟨k,rfl⟩ : ∃ m,k=m + 1:=⟨k - 1,by omega⟩
  rw [field_List.l0,if_neg (by omega),List.drop_of_length_le (by omega),List.flatMap_nil,List.append_nil]
 | succ d ih =>
  intro k i out hi hk ho
  obtain ⟨k,rfl⟩ : ∃ m,k=m + 1:=⟨k - 1,by omega⟩
  have hlt:i < vs.length:=by omega
  have hb:=hv _ (List.getElem_mem hlt)
  have hp:=parts_len vs[i]
  have hw:wrap64 ((i:Int) + 1)=((i + 1:Nat):Int):=by unfold wrap64;omega
  rw [field_List.l0,if_pos (by omega),if_pos (by omega),if_pos (by omega),rdB_at vs i hlt,signSplit_f _ (by omega) k (by omega),Option.bind_some,hw,List.drop_eq_getElem_cons hlt,List.flatMap_cons]
  have e:(commaParts vs[i].data.toList).map mkS=partsS vs[i]:=rfl
  rw [e,if_pos (by omega),ih k (i + 1) _ (by omega) (by omega) (by rw [List.length_append];omega),List.append_assoc]
/-- All parts of a name's values. -/
def listS (name:ByteArray) (fs:List (S55)):List ByteArray:=(getS name fs).flatMap partsS
theorem get_bounds (fs:List (S55)) (name:ByteArray) (hf:FB fs):(getS name fs).length ≤ 1000 ∧ ∀ v ∈ getS name fs,v.size ≤ 1048576:=by
 refine ⟨Nat.le_trans (getS_len name fs) hf.1,fun v hv=>?_⟩
 obtain ⟨f,hm,rfl,_⟩:=getS_mem name fs v hv
 exact (hf.2 f hm).2
theorem List_f (fs:List (S55)) (name:ByteArray) (hf:FB fs) (hn:name.size ≤ 1048576) (k:Nat) (hk:1049600 ≤ k):field_List.f k fs name=some (listS name fs):=by
 obtain ⟨h1,h2⟩:=get_bounds fs name hf
 have hfl:=hf.1
 unfold field_List.f
 rw [Get_f fs name hf hn k (by omega),Option.bind_some]
 have:=list_l0 (getS name fs) h1 h2 (getS name fs).length k 0 [] (by omega) (by omega) (by simp)
 rw [List.drop_zero,List.nil_append] at this
 exact this
theorem flat_len (B:Nat) : ∀ vs:List ByteArray,(∀ v ∈ vs,v.size ≤ B) → (vs.flatMap partsS).length ≤ vs.length * (B + 1)
 | [],_=>by simp
 | v :: r,h=>by
  rw [List.flatMap_cons,List.length_append,List.length_cons,Nat.succ_mul]
  have h1:=flat_len B r (fun u hu=>h u (List.mem_cons_of_mem _ hu))
  have h2:=parts_len v
  have h3:=h v List.mem_cons_self
  omega
theorem list_bounds (fs:List (S55)) (name:ByteArray) (hf:FB fs):(listS name fs).length ≤ 1048577000 ∧ ∀ p ∈ listS name fs,p.size ≤ 1048576:=by
 obtain ⟨h1,h2⟩:=get_bounds fs name hf
 refine ⟨?_,fun p hp=>?_⟩
 ·have h3:=flat_len 1048576 (getS name fs) h2
  unfold listS
  have h4:(getS name fs).length * 1048577 ≤ 1000 * 1048577:=Nat.mul_le_mul_right _ h1
  omega
 ·unfold listS at hp
  obtain ⟨v,hv,hp⟩:=List.mem_flatMap.1 hp
  exact Nat.le_trans (parts_size v p hp) (h2 v hv)
/-- The field that a line tells. -/
def fieldX (l:List UInt8):S55:=⟨mkS (l.takeWhile (· != 58)),mkS (trm ((l.dropWhile (· != 58)).drop 1))⟩
theorem field_ok (l:List UInt8) (hn:l.length ≤ 140737488355328) (hr:fieldOk l=true):field_Parse.f (mkS l)=some ((fieldX l).f0,(fieldX l).f1,0):=by
 unfold field_Parse.f
 rcases split_first 58 l with h|⟨a,b,rfl,h⟩
 ·rw [fieldOk_no l h] at hr;cases hr
 ·rw [fieldOk_yes a b h] at hr
  obtain ⟨e1,e2⟩:=take_first 58 a b h
  unfold fieldX
  rw [e1,e2,Cut_yes 58 a b h hn,Option.bind_some]
  simp only
  rw [Trim_mk _ (by rw [mkS_size];rw [List.length_append,List.length_cons] at hn;omega),Option.bind_some,if_pos trivial,field_right_f,Option.bind_some,mkS_data,hr]
  rfl
theorem field_no (l:List UInt8) (hn:l.length ≤ 140737488355328) (hr:fieldOk l=false) : ∃ x y,field_Parse.f (mkS l)=some (x,y,20):=by
 obtain ⟨x,y,h⟩:=field_f l hn
 rw [hr] at h
 exact ⟨x,y,h⟩
/-- The lines behind the first one;how many bytes the head has;a status. -/
def tailS (l:List Int) (e:Int):Nat → Nat → List ByteArray × Int × Int
 | 0,_=>([],0,0)
 | d + 1,p=>if (cutSpec (l.drop p) 2048).2.2=20 then ([],0,400)
  else if (cutSpec (l.drop p) 2048).2.1=0 then ([],0,e)
  else if (cutSpec (l.drop p) 2048).1.toList=[] then ([],(p:Int) + (cutSpec (l.drop p) 2048).2.1,0)
  else ((cutSpec (l.drop p) 2048).1 :: (tailS l e d (p + (cutSpec (l.drop p) 2048).2.1.toNat)).1,(tailS l e d (p + (cutSpec (l.drop p) 2048).2.1.toNat)).2)
/-- The lines of a head,without the empty one;how many bytes it has;a status. -/
def linesS (l:List Int) (e:Int):List ByteArray × Int × Int :=
 if (cutSpec l 2048).2.2=20 then ([],0,400)
 else if (cutSpec l 2048).2.1=0 then ([],0,e)
 else ((cutSpec l 2048).1 :: (tailS l e (l.length + 1) (cutSpec l 2048).2.1.toNat).1,(tailS l e (l.length + 1) (cutSpec l 2048).2.1.toNat).2)
/-- The fields that lines tell,n fields before them;a status. -/
def fieldsS:List ByteArray → Nat → List (S55) × Int
 | [],_=>([],0)
 | s :: ss,n=>if fieldOk s.data.toList=true then (if n=40 then ([],431) else if (fieldsS ss (n + 1)).2=0 then (fieldX s.data.toList :: (fieldsS ss (n + 1)).1,0) else ([],(fieldsS ss (n + 1)).2)) else ([],400)
def bdS (l:List Int):List Int:=l.take 2048
def extS (l:List Int):Int:=if 2048 ≤ (l.length:Int) then 431 else 0
theorem bdS_length (l:List Int):(bdS l).length ≤ 2048∧(bdS l).length ≤ l.length:=by unfold bdS;rw [List.length_take];omega
theorem mn_take (l:List Int):l.take (mn (l.length:Int) 2048).toNat=bdS l:=by
 unfold bdS mn
 split
 ·rfl
 ·rw [Int.toNat_natCast,List.take_of_length_le (Nat.le_refl _),List.take_of_length_le (by omega)]
theorem rightB_size {a t:ByteArray} (h:rightB a t=true):a.size ≤ 100∧t.size ≤ 1000:=by
 unfold rightB at h
 simp only [Bool.and_eq_true,decide_eq_true_eq] at h
 exact ⟨h.1,h.2.2.1⟩
theorem fieldX_right {l:List UInt8} (h:fieldOk l=true):rightB (fieldX l).f0 (fieldX l).f1=true:=by
 unfold fieldOk at h
 split at h
 ·exact h
 ·cases h
theorem fieldsS_FB (ss:List ByteArray) : ∀ n,n ≤ 40 → (fieldsS ss n).1.length + n ≤ 40 ∧ ∀ f ∈ (fieldsS ss n).1,rightB f.f0 f.f1=true:=by
 induction ss with
 | nil=>intro n hn;exact ⟨by simpa [fieldsS] using hn,fun f hf=>by cases hf⟩
 | cons s ss ih =>
  intro n hn
  rw [fieldsS]
  split
  ·rename_i h1
   split
   ·exact ⟨by simpa using hn,fun f hf=>by cases hf⟩
   ·rename_i h2
    have:=ih (n + 1) (by omega)
    split
    ·refine ⟨by simp only [List.length_cons];omega,fun f hf=>?_⟩
     rcases List.mem_cons.1 hf with rfl|hf
     ·exact fieldX_right h1
     ·exact this.2 f hf
    ·exact ⟨by simpa using hn,fun f hf=>by cases hf⟩
  ·exact ⟨by simpa using hn,fun f hf=>by cases hf⟩
theorem fields_FB (ss:List ByteArray):FB (fieldsS ss 0).1:=by
 have:=fieldsS_FB ss 0 (by omega)
 refine ⟨by omega,fun f hf=>?_⟩
 have:=rightB_size (this.2 f hf)
 omega
/-- Lines that tell a status tell it whatever stands behind them. -/
theorem fieldsS_more (ss tt:List ByteArray) : ∀ n,(fieldsS ss n).2 ≠ 0 → fieldsS (ss ++ tt) n=fieldsS ss n:=by
 induction ss with
 | nil=>intro n h;exact absurd rfl h
 | cons s ss ih =>
  intro n h
  rw [List.cons_append,fieldsS,fieldsS]
  rw [fieldsS] at h
  split
  ·rename_i h1
   rw [if_pos h1] at h
   split
   ·rfl
   ·rename_i h2
    rw [if_neg h2] at h
    by_cases h3:(fieldsS ss (n + 1)).2=0
    ·rw [if_pos h3] at h;exact absurd rfl h
    ·rw [ih (n + 1) h3]
  ·rfl
theorem tail_le (l:List Int) (e:Int) : ∀ (d p:Nat),p ≤ l.length → (tailS l e d p).2.1 ≤ (l.length:Int)∧0 ≤ (tailS l e d p).2.1∧((tailS l e d p).2.1 ≠ 0 → (tailS l e d p).2.2=0):=by
 intro d
 induction d with
 | zero=>intro p hp;exact ⟨by simp [tailS],by simp [tailS],fun _=>rfl⟩
 | succ d ih =>
  intro p hp
  have hsh:=cutS_shape (l.drop p) 2048
  have hdl:(l.drop p).length=l.length - p:=List.length_drop ..
  rw [tailS]
  split
  ·exact ⟨by simp,by simp,fun h=>absurd rfl h⟩
  ·split
   ·exact ⟨by simp,by simp,fun h=>absurd rfl h⟩
   ·rename_i h2
    have hz:(cutSpec (l.drop p) 2048).2.1 > 0∧(cutSpec (l.drop p) 2048).2.1 ≤ (l.length:Int) - p:=by rcases hsh with h|h <;> omega
    split
    ·exact ⟨by show (p:Int) + _ ≤ _;omega,by show 0 ≤ (p:Int) + _;omega,fun _=>rfl⟩
    ·exact ih _ (by omega)
theorem lines_le (l:List Int) (e:Int):(linesS l e).2.1 ≤ (l.length:Int)∧0 ≤ (linesS l e).2.1∧((linesS l e).2.1 ≠ 0 → (linesS l e).2.2=0)∧((linesS l e).1=[] → (linesS l e).2.1=0):=by
 have hsh:=cutS_shape l 2048
 unfold linesS
 split
 ·exact ⟨by simp,by simp,fun h=>absurd rfl h,fun _=>rfl⟩
 ·split
  ·exact ⟨by simp,by simp,fun h=>absurd rfl h,fun _=>rfl⟩
  ·rename_i h2
   have hz:(cutSpec l 2048).2.1 > 0∧(cutSpec l 2048).2.1 ≤ (l.length:Int):=by rcases hsh with h|h <;> omega
   have:=tail_le l e (l.length + 1) (cutSpec l 2048).2.1.toNat (by omega)
   exact ⟨this.1,this.2.1,this.2.2,fun h=>by cases h⟩
/-- A line's text has no 10,no 13: it is no longer than what it was cut from. -/
theorem cut_len (l:List Int) (h:l.length ≤ 2048):(cutSpec l 2048).1.size ≤ 2048:=by
 rcases cutS_shape l 2048 with h1|h1
 ·omega
 ·rw [h1.2];decide
/-- The value of a digit,or -1. -/
def digV (c:Int):Int:=Lib.indexByte [48,49,50,51,52,53,54,55,56,57,97,98,99,100,101,102] (foldC c).toNat.toUInt8
/-- The number of digits,from n on. -/
def numL (base:Int):List Int → Int → Option Int
 | [],n=>some n
 | c :: r,n=>if 0 ≤ digV c∧digV c < base then numL base r (n * base + digV c) else none
theorem digV_lt (c:Int) (h0:0 ≤ c) (h1:c ≤ 255):digV c < 16:=by
 obtain ⟨n,rfl⟩:=Int.eq_ofNat_of_zero_le h0
 have h : ∀ m:Fin 256,digV (m.val:Int) < 16:=by decide +kernel
 exact h ⟨n,by omega⟩
theorem one_fold (s:ByteArray) (i:Int) (h0:0 ≤ i) (h:i < (s.size:Int)):sign_Fold.f (s.extract i.toNat (i + 1).toNat)=some (strOfNums [foldC (bt s i)]):=by
 have hl:i.toNat < s.data.toList.length:=by rw [data_length];omega
 have e1:(s.extract i.toNat (i + 1).toNat).data.toList=[s.data.toList[i.toNat]]:=by
  rw [Lib.extract_data,show (i + 1).toNat - i.toNat=1 by omega,List.drop_eq_getElem_cons hl]
  rfl
 have hz:(s.extract i.toNat (i + 1).toNat).size=1:=by rw [← data_length,e1];rfl
 rw [fold_tells _ (by omega)]
 unfold bytesOf
 rw [e1]
 have e2:((s.data.toList[i.toNat]).toNat:Int)=bt s i:=by
  unfold bt
  rw [dif_pos (by omega)]
  rfl
 simp only [List.map_cons,List.map_nil,e2]
theorem bt_one (x:Int) (h0:0 ≤ x) (h1:x ≤ 255):bt (strOfNums [x]) 0=x:=by
 have h:=bytes_str (xs:=[x]) (by intro y hy;rw [List.mem_singleton.1 hy];exact ⟨h0,h1⟩)
 rw [← rd_bytesOf,h]
 rfl
theorem index_dig (s:ByteArray) (i:Int):strings_IndexByte.f (⟨#[48,49,50,51,52,53,54,55,56,57,97,98,99,100,101,102]⟩:ByteArray) (bt (strOfNums [foldC (bt s i)]) 0)=some (digV (bt s i)):=by
 have hr:=bt_range s i
 have hf:=foldC_byte _ hr.1 hr.2
 rw [bt_one _ hf.1 hf.2]
 rfl
theorem pow_pos' (b:Int) (hb:1 ≤ b) : ∀ n:Nat,1 ≤ b ^ n
 | 0=>by simp
 | n + 1=>by
  rw [Int.pow_succ]
  have h1:=pow_pos' b hb n
  have h2:=Int.mul_le_mul_of_nonneg_left hb (show 0 ≤ b ^ n by omega)
  rw [Int.mul_one] at h2
  omega
theorem pow_mono' (b:Int) (hb:1 ≤ b) (i:Nat) : ∀ d:Nat,b ^ i ≤ b ^ (i + d)
 | 0=>Int.le_refl _
 | d + 1=>by
  rw [← Nat.add_assoc,Int.pow_succ]
  have h0:=pow_mono' b hb i d
  have h1:=pow_pos' b hb (i + d)
  have h2:=Int.mul_le_mul_of_nonneg_left hb (show 0 ≤ b ^ (i + d) by omega)
  rw [Int.mul_one] at h2
  omega
/-- Too long: none. -/
theorem number_long (s:ByteArray) (base most:Int) (hm:(s.size:Int) > most) (hs:s.size ≤ 140737488355327) (d:Nat) : ∀ (k:Nat) (n i:Int),0 ≤ i → (s.size:Int) - i=d → 2 * d + 1 ≤ k →
 sign_number.l0 k s base most n (s.size:Int) i=some (0,false):=by
 induction d with
 | zero =>
  intro k n i h0 hd hk
  obtain ⟨k,rfl⟩ : ∃ m,k=m + 1:=⟨k - 1,by omega⟩
  simp only [sign_number.l0]
  rw [if_neg (by omega)]
  repeat' split
  all_goals first|rfl|(exfalso;omega)
 | succ d ih =>
  intro k n i h0 hd hk
  obtain ⟨k,rfl⟩ : ∃ m,k=m + 2:=⟨k - 2,by omega⟩
  have hw:wrap64 (i + 1)=i + 1:=by unfold wrap64;omega
  have ih' := fun n=>ih k n (i + 1) (by omega) (by omega) (by omega)
  simp only [sign_number.l0]
  rw [if_pos (by omega),if_pos h0,hw,if_pos (by omega),if_pos (by omega),one_fold s i h0 (by omega),Option.bind_some,if_pos (by rw [str_size];simp),index_dig,Option.bind_some]
  simp only [sign_number.j1]
  rw [hw,ih',ih']
  repeat' split
  all_goals rfl
theorem number_short (s : ByteArray) (base : Int) (most : Nat) (hb0 : 0 ≤ base) (hB : base ^ most ≤ 4611686018427387904) (hb1 : 1 ≤ base) (hm : s.size ≤ most) (hs : s.size ≤ 140737488355327) (d : Nat) : ∀ (k : Nat) (n : Int) (i : Nat), i + d = s.size → 2 * d + 1 ≤ k → 0 ≤ n → n + 1 ≤ base ^ i →
    sign_number.l0 k s base most n (s.size : Int) i = some (match numL base ((bytesOf s).drop i) n with | some v => if s.size = 0 then (0, false) else (v, true) | none => (0, false)) := by
  induction d with
  | zero =>
    intro k n i hi hk h0 hn
    obtain ⟨k, rfl⟩ : ∃ m, k = m + 1 := ⟨k - 1, by omega⟩
    rw [List.drop_of_length_le (by rw [bytesOf_length]; omega)]
    simp only [sign_number.l0, numL]
    rw [if_neg (by omega)]
    by_cases hz : s.size = 0
    · have he : s.toList = [] := by rw [toList_data]; exact List.eq_nil_of_length_eq_zero (by rw [data_length]; exact hz)
      rw [if_pos he, if_pos hz]
    · have he : ¬ (s.toList = []) := by
        intro e
        rw [toList_data] at e
        have := data_length s
        rw [e] at this
        exact hz this.symm
      rw [if_neg he, if_neg hz, if_neg (by omega)]
  | succ d ih =>
    intro k n i hi hk h0 hn
    obtain ⟨k, rfl⟩ : ∃ m, k = m + 2 := ⟨k - 2, by omega⟩
    have hw : wrap64 ((i : Int) + 1) = (i : Int) + 1 := by unfold wrap64; omega
    have hl : i < (bytesOf s).length := by rw [bytesOf_length]; omega
    have hg : (bytesOf s)[i] = bt s i := by rw [← rd_bytesOf]; simp [rd, List.getD_eq_getElem?_getD, List.getElem?_eq_getElem hl]
    have hr := bt_range s i
    have hP : base ^ (i + 1) = base ^ i * base := Int.pow_succ _ _
    have hle : base ^ (i + 1) ≤ base ^ most := by
      have := pow_mono' base hb1 (i + 1) (most - (i + 1))
      rwa [show i + 1 + (most - (i + 1)) = most by omega] at this
    have h1 := Int.mul_le_mul_of_nonneg_right hn hb0
    rw [Int.add_mul, ← hP, Int.one_mul] at h1
    have h2 : 0 ≤ n * base := Int.mul_nonneg h0 hb0
    have h3 : 0 ≤ base := hb0
    have hdl := digV_lt _ hr.1 hr.2
    rw [List.drop_eq_getElem_cons hl, hg]
    simp only [sign_number.l0, numL]
    rw [if_pos (by omega), if_pos (by omega), hw, if_pos (by omega), if_pos (by omega), one_fold s i (by omega) (by omega), Option.bind_some, if_pos (by rw [str_size]; simp), index_dig, Option.bind_some]
    simp only [sign_number.j1]
    obtain ⟨D, hD⟩ : ∃ D, D = digV (bt s i) := ⟨_, rfl⟩
    rw [← hD] at hdl ⊢
    by_cases hv : 0 ≤ D ∧ D < base
    · rw [if_neg (by omega), decide_eq_false (by omega), if_neg (by simp), if_pos (by omega), hw, if_pos hv]
      have e1 : wrap64 (wrap64 (n * base) + D) = n * base + D := by unfold wrap64; omega
      rw [e1]
      have := ih k (n * base + D) (i + 1) (by omega) (by omega) (by omega) (by omega)
      rw [show (((i + 1 : Nat)) : Int) = (i : Int) + 1 by omega] at this
      exact this
    · rw [if_neg hv]
      by_cases hn0 : D < 0
      · rw [if_pos hn0, if_pos trivial]
      · rw [if_neg hn0, decide_eq_true (by omega), if_pos rfl]
/-- What number tells. -/
def numSpec (s:ByteArray) (base:Int) (most:Nat):Int × Bool :=
 if s.size=0 ∨ s.size > most then (0,false) else match numL base (bytesOf s) 0 with|some v=>(v,true)|none=>(0,false)
theorem number_f (s:ByteArray) (base:Int) (most:Nat) (hb1:1 ≤ base) (hB:base ^ most ≤ 4611686018427387904) (hs:s.size ≤ 140737488355327) (k:Nat) (hk:2 * s.size + 1 ≤ k):sign_number.f k s base most=some (numSpec s base most):=by
 unfold sign_number.f numSpec
 by_cases hm:s.size > most
 ·rw [if_pos (Or.inr hm)]
  exact number_long s base most (by omega) hs s.size k 0 0 (by omega) (by omega) hk
 ·have:=number_short s base most (by omega) hB hb1 (by omega) hs s.size k 0 0 (by omega) hk (by omega) (by simp)
  rw [show ((0:Nat):Int)=0 from rfl] at this
  rw [this]
  by_cases hz:s.size=0
  ·rw [if_pos (Or.inl hz),List.drop_zero]
   cases numL base (bytesOf s) 0 <;> simp [hz]
  ·rw [if_neg (by omega),List.drop_zero]
   cases numL base (bytesOf s) 0 <;> simp [hz]
theorem Decimal_f (s:ByteArray) (hs:s.size ≤ 140737488355327) (k:Nat) (hk:2 * s.size + 1 ≤ k):sign_Decimal.f k s=some (numSpec s 10 18):=by
 unfold sign_Decimal.f
 rw [show (18:Int)=((18:Nat):Int) from rfl,number_f s 10 18 (by decide) (by decide) hs k hk,Option.bind_some]
theorem Hex_f (s:ByteArray) (hs:s.size ≤ 140737488355327) (k:Nat) (hk:2 * s.size + 1 ≤ k):sign_Hex.f k s=some (numSpec s 16 15):=by
 unfold sign_Hex.f
 rw [show (15:Int)=((15:Nat):Int) from rfl,number_f s 16 15 (by decide) (by decide) hs k hk,Option.bind_some]
/-- Blanks behind taken away. -/
def rtrim (l:List UInt8):List UInt8:=(l.reverse.dropWhile blk).reverse
theorem rtrim_len (l:List UInt8):(rtrim l).length ≤ l.length:=by
 unfold rtrim
 rw [List.length_reverse]
 have:=(List.dropWhile_sublist blk (l:=l.reverse)).length_le
 rw [List.length_reverse] at this
 exact this
/-- The size that a chunk's line tells;is it one? -/
def sizeS (l:List UInt8):Int × Bool :=
 ((numSpec (mkS (rtrim (l.takeWhile (· != 59)))) 16 15).1,(numSpec (mkS (rtrim (l.takeWhile (· != 59)))) 16 15).2 && (bytesOf (mkS ((l.dropWhile (· != 59)).drop 1))).all valB)
theorem take_none (sp:UInt8) (l:List UInt8) (h:sp ∉ l):l.takeWhile (· != sp)=l∧(l.dropWhile (· != sp)).drop 1=[]:=by
 induction l with
 | nil=>simp
 | cons x a ih =>
  have hx:x ≠ sp:=fun e=>h (by rw [e];exact List.mem_cons_self ..)
  have:=ih (fun e=>h (List.mem_cons_of_mem _ e))
  simp only [List.takeWhile_cons,List.dropWhile_cons,bne_iff_ne,ne_eq,hx,not_false_eq_true,if_true]
  exact ⟨by rw [this.1],this.2⟩
theorem sizeS_no (l:List UInt8) (h:59 ∉ l):sizeS l=numSpec (mkS (rtrim l)) 16 15:=by
 obtain ⟨e1,e2⟩:=take_none 59 l h
 unfold sizeS
 rw [e1,e2]
 have:(bytesOf (mkS [])).all valB=true:=by rw [mkS_bytes];rfl
 rw [this,Bool.and_true]
theorem sizeS_yes (a b:List UInt8) (h:59 ∉ a):sizeS (a ++ 59 :: b)=((numSpec (mkS (rtrim a)) 16 15).1,(numSpec (mkS (rtrim a)) 16 15).2 && (bytesOf (mkS b)).all valB):=by
 obtain ⟨e1,e2⟩:=take_first 59 a b h
 unfold sizeS
 rw [e1,e2]
theorem TrimRight_f (l:List UInt8) (hl:l.length ≤ 140737488355328):strings_TrimRight.f (mkS l) ⟨#[32,9]⟩=some (mkS (rtrim l)):=by
 unfold strings_TrimRight.f
 rw [if_pos ⟨by rw [mkS_size];omega,by decide,by decide⟩,mkS_data]
 rfl
theorem numL_bound (xs:List Int) : ∀ (n v:Int) (B:Int),0 ≤ n → n < B → numL 16 xs n=some v → 0 ≤ v∧v < B * 16 ^ xs.length:=by
 induction xs with
 | nil=>intro n v B h0 h1 h;simp only [numL,Option.some.injEq] at h;subst h;simpa using ⟨h0,h1⟩
 | cons x xs ih =>
  intro n v B h0 h1 h
  rw [numL] at h
  by_cases hd:0 ≤ digV x∧digV x < 16
  ·rw [if_pos hd] at h
   have:=ih _ v (B * 16) (by omega) (by omega) h
   rw [List.length_cons,Int.pow_succ,Int.mul_comm (16 ^ xs.length) 16,← Int.mul_assoc]
   exact this
  ·rw [if_neg hd] at h;cases h
theorem hexs_bound (s : ByteArray) : 0 ≤ (numSpec s 16 15).1 ∧ (numSpec s 16 15).1 ≤ 1152921504606846976 := by
  unfold numSpec
  split
  · exact ⟨by decide, by decide⟩
  · rename_i h
    cases hv : numL 16 (bytesOf s) 0 with
    | none => exact ⟨by decide, by decide⟩
    | some v =>
      have := numL_bound (bytesOf s) 0 v 1 (by decide) (by decide) hv
      have hl : (bytesOf s).length ≤ 15 := by rw [bytesOf_length]; omega
      have h2 : (16 : Int) ^ (bytesOf s).length ≤ 16 ^ 15 := by
        have := pow_mono' 16 (by decide) (bytesOf s).length (15 - (bytesOf s).length)
        rwa [show (bytesOf s).length + (15 - (bytesOf s).length) = 15 by omega] at this
      exact ⟨this.1, by simp only; have h3 : (16 : Int) ^ 15 = 1152921504606846976 := by decide
                        omega⟩
theorem size_bound (l:List UInt8):0 ≤ (sizeS l).1∧(sizeS l).1 ≤ 1152921504606846976:=hexs_bound _
theorem line_f (l:List Int) (p:Nat) (hp:p ≤ l.length) (hl:l.length ≤ 1000000) (k:Nat) (hk:3 * l.length + 3 ≤ k) :
 chunk_reader_line.f k l p=some ((cutSpec (l.drop p) 256).1,(cutSpec (l.drop p) 256).2.2,(p:Int) + (cutSpec (l.drop p) 256).2.1,decide ((cutSpec (l.drop p) 256).2.1=0) && decide ((cutSpec (l.drop p) 256).2.2=0)):=by
 unfold chunk_reader_line.f
 have hd:(l.drop p).length=l.length - p:=List.length_drop ..
 rw [if_pos (by omega),if_pos (by omega),Int.toNat_natCast,cut_f _ _ (by omega) k (by omega),Option.bind_some]
 have hw:wrap64 ((p:Int) + (cutSpec (l.drop p) 256).2.1)=(p:Int) + (cutSpec (l.drop p) 256).2.1:=by
  rcases cutS_shape (l.drop p) 256 with h|h <;> unfold wrap64 <;> omega
 rw [hw]
theorem size_f (l : List Int) (p : Nat) (hp : p ≤ l.length) (hl : l.length ≤ 1000000) (k : Nat) (hk : 3 * l.length + 3 ≤ k) :
    chunk_reader_size.f k l p = some (if (cutSpec (l.drop p) 256).2.2 = 0 then (if (cutSpec (l.drop p) 256).2.1 = 0 then (0, 0, (p : Int), true) else
        if (sizeS (cutSpec (l.drop p) 256).1.data.toList).2 = true then ((sizeS (cutSpec (l.drop p) 256).1.data.toList).1, 0, (p : Int) + (cutSpec (l.drop p) 256).2.1, false) else (0, 30, (p : Int) + (cutSpec (l.drop p) 256).2.1, false))
      else (0, (cutSpec (l.drop p) 256).2.2, (p : Int) + (cutSpec (l.drop p) 256).2.1, false)) := by
  unfold chunk_reader_size.f
  rw [line_f l p hp hl k hk, Option.bind_some]
  have hsh := cutS_shape (l.drop p) 256
  have hd : (l.drop p).length = l.length - p := List.length_drop ..
  obtain ⟨c, hc⟩ : ∃ c, c = cutSpec (l.drop p) 256 := ⟨_, rfl⟩
  rw [← hc] at hsh ⊢
  simp only
  by_cases h1 : c.2.2 = 0
  · rw [if_pos h1, if_pos h1]
    by_cases h2 : c.2.1 = 0
    · rw [if_pos h2, decide_eq_true h2, decide_eq_true h1, if_pos (by rfl), h2, Int.add_zero]
    · rw [if_neg h2, decide_eq_false h2, Bool.false_and, if_neg (by simp)]
      have hsz : c.1.data.toList.length ≤ 1000000 := by rw [data_length]; rcases hsh with h | h <;> omega
      have e0 : c.1 = mkS c.1.data.toList := (mkS_self _).symm
      obtain ⟨u, hu⟩ : ∃ u, u = c.1.data.toList := ⟨_, rfl⟩
      rw [← hu] at e0 hsz ⊢
      rw [e0]
      have hk2 : 2 * u.length + 1 ≤ k := by
        have : u.length = c.1.size := by rw [hu, data_length]
        rcases hsh with h | h <;> omega
      rcases split_first 59 u with h | ⟨a, b, hab, h⟩
      · have hr := rtrim_len u
        rw [Cut_no 59 u h, Option.bind_some]
        simp only
        rw [TrimRight_f u (by omega), Option.bind_some, Hex_f _ (by rw [mkS_size]; omega) k (by rw [mkS_size]; omega), Option.bind_some, sizeS_no u h]
        cases (numSpec (mkS (rtrim u)) 16 15).2
        · rw [if_neg (by simp), if_neg (by simp)]
        · rw [if_pos rfl, if_pos rfl, Value_f _ (by decide), Option.bind_some, if_pos (by rfl)]
      · subst hab
        have hab : (a ++ 59 :: b).length = a.length + b.length + 1 := by rw [List.length_append, List.length_cons]; omega
        have hr := rtrim_len a
        rw [Cut_yes 59 a b h (by omega), Option.bind_some]
        simp only
        rw [TrimRight_f a (by omega), Option.bind_some, Hex_f _ (by rw [mkS_size]; omega) k (by rw [mkS_size]; omega), Option.bind_some, sizeS_yes a b h]
        cases (numSpec (mkS (rtrim a)) 16 15).2
        · rw [if_neg (by simp), Bool.false_and, if_neg (by simp)]
        · rw [if_pos rfl, Bool.true_and, Value_f _ (by rw [mkS_size]; omega), Option.bind_some]
          cases (bytesOf (mkS b)).all valB <;> rfl
  · rw [if_neg h1, if_neg h1, decide_eq_false h1, Bool.and_false]
/-- The lines behind the last chunk, at most d more: the place behind them (0: they are not whole), the error. -/
def trailS (l : List Int) : Nat → Nat → Int × Int
  | 0, _ => (0, 3)
  | d + 1, p => if (cutSpec (l.drop p) 256).2.2 = 0 then (if (cutSpec (l.drop p) 256).2.1 = 0 then (0, 0)
      else if (cutSpec (l.drop p) 256).1.toList = [] then ((p : Int) + (cutSpec (l.drop p) 256).2.1, 0)
      else if fieldOk (cutSpec (l.drop p) 256).1.data.toList = true then trailS l d (p + (cutSpec (l.drop p) 256).2.1.toNat) else (0, 20))
    else (0, (cutSpec (l.drop p) 256).2.2)
/-- The body from a place on. -/
def decS (l : List Int) : Nat → Nat → Int → List Int → List Int × Int × Int
  | 0, _, _, _ => ([], 0, 0)
  | d + 1, p, left, out => if (cutSpec (l.drop p) 256).2.2 = 0 then (if (cutSpec (l.drop p) 256).2.1 = 0 then ([], 0, 0)
      else if (sizeS (cutSpec (l.drop p) 256).1.data.toList).2 = true then (if (sizeS (cutSpec (l.drop p) 256).1.data.toList).1 = 0 then
          (if (trailS l 41 (p + (cutSpec (l.drop p) 256).2.1.toNat)).2 = 0 then (if (trailS l 41 (p + (cutSpec (l.drop p) 256).2.1.toNat)).1 = 0 then ([], 0, 0) else (out, (trailS l 41 (p + (cutSpec (l.drop p) 256).2.1.toNat)).1, 0)) else ([], 0, (trailS l 41 (p + (cutSpec (l.drop p) 256).2.1.toNat)).2))
        else if (sizeS (cutSpec (l.drop p) 256).1.data.toList).1 > left then ([], 0, 2)
        else if (dataOf (l.drop (p + (cutSpec (l.drop p) 256).2.1.toNat)) ((p + (cutSpec (l.drop p) 256).2.1.toNat : Nat) : Int) (sizeS (cutSpec (l.drop p) 256).1.data.toList).1 false).2.1 = 0 then
          (if (dataOf (l.drop (p + (cutSpec (l.drop p) 256).2.1.toNat)) ((p + (cutSpec (l.drop p) 256).2.1.toNat : Nat) : Int) (sizeS (cutSpec (l.drop p) 256).1.data.toList).1 false).2.2.2 = true then ([], 0, 0)
            else decS l d (p + (cutSpec (l.drop p) 256).2.1.toNat + (sizeS (cutSpec (l.drop p) 256).1.data.toList).1.toNat + 2) (left - (sizeS (cutSpec (l.drop p) 256).1.data.toList).1) (out ++ (l.drop (p + (cutSpec (l.drop p) 256).2.1.toNat)).take (sizeS (cutSpec (l.drop p) 256).1.data.toList).1.toNat))
        else ([], 0, 20))
      else ([], 0, 30))
    else ([], 0, (cutSpec (l.drop p) 256).2.2)
theorem trail_f (l:List Int) (hl:l.length ≤ 1000000) : ∀ (d:Nat) (n p k:Nat),n + d=41 → 1 ≤ d → p ≤ l.length → d + 3 * l.length + 4 ≤ k →
 ∃ q m,chunk_reader_trailer.l k l p n=some ((trailS l d p).2,q,m)∧((trailS l d p).2=0 → (m=true ↔ (trailS l d p).1=0)∧(m=false → q=(trailS l d p).1)):=by
 intro d
 induction d with
 | zero=>intro n p k _ h;omega
 | succ d ih =>
  intro n p k hn _ hp hk
  obtain ⟨k,rfl⟩ : ∃ m,k=m + 1:=⟨k - 1,by omega⟩
  have hsh:=cutS_shape (l.drop p) 256
  have hd:(l.drop p).length=l.length - p:=List.length_drop ..
  rw [chunk_reader_trailer.l,line_f l p hp hl k (by omega),Option.bind_some,trailS]
  obtain ⟨c,hc⟩ : ∃ c,c=cutSpec (l.drop p) 256:=⟨_,rfl⟩
  rw [← hc] at hsh ⊢
  simp only
  by_cases h1:c.2.2=0
  ·rw [if_pos h1,if_pos h1]
   by_cases h2:c.2.1=0
   ·rw [if_pos h2,decide_eq_true h2,decide_eq_true h1,if_pos (by rfl)]
    exact ⟨_,_,rfl,fun _=>⟨by simp,by simp⟩⟩
   ·rw [if_neg h2,decide_eq_false h2,Bool.false_and,if_neg (by simp)]
    by_cases h3:c.1.toList=[]
    ·rw [if_pos h3,if_pos h3]
     refine ⟨_,_,rfl,fun _=>⟨⟨by simp,fun e=>?_⟩,fun _=>rfl⟩⟩
     simp only at e
     rcases hsh with h|h <;> omega
    ·rw [if_neg h3,if_neg h3]
     have hz:c.1.data.toList.length=c.1.size:=data_length _
     have hz2:c.2.1 > 0∧c.2.1 ≤ (l.length:Int) - p∧(c.1.size:Int)=c.2.1 - 2:=by rcases hsh with h|h <;> omega
     obtain ⟨x,y,hf⟩:=field_f c.1.data.toList (by omega)
     rw [mkS_self] at hf
     rw [hf,Option.bind_some]
     simp only
     cases fieldOk c.1.data.toList
     ·rw [if_neg (by simp),if_neg (by decide),if_neg (by simp)]
      exact ⟨_,_,rfl,fun e=>by simp at e⟩
     ·rw [if_pos rfl,if_pos rfl,if_pos rfl]
      by_cases h4:(n:Int)=40
      ·obtain rfl:d=0:=by omega
       rw [if_pos h4,trailS]
       exact ⟨_,_,rfl,fun e=>by simp at e⟩
      ·rw [if_neg h4]
       have:=ih (n + 1) (p + c.2.1.toNat) k (by omega) (by omega) (by omega) (by omega)
       rw [show ((p + c.2.1.toNat:Nat):Int)=(p:Int) + c.2.1 by omega,show ((n + 1:Nat):Int)=(n:Int) + 1 by omega] at this
       exact this
  ·rw [if_neg h1,if_neg h1]
   exact ⟨_,_,rfl,fun e=>absurd e h1⟩
theorem data_f (l:List Int) (p:Nat) (n:Int) (hp:p ≤ l.length) (h0:0 ≤ n) (h1:n ≤ 1152921504606846976):chunk_reader_data.f l p n false=some (dataOf (l.drop p) p n false):=by
 unfold chunk_reader_data.f
 rw [if_pos ⟨by omega,by omega,h0,by omega⟩,Int.toNat_natCast]
theorem data_shape (rest:List Int) (p n:Int) (h0:0 ≤ p) (hp:p ≤ 1000000) (n0:0 ≤ n) (hr:rest.length ≤ 1000000):(dataOf rest p n false).2.1=0 ∨ (dataOf rest p n false).2.1=20:=by
 unfold dataOf
 repeat' split
 all_goals first|exact Or.inl rfl|exact Or.inr rfl
theorem data_ok (rest:List Int) (p n:Int) (h0:0 ≤ p) (hp:p ≤ 1000000) (n0:0 ≤ n) (hr:rest.length ≤ 1000000) (h1:(dataOf rest p n false).2.1=0) (h2 : ¬ (dataOf rest p n false).2.2.2=true) :
 (dataOf rest p n false).1=rest.take n.toNat∧(dataOf rest p n false).2.2.1=p + (n + 2)∧n + 2 ≤ (rest.length:Int)∧rd rest n=13∧rd rest (n + 1)=10:=by
 unfold dataOf at h1 h2 ⊢
 by_cases a0:n < (rest.length:Int)
 ·rw [if_pos a0] at h1 h2 ⊢
  by_cases a1:rd rest n=13
  ·rw [if_pos a1] at h1 h2 ⊢
   by_cases a2:n + 1 < (rest.length:Int)
   ·rw [if_pos a2] at h1 h2 ⊢
    by_cases a3:rd rest (n + 1)=10
    ·rw [if_pos a3]
     exact ⟨rfl,by show wrap64 (p + (n + 2))=_;unfold wrap64;omega,by omega,a1,a3⟩
    ·rw [if_neg a3] at h1;simp at h1
   ·rw [if_neg a2] at h2;simp at h2
  ·rw [if_neg a1] at h1;simp at h1
 ·rw [if_neg a0] at h2;simp at h2
theorem dec_f (l:List Int) (hl:l.length ≤ 1000000) : ∀ (d p:Nat) (left:Int) (out:List Int) (k:Nat),p ≤ l.length → l.length < p + d → out.length ≤ p → 0 ≤ left → left ≤ 9223372036854775807 → d + 3 * l.length + 60 ≤ k →
 chunk_Decode.l k l p left out=some (decS l d p left out):=by
 intro d
 induction d with
 | zero=>intro p left out k h1 h2;omega
 | succ d ih =>
  intro p left out k hp hd ho hl0 hl1 hk
  obtain ⟨k,rfl⟩ : ∃ m,k=m + 1:=⟨k - 1,by omega⟩
  have hsh:=cutS_shape (l.drop p) 256
  have hdl:(l.drop p).length=l.length - p:=List.length_drop ..
  rw [chunk_Decode.l,size_f l p hp hl k (by omega),Option.bind_some,decS]
  obtain ⟨c,hc⟩ : ∃ c,c=cutSpec (l.drop p) 256:=⟨_,rfl⟩
  rw [← hc] at hsh ⊢
  by_cases h1:c.2.2=0
  ·rw [if_pos h1,if_pos h1]
   by_cases h2:c.2.1=0
   ·rw [if_pos h2,if_pos h2]
    simp
   ·have hz2:c.2.1 > 0∧c.2.1 ≤ (l.length:Int) - p∧(c.1.size:Int)=c.2.1 - 2:=by rcases hsh with h|h <;> omega
    rw [if_neg h2,if_neg h2]
    obtain ⟨z,hz⟩ : ∃ z,z=sizeS c.1.data.toList:=⟨_,rfl⟩
    have hzb:=size_bound c.1.data.toList
    rw [← hz] at hzb ⊢
    obtain ⟨q,hq⟩ : ∃ q,q=p + c.2.1.toNat:=⟨_,rfl⟩
    have hq2:(p:Int) + c.2.1=(q:Int):=by omega
    rw [← hq,hq2]
    by_cases h3:z.2=true
    ·rw [if_pos h3,if_pos h3]
     simp only
     rw [if_pos trivial,if_neg (by simp)]
     by_cases h4:z.1=0
     ·rw [if_pos h4,if_pos h4]
      obtain ⟨q',m,ht,hm⟩:=trail_f l hl 41 0 q k (by omega) (by omega) (by omega) (by omega)
      have ht' : chunk_reader_trailer.f k l q=some ((trailS l 41 q).2,q',m):=ht
      rw [ht',Option.bind_some]
      by_cases h5:(trailS l 41 q).2=0
      ·obtain ⟨hm1,hm2⟩:=hm h5
       rw [if_pos h5,if_pos h5]
       by_cases h6:(trailS l 41 q).1=0
       ·rw [if_pos h6,if_pos (hm1.2 h6)]
       ·have hmf:m=false:=by cases m with|false=>rfl|true=>exact absurd (hm1.1 rfl) h6
        rw [if_neg h6,hmf,if_neg (by simp),hm2 hmf]
      ·rw [if_neg h5,if_neg h5]
     ·rw [if_neg h4,if_neg h4]
      by_cases h5:z.1 > left
      ·rw [if_pos h5,if_pos h5]
      ·rw [if_neg h5,if_neg h5,data_f l q z.1 (by omega) hzb.1 hzb.2,Option.bind_some]
       have hdr:(l.drop q).length=l.length - q:=List.length_drop ..
       by_cases h6:(dataOf (l.drop q) (q:Int) z.1 false).2.1=0
       ·rw [if_pos h6,if_pos h6]
        by_cases h7:(dataOf (l.drop q) (q:Int) z.1 false).2.2.2=true
        ·rw [if_pos h7,if_pos h7]
        ·obtain ⟨e1,e2,e3,_,_⟩:=data_ok (l.drop q) q z.1 (by omega) (by omega) hzb.1 (by omega) h6 h7
         have htk:((l.drop q).take z.1.toNat).length ≤ z.1.toNat:=List.length_take_le ..
         rw [if_neg h7,if_neg h7,e1,e2,if_pos (by omega),show wrap64 (left - z.1)=left - z.1 by unfold wrap64;omega,show (q:Int) + (z.1 + 2)=((q + z.1.toNat + 2:Nat):Int) by omega]
         exact ih _ _ _ k (by omega) (by omega) (by rw [List.length_append];omega) (by omega) (by omega) (by omega)
       ·rcases data_shape (l.drop q) q z.1 (by omega) (by omega) hzb.1 (by omega) with e|e
        ·exact absurd e h6
        ·rw [if_neg h6,if_neg h6,e]
    ·rw [if_neg h3,if_neg h3]
     simp
  ·rw [if_neg h1,if_neg h1]
   simp only
   rw [if_neg h1]
theorem Decode_f (l:List Int) (most:Int) (hl:l.length ≤ 1000000) (hm:most ≤ 9223372036854775807) (k:Nat) (hk:4 * l.length + 70 ≤ k):chunk_Decode.f k l most=some (decS l (l.length + 1) 0 (mx most 0) []):=by
 unfold chunk_Decode.f
 exact dec_f l hl (l.length + 1) 0 (mx most 0) [] k (by omega) (by omega) (by simp) (by unfold mx;split <;> omega) (by unfold mx;split <;> omega) (by omega)
theorem numL_nn (b:Int) (hb:0 ≤ b) : ∀ (l:List Int) (n v:Int),0 ≤ n → numL b l n=some v → 0 ≤ v
 | [],n,v,hn,h=>by simp only [numL,Option.some.injEq] at h;omega
 | c :: r,n,v,hn,h=>by
  rw [numL] at h
  split at h
  ·next hc=>exact numL_nn b hb r _ v (by have:=Int.mul_nonneg hn hb;omega) h
  ·cases h
theorem num_nn (s:ByteArray):0 ≤ (numSpec s 10 18).1:=by
 unfold numSpec
 split
 ·exact Int.le_refl _
 ·split
  ·next v hv=>exact numL_nn 10 (by decide) _ 0 v (Int.le_refl _) hv
  ·exact Int.le_refl _
def lenNm:ByteArray:=⟨#[99,111,110,116,101,110,116,45,108,101,110,103,116,104]⟩
def teNm:ByteArray:=⟨#[116,114,97,110,115,102,101,114,45,101,110,99,111,100,105,110,103]⟩
def lenNM:ByteArray:=⟨#[67,111,110,116,101,110,116,45,76,101,110,103,116,104]⟩
def teNM:ByteArray:=⟨#[84,114,97,110,115,102,101,114,45,69,110,99,111,100,105,110,103]⟩
theorem getS_nm (p q:ByteArray) (h:(bytesOf p).map foldC=(bytesOf q).map foldC) : ∀ fs,getS p fs=getS q fs
 | []=>rfl
 | f :: r=>by rw [getS,getS,getS_nm p q h r];unfold sameN;rw [h]
theorem listS_nm (p q:ByteArray) (h:(bytesOf p).map foldC=(bytesOf q).map foldC) (fs:List (S55)):listS p fs=listS q fs:=by unfold listS;rw [getS_nm p q h]
theorem len_nm:(bytesOf lenNM).map foldC=(bytesOf lenNm).map foldC:=by decide +kernel
theorem te_nm:(bytesOf teNM).map foldC=(bytesOf teNm).map foldC:=by decide +kernel
/-- Is a name there? -/
def thereS (name:ByteArray) (fs:List (S55)):Bool:=decide (((getS name fs).length:Int) > 0)
theorem there_f (fs:List (S55)) (name:ByteArray) (hf:FB fs) (hn:name.size ≤ 1048576) (k:Nat) (hk:fs.length < k):frame_there.f k fs name=some (thereS name fs):=by
 unfold frame_there.f
 rw [Get_f fs name hf hn k hk,Option.bind_some];rfl
theorem thereLen_f (fs:List (S55)) (hf:FB fs) (k:Nat) (hk:fs.length < k):frame_there.f k fs ⟨#[67,111,110,116,101,110,116,45,76,101,110,103,116,104]⟩=some (thereS lenNm fs):=by
 have h:=there_f fs lenNM hf (by decide) k hk
 have e:thereS lenNM fs=thereS lenNm fs:=by unfold thereS;rw [getS_nm _ _ len_nm]
 rw [e] at h
 exact h
theorem thereTe_f (fs:List (S55)) (hf:FB fs) (k:Nat) (hk:fs.length < k):frame_there.f k fs ⟨#[84,114,97,110,115,102,101,114,45,69,110,99,111,100,105,110,103]⟩=some (thereS teNm fs):=by
 have h:=there_f fs teNM hf (by decide) k hk
 have e:thereS teNM fs=thereS teNm fs:=by unfold thereS;rw [getS_nm _ _ te_nm]
 rw [e] at h
 exact h
/-- The length that parts tell. -/
def lenS:List ByteArray → Int × Bool
 | []=>(0,false)
 | p :: r=>if (numSpec p 10 18).2=true∧(r.all fun q=>decide (numSpec q 10 18=((numSpec p 10 18).1,true)))=true then ((numSpec p 10 18).1,true) else (0,false)
theorem len_rest (ps:List ByteArray) (hl:ps.length ≤ 1048577000) (hs : ∀ p ∈ ps,p.size ≤ 1048576) (n:Int) (hn:0 ≤ n) (d:Nat) : ∀ (k i:Nat),i + d=ps.length → d + 2100000 ≤ k →
 frame_length.l0 k n ps (ps.length:Int) (i:Int)=some (if ((ps.drop i).all fun q=>decide (numSpec q 10 18=(n,true)))=true then (n,true) else (0,false)):=by
 induction d with
 | zero =>
  intro k i hi hk
  obtain ⟨k,rfl⟩ : ∃ m,k=m + 1:=⟨k - 1,by omega⟩
  rw [frame_length.l0,if_neg (by omega),List.drop_of_length_le (by omega),List.all_nil,if_pos rfl,decide_eq_true hn]
 | succ d ih =>
  intro k i hi hk
  obtain ⟨k,rfl⟩ : ∃ m,k=m + 1:=⟨k - 1,by omega⟩
  have hlt:i < ps.length:=by omega
  have hb:=hs _ (List.getElem_mem hlt)
  have hw:wrap64 ((i:Int) + 1)=((i + 1:Nat):Int):=by unfold wrap64;omega
  rw [frame_length.l0,if_pos (by omega),if_pos (by omega),if_pos (by omega),rdB_at ps i hlt,Decimal_f _ (by omega) k (by omega),Option.bind_some,hw,List.drop_eq_getElem_cons hlt,List.all_cons]
  obtain ⟨z,hz⟩ : ∃ z,z=numSpec ps[i] 10 18:=⟨_,rfl⟩
  rw [← hz]
  by_cases h1:z.2=true
  ·rw [if_pos h1,if_pos hn]
   by_cases h2:z.1=n
   ·have e:z=(n,true):=Prod.ext h2 h1
    rw [if_pos h2,h2,ih k (i + 1) (by omega) (by omega),decide_eq_true e,Bool.true_and]
   ·have e : ¬ z=(n,true):=fun e=>h2 (by rw [e])
    rw [if_neg h2,decide_eq_false e,Bool.false_and,if_neg (by simp)]
  ·have e : ¬ z=(n,true):=fun e=>h1 (by rw [e])
   rw [if_neg h1,decide_eq_false e,Bool.false_and,if_neg (by simp)]
theorem length_fs (fs:List (S55)) (hf:FB fs) (k:Nat) (hk:1060000000 ≤ k):frame_length.f k fs=some (if listS lenNm fs=[] then (-1,false) else lenS (listS lenNm fs)):=by
 have hlb:=list_bounds fs lenNm hf
 obtain ⟨ps,hps⟩ : ∃ ps,ps=listS lenNm fs:=⟨_,rfl⟩
 have hL:field_List.f k fs (⟨#[67,111,110,116,101,110,116,45,76,101,110,103,116,104]⟩:ByteArray)=some ps:=by
  have h:=List_f fs lenNM hf (by decide) k (by omega)
  rw [listS_nm _ _ len_nm,← hps] at h
  exact h
 unfold frame_length.f
 rw [hL,Option.bind_some,← hps]
 rw [← hps] at hlb
 obtain ⟨k,rfl⟩ : ∃ m,k=m + 1:=⟨k - 1,by omega⟩
 cases ps with
 | nil =>
  rw [frame_length.l0,if_neg (by simp),if_pos rfl]
  rfl
 | cons p r =>
  have hb:=hlb.2 p List.mem_cons_self
  have hr0:rdOf ByteArray.empty (p :: r) 0=p:=rdB_at (p :: r) 0 (by simp)
  rw [frame_length.l0,if_pos (by simp only [List.length_cons];omega),if_pos (by omega),if_pos (by simp only [List.length_cons];omega),hr0,Decimal_f _ (by omega) k (by omega),Option.bind_some,show (if (p :: r)=[] then ((-1:Int),false) else lenS (p :: r))=lenS (p :: r) from if_neg (by simp),lenS]
  obtain ⟨z,hz⟩ : ∃ z,z=numSpec p 10 18:=⟨_,rfl⟩
  have hnn:=num_nn p
  rw [← hz] at hnn ⊢
  by_cases h1:z.2=true
  ·have h:=len_rest (p :: r) hlb.1 hlb.2 z.1 hnn r.length k 1 (by simp only [List.length_cons];omega) (by have:=hlb.1;simp only [List.length_cons] at this;omega)
   have h' : frame_length.l0 k z.1 (p :: r) ((p :: r).length:Int) 1=_:=h
   rw [if_pos h1,if_neg (by decide),show wrap64 (0 + 1)=1 by unfold wrap64;omega,h']
   simp only [List.drop_succ_cons,List.drop_zero]
   by_cases h2:(r.all fun q=>decide (numSpec q 10 18=(z.1,true)))=true
   ·rw [if_pos h2,if_pos ⟨h1,h2⟩]
   ·rw [if_neg h2,if_neg (fun h=>h2 h.2)]
  ·rw [if_neg h1,if_neg (fun h=>h1 h.1)]
def chunkedW:ByteArray:=⟨#[99,104,117,110,107,101,100]⟩
/-- Are they chunked? -/
def chunkedS (fs:List (S55)):Bool:=match listS teNm fs with|[p]=>sameN p chunkedW|_=>false
theorem chunked_f (fs:List (S55)) (hf:FB fs) (k:Nat) (hk:1049600 ≤ k):frame_chunked.f k fs=some (chunkedS fs):=by
 have hlb:=list_bounds fs teNm hf
 have hL:field_List.f k fs (⟨#[84,114,97,110,115,102,101,114,45,69,110,99,111,100,105,110,103]⟩:ByteArray)=some (listS teNm fs):=by
  have h:=List_f fs teNM hf (by decide) k (by omega)
  rw [listS_nm _ _ te_nm] at h
  exact h
 unfold frame_chunked.f chunkedS
 rw [hL,Option.bind_some]
 match hps:listS teNm fs with
 | []=>rw [if_neg (by simp)]
 | [p] =>
  rw [hps] at hlb
  have hb:=hlb.2 p List.mem_cons_self
  have hr0:rdOf ByteArray.empty [p] 0=p:=rdB_at [p] 0 (by simp)
  rw [if_pos (by simp),if_pos (by simp),hr0,same_f p _ (by omega) (by decide),Option.bind_some]
  rfl
 | p :: q :: r=>rw [if_neg (by simp only [List.length_cons];omega)]
/-- How long a request's body is. -/
def reqLen (fs:List (S55)) (minor:Int):Int × Bool × Int :=
 if thereS teNm fs=true then (if thereS lenNm fs=true ∨ minor=0 then (0,false,400) else if chunkedS fs=true then (0,true,0) else (0,false,501))
 else if thereS lenNm fs=true then (if (lenS (listS lenNm fs)).2=true then (if (lenS (listS lenNm fs)).1 > 4096 then (0,false,413) else ((lenS (listS lenNm fs)).1,false,0)) else (0,false,400)) else (0,false,0)
theorem lenS_if (ps:List ByteArray):(if ps=[] then ((-1:Int),false) else lenS ps).2=(lenS ps).2∧((lenS ps).2=true → (if ps=[] then ((-1:Int),false) else lenS ps).1=(lenS ps).1):=by
 by_cases h:ps=[]
 ·rw [if_pos h,h];exact ⟨rfl,fun h=>by cases h⟩
 ·rw [if_neg h];exact ⟨rfl,fun _=>rfl⟩
theorem frameReq_f (fs:List (S55)) (minor:Int) (hf:FB fs) (k:Nat) (hk:1060000010 ≤ k):frame_Request.f k fs minor=some (reqLen fs minor):=by
 have hfl:=hf.1
 obtain ⟨k,rfl⟩ : ∃ m,k=m + 2:=⟨k - 2,by omega⟩
 obtain ⟨hl1,hl2⟩:=lenS_if (listS lenNm fs)
 unfold frame_Request.f reqLen
 rw [thereLen_f fs hf _ (by omega),Option.bind_some,thereTe_f fs hf _ (by omega),Option.bind_some,length_fs fs hf _ (by omega),Option.bind_some]
 obtain ⟨z,hz⟩ : ∃ z,z=(if listS lenNm fs=[] then ((-1:Int),false) else lenS (listS lenNm fs)):=⟨_,rfl⟩
 rw [← hz] at hl1 hl2 ⊢
 obtain ⟨y,hy⟩ : ∃ y,y=lenS (listS lenNm fs):=⟨_,rfl⟩
 rw [← hy] at hl1 hl2 ⊢
 have hj1 : ∀ L T b,frame_Request.j1 (k + 1) L T z.1 z.2 b=some (if b=true then (0,false,501) else if T=true then (0,true,0) else if L=true then (if y.2=true then (if y.1 > 4096 then (0,false,413) else (y.1,false,0)) else (0,false,400)) else (0,false,0)):=by
  intro L T b
  rw [frame_Request.j1,hl1]
  cases b <;> cases T <;> cases L <;> try rfl
  cases h:y.2
  ·rfl
  ·rw [hl2 h]
   by_cases h9:y.1 > 4096
   ·simp [h9]
   ·simp [h9]
 have hj0 : ∀ L T x,frame_Request.j0 (k + 2) fs L T z.1 z.2 x=some (if x=true then (0,false,400) else if T=true then (if chunkedS fs=true then (0,true,0) else (0,false,501)) else if L=true then (if y.2=true then (if y.1 > 4096 then (0,false,413) else (y.1,false,0)) else (0,false,400)) else (0,false,0)):=by
  intro L T x
  rw [frame_Request.j0,chunked_f fs hf (k + 1) (by omega),Option.bind_some,hj1,hj1]
  cases x <;> cases T <;> cases chunkedS fs <;> rfl
 rw [hj0,hj0,hj0]
 by_cases hm:minor=0
 ·rw [beq_iff_eq.2 hm]
  cases thereS teNm fs <;> cases thereS lenNm fs <;> simp [hm]
 ·rw [beq_eq_false_iff_ne.2 hm]
  cases thereS teNm fs <;> cases thereS lenNm fs <;> simp [hm]
theorem byteAll {P:UInt8 → Prop} (h : ∀ n:Fin 256,P (UInt8.ofNat n.val)) (b:UInt8):P b:=by
 have:=h ⟨b.toNat,b.toNat_lt⟩
 rwa [show UInt8.ofNat (⟨b.toNat,b.toNat_lt⟩:Fin 256).val=b from UInt8.ofNat_toNat] at this
def foldU (b:UInt8):UInt8:=UInt8.ofNat (foldC (b.toNat:Int)).toNat
def digU (b:UInt8):Bool:=([48,49,50,51,52,53,54,55,56,57]:List UInt8).contains b
theorem foldU_colon (b:UInt8):foldU b=58 ↔ b=58:=byteAll (P:=fun b=>foldU b=58 ↔ b=58) (by decide +kernel) b
theorem foldU_dig (b:UInt8):digU (foldU b)=digU b:=byteAll (P:=fun b=>digU (foldU b)=digU b) (by decide +kernel) b
theorem dig_host (b:UInt8):digU b=decide (48 ≤ (b.toNat:Int)∧(b.toNat:Int) ≤ 57):=byteAll (P:=fun b=>digU b=decide (48 ≤ (b.toNat:Int)∧(b.toNat:Int) ≤ 57)) (by decide +kernel) b
theorem fold_mk (l:List UInt8):strOfNums ((bytesOf (mkS l)).map foldC)=mkS (l.map foldU):=by
 rw [mkS_bytes]
 unfold strOfNums mkS
 rw [List.map_map,List.map_map]
 rfl
theorem data_get (l:List UInt8) (j:Nat) (h:j < l.length):(((mkS l).data[j]!).toNat:Int)=(l[j].toNat:Int):=by
 have hs:j < (mkS l).data.size:=by show j < (mkS l).size;rw [mkS_size];exact h
 rw [getElem!_pos (mkS l).data j hs]
 simp [mkS]
theorem trimS_nil (l:List UInt8):Lib.trimS l [48,49,50,51,52,53,54,55,56,57]=[] ↔ ∀ x ∈ l,digU x=true:=by
 show (l.reverse.dropWhile digU).reverse.dropWhile digU=[] ↔ _
 constructor
 ·intro h
  obtain ⟨pre,h1,h2⟩:=dw_split digU (l.reverse.dropWhile digU).reverse
  rw [h,List.append_nil] at h1
  have h3:l.reverse.dropWhile digU=[]:=by
   cases hd:l.reverse.dropWhile digU with
   | nil=>rfl
   | cons a t =>
    have h4:=dw_head digU l.reverse a (by rw [hd];rfl)
    have h5:=h2 a (by rw [← h1,hd];simp)
    rw [h4] at h5
    cases h5
  obtain ⟨pre,h4,h5⟩:=dw_split digU l.reverse
  rw [h3,List.append_nil] at h4
  exact fun x hx=>h5 x (by rw [← h4];exact List.mem_reverse.2 hx)
 ·intro h
  have h1:l.reverse.dropWhile digU=[]:=by
   have:=dw_append (p:=digU) l.reverse [] (fun a ha=>h a (List.mem_reverse.1 ha))
   rwa [List.append_nil] at this
  rw [h1]
  rfl
/-- A port at the place n. -/
def PortAt (l:List UInt8) (n:Nat):Prop := ∃ h:n < l.length,l[n]=58 ∧ ∀ x ∈ l.drop (n + 1),digU x=true
theorem last_at (l:List UInt8) (n:Nat) (h:n < l.length) (hc:l[n]=58) (hn:58 ∉ l.drop (n + 1)):Lib.lastIndexByte (mkS l) 58=n:=by
 have hd:=fun j (hj:j < l.length)=>data_get l j hj
 have no : ∀ j (hj:j < l.length),n < j → l[j] ≠ 58:=by
  intro j hj hnj e
  apply hn
  rw [List.mem_iff_getElem]
  exact ⟨j - (n + 1),by rw [List.length_drop];omega,by rw [List.getElem_drop,← e];congr 1;omega⟩
 rcases Lib.lastIndexByte_spec (mkS l) 58 with ⟨_,h2⟩|⟨i,hi,h1,h2,h3⟩
 ·exfalso
  have:=h2 n (by rw [mkS_size];exact h)
  rw [hd n h,hc] at this
  exact this rfl
 ·rw [mkS_size] at hi h3
  rw [hd i hi] at h2
  have hi58:l[i]=58:=UInt8.toNat_inj.1 (by show _=58;omega)
  rcases Nat.lt_trichotomy i n with c|c|c
  ·have:=h3 n c h
   rw [hd n h,hc] at this
   exact absurd rfl this
  ·rw [h1,c]
  ·exact absurd hi58 (no i hi c)
theorem cut_port (l:List UInt8) (n:Nat) (h:PortAt l n):hostCut (mkS l)=mkS (l.take n):=by
 obtain ⟨hn,hc,hd⟩:=h
 have hl:=last_at l n hn hc (fun h=>by have:=hd 58 h;revert this;decide)
 have e1:((n:Int) + 1).toNat=n + 1:=by omega
 have e2:((mkS l).extract (n + 1) (mkS l).size).data.toList=l.drop (n + 1):=by
  rw [mkS_size,mkS_extract,mkS_data,List.take_of_length_le (by rw [List.length_drop];omega)]
 have hp:hostPort (mkS l)=true:=by
  unfold hostPort
  rw [hl,decide_eq_true (by omega),e1,e2,(trimS_nil _).2 hd]
  rfl
 unfold hostCut
 rw [if_pos hp,hl,Int.toNat_natCast,mkS_extract]
 rfl
theorem cut_none (l:List UInt8) (h : ∀ n,¬ PortAt l n):hostCut (mkS l)=mkS l:=by
 unfold hostCut
 rw [if_neg]
 intro hp
 unfold hostPort at hp
 simp only [Bool.and_eq_true,decide_eq_true_eq,List.isEmpty_iff] at hp
 obtain ⟨h0,h1⟩:=hp
 rcases Lib.lastIndexByte_spec (mkS l) 58 with ⟨e,_⟩|⟨i,hi,e,h2,_⟩
 ·omega
 ·rw [mkS_size] at hi
  rw [data_get l i hi] at h2
  have e1:((i:Int) + 1).toNat=i + 1:=by omega
  rw [e,e1,mkS_size,mkS_extract,mkS_data,List.take_of_length_le (by rw [List.length_drop];omega),trimS_nil] at h1
  exact h i ⟨hi,UInt8.toNat_inj.1 (by show _=58;omega),h1⟩
theorem port_fold (l:List UInt8) (n:Nat):PortAt (l.map foldU) n ↔ PortAt l n:=by
 unfold PortAt
 constructor
 ·rintro ⟨h,h1,h2⟩
  rw [List.length_map] at h
  refine ⟨h,?_,fun x hx=>?_⟩
  ·rw [List.getElem_map] at h1
   exact (foldU_colon _).1 h1
  ·rw [← foldU_dig]
   exact h2 _ (by rw [← List.map_drop];exact List.mem_map_of_mem hx)
 ·rintro ⟨h,h1,h2⟩
  refine ⟨by rw [List.length_map];exact h,?_,fun x hx=>?_⟩
  ·rw [List.getElem_map,h1];rfl
  ·rw [← List.map_drop] at hx
   obtain ⟨y,hy,rfl⟩:=List.mem_map.1 hx
   rw [foldU_dig]
   exact h2 y hy
/-- The host of a text of which n bytes stand ahead of the port. -/
def hostOf (l:List UInt8) (n:Nat):ByteArray × Bool:=hostEnd (mkS ((l.take n).map foldU))
theorem Host_port (l:List UInt8) (hn:l.length ≤ 140737488355328) (n:Nat) (h:PortAt l n):line_Host.f (mkS l)=some (hostOf l n):=by
 unfold line_Host.f hostOf
 rw [if_pos (by rw [mkS_size];exact hn),fold_mk,cut_port _ n ((port_fold l n).2 h),List.map_take]
theorem Host_none (l:List UInt8) (hn:l.length ≤ 140737488355328) (h : ∀ n,¬ PortAt l n):line_Host.f (mkS l)=some (hostOf l l.length):=by
 unfold line_Host.f hostOf
 rw [if_pos (by rw [mkS_size];exact hn),fold_mk,cut_none _ (fun n hp=>h n ((port_fold l n).1 hp)),List.take_length]
theorem refFold_l0 (s:ByteArray) (hn:s.size ≤ 140737488355327) (d:Nat) : ∀ (k:Nat) (out:List Int) (i:Int),0 ≤ i → (s.size:Int) - i=d → d + 1 ≤ k → (out.length:Int)=i →
 tollbarref02_Fold.l0 k s out i=some (strOfNums (out ++ ((bytesOf s).drop i.toNat).map foldC)):=by
 induction d with
 | zero =>
  intro k out i h0 hd hk ho
  obtain ⟨k,rfl⟩ : ∃ m,k=m + 1:=⟨k - 1,by omega⟩
  simp only [tollbarref02_Fold.l0]
  rw [if_neg (by omega),List.drop_of_length_le (by rw [bytesOf_length];omega),List.map_nil,List.append_nil]
 | succ d ih =>
  intro k out i h0 hd hk ho
  obtain ⟨k,rfl⟩ : ∃ m,k=m + 1:=⟨k - 1,by omega⟩
  have hlt:i < (s.size:Int):=by omega
  have hl:i.toNat < (bytesOf s).length:=by rw [bytesOf_length];omega
  have hg:(bytesOf s)[i.toNat]=bt s i:=by rw [← rd_bytesOf];simp [rd,List.getD_eq_getElem?_getD,List.getElem?_eq_getElem hl]
  have hr:=bt_range s i
  have ih' := fun v=>ih k (out ++ [v]) (i + 1) (by omega) (by omega) (by omega) (by rw [List.length_append];simp;omega)
  have e1:(i + 1).toNat=i.toNat + 1:=by omega
  rw [List.drop_eq_getElem_cons hl,hg,List.map_cons]
  simp only [tollbarref02_Fold.l0]
  rw [if_pos hlt,if_pos h0,show wrap64 (i + 1)=i + 1 by unfold wrap64;omega]
  have hf : ∀ v,v=foldC (bt s i) → some (strOfNums (out ++ [v] ++ ((bytesOf s).drop (i.toNat + 1)).map foldC))=some (strOfNums (out ++ foldC (bt s i) :: ((bytesOf s).drop (i.toNat + 1)).map foldC)):=by
   intro v hv
   rw [hv,List.append_assoc]
   rfl
  have ho2:out.length < 140737488355328:=by omega
  by_cases h1:bt s i ≥ 65
  ·rw [if_pos h1]
   by_cases h2:bt s i ≤ 90
   ·rw [if_pos h2,if_pos ho2,ih',e1];exact hf _ (by unfold foldC;rw [if_pos ⟨h1,h2⟩];omega)
   ·rw [if_neg h2,if_pos ho2,ih',e1];exact hf _ (by unfold foldC;rw [if_neg (by omega)])
  ·rw [if_neg h1,if_pos ho2,ih',e1];exact hf _ (by unfold foldC;rw [if_neg (by omega)])
theorem refFold_f (s:ByteArray) (hn:s.size ≤ 140737488355327) (k:Nat) (hk:s.size + 1 ≤ k):tollbarref02_Fold.f k s=sign_Fold.f s:=by
 unfold tollbarref02_Fold.f sign_Fold.f
 rw [refFold_l0 s hn s.size k [] 0 (by omega) (by omega) hk rfl,if_pos (by omega)]
 rfl
theorem Fold_f (s:ByteArray) (hn:s.size ≤ 140737488355328):sign_Fold.f s=some (strOfNums ((bytesOf s).map foldC)):=if_pos hn
/-- The digits of a version. -/
def verL (l:List UInt8):Option (Int × Int):=match l with
 | [a,b,c,d,e,f,g,h]=>if [a,b,c,d,e]=[72,84,84,80,47]∧(48 ≤ (f.toNat:Int)∧(f.toNat:Int) ≤ 57)∧g=46∧(48 ≤ (h.toNat:Int)∧(h.toNat:Int) ≤ 57) then some ((f.toNat:Int) - 48,(h.toNat:Int) - 48) else none
 | _=>none
theorem verL_8 (a b c d e f g h:UInt8):verL [a,b,c,d,e,f,g,h]=if [a,b,c,d,e]=[72,84,84,80,47]∧(48 ≤ (f.toNat:Int)∧(f.toNat:Int) ≤ 57)∧g=46∧(48 ≤ (h.toNat:Int)∧(h.toNat:Int) ≤ 57) then some ((f.toNat:Int) - 48,(h.toNat:Int) - 48) else none:=rfl
theorem verL_none {l:List UInt8} (h:l.length ≠ 8):verL l=none:=by
 unfold verL
 split
 ·simp at h
 ·rfl
theorem eight {l:List UInt8} (h:l.length=8) : ∃ a b c d e f g i,l=[a,b,c,d,e,f,g,i]:=by
 match l,h with
 | [a,b,c,d,e,f,g,i],_=>exact ⟨a,b,c,d,e,f,g,i,rfl⟩
theorem refDigit_f (c:Int):tollbarref02_Digit.f c=some (decide (48 ≤ c∧c ≤ 57)):=by
 unfold tollbarref02_Digit.f
 by_cases h:c ≥ 48
 ·rw [if_pos h];congr 1;rw [Bool.eq_iff_iff,decide_eq_true_eq,decide_eq_true_eq];omega
 ·rw [if_neg h,decide_eq_false (by omega)]
theorem digit_f (c:Int):line_digit.f c=some (decide (48 ≤ c∧c ≤ 57)):=refDigit_f c
theorem CutPrefix_f (s p:List UInt8):strings_CutPrefix.f (mkS s) (mkS p)=some (if s.take p.length=p then (mkS (s.drop p.length),true) else (mkS s,false)):=by
 unfold strings_CutPrefix.f stringslite_CutPrefix.f stringslite_HasPrefix.f
 rw [mkS_size,mkS_size]
 by_cases h:p.length ≤ s.length
 ·rw [if_pos (by omega),if_pos (by omega),if_pos (by omega),Option.bind_some,Int.toNat_natCast,mkS_extract,mkS_extract,mkS_toList,mkS_toList,List.drop_zero,Nat.sub_zero]
  by_cases e:s.take p.length=p
  ·rw [if_pos e,e,if_pos (by simp),if_pos (by omega),if_pos (by omega),Option.bind_some,List.take_of_length_le (by rw [List.length_drop];omega)]
  ·rw [if_neg e,if_neg (by simpa using e),Option.bind_some]
 ·rw [if_neg (by omega),Option.bind_some,if_neg (by decide),Option.bind_some,if_neg ?_]
  intro e
  have:=congrArg List.length e
  rw [List.length_take] at this
  omega
theorem CutPrefix_yes (s p:List UInt8) (h:s.take p.length=p):strings_CutPrefix.f (mkS s) (mkS p)=some (mkS (s.drop p.length),true):=by rw [CutPrefix_f,if_pos h]
theorem CutPrefix_no (s p:List UInt8) (h : ¬ s.take p.length=p):strings_CutPrefix.f (mkS s) (mkS p)=some (mkS s,false):=by rw [CutPrefix_f,if_neg h]
theorem numbered_f (l : List UInt8) : line_numbered.f (mkS l) = some (verL l).isSome := by
  unfold line_numbered.f
  rw [show (⟨#[72, 84, 84, 80, 47]⟩ : ByteArray) = mkS [72, 84, 84, 80, 47] from rfl]
  by_cases c1 : l.take ([72, 84, 84, 80, 47] : List UInt8).length = [72, 84, 84, 80, 47]
  · rw [CutPrefix_yes _ _ c1, Option.bind_some, if_pos rfl, mkS_size]
    have hl : l.take 5 = [72, 84, 84, 80, 47] := c1
    by_cases h8 : l.length = 8
    · obtain ⟨a, b, c, d, e, f, g, i, rfl⟩ := eight h8
      have c1' : [a, b, c, d, e] = [72, 84, 84, 80, 47] := c1
      have hd : List.drop ([72, 84, 84, 80, 47] : List UInt8).length [a, b, c, d, e, f, g, i] = [f, g, i] := rfl
      have b0 : bt (mkS [f, g, i]) 0 = f.toNat := bt_mk [f, g, i] 0 (by simp)
      have b1 : bt (mkS [f, g, i]) 1 = g.toNat := bt_mk [f, g, i] 1 (by simp)
      have b2 : bt (mkS [f, g, i]) 2 = i.toNat := bt_mk [f, g, i] 2 (by simp)
      rw [hd, if_pos (by rfl), if_pos (by simp), b0, b1, b2, digit_f, digit_f, Option.bind_some, Option.bind_some]
      rw [verL_8]
      by_cases c2 : 48 ≤ (f.toNat : Int) ∧ (f.toNat : Int) ≤ 57
      · rw [decide_eq_true c2, if_pos rfl, if_pos (by simp)]
        by_cases c3 : g = 46
        · have g1 : ((g.toNat : Nat) : Int) = 46 := by rw [c3]; rfl
          rw [if_pos g1, if_pos (by simp)]
          by_cases c4 : 48 ≤ (i.toNat : Int) ∧ (i.toNat : Int) ≤ 57
          · rw [decide_eq_true c4, if_pos ⟨c1', c2, c3, c4⟩]; rfl
          · rw [decide_eq_false c4, if_neg (fun h => c4 h.2.2.2)]; rfl
        · have g1 : ¬ ((g.toNat : Nat) : Int) = 46 := fun h => c3 (UInt8.toNat_inj.1 (by show _ = 46; omega))
          rw [if_neg g1, if_neg (fun h => c3 h.2.2.1)]; rfl
      · rw [decide_eq_false c2, if_neg (by simp), if_neg (fun h => c2 h.2.1)]; rfl
    · rw [verL_none h8, List.length_drop, if_neg (by
        have := congrArg List.length hl
        rw [List.length_take] at this
        simp only [List.length_cons, List.length_nil] at this ⊢
        omega)]
      rfl
  · rw [CutPrefix_no _ _ c1, Option.bind_some, if_neg (by simp)]
    have : verL l = none := by
      unfold verL
      split
      · rw [if_neg (fun h => c1 h.1)]
      · rfl
    rw [this]
    rfl
/-- The last digit of a version that is known. -/
def minL (l:List UInt8):Option Int:=if l=[72,84,84,80,47,49,46,48] then some 0 else if l=[72,84,84,80,47,49,46,49] then some 1 else none
theorem minor_f (l:List UInt8):line_minor.f (mkS l)=some (match minL l with|some n=>(n,true)|none=>(0,false)):=by
 unfold line_minor.f minL
 rw [mkS_toList]
 by_cases h1:l=[72,84,84,80,47,49,46,48]
 ·rw [if_pos h1,if_pos h1]
 ·rw [if_neg h1,if_neg h1]
  by_cases h2:l=[72,84,84,80,47,49,46,49]
  ·rw [if_pos h2,if_pos h2]
  ·rw [if_neg h2,if_neg h2]
theorem ver_min (l:List UInt8):minL l=match verL l with|some p=>if p.1=1∧p.2 ≤ 1 then some p.2 else none|none=>none:=by
 by_cases h8:l.length=8
 ·obtain ⟨a,b,c,d,e,f,g,i,rfl⟩:=eight h8
  have fr:=f.toNat_lt
  have ir:=i.toNat_lt
  rw [verL_8]
  unfold minL
  by_cases c0:[a,b,c,d,e]=[72,84,84,80,47]∧(48 ≤ (f.toNat:Int)∧(f.toNat:Int) ≤ 57)∧g=46∧(48 ≤ (i.toNat:Int)∧(i.toNat:Int) ≤ 57)
  ·rw [if_pos c0]
   obtain ⟨c1,c2,c3,c4⟩:=c0
   simp only [List.cons.injEq,and_true] at c1
   obtain ⟨rfl,rfl,rfl,rfl,rfl⟩:=c1
   subst c3
   simp only [List.cons.injEq,and_true,true_and]
   by_cases f1:f=49
   ·subst f1
    simp only [true_and]
    by_cases i0:i=48
    ·subst i0;simp
    ·rw [if_neg i0]
     by_cases i1:i=49
     ·subst i1;simp
     ·rw [if_neg i1,if_neg ?_]
      rintro ⟨_,h⟩
      have e0:i.toNat ≠ 48:=fun h=>i0 (UInt8.toNat_inj.1 h)
      have e1:i.toNat ≠ 49:=fun h=>i1 (UInt8.toNat_inj.1 h)
      omega
   ·rw [if_neg (fun h=>f1 h.1),if_neg (fun h=>f1 h.1),if_neg ?_]
    rintro ⟨h,_⟩
    exact f1 (UInt8.toNat_inj.1 (by show _=49;omega))
  ·rw [if_neg c0,if_neg,if_neg]
   ·intro h;simp only [List.cons.injEq,and_true] at h;obtain ⟨rfl,rfl,rfl,rfl,rfl,rfl,rfl,rfl⟩:=h;exact c0 (by decide)
   ·intro h;simp only [List.cons.injEq,and_true] at h;obtain ⟨rfl,rfl,rfl,rfl,rfl,rfl,rfl,rfl⟩:=h;exact c0 (by decide)
 ·rw [verL_none h8]
  unfold minL
  rw [if_neg (fun h=>h8 (by rw [h];rfl)),if_neg (fun h=>h8 (by rw [h];rfl))]
theorem ref_l1 (x:List UInt8) (hn:x.length ≤ 140737488355328) (d:Nat) : ∀ (k i:Nat),i + d=x.length → d + 1 ≤ k →
 tollbarref05_Host.l1 k (mkS x) i=some (if ((bytesOf (mkS x)).drop i).all hostC=true then (if x.length=0 ∨ 64 < x.length then ((⟨#[]⟩:ByteArray),false) else (mkS x,true)) else ((⟨#[]⟩:ByteArray),false)):=by
 induction d with
 | zero =>
  intro k i hi hk
  obtain ⟨k,rfl⟩ : ∃ m,k=m + 1:=⟨k - 1,by omega⟩
  rw [List.drop_of_length_le (by rw [bytesOf_length,mkS_size];omega),if_pos (show ([]:List Int).all hostC=true from rfl)]
  simp only [tollbarref05_Host.l1]
  rw [mkS_size,if_neg (by omega)]
  by_cases h0:x.length=0
  ·rw [if_pos (by omega),if_pos (Or.inl h0)]
  ·rw [if_neg (by omega)]
   by_cases h1:64 < x.length
   ·rw [if_pos (by omega),if_pos (Or.inr h1)]
   ·rw [if_neg (by omega),if_neg (by omega)]
 | succ d ih =>
  intro k i hi hk
  obtain ⟨k,rfl⟩ : ∃ m,k=m + 1:=⟨k - 1,by omega⟩
  have hlt:i < x.length:=by omega
  have ih' := ih k (i + 1) (by omega) (by omega)
  have hw:wrap64 ((i:Int) + 1)=((i + 1:Nat):Int):=by unfold wrap64;omega
  have hd:=bytes_drop_all hostC (mkS x) (i:Int) (by omega) (by rw [mkS_size];omega)
  rw [Int.toNat_natCast] at hd
  rw [hd]
  simp only [tollbarref05_Host.l1]
  rw [mkS_size,if_pos (by omega),if_pos (by omega),hw,ih',refDigit_f]
  have hr:=bt_range (mkS x) i
  generalize bt (mkS x) (i:Int)=c at hr ⊢
  have hh:hostC c=decide ((48 ≤ c∧c ≤ 57) ∨ (97 ≤ c∧c ≤ 122) ∨ c=45 ∨ c=46):=rfl
  simp only [Option.bind_some]
  by_cases a1:c ≥ 97
  ·rw [if_pos a1]
   by_cases a2:c ≤ 122
   ·rw [if_pos a2,hh,decide_eq_true (by omega),Bool.true_and]
   ·rw [if_neg a2,decide_eq_false (by omega),if_neg (by simp),if_neg (by omega),if_neg (by omega),hh,decide_eq_false (by omega),Bool.false_and,if_neg (by simp)]
  ·rw [if_neg a1]
   by_cases a2:48 ≤ c∧c ≤ 57
   ·rw [decide_eq_true a2,if_pos rfl,hh,decide_eq_true (by omega),Bool.true_and]
   ·rw [decide_eq_false a2,if_neg (by simp)]
    by_cases a3:c=45
    ·rw [if_pos a3,hh,decide_eq_true (by omega),Bool.true_and]
    ·rw [if_neg a3]
     by_cases a4:c=46
     ·rw [if_pos a4,hh,decide_eq_true (by omega),Bool.true_and]
     ·rw [if_neg a4,hh,decide_eq_false (by omega),Bool.false_and,if_neg (by simp)]
theorem ref_j3 (l:List UInt8) (hn:l.length ≤ 140737488355327) (n:Nat) (h:n ≤ l.length) (k:Nat) (hk:2 * l.length + 10 ≤ k):tollbarref05_Host.j3 k (mkS l) n=some (hostOf l n):=by
 obtain ⟨k,rfl⟩ : ∃ m,k=m + 1:=⟨k - 1,by omega⟩
 simp only [tollbarref05_Host.j3]
 have hl:(l.take n).length ≤ l.length:=by rw [List.length_take];omega
 rw [mkS_size,if_pos (by omega),if_pos (by omega),Int.toNat_natCast,mkS_extract,List.drop_zero,Nat.sub_zero,refFold_f _ (by rw [mkS_size];omega) k (by rw [mkS_size];omega),Fold_f _ (by rw [mkS_size];omega),fold_mk,Option.bind_some]
 have:=ref_l1 ((l.take n).map foldU) (by rw [List.length_map];omega) ((l.take n).map foldU).length k 0 (by omega) (by rw [List.length_map];omega)
 rw [show ((0:Nat):Int)=0 from rfl,List.drop_zero] at this
 rw [this]
 unfold hostOf hostEnd
 rw [mkS_size]
 congr 1
 by_cases c:((l.take n).map foldU).length=0 ∨ 64 < ((l.take n).map foldU).length
 ·rw [if_pos c]
  simp only [if_pos c]
  split <;> rfl
 ·rw [if_neg c]
  simp only [if_neg c]
theorem ref_j1 (l:List UInt8) (hn:l.length ≤ 140737488355327) (i:Nat) (h:i < l.length) (k:Nat) (hk:2 * l.length + 20 ≤ k) :
 tollbarref05_Host.j1 k (mkS l) (l.length:Int) (i:Int)=some (if l[i]=58 then hostOf l i else hostOf l l.length):=by
 obtain ⟨k,rfl⟩ : ∃ m,k=m + 2:=⟨k - 2,by omega⟩
 simp only [tollbarref05_Host.j1]
 rw [mkS_size,if_pos (by omega),if_pos (by omega),if_pos (by omega),bt_mk l i h]
 simp only [tollbarref05_Host.j2]
 by_cases c:l[i]=58
 ·rw [if_pos c,if_pos (by rw [c];rfl),ref_j3 l hn i (by omega) k (by omega)]
 ·rw [if_neg c,if_neg (by rw [beq_iff_eq];exact fun e=>c (UInt8.toNat_inj.1 (by show _=58;omega))),ref_j3 l hn l.length (by omega) k (by omega)]
theorem ref_l0 (l : List UInt8) (hn : l.length ≤ 140737488355327) (d : Nat) : ∀ (k : Nat), d ≤ l.length → 3 * l.length + 20 + d ≤ k → (∀ x ∈ l.drop d, digU x = true) →
    tollbarref05_Host.l0 k (mkS l) (l.length : Int) ((d : Int) - 1) = line_Host.f (mkS l) := by
  induction d with
  | zero =>
    intro k hd hk ha
    obtain ⟨k, rfl⟩ : ∃ m, k = m + 3 := ⟨k - 3, by omega⟩
    rw [List.drop_zero] at ha
    have hno : ∀ n, ¬ PortAt l n := by
      rintro n ⟨h, h1, _⟩
      have := ha _ (List.getElem_mem h)
      rw [h1] at this
      revert this
      decide
    rw [Host_none l (by omega) hno]
    simp only [tollbarref05_Host.l0]
    rw [if_neg (by omega)]
    simp only [tollbarref05_Host.j1]
    rw [if_neg (by omega)]
    simp only [tollbarref05_Host.j2]
    rw [if_neg (by simp), ref_j3 l hn l.length (by omega) k (by omega)]
  | succ d ih =>
    intro k hd hk ha
    obtain ⟨k, rfl⟩ : ∃ m, k = m + 1 := ⟨k - 1, by omega⟩
    have hlt : d < l.length := by omega
    have e : ((d + 1 : Nat) : Int) - 1 = (d : Int) := by omega
    have hw : wrap64 ((d : Int) - 1) = (d : Int) - 1 := by unfold wrap64; omega
    rw [e]
    simp only [tollbarref05_Host.l0]
    rw [mkS_size, if_pos (by omega), if_pos (by omega), if_pos (by omega), bt_mk l d hlt, refDigit_f, ← dig_host, Option.bind_some]
    cases hc : digU l[d]
    · rw [if_neg (by simp), ref_j1 l hn d hlt k (by omega)]
      by_cases c : l[d] = 58
      · rw [if_pos c, Host_port l (by omega) d ⟨hlt, c, ha⟩]
      · rw [if_neg c, Host_none l (by omega)]
        rintro n ⟨h, h1, h2⟩
        rcases Nat.lt_trichotomy n d with q | q | q
        · have := h2 l[d] (by
            rw [List.mem_iff_getElem]
            exact ⟨d - (n + 1), by rw [List.length_drop]; omega, by rw [List.getElem_drop]; congr 1; omega⟩)
          rw [hc] at this
          cases this
        · subst q; exact c h1
        · have := ha l[n] (by
            rw [List.mem_iff_getElem]
            exact ⟨n - (d + 1), by rw [List.length_drop]; omega, by rw [List.getElem_drop]; congr 1; omega⟩)
          rw [h1] at this
          revert this
          decide
    · rw [if_pos rfl, hw]
      refine ih k (by omega) (by omega) ?_
      intro x hx
      rw [List.drop_eq_getElem_cons hlt] at hx
      rcases List.mem_cons.1 hx with rfl | hx
      · exact hc
      · exact ha x hx
theorem refHost_f (l:List UInt8) (hn:l.length ≤ 140737488355327) (k:Nat) (hk:4 * l.length + 20 ≤ k):tollbarref05_Host.f k (mkS l)=line_Host.f (mkS l):=by
 unfold tollbarref05_Host.f
 rw [mkS_size,show wrap64 ((l.length:Int) - 1)=(l.length:Int) - 1 by unfold wrap64;omega]
 exact ref_l0 l hn l.length k (by omega) (by omega) (by simp)
theorem Host_some (l:List UInt8) (hn:l.length ≤ 140737488355328) : ∃ u,line_Host.f (mkS l)=some (hostEnd (mkS u)):=by
 unfold line_Host.f
 rw [if_pos (by rw [mkS_size];exact hn)]
 exact ⟨(hostCut (strOfNums ((bytesOf (mkS l)).map foldC))).data.toList,by rw [mkS_self]⟩
def tgtB (c:Int):Bool:=(sign_Target_1.f c).getD false
theorem Target_f (s:ByteArray) (h:s.size ≤ 140737488355328):sign_Target.f s=some (!s.toList.isEmpty && (bytesOf s).all tgtB):=if_pos h
def tokOk (s:ByteArray):Bool := !s.toList.isEmpty && (bytesOf s).all tokB
def tgtOk (s:ByteArray):Bool := !s.toList.isEmpty && (bytesOf s).all tgtB
/-- A method and its target. -/
def aimOk (m t:ByteArray):Bool:=tgtOk t && (decide (bt t 0=47) || (decide (t.toList=[42]) && (m.toList == [79,80,84,73,79,78,83])))
def reqBad (c:Int):ByteArray × ByteArray × Int × (List (S55)) × List Int × Int:=((⟨#[]⟩:ByteArray),(⟨#[]⟩:ByteArray),0,[],[],c)
/-- What a request's three parts tell. -/
def reqP (m t v:List UInt8):ByteArray × ByteArray × Int × (List (S55)) × List Int × Int :=
 if (m.length ≤ 20∧tokOk (mkS m)=true)∧aimOk (mkS m) (mkS t)=true then
  if 512 < t.length then reqBad 414 else
  match verL v with
  | none=>reqBad 400
  | some p=>if p.1=1∧p.2 ≤ 1 then (mkS m,mkS t,p.2,[],[],0) else reqBad 505
 else reqBad 400
def reqSpec (l:List UInt8):ByteArray × ByteArray × Int × (List (S55)) × List Int × Int:=match pcs 32 l with|[m,t,v]=>reqP m t v|_=>reqBad 400
theorem three {α:Type} {l:List α} (h:l.length=3) : ∃ a b c,l=[a,b,c]:=by
 match l,h with
 | [a,b,c],_=>exact ⟨a,b,c,rfl⟩
theorem reqSpec_not {l:List UInt8} (h:(pcs 32 l).length ≠ 3):reqSpec l=reqBad 400:=by
 unfold reqSpec
 split
 ·rename_i e;rw [e] at h;simp at h
 ·rfl
theorem reqSpec_yes {l m t v:List UInt8} (h:pcs 32 l=[m,t,v]):reqSpec l=reqP m t v:=by
 unfold reqSpec
 rw [h]
theorem tgt_ne {s:ByteArray} (h:tgtOk s=true):0 < s.size:=by
 unfold tgtOk at h
 rw [isEmpty_size] at h
 rcases Nat.eq_zero_or_pos s.size with e|e
 ·rw [e] at h;simp at h
 ·exact e
theorem target_f (m t:ByteArray) (h:t.size ≤ 140737488355328):line_target.f m t=some (aimOk m t):=by
 unfold line_target.f aimOk
 rw [Target_f t h,Option.bind_some]
 change (if tgtOk t=true then _ else _)=_
 cases ht:tgtOk t
 ·rfl
 ·have hp:=tgt_ne ht
  rw [if_pos rfl,if_pos (by omega),Bool.true_and]
  by_cases c1:bt t 0=47
  ·rw [if_pos c1,decide_eq_true c1];rfl
  ·rw [if_neg c1,decide_eq_false c1,Bool.false_or]
   by_cases c2:t.toList=[42]
   ·rw [if_pos c2,decide_eq_true c2];rfl
   ·rw [if_neg c2,decide_eq_false c2];rfl
theorem Request_f (l:List UInt8) (hn:l.length ≤ 4398046511100) (k:Nat) (hk:l.length + 4 ≤ k):line_Request.f k (mkS l)=some (reqSpec l):=by
 obtain ⟨k,rfl⟩ : ∃ m,k=m + 1:=⟨k - 1,by omega⟩
 unfold line_Request.f
 rw [Split_fC (sp:=32) (mkS l) (by rw [mkS_size];omega) (k + 1) (by rw [mkS_size];omega),Option.bind_some,mkS_data,List.length_map]
 have hle:=pcs_le (sp:=32) l
 by_cases h3:(pcs 32 l).length=3
 ·obtain ⟨m,t,v,hp⟩:=three h3
  rw [reqSpec_yes hp]
  rw [hp] at hle ⊢
  have hm:=hle m (by simp)
  have ht:=hle t (by simp)
  have e0:rdOf ByteArray.empty ([m,t,v].map mkS) 0=mkS m:=rfl
  have e1:rdOf ByteArray.empty ([m,t,v].map mkS) 1=mkS t:=rfl
  have e2:rdOf ByteArray.empty ([m,t,v].map mkS) 2=mkS v:=rfl
  have hl:(([m,t,v].map mkS).length:Int)=3:=rfl
  have hbad:line_Request.j0 (k + 1) ([m,t,v].map mkS) true=some (reqBad 400):=by simp only [line_Request.j0];rfl
  rw [hbad,e0,e1,if_pos (by simp),if_pos (by simp),mkS_size,Token_f _ (by rw [mkS_size];omega),Option.bind_some]
  unfold reqP
  change (if (m.length:Int) > 20 then _ else if tokOk (mkS m)=true then _ else _)=_
  by_cases c1:(m.length:Int) > 20
  ·rw [if_pos c1,if_neg (fun h=>by omega)]
  ·rw [if_neg c1]
   cases c2:tokOk (mkS m)
   ·rw [if_neg (by simp),if_neg (by simp)]
   ·rw [if_pos rfl,if_pos (by simp),target_f _ _ (by rw [mkS_size];omega),Option.bind_some]
    cases c3:aimOk (mkS m) (mkS t)
    ·rw [if_neg (by simp),Bool.not_false,hbad]
    ·rw [if_pos ⟨⟨by omega,rfl⟩,rfl⟩,Bool.not_true]
     simp only [line_Request.j0]
     rw [if_neg (by simp),hl,e0,e1,e2,if_pos (by omega),minor_f,Option.bind_some,if_pos (by omega),mkS_size]
     by_cases c4:512 < t.length
     ·rw [if_pos (by omega),if_pos c4];rfl
     ·rw [if_neg (by omega),if_neg c4,numbered_f,Option.bind_some,ver_min]
      cases hv:verL v with
      | none=>rfl
      | some p =>
       simp only [Option.isSome_some,if_true]
       by_cases c5:p.1=1∧p.2 ≤ 1
       ·rw [if_pos c5,if_pos c5];rfl
       ·rw [if_neg c5,if_neg c5];rfl
 ·rw [reqSpec_not h3,if_neg (by omega)]
  simp only [line_Request.j0]
  rfl
def hostNm:ByteArray:=⟨#[104,111,115,116]⟩
def hostNM:ByteArray:=⟨#[72,111,115,116]⟩
theorem host_nm:(bytesOf hostNM).map foldC=(bytesOf hostNm).map foldC:=by decide +kernel
def hostT (h:ByteArray):ByteArray × Bool:=(line_Host.f h).getD (⟨#[]⟩,false)
theorem hostT_f (h:ByteArray) (hs:h.size ≤ 140737488355328):line_Host.f h=some (hostT h):=by
 obtain ⟨u,hu⟩:=Host_some h.data.toList (by rw [data_length];omega)
 rw [mkS_self] at hu
 unfold hostT
 rw [hu]
 rfl
/-- Are a request's hosts right? -/
def hostsOk:List ByteArray → Int → Bool
 | [],minor=>minor == 0
 | [h],_=>(hostT h).2
 | _ :: _ :: _,_=>false
def openBad (c:Int):ByteArray × ByteArray × Int × List (S55) × List Int × Int × Int × Bool × Int:=(⟨#[]⟩,⟨#[]⟩,0,[],[],0,0,false,c)
def openF (q:ByteArray × ByteArray × Int × List (S55) × List Int × Int) (g:List (S55)) (n:Int):ByteArray × ByteArray × Int × List (S55) × List Int × Int × Int × Bool × Int :=
 if hostsOk (getS hostNm g) q.2.2.1=true then (if (reqLen g q.2.2.1).2.2=0 then (q.1,q.2.1,q.2.2.1,g,[],n,(reqLen g q.2.2.1).1,(reqLen g q.2.2.1).2.1,0) else openBad (reqLen g q.2.2.1).2.2) else openBad 400
def openL:List ByteArray × Int × Int → ByteArray × ByteArray × Int × List (S55) × List Int × Int × Int × Bool × Int
 | ([],_,c)=>openBad c
 | (s :: ss,n,c)=>if (reqSpec s.data.toList).2.2.2.2.2=0 then (if (fieldsS ss 0).2=0 then (if n=0 then openBad c else openF (reqSpec s.data.toList) (fieldsS ss 0).1 n) else openBad (fieldsS ss 0).2) else openBad (reqSpec s.data.toList).2.2.2.2.2
/-- What a request's beginning tells. -/
def openS (l:List Int):ByteArray × ByteArray × Int × List (S55) × List Int × Int × Int × Bool × Int:=openL (linesS (bdS l) (extS l))
def bodyS (b:List Int) (size:Int) (coded:Bool):List Int × Int × Int :=
 if coded=true then (if (decS b (b.length + 1) 0 4096 []).2.2=2 then ([],-1,413) else if (decS b (b.length + 1) 0 4096 []).2.2=0 then (if (decS b (b.length + 1) 0 4096 []).2.1=0 then ([],-1,0) else ((decS b (b.length + 1) 0 4096 []).1,(decS b (b.length + 1) 0 4096 []).2.1,0)) else ([],-1,400))
 else if (b.length:Int) < size then ([],-1,0) else (b.take size.toNat,size,0)
/-- The request with which bytes begin. -/
def reqS (l:List Int):ByteArray × ByteArray × Int × List (S55) × List Int × Int × Int :=
 if (openS l).2.2.2.2.2.1=0 then (⟨#[]⟩,⟨#[]⟩,0,[],[],0,(openS l).2.2.2.2.2.2.2.2)
 else if (bodyS (l.drop (openS l).2.2.2.2.2.1.toNat) (openS l).2.2.2.2.2.2.1 (openS l).2.2.2.2.2.2.2.1).2.1 < 0 then (⟨#[]⟩,⟨#[]⟩,0,[],[],0,(bodyS (l.drop (openS l).2.2.2.2.2.1.toNat) (openS l).2.2.2.2.2.2.1 (openS l).2.2.2.2.2.2.2.1).2.2)
 else ((openS l).1,(openS l).2.1,(openS l).2.2.1,(openS l).2.2.2.1,(bodyS (l.drop (openS l).2.2.2.2.2.1.toNat) (openS l).2.2.2.2.2.2.1 (openS l).2.2.2.2.2.2.2.1).1,(openS l).2.2.2.2.2.1 + (bodyS (l.drop (openS l).2.2.2.2.2.1.toNat) (openS l).2.2.2.2.2.2.1 (openS l).2.2.2.2.2.2.2.1).2.1,0)
theorem reqSpec_minor (l:List UInt8):(reqSpec l).2.2.1=0 ∨ (reqSpec l).2.2.1=1:=by
 have hv : ∀ v p,verL v=some p → 0 ≤ p.2:=by
  intro v p h
  unfold verL at h
  split at h
  ·split at h
   ·rename_i c
    injection h with h
    subst h
    show (0:Int) ≤ _ - 48
    omega
   ·cases h
  ·cases h
 unfold reqSpec
 split
 ·unfold reqP
  split
  ·split
   ·exact Or.inl rfl
   ·split
    ·exact Or.inl rfl
    ·rename_i p hp
     have:=hv _ _ hp
     split
     ·rename_i h
      show p.2=0 ∨ p.2=1
      omega
     ·exact Or.inl rfl
  ·exact Or.inl rfl
 ·exact Or.inl rfl
theorem lenS_nn (ps:List ByteArray):0 ≤ (lenS ps).1:=by
 cases ps with
 | nil=>decide
 | cons p r =>
  rw [lenS]
  split
  ·exact num_nn p
  ·decide
/-- What is known of a request's beginning that is whole. -/
structure OpenOk (l:List Int) (o:ByteArray × ByteArray × Int × List (S55) × List Int × Int × Int × Bool × Int):Prop where
 pos:0 < o.2.2.2.2.2.1
 le:o.2.2.2.2.2.1 ≤ (l.length:Int)∧o.2.2.2.2.2.1 ≤ 2048
 code:o.2.2.2.2.2.2.2.2=0
 size:0 ≤ o.2.2.2.2.2.2.1∧o.2.2.2.2.2.2.1 ≤ 4096
 minor:o.2.2.1=0 ∨ o.2.2.1=1
 fields:o.2.2.2.1.length ≤ 40 ∧ ∀ f ∈ o.2.2.2.1,rightB f.f0 f.f1=true
 body:o.2.2.2.2.1=[]
theorem reqLen_size (fs:List (S55)) (m:Int):0 ≤ (reqLen fs m).1∧(reqLen fs m).1 ≤ 4096:=by
 have h0:0 ≤ (lenS (listS lenNm fs)).1:=lenS_nn _
 unfold reqLen
 repeat' split
 all_goals first|exact ⟨by decide,by decide⟩|(constructor <;> simp only [] <;> omega)
theorem open_cases (l:List Int):(∃ c,openS l=openBad c) ∨ OpenOk l (openS l):=by
 have hb:=bdS_length l
 have hle:=lines_le (bdS l) (extS l)
 unfold openS
 obtain ⟨L,hL⟩ : ∃ L,L=linesS (bdS l) (extS l):=⟨_,rfl⟩
 rw [← hL] at hle ⊢
 obtain ⟨ss,n,c⟩:=L
 simp only at hle
 cases ss with
 | nil=>exact Or.inl ⟨c,rfl⟩
 | cons s ss =>
  rw [openL]
  split
  ·split
   ·split
    ·exact Or.inl ⟨c,rfl⟩
    ·rename_i h3
     unfold openF
     split
     ·split
      ·have hf:=fieldsS_FB ss 0 (by omega)
       exact Or.inr ⟨by show 0 < n;omega,by show n ≤ _∧n ≤ 2048;omega,rfl,reqLen_size _ _,reqSpec_minor _,⟨by show (fieldsS ss 0).1.length ≤ 40;omega,hf.2⟩,rfl⟩
      ·exact Or.inl ⟨_,rfl⟩
     ·exact Or.inl ⟨_,rfl⟩
   ·exact Or.inl ⟨_,rfl⟩
  ·exact Or.inl ⟨_,rfl⟩
def Cln (xs:List Int):Prop := ∀ x ∈ xs,x ≠ 13∧x ≠ 10
theorem cln_nil:Cln []:=fun x hx=>by cases hx
theorem cln_app {a b:List Int} (ha:Cln a) (hb:Cln b):Cln (a ++ b):=fun x hx=>by
 rcases List.mem_append.1 hx with h|h
 ·exact ha x h
 ·exact hb x h
theorem cutA_split (l:List Int) (m:Int) : ∀ (d:Nat) (i:Int),(l.length:Int) - i=d → 0 ≤ i → Cln (l.take i.toNat) → i ≤ m → (cutAt l m d i).2.1 > 0 →
 ∃ xs r,l=xs ++ ([13,10] ++ r)∧Cln xs∧(xs.length:Int) ≤ m∧cutAt l m d i=(strOfNums xs,(xs.length:Int) + 2,0):=by
 intro d
 induction d with
 | zero=>intro i _ _ _ _ h;simp [cutAt] at h
 | succ d ih =>
  intro i hd h0 hc hm h
  have hlt:i < (l.length:Int):=by omega
  rw [cutAt] at h ⊢
  by_cases h10:rd l i=10
  ·rw [if_pos h10] at h;simp at h
  ·rw [if_neg h10] at h ⊢
   by_cases h13:rd l i=13
   ·rw [if_pos h13] at h ⊢
    by_cases h1:i + 1 < (l.length:Int)
    ·rw [if_pos h1] at h ⊢
     by_cases hr:rd l (i + 1)=10
     ·rw [if_pos hr] at h ⊢
      have ht:=take_two l i h0 h1
      rw [h13,hr] at ht
      have hl:(l.take i.toNat).length=i.toNat:=by rw [List.length_take];omega
      refine ⟨l.take i.toNat,l.drop (i + 2).toNat,?_,hc,by omega,?_⟩
      ·rw [← List.append_assoc,← ht,List.take_append_drop]
      ·rw [hl,show ((i.toNat:Nat):Int)=i by omega]
     ·rw [if_neg hr] at h;simp at h
    ·rw [if_neg h1] at h;simp at h
   ·rw [if_neg h13] at h ⊢
    by_cases hmi:m ≤ i
    ·rw [if_pos hmi] at h;simp at h
    ·rw [if_neg hmi] at h ⊢
     refine ih (i + 1) (by omega) (by omega) ?_ (by omega) h
     have hlt' : i.toNat < l.length:=by omega
     have e:l[i.toNat]=rd l i:=by simp [rd,List.getD_eq_getElem?_getD,List.getElem?_eq_getElem hlt']
     rw [show (i + 1).toNat=i.toNat + 1 by omega,List.take_succ_eq_append_getElem hlt',e]
     refine cln_app hc fun x hx=>?_
     rw [List.mem_singleton.1 hx]
     exact ⟨h13,h10⟩
theorem cut_split (l:List Int) (m:Int) (h:(cutSpec l m).2.1 > 0) : ∃ xs r,l=xs ++ ([13,10] ++ r)∧Cln xs∧(xs.length:Int) ≤ mx m 0∧cutSpec l m=(strOfNums xs,(xs.length:Int) + 2,0) :=
 cutA_split l (mx m 0) l.length 0 (by omega) (by omega) cln_nil (by unfold mx;split <;> omega) h
theorem cutT_line (xs:List Int) (hs:Cln xs) (r:List Int) (m:Int) (hm:(xs.length:Int) ≤ m) (d:Nat) : ∀ (j e:Nat),j + d=xs.length → e=d + 2 + r.length →
 cutAt (xs ++ ([13,10] ++ r)) m e j=(strOfNums xs,(xs.length:Int) + 2,0):=by
 induction d with
 | zero =>
  intro j e hj he
  subst he
  obtain rfl:j=xs.length:=by omega
  have e1:rd (xs ++ ([13,10] ++ r)) (xs.length:Int)=13:=by rw [rd_append_right _ _ _ (by omega),Int.sub_self];rfl
  have e2:rd (xs ++ ([13,10] ++ r)) ((xs.length:Int) + 1)=10:=by rw [rd_append_right _ _ _ (by omega),show (xs.length:Int) + 1 - xs.length=1 by omega];rfl
  rw [show 0 + 2 + r.length=(r.length + 1) + 1 by omega]
  simp only [cutAt]
  rw [e1,if_neg (by decide),if_pos rfl,if_pos (by rw [List.length_append];simp;omega),e2,if_pos rfl,Int.toNat_natCast,List.take_left]
 | succ d ih =>
  intro j e hj he
  subst he
  have hlt:j < xs.length:=by omega
  have e1:rd (xs ++ ([13,10] ++ r)) (j:Int)=xs[j]:=by
   rw [rd_append_left _ _ _ (by omega) (by omega)]
   simp [rd,List.getD_eq_getElem?_getD,List.getElem?_eq_getElem hlt]
  obtain ⟨h13,h10⟩:=hs _ (List.getElem_mem hlt)
  rw [show d + 1 + 2 + r.length=(d + 2 + r.length) + 1 by omega]
  simp only [cutAt]
  rw [e1,if_neg h10,if_neg h13,if_neg (by omega)]
  have:=ih (j + 1) (d + 2 + r.length) (by omega) rfl
  rw [show ((j + 1:Nat):Int)=(j:Int) + 1 by omega] at this
  exact this
theorem cutT (xs:List Int) (hs:Cln xs) (r:List Int) (m:Int) (hm:(xs.length:Int) ≤ m):cutSpec (xs ++ ([13,10] ++ r)) m=(strOfNums xs,(xs.length:Int) + 2,0):=by
 have e1:mx m 0=m:=by unfold mx;split <;> omega
 unfold cutSpec
 rw [e1]
 exact cutT_line xs hs r m hm xs.length 0 _ (by omega) (by rw [List.length_append,List.length_append];simp;omega)
/-- What stands where an end should: none. -/
def BadEnd (Z:List Int):Prop:=(∃ Q,Z=10 :: Q) ∨ ∃ y Q,Z=13 :: y :: Q∧y ≠ 10
theorem cutT_no (xs Z:List Int) (hs:Cln xs) (hZ:BadEnd Z) (m:Int) (hm:(xs.length:Int) ≤ m) (d:Nat) : ∀ (j e:Nat),j + d=xs.length → e=d + Z.length →
 cutAt (xs ++ Z) m e j=((⟨#[]⟩:ByteArray),0,20):=by
 induction d with
 | zero =>
  intro j e hj he
  subst he
  obtain rfl:j=xs.length:=by omega
  rcases hZ with ⟨Q,rfl⟩|⟨y,Q,rfl,hy⟩
  ·have e1:rd (xs ++ 10 :: Q) (xs.length:Int)=10:=by rw [rd_append_right _ _ _ (by omega),Int.sub_self];rfl
   rw [show 0 + (10 :: Q).length=Q.length + 1 by simp,cutAt,e1,if_pos rfl]
  ·have e1:rd (xs ++ 13 :: y :: Q) (xs.length:Int)=13:=by rw [rd_append_right _ _ _ (by omega),Int.sub_self];rfl
   have e2:rd (xs ++ 13 :: y :: Q) ((xs.length:Int) + 1)=y:=by rw [rd_append_right _ _ _ (by omega),show (xs.length:Int) + 1 - xs.length=1 by omega];rfl
   rw [show 0 + (13 :: y :: Q).length=(Q.length + 1) + 1 by simp,cutAt,e1,if_neg (by decide),if_pos rfl,if_pos (by rw [List.length_append];simp only [List.length_cons];omega),e2,if_neg hy]
 | succ d ih =>
  intro j e hj he
  subst he
  have hlt:j < xs.length:=by omega
  have e1:rd (xs ++ Z) (j:Int)=xs[j]:=by
   rw [rd_append_left _ _ _ (by omega) (by omega)]
   simp [rd,List.getD_eq_getElem?_getD,List.getElem?_eq_getElem hlt]
  obtain ⟨h13,h10⟩:=hs _ (List.getElem_mem hlt)
  rw [show d + 1 + Z.length=(d + Z.length) + 1 by omega,cutAt,e1,if_neg h10,if_neg h13,if_neg (by omega)]
  have:=ih (j + 1) (d + Z.length) (by omega) rfl
  rw [show ((j + 1:Nat):Int)=(j:Int) + 1 by omega] at this
  exact this
theorem cutB (xs Z:List Int) (hs:Cln xs) (hZ:BadEnd Z) (m:Int) (hm:(xs.length:Int) ≤ m):cutSpec (xs ++ Z) m=((⟨#[]⟩:ByteArray),0,20):=by
 have e1:mx m 0=m:=by unfold mx;split <;> omega
 unfold cutSpec
 rw [e1]
 exact cutT_no xs Z hs hZ m hm xs.length 0 _ (by omega) (by rw [List.length_append])
/-- Lines,one behind the other. -/
def flatL:List (List Int) → List Int
 | []=>[]
 | s :: ss=>s ++ ([13,10] ++ flatL ss)
theorem str_nil (xs:List Int):(strOfNums xs).toList=[] ↔ xs=[]:=by
 have h:=str_size xs
 constructor
 ·intro e
  have:(strOfNums xs).size=0:=by rw [← data_length,← toList_data,e];rfl
  exact List.eq_nil_of_length_eq_zero (by omega)
 ·rintro rfl;rw [toList_data];rfl
def LinesOk (ss:List (List Int)):Prop := ∀ s ∈ ss,Cln s∧s ≠ []∧s.length ≤ 2048
theorem tail_text (L:List Int) (e:Int) (r:List Int) : ∀ (ss:List (List Int)) (p d:Nat),L.drop p=flatL ss ++ ([13,10] ++ r) → LinesOk ss → ss.length < d →
 tailS L e d p=(ss.map strOfNums,(p:Int) + ((flatL ss).length:Int) + 2,0):=by
 intro ss
 induction ss with
 | nil =>
  intro p d h hs hd
  obtain ⟨d,rfl⟩ : ∃ m,d=m + 1:=⟨d - 1,by simp only [List.length_nil] at hd;omega⟩
  have hc:=cutT [] cln_nil r 2048 (by decide)
  rw [List.nil_append] at hc
  rw [tailS,h,flatL,List.nil_append,hc,if_neg (by decide),if_neg (by decide),if_pos ((str_nil []).2 rfl)]
  simp
 | cons s ss ih =>
  intro p d h hs hd
  obtain ⟨d,rfl⟩ : ∃ m,d=m + 1:=⟨d - 1,by simp only [List.length_cons] at hd;omega⟩
  obtain ⟨h1,h2,h3⟩:=hs s (List.mem_cons_self ..)
  have hfl:flatL (s :: ss) ++ ([13,10] ++ r)=s ++ ([13,10] ++ (flatL ss ++ ([13,10] ++ r))):=by rw [flatL,List.append_assoc,List.append_assoc]
  rw [hfl] at h
  have hc:=cutT s h1 (flatL ss ++ ([13,10] ++ r)) 2048 (by omega)
  have hd2:L.drop (p + (s.length + 2))=flatL ss ++ ([13,10] ++ r):=by
   rw [← List.drop_drop,h,← List.append_assoc,List.drop_append_of_le_length (by simp),List.drop_of_length_le (by simp),List.nil_append]
  rw [tailS,h,hc]
  simp only
  rw [if_neg (by decide),if_neg (by omega),if_neg (fun he=>h2 ((str_nil s).1 he)),show ((s.length:Int) + 2).toNat=s.length + 2 by omega,
   ih (p + (s.length + 2)) d hd2 (fun t ht=>hs t (List.mem_cons_of_mem _ ht)) (by simp only [List.length_cons] at hd;omega)]
  simp only [List.map_cons,flatL,List.length_append,List.length_cons,List.length_nil,Prod.mk.injEq,true_and,and_true]
  omega
theorem tail_split (L:List Int) (e:Int) : ∀ (d p:Nat),p ≤ L.length → (tailS L e d p).2.1 ≠ 0 →
 ∃ ss r,L.drop p=flatL ss ++ ([13,10] ++ r)∧LinesOk ss∧ss.length < d∧tailS L e d p=(ss.map strOfNums,(p:Int) + ((flatL ss).length:Int) + 2,0):=by
 intro d
 induction d with
 | zero=>intro p _ h;simp [tailS] at h
 | succ d ih =>
  intro p hp h
  have hsh:=cutS_shape (L.drop p) 2048
  have hsp:=cut_split (L.drop p) 2048
  have hdl:(L.drop p).length=L.length - p:=List.length_drop ..
  have hmx:mx 2048 0=2048:=by decide
  rw [hmx] at hsp
  rw [tailS] at h
  obtain ⟨c,hc⟩ : ∃ c,c=cutSpec (L.drop p) 2048:=⟨_,rfl⟩
  rw [← hc] at hsh hsp h
  by_cases h1:c.2.2=20
  ·rw [if_pos h1] at h;simp at h
  ·rw [if_neg h1] at h
   by_cases h2:c.2.1=0
   ·rw [if_pos h2] at h;simp at h
   ·rw [if_neg h2] at h
    have hcp:c.2.1 > 0:=by clear hsp ih;rcases hsh with h|h <;> omega
    obtain ⟨xs,r,e1,e2,e3,e4⟩:=hsp hcp
    clear hsp
    by_cases h3:c.1.toList=[]
    ·have:xs=[]:=by rw [e4] at h3;exact (str_nil xs).1 h3
     subst this
     refine ⟨[],r,by rw [e1];rfl,(fun t ht=>by cases ht),(by simp),tail_text L e r [] p (d + 1) (by rw [e1];rfl) (fun t ht=>by cases ht) (by simp)⟩
    ·rw [if_neg h3,e4] at h
     have hl:(L.drop p).length=xs.length + 2 + r.length:=by rw [e1];simp only [List.length_append,List.length_cons,List.length_nil];omega
     have hd2:L.drop (p + (xs.length + 2))=r:=by
      rw [← List.drop_drop,e1,← List.append_assoc,List.drop_append_of_le_length (by simp),List.drop_of_length_le (by simp),List.nil_append]
     simp only at h
     rw [show ((xs.length:Int) + 2).toNat=xs.length + 2 by omega] at h
     have hple:p + (xs.length + 2) ≤ L.length:=by clear hsh h e4;omega
     obtain ⟨ss,r',f1,f2,f3,f4⟩:=ih (p + (xs.length + 2)) hple h
     have hok:LinesOk (xs :: ss):=fun t ht=>by
      rcases List.mem_cons.1 ht with rfl|ht
      ·exact ⟨e2,fun hn=>h3 (by rw [e4];exact (str_nil _).2 hn),by omega⟩
      ·exact f2 t ht
     have hdr:L.drop p=flatL (xs :: ss) ++ ([13,10] ++ r'):=by
      rw [e1,← hd2,f1,flatL,List.append_assoc,List.append_assoc]
     exact ⟨xs :: ss,r',hdr,hok,by simp only [List.length_cons];omega,tail_text L e r' (xs :: ss) p (d + 1) hdr hok (by simp only [List.length_cons];omega)⟩
theorem flatL_len (ss:List (List Int)):ss.length ≤ (flatL ss).length:=by
 induction ss with
 | nil=>exact Nat.le_refl _
 | cons s ss ih=>simp only [flatL,List.length_append,List.length_cons,List.length_nil];omega
theorem lines_text (l:List Int) (e:Int) (s:List Int) (ss:List (List Int)) (r:List Int) (h:l=s ++ ([13,10] ++ (flatL ss ++ ([13,10] ++ r)))) (hs:Cln s) (hn:s.length ≤ 2048) (hss:LinesOk ss) :
 linesS l e=(strOfNums s :: ss.map strOfNums,(s.length:Int) + ((flatL ss).length:Int) + 4,0):=by
 have hc:=cutT s hs (flatL ss ++ ([13,10] ++ r)) 2048 (by omega)
 rw [← h] at hc
 have hd2:l.drop (s.length + 2)=flatL ss ++ ([13,10] ++ r):=by
  rw [h,← List.append_assoc,List.drop_append_of_le_length (by simp),List.drop_of_length_le (by simp),List.nil_append]
 have hf:=flatL_len ss
 have hl:l.length=s.length + 2 + (flatL ss).length + 2 + r.length:=by rw [h];simp only [List.length_append,List.length_cons,List.length_nil];omega
 unfold linesS
 rw [hc]
 simp only
 rw [if_neg (by decide),if_neg (by omega),show ((s.length:Int) + 2).toNat=s.length + 2 by omega,tail_text l e r ss (s.length + 2) (l.length + 1) hd2 hss (by omega)]
 simp only [Prod.mk.injEq,true_and,and_true]
 omega
theorem lines_split (l:List Int) (e:Int) (h:(linesS l e).2.1 ≠ 0) : ∃ s ss r,l=s ++ ([13,10] ++ (flatL ss ++ ([13,10] ++ r)))∧Cln s∧s.length ≤ 2048∧LinesOk ss:=by
 have hsh:=cutS_shape l 2048
 have hsp:=cut_split l 2048
 have hmx:mx 2048 0=2048:=by decide
 rw [hmx] at hsp
 unfold linesS at h
 obtain ⟨c,hc⟩ : ∃ c,c=cutSpec l 2048:=⟨_,rfl⟩
 rw [← hc] at hsh hsp h
 by_cases h1:c.2.2=20
 ·rw [if_pos h1] at h;simp at h
 ·rw [if_neg h1] at h
  by_cases h2:c.2.1=0
  ·rw [if_pos h2] at h;simp at h
  ·rw [if_neg h2] at h
   have hcp:c.2.1 > 0:=by clear hsp;rcases hsh with h|h <;> omega
   obtain ⟨xs,r,e1,e2,e3,e4⟩:=hsp hcp
   clear hsp
   rw [e4] at h
   simp only at h
   rw [show ((xs.length:Int) + 2).toNat=xs.length + 2 by omega] at h
   have hl:l.length=xs.length + 2 + r.length:=by rw [e1];simp only [List.length_append,List.length_cons,List.length_nil];omega
   have hd2:l.drop (xs.length + 2)=r:=by
    rw [e1,← List.append_assoc,List.drop_append_of_le_length (by simp),List.drop_of_length_le (by simp),List.nil_append]
   obtain ⟨ss,r',f1,f2,f3,f4⟩:=tail_split l e (l.length + 1) (xs.length + 2) (by omega) h
   exact ⟨xs,ss,r',by rw [← f1,hd2];exact e1,e2,by omega,f2⟩
/-- Lines end as lines do. -/
theorem flat_end : ∀ (ss:List (List Int)) (s:List Int),∃ pre,s ++ ([13,10] ++ flatL ss)=pre ++ [13,10]:=by
 intro ss
 induction ss with
 | nil=>intro s;exact ⟨s,by simp [flatL]⟩
 | cons t ss ih =>
  intro s
  obtain ⟨pre,h⟩:=ih (s ++ ([13,10] ++ t))
  exact ⟨pre,by rw [← h,flatL];simp only [List.append_assoc]⟩
theorem rd_lt (l:List Int) (i:Nat) (h:i < l.length):rd l (i:Int)=l[i]:=by
 simp [rd,List.getD_eq_getElem?_getD,List.getElem?_eq_getElem h]
/-- A bare end that is put into lines is found. -/
theorem bare_tail (T:List Int) (e c:Int) (R:List Int) (hc:c=10 ∨ c=13) : ∀ (ss:List (List Int)) (i p d:Nat),T.drop p=(flatL ss).take i ++ (c :: ((flatL ss).drop i ++ R)) → i < (flatL ss).length →
 rd (flatL ss) (i:Int) ≠ 10 → (c=13 → rd (flatL ss) (i:Int) ≠ 13) → LinesOk ss → ss.length < d → (tailS T e d p).2=(0,400) ∧ ∃ vs,ss.map strOfNums=(tailS T e d p).1 ++ vs:=by
 intro ss
 induction ss with
 | nil=>intro i p d _ h;exact absurd h (by simp [flatL])
 | cons s ss ih =>
  intro i p d hT hi h10 h13 hok hd
  obtain ⟨d,rfl⟩ : ∃ m,d=m + 1:=⟨d - 1,by simp only [List.length_cons] at hd;omega⟩
  obtain ⟨g1,g2,g3⟩:=hok s (List.mem_cons_self ..)
  have hF:flatL (s :: ss)=s ++ ([13,10] ++ flatL ss):=rfl
  rw [hF] at hT hi h10 h13
  by_cases c1:i ≤ s.length
  ·have e1:(s ++ ([13,10] ++ flatL ss)).take i=s.take i:=List.take_append_of_le_length c1
   have hcl:Cln (s.take i):=fun x hx=>g1 x (List.mem_of_mem_take hx)
   have hbad:BadEnd (c :: ((s ++ ([13,10] ++ flatL ss)).drop i ++ R)):=by
    rcases hc with rfl|rfl
    ·exact Or.inl ⟨_,rfl⟩
    ·have:=h13 rfl
     have hlt:i < s.length:=by
      rcases Nat.lt_or_ge i s.length with h|h
      ·exact h
      ·obtain rfl:i=s.length:=by omega
       exact absurd (by rw [rd_append_right _ _ _ (by omega),Int.sub_self];rfl) this
     rw [List.drop_eq_getElem_cons hi]
     exact Or.inr ⟨_,_,rfl,by rw [← rd_lt _ i hi];exact h10⟩
   have hcut:=cutB (s.take i) _ hcl hbad 2048 (by rw [List.length_take];omega)
   rw [tailS,hT,e1,hcut]
   exact ⟨rfl,_,(List.nil_append _).symm⟩
  ·by_cases c2:i=s.length + 1
   ·subst c2
    exact absurd (by rw [rd_append_right _ _ _ (by omega),show ((s.length + 1:Nat):Int) - s.length=1 by omega];rfl) h10
   ·obtain ⟨j,rfl⟩ : ∃ j,i=s.length + 2 + j:=⟨i - s.length - 2,by omega⟩
    have hl2:(s ++ [13,10]).length=s.length + 2:=by simp
    have e0:s ++ ([13,10] ++ flatL ss)=(s ++ [13,10]) ++ flatL ss:=(List.append_assoc ..).symm
    have e1:(s ++ ([13,10] ++ flatL ss)).take (s.length + 2 + j)=s ++ ([13,10] ++ (flatL ss).take j):=by
     rw [e0,List.take_append,hl2,List.take_of_length_le (by omega),show s.length + 2 + j - (s.length + 2)=j by omega,List.append_assoc]
    have e2:(s ++ ([13,10] ++ flatL ss)).drop (s.length + 2 + j)=(flatL ss).drop j:=by
     rw [e0,List.drop_append,hl2,List.drop_of_length_le (by omega),show s.length + 2 + j - (s.length + 2)=j by omega,List.nil_append]
    have e3:rd (s ++ ([13,10] ++ flatL ss)) ((s.length + 2 + j:Nat):Int)=rd (flatL ss) (j:Int):=by
     rw [e0,rd_append_right _ _ _ (by omega),hl2]
     congr 1
     omega
    have hlen:(s ++ ([13,10] ++ flatL ss)).length=s.length + 2 + (flatL ss).length:=by rw [e0,List.length_append,hl2]
    rw [e1,e2] at hT
    rw [e3] at h10 h13
    have hT2:T.drop p=s ++ ([13,10] ++ ((flatL ss).take j ++ (c :: ((flatL ss).drop j ++ R)))):=by rw [hT];simp only [List.append_assoc]
    have hcut:=cutT s g1 ((flatL ss).take j ++ (c :: ((flatL ss).drop j ++ R))) 2048 (by omega)
    have hd2:T.drop (p + (s.length + 2))=(flatL ss).take j ++ (c :: ((flatL ss).drop j ++ R)):=by
     rw [← List.drop_drop,hT2,← List.append_assoc,List.drop_append_of_le_length (by omega),List.drop_of_length_le (by omega),List.nil_append]
    obtain ⟨r1,vs,r2⟩:=ih j (p + (s.length + 2)) d hd2 (by omega) h10 h13 (fun t ht=>hok t (List.mem_cons_of_mem _ ht)) (by simp only [List.length_cons] at hd;omega)
    rw [tailS,hT2,hcut]
    simp only
    rw [if_neg (by decide),if_neg (by omega),if_neg (fun he=>g2 ((str_nil s).1 he)),show ((s.length:Int) + 2).toNat=s.length + 2 by omega]
    exact ⟨r1,vs,by rw [List.map_cons,r2];rfl⟩
theorem bare_lines (l:List Int) (e c:Int) (hc:c=10 ∨ c=13) (s:List Int) (ss:List (List Int)) (r:List Int) (i:Nat) (h:l=s ++ ([13,10] ++ (flatL ss ++ ([13,10] ++ r)))) (hs:Cln s) (hn:s.length ≤ 2048) (hok:LinesOk ss)
 (hi:i < s.length + 2 + (flatL ss).length) (h10:rd l (i:Int) ≠ 10) (h13:c=13 → rd l (i:Int) ≠ 13) :
 (linesS (l.take i ++ (c :: l.drop i)) e).2=(0,400)∧((linesS (l.take i ++ (c :: l.drop i)) e).1=[] ∨ ∃ us vs,(linesS (l.take i ++ (c :: l.drop i)) e).1=strOfNums s :: us∧ss.map strOfNums=us ++ vs):=by
 by_cases c1:i ≤ s.length
 ·have e1:l.take i=s.take i:=by rw [h];exact List.take_append_of_le_length c1
  have hcl:Cln (s.take i):=fun x hx=>hs x (List.mem_of_mem_take hx)
  have hl:i < l.length:=by rw [h];simp only [List.length_append,List.length_cons,List.length_nil];omega
  have hbad:BadEnd (c :: l.drop i):=by
   rcases hc with rfl|rfl
   ·exact Or.inl ⟨_,rfl⟩
   ·have:=h13 rfl
    rw [List.drop_eq_getElem_cons hl]
    exact Or.inr ⟨_,_,rfl,by rw [← rd_lt _ i hl];exact h10⟩
  have hcut:=cutB (s.take i) _ hcl hbad 2048 (by rw [List.length_take];omega)
  unfold linesS
  rw [e1,hcut]
  exact ⟨rfl,Or.inl rfl⟩
 ·have hl2:(s ++ [13,10]).length=s.length + 2:=by simp
  have e0:l=(s ++ [13,10]) ++ (flatL ss ++ ([13,10] ++ r)):=by rw [h];simp only [List.append_assoc]
  by_cases c2:i=s.length + 1
  ·subst c2
   exact absurd (by rw [h,rd_append_right _ _ _ (by omega),show ((s.length + 1:Nat):Int) - s.length=1 by omega];rfl) h10
  ·obtain ⟨j,rfl⟩ : ∃ j,i=s.length + 2 + j:=⟨i - s.length - 2,by omega⟩
   have e1:l.take (s.length + 2 + j)=s ++ ([13,10] ++ (flatL ss).take j):=by
    rw [e0,List.take_append,hl2,List.take_of_length_le (by omega),show s.length + 2 + j - (s.length + 2)=j by omega,List.take_append_of_le_length (by omega),List.append_assoc]
   have e2:l.drop (s.length + 2 + j)=(flatL ss).drop j ++ ([13,10] ++ r):=by
    rw [e0,List.drop_append,hl2,List.drop_of_length_le (by omega),show s.length + 2 + j - (s.length + 2)=j by omega,List.nil_append,List.drop_append_of_le_length (by omega)]
   have e3:rd l ((s.length + 2 + j:Nat):Int)=rd (flatL ss) (j:Int):=by
    rw [e0,rd_append_right _ _ _ (by omega),hl2,show ((s.length + 2 + j:Nat):Int) - ((s.length + 2:Nat):Int)=(j:Int) by omega,rd_append_left _ _ _ (by omega) (by omega)]
   rw [e3] at h10 h13
   obtain ⟨T,hT⟩ : ∃ T,T=l.take (s.length + 2 + j) ++ (c :: l.drop (s.length + 2 + j)):=⟨_,rfl⟩
   rw [← hT]
   rw [e1,e2] at hT
   have hT2:T=s ++ ([13,10] ++ ((flatL ss).take j ++ (c :: ((flatL ss).drop j ++ ([13,10] ++ r))))):=by rw [hT];simp only [List.append_assoc]
   have hcut:=cutT s hs ((flatL ss).take j ++ (c :: ((flatL ss).drop j ++ ([13,10] ++ r)))) 2048 (by omega)
   rw [← hT2] at hcut
   have hd2:T.drop (s.length + 2)=(flatL ss).take j ++ (c :: ((flatL ss).drop j ++ ([13,10] ++ r))):=by
    rw [hT2,← List.append_assoc,List.drop_append_of_le_length (by omega),List.drop_of_length_le (by omega),List.nil_append]
   have hTl:ss.length < T.length + 1:=by
    have:=flatL_len ss
    rw [hT]
    simp only [List.length_append,List.length_cons,List.length_take,List.length_drop]
    omega
   obtain ⟨r1,vs,r2⟩:=bare_tail T e c ([13,10] ++ r) hc ss j (s.length + 2) (T.length + 1) hd2 (by omega) h10 h13 hok hTl
   unfold linesS
   rw [hcut]
   simp only
   rw [if_neg (by decide),if_neg (by omega),show ((s.length:Int) + 2).toNat=s.length + 2 by omega]
   exact ⟨r1,Or.inr ⟨_,vs,rfl,r2⟩⟩
/-- A request with a bare end in its head is none. -/
theorem bare_open (l:List Int) (hl:l.length ≤ 2000) (c:Int) (hc:c=10 ∨ c=13) (ho:OpenOk l (openS l)) (i:Nat) (hi:(i:Int) < (openS l).2.2.2.2.2.1 - 2) (h10:rd l (i:Int) ≠ 10) (h13:c=13 → rd l (i:Int) ≠ 13) :
 openS (l.take i ++ (c :: l.drop i))=openBad 400:=by
 have hpos:=ho.pos
 have hle:=ho.le
 have eb:bdS l=l:=by unfold bdS;rw [List.take_of_length_le (by omega)]
 have hTl:(l.take i ++ (c :: l.drop i)).length=l.length + 1:=by
  rw [List.length_append,List.length_cons,List.length_take,List.length_drop]
  omega
 have eT:bdS (l.take i ++ (c :: l.drop i))=l.take i ++ (c :: l.drop i):=by unfold bdS;rw [List.take_of_length_le (by omega)]
 unfold openS at ho hpos hi ⊢
 rw [eb] at ho hpos hi
 rw [eT]
 have hsp:=lines_split l (extS l)
 have hn:(linesS l (extS l)).2.1 ≠ 0:=by
  intro hz
  obtain ⟨L,hL⟩ : ∃ L,L=linesS l (extS l):=⟨_,rfl⟩
  rw [← hL] at hz hpos
  obtain ⟨ss,n,cc⟩:=L
  simp only at hz
  subst hz
  cases ss with
  | nil=>exact (Int.lt_irrefl 0 hpos).elim
  | cons s ss =>
   rw [openL] at hpos
   split at hpos
   ·split at hpos
    ·rw [if_pos rfl] at hpos;exact (Int.lt_irrefl 0 hpos).elim
    ·exact (Int.lt_irrefl 0 hpos).elim
   ·exact (Int.lt_irrefl 0 hpos).elim
 obtain ⟨s,ss,r,e1,e2,e3,e4⟩:=hsp hn
 have hlt:=lines_text l (extS l) s ss r e1 e2 e3 e4
 rw [hlt,openL] at hpos hi
 have hg1:(reqSpec (strOfNums s).data.toList).2.2.2.2.2=0:=by
  by_cases h:(reqSpec (strOfNums s).data.toList).2.2.2.2.2=0
  ·exact h
  ·rw [if_neg h] at hpos;exact (Int.lt_irrefl 0 hpos).elim
 rw [if_pos hg1] at hpos hi
 have hg2:(fieldsS (ss.map strOfNums) 0).2=0:=by
  by_cases h:(fieldsS (ss.map strOfNums) 0).2=0
  ·exact h
  ·rw [if_neg h] at hpos;exact (Int.lt_irrefl 0 hpos).elim
 rw [if_pos hg2,if_neg (by omega)] at hpos hi
 have hat:(openF (reqSpec (strOfNums s).data.toList) (fieldsS (ss.map strOfNums) 0).1 ((s.length:Int) + ((flatL ss).length:Int) + 4)).2.2.2.2.2.1 ≤ (s.length:Int) + ((flatL ss).length:Int) + 4:=by
  unfold openF
  split
  ·split
   ·exact Int.le_refl _
   ·show (0:Int) ≤ _;omega
  ·show (0:Int) ≤ _;omega
 obtain ⟨b1,b2⟩:=bare_lines l (extS (l.take i ++ (c :: l.drop i))) c hc s ss r i e1 e2 e3 e4 (by omega) h10 h13
 obtain ⟨M,hM⟩ : ∃ M,M=linesS (l.take i ++ (c :: l.drop i)) (extS (l.take i ++ (c :: l.drop i))):=⟨_,rfl⟩
 rw [← hM] at b1 b2 ⊢
 obtain ⟨us,n,cc⟩:=M
 simp only [Prod.mk.injEq] at b1 b2
 obtain ⟨rfl,rfl⟩:=b1
 rcases b2 with rfl|⟨us,vs,rfl,hv⟩
 ·rfl
 ·rw [openL,if_pos hg1]
  have hg3:(fieldsS us 0).2=0:=by
   by_cases h:(fieldsS us 0).2=0
   ·exact h
   ·rw [hv,fieldsS_more us vs 0 h] at hg2
    exact absurd hg2 h
  rw [if_pos hg3,if_pos rfl]
end Go.Proofs.YtfjeinnemimjoaaGreatDoor.Pure
