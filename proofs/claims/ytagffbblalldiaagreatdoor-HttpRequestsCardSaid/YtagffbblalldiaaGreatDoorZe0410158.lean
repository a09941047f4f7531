/- Each function below answers as its Lean twin says; plain lemmas; a row where its theorem stands. No further condition. (Laid by this repo's pack.py out of its texts and of the print's words.) -/
import Derived.Test.YtagffbblalldiaaGreatDoorZ8a043510
import Derived.Test.YtagffbblalldiaaGreatDoorZ0d28d0b5
import Derived.Test.YtagffbblalldiaaGreatDoorZ71c394fb
import Derived.Test.YtagffbblalldiaaGreatDoorZbf959539
import Derived.Test.YtagffbblalldiaaGreatDoorZfe73ff2b
import Derived.Lib.SlBytesConst
import Derived.Deep.RegionHeld3
import Derived.Lib.IndexBytes
import Derived.Lib.Strings
import Derived.Shelf.Strings.SlTrimAscii
import Derived.Lib.SlTrimSet
import Derived.Lib.LastIndexByte
namespace Go.Proofs.YtagffbblalldiaaGreatDoor.P
open Go.RowKit Go.Proofs.YtagffbblalldiaaGreatDoorW.PrintWords Go.Proofs.YtagffbblalldiaaGreatDoorW.PrintLast Go.Proofs.YtagffbblalldiaaGreatDoorW.PrintMore
attribute [local go_sem] max2_int min2_int max_two min_two max_three min_three max_four min_four
set_option linter.unusedVariables false
set_option linter.unusedSimpArgs false
def as_b:List Int:=[71,69,84,32,47,32,72,84,84,80,47,49,46,49,13,10,72,111,115,116,58,32,97,13,10,13,10]
def as_n:List Int:=[71,69,84,32,47,32,72,84,84,80,47,49,46,49,10,72,111,115,116,58,32,97,13,10,13,10]
def as_w:List Int:=[80,85,84,32,47,32,72,84,84,80,47,49,46,49,13,10,72,111,115,116,58,32,97,13,10,69,120,112,101,99,116,58,32,49,48,48,45,67,111,110,116,105,110,117,101,13,10,67,111,110,116,101,110,116,45,76,101,110,103,116,104,58,32,50,13,10,13,10,97]
def as_fs:List (S36):=[⟨⟨#[72,111,115,116]⟩,⟨#[97]⟩⟩]
theorem as_1:http_Request.f 80 (as_b ++ bytesOf ⟨#[109,111,114,101]⟩)=some (⟨#[71,69,84]⟩,⟨#[47]⟩,1,as_fs,[],27,0):=by kernel_rfl
theorem as_2:http_Request.f 80 (as_b.take 20)=some (⟨#[]⟩,⟨#[]⟩,0,[],[],0,0):=by kernel_rfl
theorem as_3:http_Request.f 80 as_n=some (⟨#[]⟩,⟨#[]⟩,0,[],[],0,400):=by kernel_rfl
theorem as_4:http_Host.f 80 ⟨#[71,69,84]⟩ ⟨#[47]⟩ 1 as_fs []=some ⟨#[97]⟩:=by kernel_rfl
theorem as_5:http_WriteRequest.f 80 ⟨#[71,69,84]⟩ ⟨#[47]⟩ 1 as_fs []=some as_b:=by kernel_rfl
theorem as_6:tollbarref01_SameBytes.f 80 as_b as_b=some true:=by kernel_rfl
theorem as_7:http_Waits.f 80 as_w=some true:=by kernel_rfl
theorem as_8:http_Waits.f 80 as_b=some false:=by kernel_rfl
def tollbarlaw08_asking.f:Option Bool:=some true
set_option maxHeartbeats 8000000 in
set_option maxRecDepth 100000 in
theorem tollbarlaw08_asking.calls (r:Bool) (w:World) (h:tollbarlaw08_asking.f=some r) (ht:Tabs w) :
 Calls Tryz.prog 11 #[] w fun e w' => e = .returned (.bool r)∧Below w.heap.size w w' := by
 obtain rfl:=Option.some.inj h
 clear h
 have HTB:=Aside0.mk ht
 clear ht
 have hu3:=Tryz.underlying26
 have kc:=fun (w:World) (C:Array Value) (n c:Nat)=>Lib.run_convert_bytes_const (P:=Tryz.prog) w 22 5 C n c Tryz.underlying22 Tryz.underlying5
 have CB:=Aside0.mk (show Kd.C (Kd.int .u8) (w.alloc (.cells #[.int .u8 71,.int .u8 69,.int .u8 84,.int .u8 32,.int .u8 47,.int .u8 32,.int .u8 72,.int .u8 84,.int .u8 84,.int .u8 80,.int .u8 47,.int .u8 49,.int .u8 46,.int .u8 49,.int .u8 13,.int .u8 10,.int .u8 72,.int .u8 111,.int .u8 115,.int .u8 116,.int .u8 58,.int .u8 32,.int .u8 97,.int .u8 13,.int .u8 10,.int .u8 13,.int .u8 10] 5 (27,28))) (some ⟨w.heap.size,0,none⟩) as_b.length as_b from C_const w 5 as_b (27,28) zb78)
 have B0:=Aside0.mk (below_alloc (Below.refl w.heap.size w) (.cells #[.int .u8 71,.int .u8 69,.int .u8 84,.int .u8 32,.int .u8 47,.int .u8 32,.int .u8 72,.int .u8 84,.int .u8 84,.int .u8 80,.int .u8 47,.int .u8 49,.int .u8 46,.int .u8 49,.int .u8 13,.int .u8 10,.int .u8 72,.int .u8 111,.int .u8 115,.int .u8 116,.int .u8 58,.int .u8 32,.int .u8 97,.int .u8 13,.int .u8 10,.int .u8 13,.int .u8 10] 5 (27,28)))
 obtain ⟨i0,hi0,hz0,hsz0,hby0⟩:=info_parts info5
 have HI:=Aside0.mk (And.intro hi0 (And.intro hz0 (And.intro hsz0 hby0)))
 clear hi0 hz0 hsz0 hby0
 have BE : ∀ V:World,BufM V (w.alloc (.cells #[.int .u8 71,.int .u8 69,.int .u8 84,.int .u8 32,.int .u8 47,.int .u8 32,.int .u8 72,.int .u8 84,.int .u8 84,.int .u8 80,.int .u8 47,.int .u8 49,.int .u8 46,.int .u8 49,.int .u8 13,.int .u8 10,.int .u8 72,.int .u8 111,.int .u8 115,.int .u8 116,.int .u8 58,.int .u8 32,.int .u8 97,.int .u8 13,.int .u8 10,.int .u8 13,.int .u8 10] 5 (27,28))).heap.size (.slice (some ⟨w.heap.size + 1,0,none⟩) 0 0) []:=fun V=>⟨w.heap.size + 1,0,rfl,zb24,Nat.le_refl _,fun j u h=>by simp at h,fun j h=>by omega⟩
 have BEE:=Aside0.mk BE
 clear BE
 go_enter Tryz.func11,Tryz.ntmps11
 go_wp2_with (first
  | ((with_reducible refine gate_builtin (b:=.append) (xs:=#[.tmp 14,.tmp 15]) rfl ?_);at_builtin;refine wp_bufM rfl (.tmp 14) (.tmp 15) 22 22 rfl (w.alloc (.cells #[.int .u8 71,.int .u8 69,.int .u8 84,.int .u8 32,.int .u8 47,.int .u8 32,.int .u8 72,.int .u8 84,.int .u8 84,.int .u8 80,.int .u8 47,.int .u8 49,.int .u8 46,.int .u8 49,.int .u8 13,.int .u8 10,.int .u8 72,.int .u8 111,.int .u8 115,.int .u8 116,.int .u8 58,.int .u8 32,.int .u8 97,.int .u8 13,.int .u8 10,.int .u8 13,.int .u8 10] 5 (27,28))).heap.size 5 i0 Tryz.underlying22 HI.out.1 HI.out.2.1 HI.out.2.2.1 HI.out.2.2.2 _ (.slice (some ⟨w.heap.size,0,none⟩) as_b.length 27) [] as_b rfl rfl (BEE.out _) (src_ints Tryz.underlying22 (Kd.C_alloc CB.out _)) zb78 (below_alloc (Below.refl (w.alloc (.cells #[.int .u8 71,.int .u8 69,.int .u8 84,.int .u8 32,.int .u8 47,.int .u8 32,.int .u8 72,.int .u8 84,.int .u8 84,.int .u8 80,.int .u8 47,.int .u8 49,.int .u8 46,.int .u8 49,.int .u8 13,.int .u8 10,.int .u8 72,.int .u8 111,.int .u8 115,.int .u8 116,.int .u8 58,.int .u8 32,.int .u8 97,.int .u8 13,.int .u8 10,.int .u8 13,.int .u8 10] 5 (27,28))).heap.size (w.alloc (.cells #[.int .u8 71,.int .u8 69,.int .u8 84,.int .u8 32,.int .u8 47,.int .u8 32,.int .u8 72,.int .u8 84,.int .u8 84,.int .u8 80,.int .u8 47,.int .u8 49,.int .u8 46,.int .u8 49,.int .u8 13,.int .u8 10,.int .u8 72,.int .u8 111,.int .u8 115,.int .u8 116,.int .u8 58,.int .u8 32,.int .u8 97,.int .u8 13,.int .u8 10,.int .u8 13,.int .u8 10] 5 (27,28)))) _).size ?_;intro v3 w3 hB3 hb3;obtain ⟨y3,hy3⟩ : ∃ y,y=([]:List Int) ++ as_b:=⟨_,rfl⟩;rw [← hy3] at hB3;obtain ⟨A3,c3,e3⟩:=hB3.form;subst e3;have Y3:=Aside0.mk hy3;have BU3:=Aside0.mk hB3;have L3:=Aside0.mk ((below_alloc (Below.refl (w.alloc (.cells #[.int .u8 71,.int .u8 69,.int .u8 84,.int .u8 32,.int .u8 47,.int .u8 32,.int .u8 72,.int .u8 84,.int .u8 84,.int .u8 80,.int .u8 47,.int .u8 49,.int .u8 46,.int .u8 49,.int .u8 13,.int .u8 10,.int .u8 72,.int .u8 111,.int .u8 115,.int .u8 116,.int .u8 58,.int .u8 32,.int .u8 97,.int .u8 13,.int .u8 10,.int .u8 13,.int .u8 10] 5 (27,28))).heap.size (w.alloc (.cells #[.int .u8 71,.int .u8 69,.int .u8 84,.int .u8 32,.int .u8 47,.int .u8 32,.int .u8 72,.int .u8 84,.int .u8 84,.int .u8 80,.int .u8 47,.int .u8 49,.int .u8 46,.int .u8 49,.int .u8 13,.int .u8 10,.int .u8 72,.int .u8 111,.int .u8 115,.int .u8 116,.int .u8 58,.int .u8 32,.int .u8 97,.int .u8 13,.int .u8 10,.int .u8 13,.int .u8 10] 5 (27,28)))) (.cells #[] 5)).trans hb3);clear hy3 hB3 hb3)
  | ((with_reducible refine gate_builtin (b:=.append) (xs:=#[.tmp 16,.const (.string ⟨#[109,111,114,101]⟩)]) rfl ?_);at_builtin;refine wp_bufM rfl (.tmp 16) (.const (.string ⟨#[109,111,114,101]⟩)) 22 9 rfl (w.alloc (.cells #[.int .u8 71,.int .u8 69,.int .u8 84,.int .u8 32,.int .u8 47,.int .u8 32,.int .u8 72,.int .u8 84,.int .u8 84,.int .u8 80,.int .u8 47,.int .u8 49,.int .u8 46,.int .u8 49,.int .u8 13,.int .u8 10,.int .u8 72,.int .u8 111,.int .u8 115,.int .u8 116,.int .u8 58,.int .u8 32,.int .u8 97,.int .u8 13,.int .u8 10,.int .u8 13,.int .u8 10] 5 (27,28))).heap.size 5 i0 Tryz.underlying22 HI.out.1 HI.out.2.1 HI.out.2.2.1 HI.out.2.2.2 _ (.string ⟨#[109,111,114,101]⟩) y3 (bytesOf ⟨#[109,111,114,101]⟩) rfl rfl BU3.out (src_bytes _ Tryz.underlying9 ⟨#[109,111,114,101]⟩) (by rw [Y3.out];decide) L3.out.size ?_;intro v4 w4 hB4 hb4;obtain ⟨y4,hy4⟩ : ∃ y,y=y3 ++ bytesOf ⟨#[109,111,114,101]⟩:=⟨_,rfl⟩;rw [← hy4] at hB4;obtain ⟨A4,c4,e4⟩:=hB4.form;subst e4;have Y4:=Aside0.mk (show y4=as_b ++ bytesOf ⟨#[109,111,114,101]⟩ by rw [hy4,Y3.out];rfl);have BU4:=Aside0.mk hB4;have LW:=Aside0.mk (L3.out.trans hb4);have L4:=Aside0.mk (B0.out.trans (hbase2 B0.out.size (L3.out.trans hb4)));have CB4:=Aside0.mk (Kd.C_below CB.out (L3.out.trans hb4));clear hy4 hB4 hb4))
 go_at_call 12
 refine (http_Request.calls 80 A4 c4 y4 _ _ _ _ _ _ _ w4 (BufM.reads' BU4.out (by rw [Y4.out];decide)).2.2 (BufM.reads' BU4.out (by rw [Y4.out];decide)).2.1 (by rw [Y4.out];exact as_1)).mono ?_
 rintro e w5 ⟨v1,v2,rfl,h1,h2,hb⟩
 obtain ⟨A1,c1,rfl,hl1,hC1⟩:=Kd.R_reads h1
 obtain ⟨A2,c2,rfl⟩:=Kd.R_slice h2
 have B5:=Aside0.mk (below_alloc (below_step L4.out hb) (.cells #[.string ⟨#[71,69,84]⟩,.string ⟨#[47]⟩,.int .i64 1,.slice A1 1 c1,.slice A2 0 c2] 26 (0,0)))
 have R1:=Aside0.mk (Kd.C_alloc hC1 (.cells #[.string ⟨#[71,69,84]⟩,.string ⟨#[47]⟩,.int .i64 1,.slice A1 1 c1,.slice A2 0 c2] 26 (0,0)))
 have X5:=Aside0.mk (blk_new w5 (.cells #[.string ⟨#[71,69,84]⟩,.string ⟨#[47]⟩,.int .i64 1,.slice A1 1 c1,.slice A2 0 c2] 26 (0,0)))
 have C5:=Aside0.mk (Kd.C_alloc (Kd.C_below CB4.out hb) (.cells #[.string ⟨#[71,69,84]⟩,.string ⟨#[47]⟩,.int .i64 1,.slice A1 1 c1,.slice A2 0 c2] 26 (0,0)))
 clear h1 h2 hC1 hb
 obtain ⟨hsl,hrd,hcc⟩:=print_take_of (P:=Tryz.prog) (Value.int .u8) 0 22 5 .i64 Tryz.underlying22 HI.out.1 HI.out.2.2.1 (some ⟨w.heap.size,0,none⟩) 27 as_b 20 zb78 zb78 zb78
 have C6:=Aside0.mk (Kd.C_of_reads (h1:=fun _=>rfl) (hrd _ (Kd.reads_of_C C5.out)))
 have hsl' : ∀ W:World,(Instr.slice 22 (.slice (some ⟨w.heap.size,0,none⟩) 27 27) none (some (.int .i64 20)) none).run Tryz.prog W = .ok (.slice (some ⟨w.heap.size,0,none⟩) 20 27) W:=hsl
 clear hsl hrd hcc
 simp only [show as_fs.length=1 from rfl,List.length_nil]
 go_wp2_with fail
 go_at_call 12
 refine (http_Request.calls 80 (some ⟨w.heap.size,0,none⟩) 27 (as_b.take 20) _ _ _ _ _ _ _ _ C6.out zb78 as_2).mono ?_
 rintro e w6 ⟨v3,v4,rfl,h3,h4,hb⟩
 obtain ⟨A5,c5,rfl⟩:=Kd.R_slice h3
 obtain ⟨A6,c6,rfl⟩:=Kd.R_slice h4
 have B6:=Aside0.mk (below_alloc (below_step B5.out hb) (.cells #[.string ⟨#[]⟩,.string ⟨#[]⟩,.int .i64 0,.slice A5 0 c5,.slice A6 0 c6] 26 (0,0)))
 have C7:=Aside0.mk (Kd.C_alloc (Kd.C_below C5.out hb) (.cells #[.string ⟨#[]⟩,.string ⟨#[]⟩,.int .i64 0,.slice A5 0 c5,.slice A6 0 c6] 26 (0,0)))
 have R2:=Aside0.mk (Kd.C_alloc (Kd.C_below R1.out hb) (.cells #[.string ⟨#[]⟩,.string ⟨#[]⟩,.int .i64 0,.slice A5 0 c5,.slice A6 0 c6] 26 (0,0)))
 have X6:=Aside0.mk (blk_alloc (blk_below X5.out hb) (.cells #[.string ⟨#[]⟩,.string ⟨#[]⟩,.int .i64 0,.slice A5 0 c5,.slice A6 0 c6] 26 (0,0)))
 have hz:(w6.alloc (.cells #[.string ⟨#[]⟩,.string ⟨#[]⟩,.int .i64 0,.slice A5 0 c5,.slice A6 0 c6] 26 (0,0))).heap.size=w6.heap.size + 1:=by simp
 have kc2:=Lib.run_convert_bytes_const (P:=Tryz.prog) (w6.alloc (.cells #[.string ⟨#[]⟩,.string ⟨#[]⟩,.int .i64 0,.slice A5 0 c5,.slice A6 0 c6] 26 (0,0))) 22 5 #[.int .u8 71,.int .u8 69,.int .u8 84,.int .u8 32,.int .u8 47,.int .u8 32,.int .u8 72,.int .u8 84,.int .u8 84,.int .u8 80,.int .u8 47,.int .u8 49,.int .u8 46,.int .u8 49,.int .u8 10,.int .u8 72,.int .u8 111,.int .u8 115,.int .u8 116,.int .u8 58,.int .u8 32,.int .u8 97,.int .u8 13,.int .u8 10,.int .u8 13,.int .u8 10] 26 26 Tryz.underlying22 Tryz.underlying5
 rw [hz] at kc2
 have hcn:=C_const (w6.alloc (.cells #[.string ⟨#[]⟩,.string ⟨#[]⟩,.int .i64 0,.slice A5 0 c5,.slice A6 0 c6] 26 (0,0))) 5 as_n (26,27) zb78
 rw [hz] at hcn
 have CN:=Aside0.mk hcn
 clear h3 h4 hb hcn hz hsl'
 simp only [List.length_nil]
 go_wp2_with fail
 go_at_call 12
 refine (http_Request.calls 80 (some ⟨w6.heap.size + 1,0,none⟩) 26 as_n _ _ _ _ _ _ _ _ CN.out zb78 as_3).mono ?_
 rintro e w7 ⟨v5,v6,rfl,h5,h6,hb⟩
 obtain ⟨A7,c7,rfl⟩:=Kd.R_slice h5
 obtain ⟨A8,c8,rfl⟩:=Kd.R_slice h6
 have B7:=Aside0.mk (below_alloc (below_step (below_alloc B6.out _) hb) (.cells #[.string ⟨#[]⟩,.string ⟨#[]⟩,.int .i64 0,.slice A7 0 c7,.slice A8 0 c8] 26 (0,0)))
 have C8:=Aside0.mk (Kd.C_alloc (Kd.C_below (Kd.C_alloc C7.out _) hb) (.cells #[.string ⟨#[]⟩,.string ⟨#[]⟩,.int .i64 0,.slice A7 0 c7,.slice A8 0 c8] 26 (0,0)))
 have R3:=Aside0.mk (Kd.C_alloc (Kd.C_below (Kd.C_alloc R2.out _) hb) (.cells #[.string ⟨#[]⟩,.string ⟨#[]⟩,.int .i64 0,.slice A7 0 c7,.slice A8 0 c8] 26 (0,0)))
 have X7:=Aside0.mk (blk_alloc (blk_below (blk_alloc X6.out _) hb) (.cells #[.string ⟨#[]⟩,.string ⟨#[]⟩,.int .i64 0,.slice A7 0 c7,.slice A8 0 c8] 26 (0,0)))
 have q0:(w7.alloc (.cells #[.string ⟨#[]⟩,.string ⟨#[]⟩,.int .i64 0,.slice A7 0 c7,.slice A8 0 c8] 26 (0,0))).cell? ⟨w5.heap.size,0,none⟩=some (.string ⟨#[71,69,84]⟩):=(blk_cell X7.out 0).trans rfl
 have q1:(w7.alloc (.cells #[.string ⟨#[]⟩,.string ⟨#[]⟩,.int .i64 0,.slice A7 0 c7,.slice A8 0 c8] 26 (0,0))).cell? ⟨w5.heap.size,1,none⟩=some (.string ⟨#[47]⟩):=(blk_cell X7.out 1).trans rfl
 have q2:(w7.alloc (.cells #[.string ⟨#[]⟩,.string ⟨#[]⟩,.int .i64 0,.slice A7 0 c7,.slice A8 0 c8] 26 (0,0))).cell? ⟨w5.heap.size,2,none⟩=some (.int .i64 1):=(blk_cell X7.out 2).trans rfl
 have q3:(w7.alloc (.cells #[.string ⟨#[]⟩,.string ⟨#[]⟩,.int .i64 0,.slice A7 0 c7,.slice A8 0 c8] 26 (0,0))).cell? ⟨w5.heap.size,3,none⟩=some (.slice A1 1 c1):=(blk_cell X7.out 3).trans rfl
 have q4:(w7.alloc (.cells #[.string ⟨#[]⟩,.string ⟨#[]⟩,.int .i64 0,.slice A7 0 c7,.slice A8 0 c8] 26 (0,0))).cell? ⟨w5.heap.size,4,none⟩=some (.slice A2 0 c2):=(blk_cell X7.out 4).trans rfl
 clear h5 h6 hb kc2
 simp only [List.length_nil]
 go_wp2_with fail
 go_at_call 19
 refine (http_Host.calls 80 ⟨#[71,69,84]⟩ ⟨#[47]⟩ 1 A1 c1 as_fs A2 c2 [] ⟨#[97]⟩ _ R3.out hl1 ⟨rfl,zb24,fun h=>absurd h (Nat.lt_irrefl 0)⟩ (Nat.zero_le _) as_4).mono ?_
 rintro e w8 ⟨rfl,hb⟩
 have B8:=Aside0.mk (below_step B7.out hb)
 have C9:=Aside0.mk (Kd.C_below C8.out hb)
 have R4:=Aside0.mk (Kd.C_below R3.out hb)
 have X8:=Aside0.mk (blk_below X7.out hb)
 have q0:w8.cell? ⟨w5.heap.size,0,none⟩=some (.string ⟨#[71,69,84]⟩):=(blk_cell X8.out 0).trans rfl
 have q1:w8.cell? ⟨w5.heap.size,1,none⟩=some (.string ⟨#[47]⟩):=(blk_cell X8.out 1).trans rfl
 have q2:w8.cell? ⟨w5.heap.size,2,none⟩=some (.int .i64 1):=(blk_cell X8.out 2).trans rfl
 have q3:w8.cell? ⟨w5.heap.size,3,none⟩=some (.slice A1 1 c1):=(blk_cell X8.out 3).trans rfl
 have q4:w8.cell? ⟨w5.heap.size,4,none⟩=some (.slice A2 0 c2):=(blk_cell X8.out 4).trans rfl
 clear hb
 go_wp2_with fail
 go_at_call 24
 refine (http_WriteRequest.callsB 80 ⟨#[71,69,84]⟩ ⟨#[47]⟩ 1 A1 c1 as_fs A2 c2 [] as_b w8 R4.out hl1 ⟨rfl,zb24,fun h=>absurd h (Nat.lt_irrefl 0)⟩ (Nat.zero_le _) as_5 (HTB.out.below B8.out)).mono ?_
 rintro e w9 ⟨v7,rfl,hB,hb⟩
 obtain ⟨A9,c9,rfl,hl9,hC9⟩:=hB.reads zb78
 have B9:=Aside0.mk (below_step B8.out hb)
 have C10:=Aside0.mk (Kd.C_below C9.out hb)
 have R9:=Aside0.mk hC9
 clear hB hC9 hb
 go_wp2_with fail
 go_at_call 25
 refine (tollbarref01_SameBytes.calls 80 A9 c9 as_b (some ⟨w.heap.size,0,none⟩) 27 as_b true w9 R9.out hl9 C10.out zb78 as_6).mono ?_
 rintro e w10 ⟨rfl,hd⟩
 have hb:Below w9.heap.size w9 w10:=by
  obtain ⟨n,rfl⟩:=hd.out
  exact pw_below_drewN (Below.refl _ _) _
 have B10:=Aside0.mk (below_step B9.out hb)
 have C11:=Aside0.mk (Kd.C_below C10.out hb)
 clear hd hb
 go_wp2_with fail
 go_at_call 17
 refine (http_Waits.calls 80 (some ⟨w10.heap.size,0,none⟩) 69 as_w true _ (C_const w10 5 as_w (69,70) zb78) zb78 as_7).mono ?_
 rintro e w11 ⟨rfl,hb⟩
 have B11:=Aside0.mk (below_step (below_alloc B10.out _) hb)
 have C12:=Aside0.mk (Kd.C_below (Kd.C_alloc C11.out _) hb)
 clear hb
 go_wp2_with fail
 go_at_call 17
 refine (http_Waits.calls 80 (some ⟨w.heap.size,0,none⟩) 27 as_b false w11 C12.out zb78 as_8).mono ?_
 rintro e w12 ⟨rfl,hb⟩
 have B12:=Aside0.mk (below_step B11.out hb)
 clear hb
 go_wp2
 go_ret
 exact ⟨zb130,B12.out⟩
/-- A variable that holds a request,as it is read. -/
structure RV (w:World) (g:Nat) (m t:ByteArray) (mi:Int) (A:Option Addr) (c:Nat) (fs:List (S36)) (B:Option Addr) (e:Nat) (b:List Int):Prop where
 blk:w.heap[g]? = some (.cells #[.string m,.string t,.int .i64 mi,.slice A fs.length c,.slice B b.length e] 26 (0,0))
 fields:Kd.C k36 w A fs.length fs
 fcap:fs.length ≤ c
 body:Kd.C (Kd.int .u8) w B b.length b
 bcap:b.length ≤ e
theorem RV.below {w w1:World} {g:Nat} {m t:ByteArray} {mi:Int} {A B:Option Addr} {c e:Nat} {fs:List (S36)} {b:List Int} (h:RV w g m t mi A c fs B e b) (hb:Below w.heap.size w w1):RV w1 g m t mi A c fs B e b :=
 ⟨blk_below h.blk hb,Kd.C_below h.fields hb,h.fcap,Kd.C_below h.body hb,h.bcap⟩
theorem RV.new {w:World} {m t:ByteArray} {mi:Int} {A B:Option Addr} {c e:Nat} {fs:List (S36)} {b:List Int} {b1 b2:Nat} {ok1 ok2:Nat → Prop} (h3:Kd.R k36 36 w b1 ok1 (.slice A fs.length c) fs) (h4:Kd.R (Kd.int .u8) 5 w b2 ok2 (.slice B b.length e) b) :
 RV (w.alloc (.cells #[.string m,.string t,.int .i64 mi,.slice A fs.length c,.slice B b.length e] 26 (0,0))) w.heap.size m t mi A c fs B e b :=
 ⟨blk_new w _,Kd.C_alloc (Kd.R_reads' h3).2.2 _,(Kd.R_reads' h3).2.1,Kd.C_alloc (Kd.R_reads' h4).2.2 _,(Kd.R_reads' h4).2.1⟩
theorem RV.cells {w:World} {g:Nat} {m t:ByteArray} {mi:Int} {A B:Option Addr} {c e:Nat} {fs:List (S36)} {b:List Int} (h:RV w g m t mi A c fs B e b):w.cell? ⟨g,0,none⟩=some (.string m)∧w.cell? ⟨g,1,none⟩=some (.string t)∧w.cell? ⟨g,2,none⟩=some (.int .i64 mi)∧w.cell? ⟨g,3,none⟩=some (.slice A fs.length c)∧w.cell? ⟨g,4,none⟩=some (.slice B b.length e) :=
 ⟨(blk_cell h.blk 0).trans rfl,(blk_cell h.blk 1).trans rfl,(blk_cell h.blk 2).trans rfl,(blk_cell h.blk 3).trans rfl,(blk_cell h.blk 4).trans rfl⟩
def tollbarlaw08_HttpRequests.f (k:Nat) (l0:List Int):Option Bool :=
 if (l0.length:Int) > 8000 then some true else (http_Request.f k l0).bind fun r=>(tollbarref08_Request.f k l0).bind fun q=>(http_Head.f k l0).bind fun h=>(tollbarref08_Head.f k l0).bind fun d =>
  (tollbarref08_SameReq.f k h.1 h.2.1 h.2.2.1 h.2.2.2.1 h.2.2.2.2.1 d.1 d.2.1 d.2.2.1 d.2.2.2.1 d.2.2.2.2.1).bind fun s=>(tollbarref08_SameReq.f k r.1 r.2.1 r.2.2.1 r.2.2.2.1 r.2.2.2.2.1 q.1 q.2.1 q.2.2.1 q.2.2.2.1 q.2.2.2.2.1).bind fun s2 =>
  (http_Waits.f k l0).bind fun a=>(tollbarref08_Waits.f k l0).bind fun b=>(http_Host.f k r.1 r.2.1 r.2.2.1 r.2.2.2.1 r.2.2.2.2.1).bind fun x=>(tollbarref08_Host.f k q.1 q.2.1 q.2.2.1 q.2.2.2.1 q.2.2.2.2.1).bind fun y =>
  if h.2.2.2.2.2.1=d.2.2.2.2.2.1∧h.2.2.2.2.2.2=d.2.2.2.2.2.2∧s=true∧r.2.2.2.2.2.1=q.2.2.2.2.2.1∧r.2.2.2.2.2.2=q.2.2.2.2.2.2∧s2=true∧a=b∧x.toList=y.toList then some true else none
set_option maxHeartbeats 16000000 in
set_option maxRecDepth 100000 in
theorem tollbarlaw08_HttpRequests.calls (k:Nat) (A0:Option Addr) (c0:Nat) (l0:List Int) (r:Bool) (w:World) (hr0:Kd.C (Kd.int .u8) w A0 l0.length l0) (hc0:l0.length ≤ c0) (h:tollbarlaw08_HttpRequests.f k l0=some r) (hr:r=true) (ht:Tabs w) :
 Calls Tryz.prog 3 #[.slice A0 l0.length c0] w fun e w' => e = .returned (.bool r)∧Below w.heap.size w w' := by
 subst hr
 have hu:=Tryz.underlying26
 have HC:=Aside0.mk hr0
 have HCC:=Aside0.mk hc0
 have HT:=Aside0.mk ht
 clear hr0 hc0 ht
 unfold tollbarlaw08_HttpRequests.f at h
 by_cases c0_:(l0.length:Int) > 8000
 ·clear h
  have d1:decide (8000 < (l0.length:Int))=true:=decide_eq_true c0_
  have d2:decide (8000 < l0.length)=true:=decide_eq_true zb10
  have d3:(8000 < (l0.length:Int))=True:=eq_true c0_
  have d4:(8000 < l0.length)=True:=eq_true zb10
  clear c0_
  go_enter Tryz.func3,Tryz.ntmps3
  go_wp2_with (first
   | (go_at_call 11;refine (tollbarlaw08_asking.calls true _ rfl HT.out).mono ?_;rintro E w1 ⟨rfl,hb⟩;have L1:=Aside0.mk hb;clear hb))
  go_ret
  exact ⟨rfl,L1.out⟩
 rw [if_neg c0_] at h
 have d1:decide (8000 < (l0.length:Int))=false:=decide_eq_false c0_
 have d2:decide (8000 < l0.length)=false:=decide_eq_false zb10
 have d3:(8000 < (l0.length:Int))=False:=eq_false c0_
 have d4:(8000 < l0.length)=False:=eq_false zb10
 clear c0_
 obtain ⟨⟨r1,r2,r3,r4,r5,r6,r7⟩,hq1,h'⟩:=Option.bind_eq_some_iff.1 h
 clear h
 obtain ⟨⟨q1,q2,q3,q4,q5,q6,q7⟩,hq2,h⟩:=Option.bind_eq_some_iff.1 h'
 clear h'
 obtain ⟨⟨g1,g2,g3,g4,g5,g6,g7⟩,hq3,h'⟩:=Option.bind_eq_some_iff.1 h
 clear h
 obtain ⟨⟨d1,d2,d3,d4,d5,d6,d7⟩,hq4,h⟩:=Option.bind_eq_some_iff.1 h'
 clear h'
 obtain ⟨s1,hs1,h'⟩:=Option.bind_eq_some_iff.1 h
 clear h
 obtain ⟨s2,hs2,h⟩:=Option.bind_eq_some_iff.1 h'
 clear h'
 obtain ⟨wa,hwa,h'⟩:=Option.bind_eq_some_iff.1 h
 clear h
 obtain ⟨wb,hwb,h⟩:=Option.bind_eq_some_iff.1 h'
 clear h'
 obtain ⟨x,hx,h'⟩:=Option.bind_eq_some_iff.1 h
 clear h
 obtain ⟨y,hy,h⟩:=Option.bind_eq_some_iff.1 h'
 clear h'
 split at h
 ·rename_i hq
  clear h
  simp only at hq hs1 hs2 hx hy
  obtain ⟨rfl,rfl,rfl,rfl,rfl,rfl,rfl,he⟩:=hq
  have HQ1:=Aside0.mk hq1
  have HQ2:=Aside0.mk hq2
  have HQ3:=Aside0.mk hq3
  have HQ4:=Aside0.mk hq4
  have HS1:=Aside0.mk hs1
  have HS2:=Aside0.mk hs2
  have HWA:=Aside0.mk hwa
  have HWB:=Aside0.mk hwb
  have HX:=Aside0.mk hx
  have HY:=Aside0.mk hy
  have d9:(x.toList == y.toList)=true:=beq_iff_eq.2 he
  clear hq1 hq2 hq3 hq4 hs1 hs2 hwa hwb hx hy he
  go_enter Tryz.func3,Tryz.ntmps3
  go_wp2_with (first
   | (go_at_call 11;refine (tollbarlaw08_asking.calls true _ rfl HT.out).mono ?_;rintro E w1 ⟨rfl,hb⟩;have L1:=Aside0.mk hb;clear hb)
   | (go_at_call 12;(with_reducible refine (http_Request.calls k A0 c0 l0 _ _ _ _ _ _ _ _ (Kd.C_below HC.out L1.out) HCC.out HQ1.out).mono ?_);rintro E w2 ⟨v3,v4,rfl,h3,h4,hb⟩;obtain ⟨AX,cX,rfl⟩:=Kd.R_slice h3;obtain ⟨BX,eX,rfl⟩:=Kd.R_slice h4;have X2:=Aside0.mk (RV.new (m:=r1) (t:=r2) (mi:=r3) h3 h4);have LQ2:=Aside0.mk (below_alloc (Below.refl _ w2) (.cells #[.string r1,.string r2,.int .i64 r3,.slice AX r4.length cX,.slice BX r5.length eX] 26 (0,0)));have L2:=Aside0.mk (below_alloc (below_step L1.out hb) (.cells #[.string r1,.string r2,.int .i64 r3,.slice AX r4.length cX,.slice BX r5.length eX] 26 (0,0)));clear h3 h4 hb)
   | (go_at_call 13;(with_reducible refine (tollbarref08_Request.calls k A0 c0 l0 _ _ _ _ _ _ _ _ (Kd.C_below HC.out L2.out) HCC.out HQ2.out).mono ?_);rintro E w3 ⟨v3,v4,rfl,h3,h4,hb⟩;obtain ⟨AY,cY,rfl⟩:=Kd.R_slice h3;obtain ⟨BY,eY,rfl⟩:=Kd.R_slice h4;have Y3:=Aside0.mk (RV.new (m:=q1) (t:=q2) (mi:=q3) h3 h4);have LQ3:=Aside0.mk (below_alloc (Below.refl _ w3) (.cells #[.string q1,.string q2,.int .i64 q3,.slice AY q4.length cY,.slice BY q5.length eY] 26 (0,0)));have X3:=Aside0.mk ((X2.out.below hb).below LQ3.out);have L3:=Aside0.mk (below_alloc (below_step L2.out hb) (.cells #[.string q1,.string q2,.int .i64 q3,.slice AY q4.length cY,.slice BY q5.length eY] 26 (0,0)));clear h3 h4 hb)
   | (go_at_call 14;(with_reducible refine (http_Head.calls k A0 c0 l0 _ _ _ _ _ _ _ _ (Kd.C_below HC.out L3.out) HCC.out HQ3.out).mono ?_);rintro E w4 ⟨v3,v4,rfl,h3,h4,hb⟩;obtain ⟨AZ,cZ,rfl⟩:=Kd.R_slice h3;obtain ⟨BZ,eZ,rfl⟩:=Kd.R_slice h4;have Z4:=Aside0.mk (RV.new (m:=g1) (t:=g2) (mi:=g3) h3 h4);have LQ4:=Aside0.mk (below_alloc (Below.refl _ w4) (.cells #[.string g1,.string g2,.int .i64 g3,.slice AZ g4.length cZ,.slice BZ g5.length eZ] 26 (0,0)));have X4:=Aside0.mk ((X3.out.below hb).below LQ4.out);have Y4:=Aside0.mk ((Y3.out.below hb).below LQ4.out);have L4:=Aside0.mk (below_alloc (below_step L3.out hb) (.cells #[.string g1,.string g2,.int .i64 g3,.slice AZ g4.length cZ,.slice BZ g5.length eZ] 26 (0,0)));clear h3 h4 hb)
   | (go_at_call 15;(with_reducible refine (tollbarref08_Head.calls k A0 c0 l0 _ _ _ _ _ _ _ _ (Kd.C_below HC.out L4.out) HCC.out HQ4.out).mono ?_);rintro E w5 ⟨v3,v4,rfl,h3,h4,hb⟩;obtain ⟨AV,cV,rfl⟩:=Kd.R_slice h3;obtain ⟨BV,eV,rfl⟩:=Kd.R_slice h4;have V5:=Aside0.mk (RV.new (m:=d1) (t:=d2) (mi:=d3) h3 h4);have LQ5:=Aside0.mk (below_alloc (Below.refl _ w5) (.cells #[.string d1,.string d2,.int .i64 d3,.slice AV d4.length cV,.slice BV d5.length eV] 26 (0,0)));have X5:=Aside0.mk ((X4.out.below hb).below LQ5.out);have Y5:=Aside0.mk ((Y4.out.below hb).below LQ5.out);have Z5:=Aside0.mk ((Z4.out.below hb).below LQ5.out);have L5:=Aside0.mk (below_alloc (below_step L4.out hb) (.cells #[.string d1,.string d2,.int .i64 d3,.slice AV d4.length cV,.slice BV d5.length eV] 26 (0,0)));clear h3 h4 hb;obtain ⟨z0,z1,z2,z3,z4⟩:=Z5.out.cells;obtain ⟨v0,v1,v2,v3,v4⟩:=V5.out.cells)
   | (go_at_call 16;(with_reducible refine (tollbarref08_SameReq.calls k g1 g2 g3 _ _ g4 _ _ g5 d1 d2 d3 _ _ d4 _ _ d5 true _ Z5.out.fields Z5.out.fcap Z5.out.body Z5.out.bcap V5.out.fields V5.out.fcap V5.out.body V5.out.bcap HS1.out).mono ?_);rintro E w6 ⟨rfl,hb⟩;have X6:=Aside0.mk (X5.out.below hb);have Y6:=Aside0.mk (Y5.out.below hb);have L6:=Aside0.mk (below_step L5.out hb);clear hb))
  have X7:=Aside0.mk (X6.out.below (below_drew (Below.refl _ _)))
  have Y7:=Aside0.mk (Y6.out.below (below_drew (Below.refl _ _)))
  have L7:=Aside0.mk (below_drew1 L6.out)
  obtain ⟨ca0,ca1,ca2,ca3,ca4⟩:=X7.out.cells
  obtain ⟨cb0,cb1,cb2,cb3,cb4⟩:=Y7.out.cells
  go_region_held3 (fun w' => w'.cell? ⟨w2.heap.size,0,none⟩=some (.string r1)∧w'.cell? ⟨w2.heap.size,1,none⟩=some (.string r2)∧w'.cell? ⟨w2.heap.size,2,none⟩=some (.int .i64 r3)∧w'.cell? ⟨w2.heap.size,3,none⟩=some (.slice AX r4.length cX)∧w'.cell? ⟨w2.heap.size,4,none⟩=some (.slice BX r5.length eX)∧w'.cell? ⟨w3.heap.size,0,none⟩=some (.string q1)∧w'.cell? ⟨w3.heap.size,1,none⟩=some (.string q2)∧w'.cell? ⟨w3.heap.size,2,none⟩=some (.int .i64 q3)∧w'.cell? ⟨w3.heap.size,3,none⟩=some (.slice AY q4.length cY)∧w'.cell? ⟨w3.heap.size,4,none⟩=some (.slice BY q5.length eY)) (go_keep)
   (first
    | (go_at_call 16;(with_reducible refine (tollbarref08_SameReq.calls k r1 r2 r3 _ _ r4 _ _ r5 q1 q2 q3 _ _ q4 _ _ q5 true _ X7.out.fields X7.out.fcap X7.out.body X7.out.bcap Y7.out.fields Y7.out.fcap Y7.out.body Y7.out.bcap HS2.out).mono ?_);rintro E w8 ⟨rfl,hb⟩;have X8:=Aside0.mk (X7.out.below hb);have Y8:=Aside0.mk (Y7.out.below hb);have L8:=Aside0.mk (below_step L7.out hb);clear hb;obtain ⟨ca0,ca1,ca2,ca3,ca4⟩:=X8.out.cells;obtain ⟨cb0,cb1,cb2,cb3,cb4⟩:=Y8.out.cells)
    | (go_at_call 17;(with_reducible refine (http_Waits.calls k A0 c0 l0 _ _ (Kd.C_below HC.out L8.out) HCC.out HWA.out).mono ?_);rintro E w9 ⟨rfl,hb⟩;have X9:=Aside0.mk (X8.out.below hb);have Y9:=Aside0.mk (Y8.out.below hb);have L9:=Aside0.mk (below_step L8.out hb);clear hb;obtain ⟨ca0,ca1,ca2,ca3,ca4⟩:=X9.out.cells;obtain ⟨cb0,cb1,cb2,cb3,cb4⟩:=Y9.out.cells)
    | (go_at_call 18;(with_reducible refine (tollbarref08_Waits.calls k A0 c0 l0 _ _ (Kd.C_below HC.out L9.out) HCC.out HWB.out).mono ?_);rintro E w10 ⟨rfl,hb⟩;have X10:=Aside0.mk (X9.out.below hb);have Y10:=Aside0.mk (Y9.out.below hb);have L10:=Aside0.mk (below_step L9.out hb);clear hb;obtain ⟨ca0,ca1,ca2,ca3,ca4⟩:=X10.out.cells;obtain ⟨cb0,cb1,cb2,cb3,cb4⟩:=Y10.out.cells)
    | (go_at_call 19;(with_reducible refine (http_Host.calls k r1 r2 r3 _ _ r4 _ _ r5 x _ X10.out.fields X10.out.fcap X10.out.body X10.out.bcap HX.out).mono ?_);rintro E w11 ⟨rfl,hb⟩;have X11:=Aside0.mk (X10.out.below hb);have Y11:=Aside0.mk (Y10.out.below hb);have L11:=Aside0.mk (below_step L10.out hb);clear hb;obtain ⟨ca0,ca1,ca2,ca3,ca4⟩:=X11.out.cells;obtain ⟨cb0,cb1,cb2,cb3,cb4⟩:=Y11.out.cells)
    | (go_at_call 20;(with_reducible refine (tollbarref08_Host.calls k q1 q2 q3 _ _ q4 _ _ q5 y _ Y11.out.fields Y11.out.fcap Y11.out.body Y11.out.bcap HY.out).mono ?_);rintro E w12 ⟨rfl,hb⟩;have X12:=Aside0.mk (X11.out.below hb);have Y12:=Aside0.mk (Y11.out.below hb);have L12:=Aside0.mk (below_step L11.out hb);clear hb;obtain ⟨ca0,ca1,ca2,ca3,ca4⟩:=X12.out.cells;obtain ⟨cb0,cb1,cb2,cb3,cb4⟩:=Y12.out.cells))
  try go_wp2
  go_ret
  exact ⟨rfl,L12.out⟩
 cases h
end Go.Proofs.YtagffbblalldiaaGreatDoor.P
namespace Go.Proofs.YtagffbblalldiaaGreatDoor.Pure
open Go.RowKit Go.Proofs.YtagffbblalldiaaGreatDoor.P Go.Proofs.YtagffbblalldiaaGreatDoorW.PrintWords Go.Proofs.YtagffbblalldiaaGreatDoorW.PrintLast Go.Proofs.YtagffbblalldiaaGreatDoorW.PrintMore
set_option linter.unusedVariables false
set_option linter.unusedSimpArgs false
theorem str_append (xs ys:List Int):strOfNums (xs ++ ys)=strOfNums xs ++ strOfNums ys:=by
 apply ByteArray.ext
 simp [strOfNums]
theorem str_size (xs:List Int):(strOfNums xs).size=xs.length:=strOfNums_size xs
theorem take_two (l:List Int) (i:Int) (h0:0 ≤ i) (h:i + 1 < (l.length:Int)):l.take (i + 2).toNat=l.take i.toNat ++ [rd l i,rd l (i + 1)]:=by
 obtain ⟨n,rfl⟩:=Int.eq_ofNat_of_zero_le h0
 have e1:((n:Int) + 2).toNat=n + 1 + 1:=by omega
 have h1:n + 1 < l.length:=by omega
 rw [e1,List.take_succ_eq_append_getElem h1,List.take_succ_eq_append_getElem (by omega)]
 have e2:((n:Int) + 1).toNat=n + 1:=by omega
 simp only [Int.toNat_natCast,rd,e2,List.getD_eq_getElem?_getD,List.getElem?_eq_getElem h1,List.getElem?_eq_getElem (show n < l.length by omega),Option.getD_some,List.append_assoc,List.cons_append,List.nil_append]
theorem w64 {i:Int} {n:Nat} (c:Int) (h0:0 ≤ i) (h:i < (n:Int)) (hn:n ≤ 140737488355328) (hc0 : -3 ≤ c) (hc:c ≤ 3):wrap64 (i + c)=i + c:=by
 unfold wrap64;omega
theorem toList_data (s:ByteArray):s.toList=s.data.toList:=by
 simp [ByteArray.toList_eq]
theorem isEmpty_size (s:ByteArray):s.toList.isEmpty=decide (s.size=0):=by
 rw [toList_data,Bool.eq_iff_iff,List.isEmpty_iff,decide_eq_true_eq,← data_length]
 exact List.length_eq_zero_iff.symm
/-- The line at the place i of l,with the bound m;d bytes are left. -/
def cutAt (l:List Int) (m:Int):Nat → Int → (ByteArray × Int × Int)
 | 0,_=>((⟨#[]⟩:ByteArray),0,0)
 | d + 1,i =>
  if rd l i=10 then ((⟨#[]⟩:ByteArray),0,20)
  else if rd l i=13 then
   (if i + 1 < (l.length:Int) then (if rd l (i + 1)=10 then (strOfNums (l.take i.toNat),i + 2,0) else ((⟨#[]⟩:ByteArray),0,20)) else ((⟨#[]⟩:ByteArray),0,0))
  else if m ≤ i then ((⟨#[]⟩:ByteArray),0,2) else cutAt l m d (i + 1)
theorem cut_l0 (l:List Int) (a:Int) (hn:l.length ≤ 140737488355328) (d:Nat) : ∀ (k:Nat) (i:Int),0 ≤ i → (l.length:Int) - i=d → 3 * d + 3 ≤ k →
 line_Cut.l0 k l a l (l.length:Int) i=some (cutAt l (mx a 0) d i):=by
 induction d with
 | zero =>
  intro k i h0 hd hk
  obtain ⟨k,rfl⟩ : ∃ m,k=m + 1:=⟨k - 1,by omega⟩
  simp only [line_Cut.l0,cutAt];rw [if_neg (by omega)]
 | succ d ih =>
  intro k i h0 hd hk
  obtain ⟨k,rfl⟩ : ∃ m,k=m + 3:=⟨k - 3,by omega⟩
  have hlt:i < (l.length:Int):=by omega
  have hw1:wrap64 (i + 1)=i + 1:=w64 1 h0 hlt hn (by omega) (by omega)
  have hw2:wrap64 (i + 2)=i + 2:=w64 2 h0 hlt hn (by omega) (by omega)
  have ih' := ih k (i + 1) (by omega) (by omega) (by omega)
  unfold line_Cut.l0
  rw [if_pos hlt,if_pos h0,if_pos hlt]
  unfold line_Cut.j1 line_Cut.j2
  simp only [cutAt,hw1,hw2,ih']
  by_cases h10:rd l i=10
  ·simp [h10]
  rw [if_neg h10]
  by_cases h13:rd l i=13;rotate_left
  ·simp only [h13,if_false,h10]
   by_cases hm:mx a 0 ≤ i
   ·simp [hm]
   simp [hm]
  simp only [h13]
  by_cases h1:i + 1 < (l.length:Int)
  ·by_cases hr:rd l (i + 1)=10
   ·have hne : ¬ (i + 1=(l.length:Int)):=by omega
    have hle:i ≤ (l.length:Int):=by omega
    have h01:0 ≤ i + 1:=by omega
    simp [h1,hr,hne,hle,h01,h0]
   ·have h01:0 ≤ i + 1:=by omega
    simp [h1,hr,h01]
  ·have he:i + 1=(l.length:Int):=by omega
   simp [he]
/-- What Cut tells. -/
def cutSpec (l:List Int) (a:Int):(ByteArray × Int × Int):=cutAt l (mx a 0) l.length 0
theorem cut_f (l:List Int) (a:Int) (hn:l.length ≤ 140737488355328) (k:Nat) (hk:3 * l.length + 3 ≤ k):line_Cut.f k l a=some (cutSpec l a):=by
 unfold line_Cut.f cutSpec
 exact cut_l0 l a hn l.length k 0 (by omega) (by omega) hk
theorem cutA_shape (l:List Int) (m:Int) (d:Nat) : ∀ (i:Int),0 ≤ i → (l.length:Int) - i=d →
 ((cutAt l m d i).2.1 > 0∧(cutAt l m d i).2.1 ≤ l.length∧strOfNums (l.take (cutAt l m d i).2.1.toNat)=(cutAt l m d i).1 ++ (⟨#[13,10]⟩:ByteArray)∧((cutAt l m d i).1.size:Int)=(cutAt l m d i).2.1 - 2∧(cutAt l m d i).2.2=0)
 ∨ ((cutAt l m d i).2.1=0∧(cutAt l m d i).1=(⟨#[]⟩:ByteArray)):=by
 induction d with
 | zero=>intro i h0 hd;right;simp [cutAt]
 | succ d ih =>
  intro i h0 hd
  have hlt:i < (l.length:Int):=by omega
  have ih' := ih (i + 1) (by omega) (by omega)
  simp only [cutAt]
  by_cases h10:rd l i=10
  ·simp [h10]
  rw [if_neg h10]
  by_cases h13:rd l i=13;rotate_left
  ·rw [if_neg h13]
   by_cases hm:m ≤ i
   ·rw [if_pos hm];right;exact ⟨rfl,rfl⟩
   rw [if_neg hm];exact ih'
  rw [if_pos h13]
  by_cases h1:i + 1 < (l.length:Int)
  ·rw [if_pos h1]
   by_cases hr:rd l (i + 1)=10
   ·rw [if_pos hr]
    left
    refine ⟨by show i + 2 > 0;omega,by show i + 2 ≤ _;omega,?_,?_,rfl⟩
    ·show strOfNums (l.take (i + 2).toNat)=_
     rw [take_two l i h0 h1,str_append,h13,hr]
     rfl
    show ((strOfNums (l.take i.toNat)).size:Int)=i + 2 - 2
    rw [str_size,List.length_take]
    omega
   ·rw [if_neg hr];right;exact ⟨rfl,rfl⟩
  ·rw [if_neg h1];right;exact ⟨rfl,rfl⟩
theorem cutS_shape (l:List Int) (m:Int) :
 (cutSpec l m).2.1 > 0∧(cutSpec l m).2.1 ≤ l.length∧((cutSpec l m).1.size:Int)=(cutSpec l m).2.1 - 2∧(cutSpec l m).2.2=0 ∨ (cutSpec l m).2.1=0∧(cutSpec l m).1=(⟨#[]⟩:ByteArray):=by
 rcases cutA_shape l (mx m 0) l.length 0 (by omega) (by omega) with h|h
 ·exact Or.inl ⟨h.1,h.2.1,h.2.2.2.1,h.2.2.2.2⟩
 exact Or.inr h
def mkS (l:List UInt8):ByteArray:=⟨l.toArray⟩
theorem mkS_data (l:List UInt8):(mkS l).data.toList=l:=by simp [mkS]
theorem mkS_self (s:ByteArray):mkS s.data.toList=s:=by simp [mkS]
theorem mkS_size (l:List UInt8):(mkS l).size=l.length:=by rw [← data_length,mkS_data]
theorem mkS_toList (l:List UInt8):(mkS l).toList=l:=by rw [toList_data,mkS_data]
theorem wn0 (n:Nat) (h:n ≤ 4398046511104):wrap64 ((n:Int) + 0)=(n:Int):=by unfold wrap64;omega
theorem wn1 (n:Nat) (h:n ≤ 4398046511104):wrap64 ((n:Int) + 1)=(n:Int) + 1:=by unfold wrap64;omega
theorem wnm (n:Nat) (h:n ≤ 4398046511104):wrap64 ((n:Int) + 1 - 1)=(n:Int):=by unfold wrap64;omega
theorem wi1 (i:Int) (h0:0 ≤ i) (h:i ≤ 4398046511104):wrap64 (i + 1)=i + 1:=by unfold wrap64;omega
theorem rdOf_mk (ps:List (List UInt8)) (i:Int) (h0:0 ≤ i) (h:i < (ps.length:Int)):rdOf ByteArray.empty (ps.map mkS) i=mkS (ps.getD i.toNat []):=by
 unfold rdOf
 rw [List.getD_eq_getElem?_getD,List.getElem?_map,List.getD_eq_getElem?_getD,List.getElem?_eq_getElem (by omega)]
 rfl
theorem bt_mk (l:List UInt8) (i:Nat) (h:i < l.length):bt (mkS l) i=((l[i]).toNat:Int):=by
 unfold bt
 have hs:(mkS l).size=l.length:=mkS_size l
 rw [dif_pos (by rw [Int.toNat_natCast];omega)]
 have:(mkS l)[((i:Nat):Int).toNat]'(by rw [Int.toNat_natCast];omega)=l[i]:=by simp [mkS,ByteArray.getElem_eq_getElem_data]
 rw [this]
theorem mkS_extract (l:List UInt8) (a b:Nat):(mkS l).extract a b=mkS ((l.drop a).take (b - a)):=by
 rw [← mkS_self ((mkS l).extract a b),Lib.extract_data,mkS_data]
theorem seg_split (l:List UInt8) (f i:Nat) (h:f ≤ i) (hi:i < l.length):l.drop f=(l.drop f).take (i - f) ++ l[i] :: l.drop (i + 1)∧(l.drop f).take (i + 1 - f)=(l.drop f).take (i - f) ++ [l[i]]:=by
 have e1:(l.drop f).drop (i - f)=l.drop i:=by rw [List.drop_drop];congr 1;omega
 have e2:l.drop i=l[i] :: l.drop (i + 1):=List.drop_eq_getElem_cons hi
 refine ⟨?_,?_⟩
 ·rw [← e2,← e1,List.take_append_drop]
 have hl:i - f < (l.drop f).length:=by rw [List.length_drop];omega
 rw [show i + 1 - f=i - f + 1 by omega,List.take_succ_eq_append_getElem hl]
 congr 2
 rw [List.getElem_drop]
 congr 1
 omega
theorem mkS_bytes (l:List UInt8):bytesOf (mkS l)=l.map fun b=>(b.toNat:Int):=by unfold bytesOf;rw [mkS_data]
theorem index_append (sp:UInt8) (a b:List UInt8) (h:sp ∉ a):Lib.indexByte (a ++ sp :: b) sp=a.length:=by
 induction a with
 | nil=>simp [Lib.indexByte]
 | cons c a ih =>
  have hc:c ≠ sp:=fun e=>h (e ▸ List.mem_cons_self ..)
  have hb:(c == sp)=false:=by simpa using hc
  have h3:=ih (fun e=>h (List.mem_cons_of_mem _ e))
  have hn:((a.length:Int) == -1)=false:=by simp only [beq_eq_false_iff_ne];omega
  simp [Lib.indexByte,hb,h3,hn]
theorem index_none (sp:UInt8) (a:List UInt8) (h:sp ∉ a):Lib.indexByte a sp = -1:=by
 induction a with
 | nil=>simp [Lib.indexByte]
 | cons c a ih =>
  have hc:c ≠ sp:=fun e=>h (e ▸ List.mem_cons_self ..)
  have hb:(c == sp)=false:=by simpa using hc
  have h3:=ih (fun e=>h (List.mem_cons_of_mem _ e))
  simp [Lib.indexByte,hb,h3]
theorem slIndex (s:List UInt8) (sp:UInt8):stringslite_Index.f (mkS s) ⟨#[sp]⟩=some (Lib.indexByte s sp):=by
 show some (Lib.indexByte (mkS s).data.toList sp)=_
 rw [mkS_data]
theorem Cut_no (sp:UInt8) (s:List UInt8) (h:sp ∉ s):strings_Cut.f (mkS s) ⟨#[sp]⟩=some (mkS s,(⟨#[]⟩:ByteArray),false):=by
 unfold strings_Cut.f stringslite_Cut.f
 rw [slIndex,index_none sp s h,Option.bind_some,if_neg (by decide),Option.bind_some]
theorem Cut_yes (sp:UInt8) (a b:List UInt8) (h:sp ∉ a) (hn:(a ++ sp :: b).length ≤ 140737488355328):strings_Cut.f (mkS (a ++ sp :: b)) ⟨#[sp]⟩=some (mkS a,mkS b,true):=by
 unfold strings_Cut.f stringslite_Cut.f
 have hl:(a ++ sp :: b).length=a.length + b.length + 1:=by rw [List.length_append,List.length_cons];omega
 rw [hl] at hn
 have h1:((⟨#[sp]⟩:ByteArray).size:Int)=1:=rfl
 have hw:wrap64 ((a.length:Int) + 1)=(a.length:Int) + 1:=by unfold wrap64;omega
 have e1:((a.length:Int) + 1).toNat=a.length + 1:=by omega
 rw [slIndex,index_append sp a b h,Option.bind_some,h1,hw,mkS_size,hl,if_pos (by omega),if_pos (by omega),if_pos (by omega),if_pos (by omega),if_pos (by omega),Option.bind_some,e1,Int.toNat_natCast,mkS_extract,mkS_extract,List.drop_zero,Nat.sub_zero,List.take_left,← List.drop_drop,List.drop_left]
 rw [show List.drop 1 (sp :: b)=b from rfl,List.take_of_length_le (by omega)]
/-- What stands ahead of the first sp,and behind it. -/
theorem split_first (sp:UInt8) (s:List UInt8):sp ∉ s ∨ ∃ a b,s=a ++ sp :: b∧sp ∉ a:=by
 induction s with
 | nil=>exact .inl (by simp)
 | cons c s ih =>
  by_cases hc:c=sp
  ·exact .inr ⟨[],s,by rw [hc];rfl,by simp⟩
  rcases ih with h|⟨a,b,rfl,h⟩
  ·refine .inl fun hm=>?_
   rcases List.mem_cons.1 hm with e|e
   ·exact hc e.symm
   exact h e
  refine .inr ⟨c :: a,b,rfl,fun hm=>?_⟩
  rcases List.mem_cons.1 hm with e|e
  ·exact hc e.symm
  exact h e
theorem byte_cases {P:Int → Prop} (h : ∀ n:Fin 256,P (n.val:Int)) (c:Int) (h0:0 ≤ c) (h1:c ≤ 255):P c:=by
 obtain ⟨n,rfl⟩:=Int.eq_ofNat_of_zero_le h0
 exact h ⟨n,by omega⟩
def tokB (c:Int):Bool:=(sign_Token_1.f c).getD false
def valB (c:Int):Bool:=(sign_Value_1.f c).getD false
theorem Token_f (s:ByteArray) (h:s.size ≤ 140737488355328):sign_Token.f s=some (!s.toList.isEmpty && (bytesOf s).all tokB):=if_pos h
theorem Value_f (s:ByteArray) (h:s.size ≤ 140737488355328):sign_Value.f s=some ((bytesOf s).all valB):=if_pos h
theorem drop_all (p:Int → Bool) (s:ByteArray) (x:Int) (h0:0 ≤ x) (h:x < (s.size:Int)) :
 ((bytesOf s).drop x.toNat).all p=(p (bt s x) && ((bytesOf s).drop (x + 1).toNat).all p):=by
 rw [show (x + 1).toNat=x.toNat + 1 by omega]
 exact bytes_drop_all p s x h0 h
theorem drop_end (p:Int → Bool) (s:ByteArray) (x:Int) (h:(s.size:Int) ≤ x):((bytesOf s).drop x.toNat).all p=true:=by
 rw [List.drop_of_length_le (by rw [bytesOf_length];omega)];rfl
/-- Is a byte a blank? -/
def blk (b:UInt8):Bool:=([32,9]:List UInt8).contains b
/-- A text without blanks at its ends. -/
def trm (l:List UInt8):List UInt8:=(l.reverse.dropWhile blk).reverse.dropWhile blk
/-- No blank at either end. -/
def Clean (l:List UInt8):Prop:=(∀ a,l.head? = some a → blk a=false) ∧ ∀ a,l.getLast? = some a → blk a=false
theorem dw_self {p:UInt8 → Bool} {l:List UInt8} (h : ∀ a,l.head? = some a → p a=false):l.dropWhile p=l:=by
 cases l with
 | nil=>rfl
 | cons a l=>simp [List.dropWhile,h a rfl]
theorem dw_head (p:UInt8 → Bool) (l:List UInt8) : ∀ a,(l.dropWhile p).head? = some a → p a=false:=by
 induction l with
 | nil=>intro a h;simp at h
 | cons b l ih =>
  intro a h
  cases hb:p b
  ·simp [List.dropWhile,hb] at h;rw [← h];exact hb
  simp only [List.dropWhile,hb] at h;exact ih a h
theorem dw_append {p:UInt8 → Bool} (pre t:List UInt8) (h : ∀ a ∈ pre,p a=true):(pre ++ t).dropWhile p=t.dropWhile p:=by
 induction pre with
 | nil=>rfl
 | cons b l ih =>
  simp only [List.cons_append,List.dropWhile,h b (List.mem_cons_self ..)]
  exact ih (fun a ha=>h a (List.mem_cons_of_mem _ ha))
theorem dw_split (p:UInt8 → Bool) (l:List UInt8) : ∃ pre,l=pre ++ l.dropWhile p ∧ ∀ a ∈ pre,p a=true:=by
 induction l with
 | nil=>exact ⟨[],rfl,by simp⟩
 | cons b l ih =>
  obtain ⟨pre,h,hp⟩:=ih
  cases hb:p b
  ·exact ⟨[],by simp [List.dropWhile,hb],by simp⟩
  refine ⟨b :: pre,by simp only [List.dropWhile,hb,List.cons_append];rw [← h],?_⟩
  intro a ha
  rcases List.mem_cons.1 ha with rfl|ha
  ·exact hb
  exact hp a ha
theorem trm_around (pre t post : List UInt8) (ht : Clean t) (h1 : ∀ a ∈ pre, blk a = true) (h2 : ∀ a ∈ post, blk a = true) : trm (pre ++ t ++ post) = t := by
  unfold trm
  rw [List.reverse_append, dw_append _ _ (by intro a ha; exact h2 a (List.mem_reverse.1 ha)), List.reverse_append]
  by_cases he : t = []
  · subst he
    have := dw_append (p := blk) pre.reverse [] (by intro a ha; exact h1 a (List.mem_reverse.1 ha))
    simp only [List.append_nil] at this
    simp [this]
  · have : (t.reverse ++ pre.reverse).dropWhile blk = t.reverse ++ pre.reverse := dw_self (by
      intro a ha
      rw [List.head?_append] at ha
      obtain ⟨b, hb⟩ : ∃ b, t.reverse.head? = some b := by
        cases hh : t.reverse with
        | nil => exact absurd (List.reverse_eq_nil_iff.1 hh) he
        | cons b _ => exact ⟨b, rfl⟩
      rw [hb] at ha
      obtain rfl : b = a := by simpa using ha
      rw [List.head?_reverse] at hb
      exact ht.2 _ hb)
    rw [this, List.reverse_append, List.reverse_reverse, List.reverse_reverse, dw_append _ _ h1, dw_self ht.1]
theorem trm_length (l:List UInt8):(trm l).length ≤ l.length:=by
 unfold trm
 have h1:((l.reverse.dropWhile blk).reverse.dropWhile blk).length ≤ (l.reverse.dropWhile blk).reverse.length:=(List.dropWhile_suffix _).length_le
 have h2:(l.reverse.dropWhile blk).length ≤ l.reverse.length:=(List.dropWhile_suffix _).length_le
 rw [List.length_reverse] at h1 h2
 omega
theorem Trim_f (s:ByteArray) (h:s.size ≤ 9223372036854775807):sign_Trim.f s=some ⟨(trm s.data.toList).toArray⟩:=by
 unfold sign_Trim.f strings_Trim.f
 rw [if_pos ⟨h,by decide,by decide⟩]
 rfl
/-- Is a field right? -/
def rightB (a t:ByteArray):Bool:=decide (a.size ≤ 100) && ((!a.toList.isEmpty && (bytesOf a).all tokB) && (decide (t.size ≤ 1000) && ((bytesOf t).all valB && (mkS (trm t.data.toList)).toList == t.toList)))
theorem Trim_mk (s:ByteArray) (h:s.size ≤ 9223372036854775807):sign_Trim.f s=some (mkS (trm s.data.toList)):=Trim_f s h
theorem field_right_f (a t:ByteArray):field_right.f a t=some (rightB a t):=by
 unfold field_right.f rightB
 by_cases h1:(a.size:Int) ≤ 100;rotate_left
 ·rw [if_neg h1,decide_eq_false (show ¬ a.size ≤ 100 by omega),Bool.false_and]
 rw [if_pos h1,Token_f a (by omega),Option.bind_some,decide_eq_true (show a.size ≤ 100 by omega),Bool.true_and]
 cases hT:(!a.toList.isEmpty && (bytesOf a).all tokB)
 ·rw [if_neg (by simp),Bool.false_and]
 rw [if_pos rfl,Bool.true_and]
 by_cases h2:(t.size:Int) ≤ 1000
 ·rw [if_pos h2,Value_f t (by omega),Option.bind_some,decide_eq_true (show t.size ≤ 1000 by omega),Bool.true_and]
  cases (bytesOf t).all valB
  ·rw [if_neg (by simp),Bool.false_and]
  rw [if_pos rfl,Bool.true_and,Trim_mk t (by omega),Option.bind_some]
 ·rw [if_neg h2,decide_eq_false (show ¬ t.size ≤ 1000 by omega),Bool.false_and]
def fieldOk (l:List UInt8):Bool:=if 58 ∈ l then rightB (mkS (l.takeWhile (· != 58))) (mkS (trm ((l.dropWhile (· != 58)).drop 1))) else false
theorem take_first (sp:UInt8) (a b:List UInt8) (h:sp ∉ a):(a ++ sp :: b).takeWhile (· != sp)=a∧((a ++ sp :: b).dropWhile (· != sp)).drop 1=b:=by
 induction a with
 | nil=>simp [List.takeWhile_cons,List.dropWhile_cons]
 | cons x a ih =>
  have hx:x ≠ sp:=fun e=>h (by rw [e];exact List.mem_cons_self ..)
  have:=ih (fun e=>h (List.mem_cons_of_mem _ e))
  simp only [List.cons_append,List.takeWhile_cons,List.dropWhile_cons,bne_iff_ne,ne_eq,hx,not_false_eq_true,if_true]
  exact ⟨by rw [this.1],this.2⟩
theorem fieldOk_no (l:List UInt8) (h:58 ∉ l):fieldOk l=false:=by unfold fieldOk;rw [if_neg h]
theorem fieldOk_yes (a b:List UInt8) (h:58 ∉ a):fieldOk (a ++ 58 :: b)=rightB (mkS a) (mkS (trm b)):=by
 unfold fieldOk
 obtain ⟨e1,e2⟩:=take_first 58 a b h
 rw [if_pos (by simp),e1,e2]
theorem field_f (l:List UInt8) (hn:l.length ≤ 140737488355328) : ∃ x y,field_Parse.f (mkS l)=some (x,y,if fieldOk l=true then 0 else 20):=by
 unfold field_Parse.f
 rcases split_first 58 l with h|⟨a,b,rfl,h⟩
 ·rw [Cut_no 58 l h,Option.bind_some,fieldOk_no l h]
  simp only
  rw [Trim_mk _ (by decide),Option.bind_some]
  exact ⟨_,_,rfl⟩
 rw [Cut_yes 58 a b h hn,Option.bind_some,fieldOk_yes a b h]
 simp only
 rw [Trim_mk _ (by rw [mkS_size];rw [List.length_append,List.length_cons] at hn;omega),Option.bind_some,if_pos trivial,field_right_f,Option.bind_some,mkS_data]
 cases rightB (mkS a) (mkS (trm b)) <;> exact ⟨_,_,rfl⟩
theorem fold_tells (s:ByteArray) (hn:s.size ≤ 140737488355328):sign_Fold.f s=some (strOfNums ((bytesOf s).map foldC)):=if_pos hn
def Bytes (xs:List Int):Prop := ∀ x ∈ xs,0 ≤ x∧x ≤ 255
theorem bytes_of (s:ByteArray):Bytes (bytesOf s):=by
 intro x hx
 obtain ⟨b,_,rfl⟩:=List.mem_map.1 hx
 have:=b.toNat_lt
 omega
theorem foldC_byte (x:Int) (h0:0 ≤ x) (h1:x ≤ 255):0 ≤ foldC x∧foldC x ≤ 255:=by unfold foldC;split <;> omega
theorem bytes_fold {xs:List Int} (h:Bytes xs):Bytes (xs.map foldC):=by
 intro x hx
 obtain ⟨y,hy,rfl⟩:=List.mem_map.1 hx
 exact foldC_byte y (h y hy).1 (h y hy).2
theorem bytes_str {xs:List Int} (h:Bytes xs):bytesOf (strOfNums xs)=xs:=by
 unfold bytesOf
 rw [strOfNums_data,List.map_map]
 conv=>rhs;rw [← List.map_id xs]
 refine List.map_congr_left fun x hx=>?_
 have:=h x hx
 show ((UInt8.ofNat x.toNat).toNat:Int)=x
 rw [UInt8.toNat_ofNat']
 omega
theorem str_inj {xs ys:List Int} (hx:Bytes xs) (hy:Bytes ys):((strOfNums xs).toList == (strOfNums ys).toList)=decide (xs=ys):=by
 rw [Bool.eq_iff_iff,beq_iff_eq,decide_eq_true_eq]
 refine ⟨fun e=>?_,fun e=>by rw [e]⟩
 rw [← bytes_str hx,← bytes_str hy]
 unfold bytesOf
 rw [← toList_data,← toList_data,e]
/-- The value of a digit,or -1. -/
def digV (c:Int):Int:=Lib.indexByte [48,49,50,51,52,53,54,55,56,57,97,98,99,100,101,102] (foldC c).toNat.toUInt8
/-- The number of digits,from n on. -/
def numL (base:Int):List Int → Int → Option Int
 | [],n=>some n
 | c :: r,n=>if 0 ≤ digV c∧digV c < base then numL base r (n * base + digV c) else none
theorem digV_lt (c:Int) (h0:0 ≤ c) (h1:c ≤ 255):digV c < 16:=by
 obtain ⟨n,rfl⟩:=Int.eq_ofNat_of_zero_le h0
 have h : ∀ m:Fin 256,digV (m.val:Int) < 16:=by decide +kernel
 exact h ⟨n,by omega⟩
theorem one_fold (s:ByteArray) (i:Int) (h0:0 ≤ i) (h:i < (s.size:Int)):sign_Fold.f (s.extract i.toNat (i + 1).toNat)=some (strOfNums [foldC (bt s i)]):=by
 have hl:i.toNat < s.data.toList.length:=by rw [data_length];omega
 have e1:(s.extract i.toNat (i + 1).toNat).data.toList=[s.data.toList[i.toNat]]:=by
  rw [Lib.extract_data,show (i + 1).toNat - i.toNat=1 by omega,List.drop_eq_getElem_cons hl]
  rfl
 have hz:(s.extract i.toNat (i + 1).toNat).size=1:=by rw [← data_length,e1];rfl
 rw [fold_tells _ (by omega)]
 unfold bytesOf
 rw [e1]
 have e2:((s.data.toList[i.toNat]).toNat:Int)=bt s i:=by
  unfold bt
  rw [dif_pos (by omega)]
  rfl
 simp only [List.map_cons,List.map_nil,e2]
theorem bt_one (x:Int) (h0:0 ≤ x) (h1:x ≤ 255):bt (strOfNums [x]) 0=x:=by
 have h:=bytes_str (xs:=[x]) (by intro y hy;rw [List.mem_singleton.1 hy];exact ⟨h0,h1⟩)
 rw [← rd_bytesOf,h]
 rfl
theorem index_dig (s:ByteArray) (i:Int):strings_IndexByte.f (⟨#[48,49,50,51,52,53,54,55,56,57,97,98,99,100,101,102]⟩:ByteArray) (bt (strOfNums [foldC (bt s i)]) 0)=some (digV (bt s i)):=by
 have hr:=bt_range s i
 have hf:=foldC_byte _ hr.1 hr.2
 rw [bt_one _ hf.1 hf.2]
 rfl
theorem pow_pos' (b:Int) (hb:1 ≤ b) : ∀ n:Nat,1 ≤ b ^ n
 | 0=>by simp
 | n + 1=>by
  rw [Int.pow_succ]
  have h1:=pow_pos' b hb n
  have h2:=Int.mul_le_mul_of_nonneg_left hb (show 0 ≤ b ^ n by omega)
  rw [Int.mul_one] at h2
  omega
theorem pow_mono' (b:Int) (hb:1 ≤ b) (i:Nat) : ∀ d:Nat,b ^ i ≤ b ^ (i + d)
 | 0=>Int.le_refl _
 | d + 1=>by
  rw [← Nat.add_assoc,Int.pow_succ]
  have h0:=pow_mono' b hb i d
  have h1:=pow_pos' b hb (i + d)
  have h2:=Int.mul_le_mul_of_nonneg_left hb (show 0 ≤ b ^ (i + d) by omega)
  rw [Int.mul_one] at h2
  omega
/-- Too long: none. -/
theorem number_long (s:ByteArray) (base most:Int) (hm:(s.size:Int) > most) (hs:s.size ≤ 140737488355327) (d:Nat) : ∀ (k:Nat) (n i:Int),0 ≤ i → (s.size:Int) - i=d → 2 * d + 1 ≤ k →
 sign_number.l0 k s base most n (s.size:Int) i=some (0,false):=by
 induction d with
 | zero =>
  intro k n i h0 hd hk
  obtain ⟨k,rfl⟩ : ∃ m,k=m + 1:=⟨k - 1,by omega⟩
  simp only [sign_number.l0]
  rw [if_neg (by omega)]
  repeat' split
  all_goals first|rfl|(exfalso;omega)
 | succ d ih =>
  intro k n i h0 hd hk
  obtain ⟨k,rfl⟩ : ∃ m,k=m + 2:=⟨k - 2,by omega⟩
  have hw:wrap64 (i + 1)=i + 1:=by unfold wrap64;omega
  have ih' := fun n=>ih k n (i + 1) (by omega) (by omega) (by omega)
  simp only [sign_number.l0]
  rw [if_pos (by omega),if_pos h0,hw,if_pos (by omega),if_pos (by omega),one_fold s i h0 (by omega),Option.bind_some,if_pos (by rw [str_size];simp),index_dig,Option.bind_some]
  simp only [sign_number.j1]
  rw [hw,ih',ih']
  repeat' split
  all_goals rfl
theorem number_short (s : ByteArray) (base : Int) (most : Nat) (hb0 : 0 ≤ base) (hB : base ^ most ≤ 4611686018427387904) (hb1 : 1 ≤ base) (hm : s.size ≤ most) (hs : s.size ≤ 140737488355327) (d : Nat) : ∀ (k : Nat) (n : Int) (i : Nat), i + d = s.size → 2 * d + 1 ≤ k → 0 ≤ n → n + 1 ≤ base ^ i →
    sign_number.l0 k s base most n (s.size : Int) i = some (match numL base ((bytesOf s).drop i) n with | some v => if s.size = 0 then (0, false) else (v, true) | none => (0, false)) := by
  induction d with
  | zero =>
    intro k n i hi hk h0 hn
    obtain ⟨k, rfl⟩ : ∃ m, k = m + 1 := ⟨k - 1, by omega⟩
    rw [List.drop_of_length_le (by rw [bytesOf_length]; omega)]
    simp only [sign_number.l0, numL]
    rw [if_neg (by omega)]
    by_cases hz : s.size = 0
    · have he : s.toList = [] := by rw [toList_data]; exact List.eq_nil_of_length_eq_zero (by rw [data_length]; exact hz)
      rw [if_pos he, if_pos hz]
    · have he : ¬ (s.toList = []) := by
        intro e
        rw [toList_data] at e
        have := data_length s
        rw [e] at this
        exact hz this.symm
      rw [if_neg he, if_neg hz, if_neg (by omega)]
  | succ d ih =>
    intro k n i hi hk h0 hn
    obtain ⟨k, rfl⟩ : ∃ m, k = m + 2 := ⟨k - 2, by omega⟩
    have hw : wrap64 ((i : Int) + 1) = (i : Int) + 1 := by unfold wrap64; omega
    have hl : i < (bytesOf s).length := by rw [bytesOf_length]; omega
    have hg : (bytesOf s)[i] = bt s i := by rw [← rd_bytesOf]; simp [rd, List.getD_eq_getElem?_getD, List.getElem?_eq_getElem hl]
    have hr := bt_range s i
    have hP : base ^ (i + 1) = base ^ i * base := Int.pow_succ _ _
    have hle : base ^ (i + 1) ≤ base ^ most := by
      have := pow_mono' base hb1 (i + 1) (most - (i + 1))
      rwa [show i + 1 + (most - (i + 1)) = most by omega] at this
    have h1 := Int.mul_le_mul_of_nonneg_right hn hb0
    rw [Int.add_mul, ← hP, Int.one_mul] at h1
    have h2 : 0 ≤ n * base := Int.mul_nonneg h0 hb0
    have h3 : 0 ≤ base := hb0
    have hdl := digV_lt _ hr.1 hr.2
    rw [List.drop_eq_getElem_cons hl, hg]
    simp only [sign_number.l0, numL]
    rw [if_pos (by omega), if_pos (by omega), hw, if_pos (by omega), if_pos (by omega), one_fold s i (by omega) (by omega), Option.bind_some, if_pos (by rw [str_size]; simp), index_dig, Option.bind_some]
    simp only [sign_number.j1]
    obtain ⟨D, hD⟩ : ∃ D, D = digV (bt s i) := ⟨_, rfl⟩
    rw [← hD] at hdl ⊢
    by_cases hv : 0 ≤ D ∧ D < base
    · rw [if_neg (by omega), decide_eq_false (by omega), if_neg (by simp), if_pos (by omega), hw, if_pos hv]
      have e1 : wrap64 (wrap64 (n * base) + D) = n * base + D := by unfold wrap64; omega
      rw [e1]
      have := ih k (n * base + D) (i + 1) (by omega) (by omega) (by omega) (by omega)
      rw [show (((i + 1 : Nat)) : Int) = (i : Int) + 1 by omega] at this
      exact this
    · rw [if_neg hv]
      by_cases hn0 : D < 0
      · rw [if_pos hn0, if_pos trivial]
      · rw [if_neg hn0, decide_eq_true (by omega), if_pos rfl]
/-- What number tells. -/
def numSpec (s:ByteArray) (base:Int) (most:Nat):Int × Bool :=
 if s.size=0 ∨ s.size > most then (0,false) else match numL base (bytesOf s) 0 with|some v=>(v,true)|none=>(0,false)
theorem number_f (s:ByteArray) (base:Int) (most:Nat) (hb1:1 ≤ base) (hB:base ^ most ≤ 4611686018427387904) (hs:s.size ≤ 140737488355327) (k:Nat) (hk:2 * s.size + 1 ≤ k):sign_number.f k s base most=some (numSpec s base most):=by
 unfold sign_number.f numSpec
 by_cases hm:s.size > most
 ·rw [if_pos (Or.inr hm)]
  exact number_long s base most (by omega) hs s.size k 0 0 (by omega) (by omega) hk
 have:=number_short s base most (by omega) hB hb1 (by omega) hs s.size k 0 0 (by omega) hk (by omega) (by simp)
 rw [show ((0:Nat):Int)=0 from rfl] at this
 rw [this]
 by_cases hz:s.size=0
 ·rw [if_pos (Or.inl hz),List.drop_zero]
  cases numL base (bytesOf s) 0 <;> simp [hz]
 rw [if_neg (by omega),List.drop_zero]
 cases numL base (bytesOf s) 0 <;> simp [hz]
theorem Decimal_f (s:ByteArray) (hs:s.size ≤ 140737488355327) (k:Nat) (hk:2 * s.size + 1 ≤ k):sign_Decimal.f k s=some (numSpec s 10 18):=by
 unfold sign_Decimal.f
 rw [show (18:Int)=((18:Nat):Int) from rfl,number_f s 10 18 (by decide) (by decide) hs k hk,Option.bind_some]
theorem Hex_f (s:ByteArray) (hs:s.size ≤ 140737488355327) (k:Nat) (hk:2 * s.size + 1 ≤ k):sign_Hex.f k s=some (numSpec s 16 15):=by
 unfold sign_Hex.f
 rw [show (15:Int)=((15:Nat):Int) from rfl,number_f s 16 15 (by decide) (by decide) hs k hk,Option.bind_some]
theorem blk_iff (b:UInt8):blk b=(decide (b=32) || decide (b=9)):=by
 unfold blk
 simp [List.contains_cons]
theorem blank_f (b:UInt8):tollbarref02_blank.f (b.toNat:Int)=some (blk b):=by
 unfold tollbarref02_blank.f
 rw [blk_iff]
 by_cases h:b=32
 ·subst h;rfl
 have h1 : ¬ ((b.toNat:Int)=32):=fun e=>h (UInt8.toNat_inj.1 (show b.toNat=32 by omega))
 rw [if_neg h1]
 by_cases h2:b=9
 ·subst h2;rfl
 have h3 : ¬ ((b.toNat:Int)=9):=fun e=>h2 (UInt8.toNat_inj.1 (show b.toNat=9 by omega))
 simp [h,h2,h3]
/-- Blanks behind taken away. -/
def rtrim (l:List UInt8):List UInt8:=(l.reverse.dropWhile blk).reverse
theorem rtrim_snoc (l:List UInt8) (c:UInt8):rtrim (l ++ [c])=if blk c=true then rtrim l else l ++ [c]:=by
 unfold rtrim
 rw [List.reverse_append,List.reverse_singleton,List.singleton_append,List.dropWhile_cons]
 split <;> simp
theorem rtrim_len (l:List UInt8):(rtrim l).length ≤ l.length:=by
 unfold rtrim
 rw [List.length_reverse]
 have:=(List.dropWhile_sublist blk (l:=l.reverse)).length_le
 rw [List.length_reverse] at this
 exact this
theorem snoc_parts (l:List UInt8) (c:UInt8) (hn:(l ++ [c]).length ≤ 4398046511104):((mkS (l ++ [c])).size:Int) > 0∧wrap64 (((mkS (l ++ [c])).size:Int) - 1)=(l.length:Int)∧((mkS (l ++ [c])).size:Int)=(l.length:Int) + 1∧bt (mkS (l ++ [c])) (l.length:Int)=(c.toNat:Int)∧(mkS (l ++ [c])).extract 0 l.length=mkS l:=by
 have hs:(mkS (l ++ [c])).size=l.length + 1:=by rw [mkS_size,List.length_append];rfl
 refine ⟨by omega,?_,by omega,?_,?_⟩
 ·rw [hs];rw [List.length_append] at hn;unfold wrap64;omega
 ·rw [bt_mk _ _ (by rw [List.length_append];simp)];simp
 rw [mkS_extract];simp
theorem rtail (n:Nat) : ∀ (l:List UInt8) (k:Nat),l.length=n → n < k → n ≤ 4398046511104 → tollbarref02_Trim.l1 k (mkS l)=some (mkS (rtrim l)):=by
 induction n with
 | zero =>
  intro l k hl hk _
  obtain ⟨k,rfl⟩ : ∃ m,k=m + 1:=⟨k - 1,by omega⟩
  obtain rfl:=List.eq_nil_of_length_eq_zero hl
  rw [tollbarref02_Trim.l1,if_neg (by rw [mkS_size];simp)]
  rfl
 | succ n ih =>
  intro l k hl hk hn
  obtain ⟨k,rfl⟩ : ∃ m,k=m + 1:=⟨k - 1,by omega⟩
  rcases List.eq_nil_or_concat l with rfl|⟨l',c,rfl⟩
  ·simp at hl
  rw [List.concat_eq_append] at hl ⊢
  rw [List.length_append] at hl
  obtain ⟨h1,h2,h3,h4,h5⟩:=snoc_parts l' c (by rw [List.length_append];omega)
  rw [tollbarref02_Trim.l1,if_pos h1,h2,if_pos (by omega),if_pos (by omega),h4,blank_f,Option.bind_some,rtrim_snoc]
  cases blk c
  ·rw [if_neg (by simp),if_neg (by simp)]
  rw [if_pos rfl,if_pos (by omega),if_pos rfl,Int.toNat_natCast,h5]
  exact ih l' k (by simpa using hl) (by omega) (by omega)
theorem rfront (n:Nat) : ∀ (l:List UInt8) (k:Nat),l.length=n → 2 * n + 3 ≤ k → n ≤ 4398046511104 → tollbarref02_Trim.l0 k (mkS l)=some (mkS (rtrim (l.dropWhile blk))):=by
 induction n with
 | zero =>
  intro l k hl hk hn
  obtain ⟨k,rfl⟩ : ∃ m,k=m + 2:=⟨k - 2,by omega⟩
  obtain rfl:=List.eq_nil_of_length_eq_zero hl
  rw [tollbarref02_Trim.l0,if_neg (by rw [mkS_size];simp),tollbarref02_Trim.j1]
  exact rtail 0 [] k rfl (by omega) (by omega)
 | succ n ih =>
  intro l k hl hk hn
  obtain ⟨k,rfl⟩ : ∃ m,k=m + 2:=⟨k - 2,by omega⟩
  cases l with
  | nil=>simp at hl
  | cons c l =>
   have hb:bt (mkS (c :: l)) 0=(c.toNat:Int):=by have:=bt_mk (c :: l) 0 (by simp);simpa using this
   have hs:(mkS (c :: l)).size=l.length + 1:=by rw [mkS_size];rfl
   rw [List.length_cons] at hl
   rw [tollbarref02_Trim.l0,if_pos (by omega),if_pos (by omega),hb,blank_f,Option.bind_some,List.dropWhile_cons]
   cases blk c
   ·rw [if_neg (by simp),if_neg (by simp),tollbarref02_Trim.j1]
    exact rtail (n + 1) (c :: l) k (by rw [List.length_cons];omega) (by omega) hn
   rw [if_pos rfl,if_pos (by omega),if_pos rfl,mkS_extract,List.take_of_length_le (by rw [hs];simp)]
   exact ih l (k + 1) (by omega) (by omega) (by omega)
theorem trm_two (l:List UInt8):trm l=rtrim (l.dropWhile blk):=by
 obtain ⟨pre,e1,h1⟩:=dw_split blk l
 obtain ⟨post,e2,h2⟩:=dw_split blk (l.dropWhile blk).reverse
 have e3:l.dropWhile blk=rtrim (l.dropWhile blk) ++ post.reverse:=by
  have:=congrArg List.reverse e2
  rw [List.reverse_reverse,List.reverse_append] at this
  exact this
 have hc:Clean (rtrim (l.dropWhile blk)):=by
  refine ⟨fun a ha=>?_,fun a ha=>?_⟩
  ·refine dw_head blk l a ?_
   rw [e3,List.head?_append,ha];rfl
  unfold rtrim at ha
  rw [List.getLast?_reverse] at ha
  exact dw_head blk _ a ha
 have e4:l=pre ++ rtrim (l.dropWhile blk) ++ post.reverse:=by rw [List.append_assoc,← e3];exact e1
 conv=>lhs;rw [e4]
 exact trm_around pre _ _ hc h1 (fun a ha=>h2 a (List.mem_reverse.1 ha))
theorem refTrim_f (s:ByteArray) (hs:s.size ≤ 4398046511104) (k:Nat) (hk:2 * s.size + 3 ≤ k):tollbarref02_Trim.f k s=sign_Trim.f s:=by
 rw [Trim_f s (by omega),trm_two]
 unfold tollbarref02_Trim.f
 have:=rfront s.size s.data.toList k (by rw [data_length]) hk hs
 rw [mkS_self] at this
 exact this
/-- The size that a chunk's line tells;is it one? -/
def sizeS (l:List UInt8):Int × Bool :=
 ((numSpec (mkS (rtrim (l.takeWhile (· != 59)))) 16 15).1,(numSpec (mkS (rtrim (l.takeWhile (· != 59)))) 16 15).2 && (bytesOf (mkS ((l.dropWhile (· != 59)).drop 1))).all valB)
theorem take_none (sp:UInt8) (l:List UInt8) (h:sp ∉ l):l.takeWhile (· != sp)=l∧(l.dropWhile (· != sp)).drop 1=[]:=by
 induction l with
 | nil=>simp
 | cons x a ih =>
  have hx:x ≠ sp:=fun e=>h (by rw [e];exact List.mem_cons_self ..)
  have:=ih (fun e=>h (List.mem_cons_of_mem _ e))
  simp only [List.takeWhile_cons,List.dropWhile_cons,bne_iff_ne,ne_eq,hx,not_false_eq_true,if_true]
  exact ⟨by rw [this.1],this.2⟩
theorem sizeS_no (l:List UInt8) (h:59 ∉ l):sizeS l=numSpec (mkS (rtrim l)) 16 15:=by
 obtain ⟨e1,e2⟩:=take_none 59 l h
 unfold sizeS
 rw [e1,e2]
 have:(bytesOf (mkS [])).all valB=true:=by rw [mkS_bytes];rfl
 rw [this,Bool.and_true]
theorem sizeS_yes (a b:List UInt8) (h:59 ∉ a):sizeS (a ++ 59 :: b)=((numSpec (mkS (rtrim a)) 16 15).1,(numSpec (mkS (rtrim a)) 16 15).2 && (bytesOf (mkS b)).all valB):=by
 obtain ⟨e1,e2⟩:=take_first 59 a b h
 unfold sizeS
 rw [e1,e2]
theorem TrimRight_f (l:List UInt8) (hl:l.length ≤ 140737488355328):strings_TrimRight.f (mkS l) ⟨#[32,9]⟩=some (mkS (rtrim l)):=by
 unfold strings_TrimRight.f
 rw [if_pos ⟨by rw [mkS_size];omega,by decide,by decide⟩,mkS_data]
 rfl
theorem numL_bound (xs:List Int) : ∀ (n v:Int) (B:Int),0 ≤ n → n < B → numL 16 xs n=some v → 0 ≤ v∧v < B * 16 ^ xs.length:=by
 induction xs with
 | nil=>intro n v B h0 h1 h;simp only [numL,Option.some.injEq] at h;subst h;simpa using ⟨h0,h1⟩
 | cons x xs ih =>
  intro n v B h0 h1 h
  rw [numL] at h
  by_cases hd:0 ≤ digV x∧digV x < 16;rotate_left
  ·rw [if_neg hd] at h;cases h
  rw [if_pos hd] at h
  have:=ih _ v (B * 16) (by omega) (by omega) h
  rw [List.length_cons,Int.pow_succ,Int.mul_comm (16 ^ xs.length) 16,← Int.mul_assoc]
  exact this
theorem hexs_bound (s : ByteArray) : 0 ≤ (numSpec s 16 15).1 ∧ (numSpec s 16 15).1 ≤ 1152921504606846976 := by
  unfold numSpec
  split
  · exact ⟨by decide, by decide⟩
  · rename_i h
    cases hv : numL 16 (bytesOf s) 0 with
    | none => exact ⟨by decide, by decide⟩
    | some v =>
      have := numL_bound (bytesOf s) 0 v 1 (by decide) (by decide) hv
      have hl : (bytesOf s).length ≤ 15 := by rw [bytesOf_length]; omega
      have h2 : (16 : Int) ^ (bytesOf s).length ≤ 16 ^ 15 := by
        have := pow_mono' 16 (by decide) (bytesOf s).length (15 - (bytesOf s).length)
        rwa [show (bytesOf s).length + (15 - (bytesOf s).length) = 15 by omega] at this
      exact ⟨this.1, by simp only; have h3 : (16 : Int) ^ 15 = 1152921504606846976 := by decide
                        omega⟩
theorem size_bound (l:List UInt8):0 ≤ (sizeS l).1∧(sizeS l).1 ≤ 1152921504606846976:=hexs_bound _
theorem line_f (l:List Int) (p:Nat) (hp:p ≤ l.length) (hl:l.length ≤ 1000000) (k:Nat) (hk:3 * l.length + 3 ≤ k) :
 chunk_reader_line.f k l p=some ((cutSpec (l.drop p) 256).1,(cutSpec (l.drop p) 256).2.2,(p:Int) + (cutSpec (l.drop p) 256).2.1,decide ((cutSpec (l.drop p) 256).2.1=0) && decide ((cutSpec (l.drop p) 256).2.2=0)):=by
 unfold chunk_reader_line.f
 have hd:(l.drop p).length=l.length - p:=List.length_drop ..
 rw [if_pos (by omega),if_pos (by omega),Int.toNat_natCast,cut_f _ _ (by omega) k (by omega),Option.bind_some]
 have hw:wrap64 ((p:Int) + (cutSpec (l.drop p) 256).2.1)=(p:Int) + (cutSpec (l.drop p) 256).2.1:=by
  rcases cutS_shape (l.drop p) 256 with h|h <;> unfold wrap64 <;> omega
 rw [hw]
theorem size_f (l : List Int) (p : Nat) (hp : p ≤ l.length) (hl : l.length ≤ 1000000) (k : Nat) (hk : 3 * l.length + 3 ≤ k) :
    chunk_reader_size.f k l p = some (if (cutSpec (l.drop p) 256).2.2 = 0 then (if (cutSpec (l.drop p) 256).2.1 = 0 then (0, 0, (p : Int), true) else
        if (sizeS (cutSpec (l.drop p) 256).1.data.toList).2 = true then ((sizeS (cutSpec (l.drop p) 256).1.data.toList).1, 0, (p : Int) + (cutSpec (l.drop p) 256).2.1, false) else (0, 30, (p : Int) + (cutSpec (l.drop p) 256).2.1, false))
      else (0, (cutSpec (l.drop p) 256).2.2, (p : Int) + (cutSpec (l.drop p) 256).2.1, false)) := by
  unfold chunk_reader_size.f
  rw [line_f l p hp hl k hk, Option.bind_some]
  have hsh := cutS_shape (l.drop p) 256
  have hd : (l.drop p).length = l.length - p := List.length_drop ..
  obtain ⟨c, hc⟩ : ∃ c, c = cutSpec (l.drop p) 256 := ⟨_, rfl⟩
  rw [← hc] at hsh ⊢
  simp only
  by_cases h1 : c.2.2 = 0
  · rw [if_pos h1, if_pos h1]
    by_cases h2 : c.2.1 = 0
    · rw [if_pos h2, decide_eq_true h2, decide_eq_true h1, if_pos (by rfl), h2, Int.add_zero]
    · rw [if_neg h2, decide_eq_false h2, Bool.false_and, if_neg (by simp)]
      have hsz : c.1.data.toList.length ≤ 1000000 := by rw [data_length]; rcases hsh with h | h <;> omega
      have e0 : c.1 = mkS c.1.data.toList := (mkS_self _).symm
      obtain ⟨u, hu⟩ : ∃ u, u = c.1.data.toList := ⟨_, rfl⟩
      rw [← hu] at e0 hsz ⊢
      rw [e0]
      have hk2 : 2 * u.length + 1 ≤ k := by
        have : u.length = c.1.size := by rw [hu, data_length]
        rcases hsh with h | h <;> omega
      rcases split_first 59 u with h | ⟨a, b, hab, h⟩
      · have hr := rtrim_len u
        rw [Cut_no 59 u h, Option.bind_some]
        simp only
        rw [TrimRight_f u (by omega), Option.bind_some, Hex_f _ (by rw [mkS_size]; omega) k (by rw [mkS_size]; omega), Option.bind_some, sizeS_no u h]
        cases (numSpec (mkS (rtrim u)) 16 15).2
        · rw [if_neg (by simp), if_neg (by simp)]
        · rw [if_pos rfl, if_pos rfl, Value_f _ (by decide), Option.bind_some, if_pos (by rfl)]
      · subst hab
        have hab : (a ++ 59 :: b).length = a.length + b.length + 1 := by rw [List.length_append, List.length_cons]; omega
        have hr := rtrim_len a
        rw [Cut_yes 59 a b h (by omega), Option.bind_some]
        simp only
        rw [TrimRight_f a (by omega), Option.bind_some, Hex_f _ (by rw [mkS_size]; omega) k (by rw [mkS_size]; omega), Option.bind_some, sizeS_yes a b h]
        cases (numSpec (mkS (rtrim a)) 16 15).2
        · rw [if_neg (by simp), Bool.false_and, if_neg (by simp)]
        · rw [if_pos rfl, Bool.true_and, Value_f _ (by rw [mkS_size]; omega), Option.bind_some]
          cases (bytesOf (mkS b)).all valB <;> rfl
  · rw [if_neg h1, if_neg h1, decide_eq_false h1, Bool.and_false]
/-- The lines behind the last chunk, at most d more: the place behind them (0: they are not whole), the error. -/
def trailS (l : List Int) : Nat → Nat → Int × Int
  | 0, _ => (0, 3)
  | d + 1, p => if (cutSpec (l.drop p) 256).2.2 = 0 then (if (cutSpec (l.drop p) 256).2.1 = 0 then (0, 0)
      else if (cutSpec (l.drop p) 256).1.toList = [] then ((p : Int) + (cutSpec (l.drop p) 256).2.1, 0)
      else if fieldOk (cutSpec (l.drop p) 256).1.data.toList = true then trailS l d (p + (cutSpec (l.drop p) 256).2.1.toNat) else (0, 20))
    else (0, (cutSpec (l.drop p) 256).2.2)
/-- The body from a place on. -/
def decS (l : List Int) : Nat → Nat → Int → List Int → List Int × Int × Int
  | 0, _, _, _ => ([], 0, 0)
  | d + 1, p, left, out => if (cutSpec (l.drop p) 256).2.2 = 0 then (if (cutSpec (l.drop p) 256).2.1 = 0 then ([], 0, 0)
      else if (sizeS (cutSpec (l.drop p) 256).1.data.toList).2 = true then (if (sizeS (cutSpec (l.drop p) 256).1.data.toList).1 = 0 then
          (if (trailS l 41 (p + (cutSpec (l.drop p) 256).2.1.toNat)).2 = 0 then (if (trailS l 41 (p + (cutSpec (l.drop p) 256).2.1.toNat)).1 = 0 then ([], 0, 0) else (out, (trailS l 41 (p + (cutSpec (l.drop p) 256).2.1.toNat)).1, 0)) else ([], 0, (trailS l 41 (p + (cutSpec (l.drop p) 256).2.1.toNat)).2))
        else if (sizeS (cutSpec (l.drop p) 256).1.data.toList).1 > left then ([], 0, 2)
        else if (dataOf (l.drop (p + (cutSpec (l.drop p) 256).2.1.toNat)) ((p + (cutSpec (l.drop p) 256).2.1.toNat : Nat) : Int) (sizeS (cutSpec (l.drop p) 256).1.data.toList).1 false).2.1 = 0 then
          (if (dataOf (l.drop (p + (cutSpec (l.drop p) 256).2.1.toNat)) ((p + (cutSpec (l.drop p) 256).2.1.toNat : Nat) : Int) (sizeS (cutSpec (l.drop p) 256).1.data.toList).1 false).2.2.2 = true then ([], 0, 0)
            else decS l d (p + (cutSpec (l.drop p) 256).2.1.toNat + (sizeS (cutSpec (l.drop p) 256).1.data.toList).1.toNat + 2) (left - (sizeS (cutSpec (l.drop p) 256).1.data.toList).1) (out ++ (l.drop (p + (cutSpec (l.drop p) 256).2.1.toNat)).take (sizeS (cutSpec (l.drop p) 256).1.data.toList).1.toNat))
        else ([], 0, 20))
      else ([], 0, 30))
    else ([], 0, (cutSpec (l.drop p) 256).2.2)
theorem trail_f (l:List Int) (hl:l.length ≤ 1000000) : ∀ (d:Nat) (n p k:Nat),n + d=41 → 1 ≤ d → p ≤ l.length → d + 3 * l.length + 4 ≤ k →
 ∃ q m,chunk_reader_trailer.l k l p n=some ((trailS l d p).2,q,m)∧((trailS l d p).2=0 → (m=true ↔ (trailS l d p).1=0)∧(m=false → q=(trailS l d p).1)):=by
 intro d
 induction d with
 | zero=>intro n p k _ h;omega
 | succ d ih =>
  intro n p k hn _ hp hk
  obtain ⟨k,rfl⟩ : ∃ m,k=m + 1:=⟨k - 1,by omega⟩
  have hsh:=cutS_shape (l.drop p) 256
  have hd:(l.drop p).length=l.length - p:=List.length_drop ..
  rw [chunk_reader_trailer.l,line_f l p hp hl k (by omega),Option.bind_some,trailS]
  obtain ⟨c,hc⟩ : ∃ c,c=cutSpec (l.drop p) 256:=⟨_,rfl⟩
  rw [← hc] at hsh ⊢
  simp only
  by_cases h1:c.2.2=0;rotate_left
  ·rw [if_neg h1,if_neg h1]
   exact ⟨_,_,rfl,fun e=>absurd e h1⟩
  rw [if_pos h1,if_pos h1]
  by_cases h2:c.2.1=0
  ·rw [if_pos h2,decide_eq_true h2,decide_eq_true h1,if_pos (by rfl)]
   exact ⟨_,_,rfl,fun _=>⟨by simp,by simp⟩⟩
  rw [if_neg h2,decide_eq_false h2,Bool.false_and,if_neg (by simp)]
  by_cases h3:c.1.toList=[]
  ·rw [if_pos h3,if_pos h3]
   refine ⟨_,_,rfl,fun _=>⟨⟨by simp,fun e=>?_⟩,fun _=>rfl⟩⟩
   simp only at e
   rcases hsh with h|h <;> omega
  rw [if_neg h3,if_neg h3]
  have hz:c.1.data.toList.length=c.1.size:=data_length _
  have hz2:c.2.1 > 0∧c.2.1 ≤ (l.length:Int) - p∧(c.1.size:Int)=c.2.1 - 2:=by rcases hsh with h|h <;> omega
  obtain ⟨x,y,hf⟩:=field_f c.1.data.toList (by omega)
  rw [mkS_self] at hf
  rw [hf,Option.bind_some]
  simp only
  cases fieldOk c.1.data.toList
  ·rw [if_neg (by simp),if_neg (by decide),if_neg (by simp)]
   exact ⟨_,_,rfl,fun e=>by simp at e⟩
  rw [if_pos rfl,if_pos rfl,if_pos rfl]
  by_cases h4:(n:Int)=40
  ·obtain rfl:d=0:=by omega
   rw [if_pos h4,trailS]
   exact ⟨_,_,rfl,fun e=>by simp at e⟩
  rw [if_neg h4]
  have:=ih (n + 1) (p + c.2.1.toNat) k (by omega) (by omega) (by omega) (by omega)
  rw [show ((p + c.2.1.toNat:Nat):Int)=(p:Int) + c.2.1 by omega,show ((n + 1:Nat):Int)=(n:Int) + 1 by omega] at this
  exact this
theorem data_f (l:List Int) (p:Nat) (n:Int) (hp:p ≤ l.length) (h0:0 ≤ n) (h1:n ≤ 1152921504606846976):chunk_reader_data.f l p n false=some (dataOf (l.drop p) p n false):=by
 unfold chunk_reader_data.f
 rw [if_pos ⟨by omega,by omega,h0,by omega⟩,Int.toNat_natCast]
theorem data_shape (rest:List Int) (p n:Int) (h0:0 ≤ p) (hp:p ≤ 1000000) (n0:0 ≤ n) (hr:rest.length ≤ 1000000):(dataOf rest p n false).2.1=0 ∨ (dataOf rest p n false).2.1=20:=by
 unfold dataOf
 repeat' split
 all_goals first|exact Or.inl rfl|exact Or.inr rfl
theorem data_ok (rest:List Int) (p n:Int) (h0:0 ≤ p) (hp:p ≤ 1000000) (n0:0 ≤ n) (hr:rest.length ≤ 1000000) (h1:(dataOf rest p n false).2.1=0) (h2 : ¬ (dataOf rest p n false).2.2.2=true) :
 (dataOf rest p n false).1=rest.take n.toNat∧(dataOf rest p n false).2.2.1=p + (n + 2)∧n + 2 ≤ (rest.length:Int)∧rd rest n=13∧rd rest (n + 1)=10:=by
 unfold dataOf at h1 h2 ⊢
 by_cases a0:n < (rest.length:Int);rotate_left
 ·rw [if_neg a0] at h2;simp at h2
 rw [if_pos a0] at h1 h2 ⊢
 by_cases a1:rd rest n=13
 ·rw [if_pos a1] at h1 h2 ⊢
  by_cases a2:n + 1 < (rest.length:Int);rotate_left
  ·rw [if_neg a2] at h2;simp at h2
  rw [if_pos a2] at h1 h2 ⊢
  by_cases a3:rd rest (n + 1)=10
  ·rw [if_pos a3]
   exact ⟨rfl,by show wrap64 (p + (n + 2))=_;unfold wrap64;omega,by omega,a1,a3⟩
  ·rw [if_neg a3] at h1;simp at h1
 ·rw [if_neg a1] at h1;simp at h1
theorem dec_f (l:List Int) (hl:l.length ≤ 1000000) : ∀ (d p:Nat) (left:Int) (out:List Int) (k:Nat),p ≤ l.length → l.length < p + d → out.length ≤ p → 0 ≤ left → left ≤ 9223372036854775807 → d + 3 * l.length + 60 ≤ k →
 chunk_Decode.l k l p left out=some (decS l d p left out):=by
 intro d
 induction d with
 | zero=>intro p left out k h1 h2;omega
 | succ d ih =>
  intro p left out k hp hd ho hl0 hl1 hk
  obtain ⟨k,rfl⟩ : ∃ m,k=m + 1:=⟨k - 1,by omega⟩
  have hsh:=cutS_shape (l.drop p) 256
  have hdl:(l.drop p).length=l.length - p:=List.length_drop ..
  rw [chunk_Decode.l,size_f l p hp hl k (by omega),Option.bind_some,decS]
  obtain ⟨c,hc⟩ : ∃ c,c=cutSpec (l.drop p) 256:=⟨_,rfl⟩
  rw [← hc] at hsh ⊢
  by_cases h1:c.2.2=0;rotate_left
  ·rw [if_neg h1,if_neg h1]
   simp only
   rw [if_neg h1]
  rw [if_pos h1,if_pos h1]
  by_cases h2:c.2.1=0
  ·rw [if_pos h2,if_pos h2]
   simp
  have hz2:c.2.1 > 0∧c.2.1 ≤ (l.length:Int) - p∧(c.1.size:Int)=c.2.1 - 2:=by rcases hsh with h|h <;> omega
  rw [if_neg h2,if_neg h2]
  obtain ⟨z,hz⟩ : ∃ z,z=sizeS c.1.data.toList:=⟨_,rfl⟩
  have hzb:=size_bound c.1.data.toList
  rw [← hz] at hzb ⊢
  obtain ⟨q,hq⟩ : ∃ q,q=p + c.2.1.toNat:=⟨_,rfl⟩
  have hq2:(p:Int) + c.2.1=(q:Int):=by omega
  rw [← hq,hq2]
  by_cases h3:z.2=true
  ·rw [if_pos h3,if_pos h3]
   simp only
   rw [if_pos trivial,if_neg (by simp)]
   by_cases h4:z.1=0
   ·rw [if_pos h4,if_pos h4]
    obtain ⟨q',m,ht,hm⟩:=trail_f l hl 41 0 q k (by omega) (by omega) (by omega) (by omega)
    have ht' : chunk_reader_trailer.f k l q=some ((trailS l 41 q).2,q',m):=ht
    rw [ht',Option.bind_some]
    by_cases h5:(trailS l 41 q).2=0;rotate_left
    ·rw [if_neg h5,if_neg h5]
    obtain ⟨hm1,hm2⟩:=hm h5
    rw [if_pos h5,if_pos h5]
    by_cases h6:(trailS l 41 q).1=0
    ·rw [if_pos h6,if_pos (hm1.2 h6)]
    have hmf:m=false:=by cases m with|false=>rfl|true=>exact absurd (hm1.1 rfl) h6
    rw [if_neg h6,hmf,if_neg (by simp),hm2 hmf]
   rw [if_neg h4,if_neg h4]
   by_cases h5:z.1 > left
   ·rw [if_pos h5,if_pos h5]
   rw [if_neg h5,if_neg h5,data_f l q z.1 (by omega) hzb.1 hzb.2,Option.bind_some]
   have hdr:(l.drop q).length=l.length - q:=List.length_drop ..
   by_cases h6:(dataOf (l.drop q) (q:Int) z.1 false).2.1=0;rotate_left
   ·rcases data_shape (l.drop q) q z.1 (by omega) (by omega) hzb.1 (by omega) with e|e
    ·exact absurd e h6
    rw [if_neg h6,if_neg h6,e]
   rw [if_pos h6,if_pos h6]
   by_cases h7:(dataOf (l.drop q) (q:Int) z.1 false).2.2.2=true
   ·rw [if_pos h7,if_pos h7]
   obtain ⟨e1,e2,e3,_,_⟩:=data_ok (l.drop q) q z.1 (by omega) (by omega) hzb.1 (by omega) h6 h7
   have htk:((l.drop q).take z.1.toNat).length ≤ z.1.toNat:=List.length_take_le ..
   rw [if_neg h7,if_neg h7,e1,e2,if_pos (by omega),show wrap64 (left - z.1)=left - z.1 by unfold wrap64;omega,show (q:Int) + (z.1 + 2)=((q + z.1.toNat + 2:Nat):Int) by omega]
   exact ih _ _ _ k (by omega) (by omega) (by rw [List.length_append];omega) (by omega) (by omega) (by omega)
  ·rw [if_neg h3,if_neg h3]
   simp
theorem Decode_f (l:List Int) (most:Int) (hl:l.length ≤ 1000000) (hm:most ≤ 9223372036854775807) (k:Nat) (hk:4 * l.length + 70 ≤ k):chunk_Decode.f k l most=some (decS l (l.length + 1) 0 (mx most 0) []):=by
 unfold chunk_Decode.f
 exact dec_f l hl (l.length + 1) 0 (mx most 0) [] k (by omega) (by omega) (by simp) (by unfold mx;split <;> omega) (by unfold mx;split <;> omega) (by omega)
theorem same_tells (a b:ByteArray) (ha:a.size ≤ 140737488355328) (hb:b.size ≤ 140737488355328):sign_Same.f a b=some (decide ((bytesOf a).map foldC=(bytesOf b).map foldC)):=by
 unfold sign_Same.f
 by_cases h:(a.size:Int)=b.size
 ·rw [if_pos h,fold_tells a ha,Option.bind_some,fold_tells b hb,Option.bind_some,str_inj (bytes_fold (bytes_of a)) (bytes_fold (bytes_of b))]
 rw [if_neg h]
 have hne : ¬ ((bytesOf a).map foldC=(bytesOf b).map foldC):=by
  intro e
  have:=congrArg List.length e
  rw [List.length_map,List.length_map,bytesOf_length,bytesOf_length] at this
  omega
 rw [decide_eq_false hne]
/-- How many commas. -/
def cntC (sp:UInt8):List UInt8 → Nat
 | []=>0
 | c :: l=>if c=sp then cntC sp l + 1 else cntC sp l
theorem cntC_count {sp:UInt8} (l:List UInt8):l.count sp=cntC sp l:=by
 induction l with
 | nil=>rfl
 | cons c l ih=>rw [List.count_cons,ih];by_cases hc:c=sp <;> simp [cntC,hc]
theorem cntC_append {sp:UInt8} (a b:List UInt8):cntC sp (a ++ b)=cntC sp a + cntC sp b:=by
 rw [← cntC_count,← cntC_count,← cntC_count,List.count_append]
theorem cntC_none {sp:UInt8} (l:List UInt8):cntC sp l=0 ↔ sp ∉ l:=by rw [← cntC_count];exact List.count_eq_zero
theorem cntC_le {sp:UInt8} (l:List UInt8):cntC sp l ≤ l.length:=by rw [← cntC_count];exact List.count_le_length
/-- The parts between commas. -/
def pcs (sp:UInt8):List UInt8 → List (List UInt8)
 | []=>[[]]
 | c :: l=>if c=sp then [] :: pcs sp l else (match pcs sp l with|p :: ps=>(c :: p) :: ps|[]=>[[c]])
theorem pcs_ne {sp:UInt8} (l:List UInt8) : ∃ p ps,pcs sp l=p :: ps:=by
 induction l with
 | nil=>exact ⟨[],[],rfl⟩
 | cons c l ih =>
  obtain ⟨p,ps,h⟩:=ih
  by_cases hc:c=sp
  ·exact ⟨[],pcs sp l,by simp [pcs,hc]⟩
  exact ⟨c :: p,ps,by simp [pcs,hc,h]⟩
theorem pcs_none {sp:UInt8} (l:List UInt8) (h:sp ∉ l):pcs sp l=[l]:=by
 induction l with
 | nil=>rfl
 | cons c l ih =>
  have hc:c ≠ sp:=fun e=>h (e ▸ List.mem_cons_self ..)
  simp [pcs,hc,ih (fun e=>h (List.mem_cons_of_mem _ e))]
theorem pcs_append {sp:UInt8} (a b:List UInt8):pcs sp (a ++ sp :: b)=pcs sp a ++ pcs sp b:=by
 induction a with
 | nil=>simp [pcs]
 | cons c a ih =>
  by_cases hc:c=sp
  ·simp [pcs,hc,ih]
  obtain ⟨p,ps,hp⟩:=pcs_ne (sp:=sp) a
  simp [pcs,hc,ih,hp]
theorem pcs_length {sp:UInt8} (l:List UInt8):(pcs sp l).length=cntC sp l + 1:=by
 induction l with
 | nil=>rfl
 | cons c l ih =>
  by_cases hc:c=sp
  ·simp [pcs,cntC,hc,ih]
  obtain ⟨p,ps,hp⟩:=pcs_ne (sp:=sp) l
  rw [hp] at ih
  simp only [pcs,hc,if_false,hp,cntC]
  simpa using ih
theorem pcs_le {sp:UInt8} (l:List UInt8) : ∀ p ∈ pcs sp l,p.length ≤ l.length:=by
 induction l with
 | nil=>intro p hp;simp [pcs] at hp;simp [hp]
 | cons c l ih =>
  intro p hp
  by_cases hc:c=sp
  ·simp only [pcs,hc,if_true] at hp
   rcases List.mem_cons.1 hp with rfl|hp
   ·simp
   have:=ih p hp;simp;omega
  obtain ⟨q,qs,hq⟩:=pcs_ne (sp:=sp) l
  simp only [pcs,hc,if_false,hq] at hp
  rcases List.mem_cons.1 hp with rfl|hp
  ·have:=ih q (by rw [hq];exact List.mem_cons_self ..);simp;omega
  have:=ih p (by rw [hq];exact List.mem_cons_of_mem _ hp);simp;omega
/-- What Split tells. -/
theorem index_splitC {sp:UInt8} (l:List UInt8) (h:0 < cntC sp l) : ∃ a b,l=a ++ sp :: b∧sp ∉ a∧Lib.indexByte l sp=a.length:=by
 induction l with
 | nil=>simp [cntC] at h
 | cons c l ih =>
  by_cases hc:c=sp
  ·exact ⟨[],l,by simp [hc],by simp,by simp [Lib.indexByte,hc]⟩
  have h' : 0 < cntC sp l:=by simpa [cntC,hc] using h
  obtain ⟨a,b,h1,h2,h3⟩:=ih h'
  refine ⟨c :: a,b,by simp [h1],?_,?_⟩
  ·intro hm
   rcases List.mem_cons.1 hm with e|e
   ·exact hc e.symm
   exact h2 e
  have hb:(c == sp)=false:=by simpa using hc
  have hn:((a.length:Int) == -1)=false:=by simp only [beq_eq_false_iff_ne];omega
  simp [Lib.indexByte,hb,h3,hn]
theorem gs_endC {sp:UInt8} (k:Nat) (s:ByteArray) (x3:Int) (x9:List ByteArray) (i:Nat) (hc:sp ∉ s.data.toList) (hx:x3=i) (hl:x9.length=i + 1) (hi:i ≤ 4398046511104) :
 strings_genSplit.l0 (k + 1) s ⟨#[sp]⟩ 0 x3 x9 i=some (x9.take i ++ (pcs sp s.data.toList).map mkS):=by
 simp only [strings_genSplit.l0]
 rw [if_neg (by omega),if_pos (by omega),if_pos (by omega),wn1 i hi,if_pos (by omega),if_pos (by omega),pcs_none _ hc]
 have e1:((i:Int) + 1).toNat=i + 1:=by omega
 rw [e1,Int.toNat_natCast,List.take_succ_eq_append_getElem (by rw [List.length_set];omega),List.take_set_of_le (Nat.le_refl _)]
 simp [mkS_self]
theorem extract_midC {sp : UInt8} (s : ByteArray) (a b : List UInt8) (hab : s.data.toList = a ++ sp :: b) : (s.extract (a.length + 1) s.size).data.toList = b ∧ s.extract 0 a.length = mkS a ∧ (s.extract (a.length + 1) s.size).size ≤ s.size := by
  have e2 : (s.extract (a.length + 1) s.size).data.toList = b := by
    rw [Lib.extract_to_end, hab, ← List.drop_drop, List.drop_left]; rfl
  refine ⟨e2, ?_, ?_⟩
  · have : (s.extract 0 a.length).data.toList = a := by
      rw [Lib.extract_data, hab, List.drop_zero, Nat.sub_zero, List.take_left]
    rw [← mkS_self (s.extract 0 _), this]
  · have hlen : a.length + b.length + 1 = s.size := by rw [← data_length, hab]; simp; omega
    rw [← data_length, e2]
    omega
theorem gs_stepC {sp:UInt8} (k:Nat) (s:ByteArray) (x3:Int) (x9:List ByteArray) (i:Nat) (a b:List UInt8) (hab:s.data.toList=a ++ sp :: b) (hidx:Lib.indexByte s.data.toList sp=a.length) (hx:(i:Int) < x3) (hl:i < x9.length) (hs:s.size ≤ 4398046511104) (hi:i ≤ 4398046511104) :
 ∀ R,strings_genSplit.l0 k (s.extract (a.length + 1) s.size) ⟨#[sp]⟩ 0 x3 (x9.set i (mkS a)) ((i:Int) + 1)=R → strings_genSplit.l0 (k + 1) s ⟨#[sp]⟩ 0 x3 x9 i=R:=by
 intro R hR
 have hlen:a.length + b.length + 1=s.size:=by rw [← data_length,hab];simp;omega
 have hix:strings_Index.f s ⟨#[sp]⟩=some (a.length:Int):=by
  show some (Lib.indexByte s.data.toList sp)=_
  rw [hidx]
 have hs1:((⟨#[sp]⟩:ByteArray).size:Int)=1:=rfl
 have e1:((a.length:Int) + 1).toNat=a.length + 1:=by omega
 obtain ⟨_,e3,_⟩:=extract_midC s a b hab
 simp only [strings_genSplit.l0]
 rw [if_pos hx,hix]
 rw [Option.bind_some]
 rw [if_neg (by omega),wn0 _ (by omega),hs1,wn1 _ (by omega),if_pos (by omega),if_pos (by omega),if_pos (by omega),if_pos (by omega),if_pos (by omega),if_pos (by omega),wn1 i hi,e1,Int.toNat_natCast,Int.toNat_natCast,e3]
 exact hR
theorem gs_l0C {sp:UInt8} (d:Nat) : ∀ (k:Nat) (s:ByteArray) (x3:Int) (x9:List ByteArray) (i:Nat),cntC sp s.data.toList=d → x3=i + d → x9.length=i + d + 1 → d + 1 ≤ k → s.size ≤ 4398046511104 →
 i + d ≤ 4398046511104 → strings_genSplit.l0 k s ⟨#[sp]⟩ 0 x3 x9 i=some (x9.take i ++ (pcs sp s.data.toList).map mkS):=by
 induction d with
 | zero =>
  intro k s x3 x9 i hc hx hl hk hs hid
  obtain ⟨k,rfl⟩ : ∃ m,k=m + 1:=⟨k - 1,by omega⟩
  exact gs_endC k s x3 x9 i ((cntC_none _).1 hc) (by omega) (by omega) (by omega)
 | succ d ih =>
  intro k s x3 x9 i hc hx hl hk hs hid
  obtain ⟨k,rfl⟩ : ∃ m,k=m + 1:=⟨k - 1,by omega⟩
  obtain ⟨a,b,hab,ha,hidx⟩:=index_splitC (sp:=sp) s.data.toList (by omega)
  obtain ⟨e2,_,e4⟩:=extract_midC s a b hab
  have hcb:cntC sp b=d:=by
   rw [hab,cntC_append,(cntC_none a).2 ha] at hc
   simp only [cntC,if_true] at hc
   omega
  refine gs_stepC k s x3 x9 i a b hab hidx (by omega) (by omega) hs (by omega) _ ?_
  have:=ih k (s.extract (a.length + 1) s.size) x3 (x9.set i (mkS a)) (i + 1) (by rw [e2];exact hcb) (by omega) (by rw [List.length_set];omega) (by omega) (by omega) (by omega)
  rw [show (((i + 1:Nat)):Int)=(i:Int) + 1 by omega] at this
  rw [this,e2,hab,pcs_append,pcs_none a ha,List.take_succ_eq_append_getElem (by rw [List.length_set];omega),List.take_set_of_le (Nat.le_refl _)]
  simp
theorem gs_firstC {sp:UInt8} (k:Nat) (s:ByteArray) (hs:s.size ≤ 4398046511103) :
 ∀ R,strings_genSplit.l0 k s ⟨#[sp]⟩ 0 ((cntC sp s.data.toList:Nat):Int) (List.replicate (cntC sp s.data.toList + 1) (⟨#[]⟩:ByteArray)) 0=R → strings_genSplit.f (k + 1) s ⟨#[sp]⟩ 0 (-1)=R:=by
 intro R hR
 have hcl:=cntC_le (sp:=sp) s.data.toList
 rw [data_length] at hcl
 have hcf:strings_Count.f s ⟨#[sp]⟩=some ((cntC sp s.data.toList:Nat):Int):=by
  rw [← cntC_count];rfl
 obtain ⟨c,hc⟩ : ∃ c,c=cntC sp s.data.toList:=⟨_,rfl⟩
 rw [← hc] at hcf hcl hR
 have hm:mn ((c:Int) + 1) ((s.size:Int) + 1)=(c:Int) + 1:=by unfold mn;split <;> omega
 have e1:((c:Int) + 1).toNat=c + 1:=by omega
 have hne : ¬ ((⟨#[sp]⟩:ByteArray).toList=[]):=by rw [toList_data];simp
 unfold strings_genSplit.f
 rw [if_neg (by decide),if_neg hne,if_pos (by decide),hcf]
 rw [Option.bind_some]
 simp only [strings_genSplit.j0]
 rw [wn1 c (by omega),wn1 s.size (by omega),hm,wnm c (by omega),e1,if_pos (by omega),if_pos (by omega)]
 exact hR
theorem Split_fC {sp:UInt8} (s:ByteArray) (hs:s.size ≤ 4398046511103) (k:Nat) (hk:s.size + 3 ≤ k):strings_Split.f k s ⟨#[sp]⟩=some ((pcs sp s.data.toList).map mkS):=by
 obtain ⟨k,rfl⟩ : ∃ m,k=m + 1:=⟨k - 1,by omega⟩
 have hcl:=cntC_le (sp:=sp) s.data.toList
 rw [data_length] at hcl
 unfold strings_Split.f
 have:=gs_l0C (cntC sp s.data.toList) k s ((cntC sp s.data.toList:Nat):Int) (List.replicate (cntC sp s.data.toList + 1) (⟨#[]⟩:ByteArray)) 0 rfl (by omega) (by rw [List.length_replicate];omega) (by omega) (by omega) (by omega)
 rw [show ((0:Nat):Int)=0 from rfl] at this
 rw [gs_firstC k s hs _ this]
 simp
/-- The parts of a list: trimmed,the empty ones left out. -/
def commaParts (l:List UInt8):List (List UInt8):=((pcs 44 l).map trm).filter (fun p => !p.isEmpty)
theorem comma_append (a b:List UInt8):commaParts (a ++ 44 :: b)=commaParts a ++ commaParts b:=by
 simp [commaParts,pcs_append]
theorem comma_one (l:List UInt8) (h:44 ∉ l):commaParts l=if (trm l).isEmpty then [] else [trm l]:=by
 rw [commaParts,pcs_none l h]
 cases ht:(trm l).isEmpty <;> simp [ht]
theorem split_step (ps:List (List UInt8)) (i:Int) (h0:0 ≤ i) (hlt:i < (ps.length:Int)):((ps.drop i.toNat).map trm).filter (fun p => !p.isEmpty)=(if trm (ps.getD i.toNat [])=[] then [] else [trm (ps.getD i.toNat [])]) ++ ((ps.drop (i + 1).toNat).map trm).filter (fun p => !p.isEmpty):=by
 have hl:i.toNat < ps.length:=by omega
 have hg:ps.getD i.toNat []=ps[i.toNat]:=by rw [List.getD_eq_getElem?_getD,List.getElem?_eq_getElem hl];rfl
 rw [hg,List.drop_eq_getElem_cons hl,show (i + 1).toNat=i.toNat + 1 by omega,List.map_cons,List.filter_cons]
 by_cases he:trm ps[i.toNat]=[]
 ·rw [if_pos he,he];rfl
 rw [if_neg he,if_pos (by simpa using he)];rfl
theorem split_l0 (ps:List (List UInt8)) (hl : ∀ p ∈ ps,p.length ≤ 4398046511104) (hn:ps.length ≤ 4398046511104) (d:Nat) : ∀ (k:Nat) (out:List ByteArray) (i:Int),0 ≤ i → (ps.length:Int) - i=d → d + 1 ≤ k → (out.length:Int) ≤ i →
 sign_Split.l0 k out (ps.map mkS) (ps.length:Int) i=some (out ++ (((ps.drop i.toNat).map trm).filter (fun p => !p.isEmpty)).map mkS):=by
 induction d with
 | zero =>
  intro k out i h0 hd hk ho
  obtain ⟨k,rfl⟩ : ∃ m,k=m + 1:=⟨k - 1,by omega⟩
  simp only [sign_Split.l0]
  rw [if_neg (by omega),List.drop_of_length_le (by omega)]
  simp
 | succ d ih =>
  intro k out i h0 hd hk ho
  obtain ⟨k,rfl⟩ : ∃ m,k=m + 1:=⟨k - 1,by omega⟩
  have hlt:i.toNat < ps.length:=by omega
  have hg:ps.getD i.toNat []=ps[i.toNat]:=by rw [List.getD_eq_getElem?_getD,List.getElem?_eq_getElem hlt];rfl
  have hlp:=hl _ (List.getElem_mem hlt)
  rw [← hg] at hlp
  rw [split_step ps i h0 (by omega)]
  simp only [sign_Split.l0]
  rw [if_pos (by omega),if_pos h0,if_pos (by rw [List.length_map];omega),rdOf_mk ps i h0 (by omega),Trim_f _ (by rw [mkS_size];omega),mkS_data]
  simp only [Option.bind_some,wi1 i h0 (by omega)]
  rw [show (⟨(trm (ps.getD i.toNat [])).toArray⟩:ByteArray)=mkS (trm (ps.getD i.toNat [])) from rfl,mkS_toList]
  by_cases he:trm (ps.getD i.toNat [])=[]
  ·rw [if_pos he,if_pos he,ih k out (i + 1) (by omega) (by omega) (by omega) (by omega)]
   rfl
  rw [if_neg he,if_neg he,if_pos (by omega),ih k _ (i + 1) (by omega) (by omega) (by omega) (by rw [List.length_append];simp;omega)]
  simp only [List.map_append,List.map_cons,List.map_nil,List.append_assoc]
theorem signSplit_f (s:ByteArray) (hs:s.size ≤ 4398046511103) (k:Nat) (hk:s.size + 3 ≤ k):sign_Split.f k s=some ((commaParts s.data.toList).map mkS):=by
 unfold sign_Split.f
 have hpl:=pcs_length (sp:=44) s.data.toList
 have hcl:=cntC_le (sp:=44) s.data.toList
 rw [data_length] at hcl
 rw [Split_fC s hs k hk]
 simp only [Option.bind_some,List.length_map]
 rw [split_l0 (pcs 44 s.data.toList) (fun p hp=>by have:=pcs_le _ p hp;rw [data_length] at this;omega) (by omega) (pcs 44 s.data.toList).length k [] 0 (by omega) (by omega) (by omega) (by simp)]
 rfl
theorem rdT_at (xs:List (S36)) (i:Nat) (h:i < xs.length):rd_T36 xs (i:Int)=xs[i]:=by
 unfold rd_T36
 rw [Int.toNat_natCast,List.getD_eq_getElem?_getD,List.getElem?_eq_getElem h];rfl
theorem rdB_at (xs:List ByteArray) (i:Nat) (h:i < xs.length):rdOf ByteArray.empty xs (i:Int)=xs[i]:=by
 unfold rdOf
 rw [Int.toNat_natCast,List.getD_eq_getElem?_getD,List.getElem?_eq_getElem h];rfl
/-- The same names. -/
def sameN (a b:ByteArray):Bool:=decide ((bytesOf a).map foldC=(bytesOf b).map foldC)
theorem same_f (a b:ByteArray) (ha:a.size ≤ 140737488355328) (hb:b.size ≤ 140737488355328):sign_Same.f a b=some (sameN a b):=same_tells a b ha hb
/-- Few fields,of short texts. -/
def FB (fs:List (S36)):Prop:=fs.length ≤ 1000 ∧ ∀ f ∈ fs,f.f0.size ≤ 1048576∧f.f1.size ≤ 1048576
/-- The values of a name. -/
def getS (name:ByteArray):List (S36) → List ByteArray
 | []=>[]
 | f :: r=>if sameN f.f0 name=true then f.f1 :: getS name r else getS name r
theorem getS_len (name:ByteArray) : ∀ fs,(getS name fs).length ≤ fs.length
 | []=>Nat.le_refl _
 | f :: r=>by rw [getS];have:=getS_len name r;split <;> simp only [List.length_cons] <;> omega
theorem getS_mem (name:ByteArray) : ∀ (fs:List (S36)) (v:ByteArray),v ∈ getS name fs → ∃ f ∈ fs,v=f.f1∧sameN f.f0 name=true
 | [],v,h=>by cases h
 | f :: r,v,h=>by
  rw [getS] at h
  by_cases hs:sameN f.f0 name=true;rotate_left
  ·rw [if_neg hs] at h
   obtain ⟨g,hg,e⟩:=getS_mem name r v h;exact ⟨g,List.mem_cons_of_mem _ hg,e⟩
  rw [if_pos hs] at h
  rcases List.mem_cons.1 h with rfl|h
  ·exact ⟨f,List.mem_cons_self,rfl,hs⟩
  ·obtain ⟨g,hg,e⟩:=getS_mem name r v h;exact ⟨g,List.mem_cons_of_mem _ hg,e⟩
theorem get_l0 (name:ByteArray) (hn:name.size ≤ 1048576) (fs:List (S36)) (hf:FB fs) (d:Nat) : ∀ (k i:Nat) (out:List ByteArray),i + d=fs.length → d < k → out.length ≤ i →
 field_Get.l0 k name out fs (fs.length:Int) (i:Int)=some (out ++ getS name (fs.drop i)):=by
 have hfl:=hf.1
 induction d with
 | zero =>
  intro k i out hi hk ho
  obtain ⟨k,rfl⟩ : ∃ m,k=m + 1:=⟨k - 1,by omega⟩
  rw [field_Get.l0,if_neg (by omega),List.drop_of_length_le (by omega),getS,List.append_nil]
 | succ d ih =>
  intro k i out hi hk ho
  obtain ⟨k,rfl⟩ : ∃ m,k=m + 1:=⟨k - 1,by omega⟩
  have hlt:i < fs.length:=by omega
  have hb:=hf.2 _ (List.getElem_mem hlt)
  have hw:wrap64 ((i:Int) + 1)=((i + 1:Nat):Int):=by unfold wrap64;omega
  rw [field_Get.l0,if_pos (by omega),if_pos (by omega),if_pos (by omega),rdT_at fs i hlt,same_f _ _ (by omega) (by omega),Option.bind_some,hw,List.drop_eq_getElem_cons hlt,getS]
  by_cases hs:sameN fs[i].f0 name=true;rotate_left
  ·rw [if_neg hs,if_neg hs,ih k (i + 1) _ (by omega) (by omega) (by omega)]
  rw [if_pos hs,if_pos hs,if_pos (by omega),ih k (i + 1) _ (by omega) (by omega) (by rw [List.length_append];simp;omega)]
  simp only [List.append_assoc,List.singleton_append]
theorem Get_f (fs:List (S36)) (name:ByteArray) (hf:FB fs) (hn:name.size ≤ 1048576) (k:Nat) (hk:fs.length < k):field_Get.f k fs name=some (getS name fs):=by
 have:=get_l0 name hn fs hf fs.length k 0 [] (by omega) hk (Nat.zero_le _)
 rw [List.drop_zero,List.nil_append] at this
 exact this
/-- A value's parts. -/
def partsS (v:ByteArray):List ByteArray:=(commaParts v.data.toList).map mkS
theorem comma_len (l:List UInt8):(commaParts l).length ≤ l.length + 1:=by
 unfold commaParts
 have h1:=List.length_filter_le (fun p => !p.isEmpty) ((pcs 44 l).map trm)
 rw [List.length_map,pcs_length] at h1
 have h2:=cntC_le (sp:=44) l
 omega
theorem parts_len (v:ByteArray):(partsS v).length ≤ v.size + 1:=by
 unfold partsS
 rw [List.length_map]
 have:=comma_len v.data.toList
 rw [data_length] at this
 exact this
theorem comma_size (l:List UInt8) : ∀ p ∈ commaParts l,p.length ≤ l.length:=by
 intro p hp
 unfold commaParts at hp
 obtain ⟨q,hq,rfl⟩:=List.mem_map.1 (List.mem_filter.1 hp).1
 exact Nat.le_trans (trm_length q) (pcs_le l q hq)
theorem parts_size (v:ByteArray) : ∀ p ∈ partsS v,p.size ≤ v.size:=by
 intro p hp
 obtain ⟨q,hq,rfl⟩:=List.mem_map.1 hp
 rw [mkS_size,← data_length]
 exact comma_size _ q hq
theorem list_l0 (vs:List ByteArray) (hl:vs.length ≤ 1000) (hv : ∀ v ∈ vs,v.size ≤ 1048576) (d:Nat) : ∀ (k i:Nat) (out:List ByteArray),i + d=vs.length → d + 1048580 ≤ k → out.length ≤ 1048577 * i →
 field_List.l0 k out vs (vs.length:Int) (i:Int)=some (out ++ (vs.drop i).flatMap partsS):=by
 induction d with
 | zero =>
  intro k i out hi hk ho
  obtain ⟨k,rfl⟩ : ∃ m,k=m + 1:=⟨k - 1,by omega⟩
  rw [field_List.l0,if_neg (by omega),List.drop_of_length_le (by omega),List.flatMap_nil,List.append_nil]
 | succ d ih =>
  intro k i out hi hk ho
  obtain ⟨k,rfl⟩ : ∃ m,k=m + 1:=⟨k - 1,by omega⟩
  have hlt:i < vs.length:=by omega
  have hb:=hv _ (List.getElem_mem hlt)
  have hp:=parts_len vs[i]
  have hw:wrap64 ((i:Int) + 1)=((i + 1:Nat):Int):=by unfold wrap64;omega
  rw [field_List.l0,if_pos (by omega),if_pos (by omega),if_pos (by omega),rdB_at vs i hlt,signSplit_f _ (by omega) k (by omega),Option.bind_some,hw,List.drop_eq_getElem_cons hlt,List.flatMap_cons]
  have e:(commaParts vs[i].data.toList).map mkS=partsS vs[i]:=rfl
  rw [e,if_pos (by omega),ih k (i + 1) _ (by omega) (by omega) (by rw [List.length_append];omega),List.append_assoc]
/-- All parts of a name's values. -/
def listS (name:ByteArray) (fs:List (S36)):List ByteArray:=(getS name fs).flatMap partsS
theorem get_bounds (fs:List (S36)) (name:ByteArray) (hf:FB fs):(getS name fs).length ≤ 1000 ∧ ∀ v ∈ getS name fs,v.size ≤ 1048576:=by
 refine ⟨Nat.le_trans (getS_len name fs) hf.1,fun v hv=>?_⟩
 obtain ⟨f,hm,rfl,_⟩:=getS_mem name fs v hv
 exact (hf.2 f hm).2
theorem List_f (fs:List (S36)) (name:ByteArray) (hf:FB fs) (hn:name.size ≤ 1048576) (k:Nat) (hk:1049600 ≤ k):field_List.f k fs name=some (listS name fs):=by
 obtain ⟨h1,h2⟩:=get_bounds fs name hf
 have hfl:=hf.1
 unfold field_List.f
 rw [Get_f fs name hf hn k (by omega),Option.bind_some]
 have:=list_l0 (getS name fs) h1 h2 (getS name fs).length k 0 [] (by omega) (by omega) (by simp)
 rw [List.drop_zero,List.nil_append] at this
 exact this
theorem flat_len (B:Nat) : ∀ vs:List ByteArray,(∀ v ∈ vs,v.size ≤ B) → (vs.flatMap partsS).length ≤ vs.length * (B + 1)
 | [],_=>by simp
 | v :: r,h=>by
  rw [List.flatMap_cons,List.length_append,List.length_cons,Nat.succ_mul]
  have h1:=flat_len B r (fun u hu=>h u (List.mem_cons_of_mem _ hu))
  have h2:=parts_len v
  have h3:=h v List.mem_cons_self
  omega
theorem list_bounds (fs:List (S36)) (name:ByteArray) (hf:FB fs):(listS name fs).length ≤ 1048577000 ∧ ∀ p ∈ listS name fs,p.size ≤ 1048576:=by
 obtain ⟨h1,h2⟩:=get_bounds fs name hf
 refine ⟨?_,fun p hp=>?_⟩
 ·have h3:=flat_len 1048576 (getS name fs) h2
  unfold listS
  have h4:(getS name fs).length * 1048577 ≤ 1000 * 1048577:=Nat.mul_le_mul_right _ h1
  omega
 unfold listS at hp
 obtain ⟨v,hv,hp⟩:=List.mem_flatMap.1 hp
 exact Nat.le_trans (parts_size v p hp) (h2 v hv)
theorem any_f (q:ByteArray → Option Bool) (p:ByteArray → Bool) : ∀ l:List ByteArray,(∀ x ∈ l,q x=some (p x)) → anyO q l=some (l.any p)
 | [],_=>rfl
 | x :: r,h=>by
  rw [anyO,h x List.mem_cons_self,Option.bind_some,List.any_cons]
  cases hp:p x
  ·simp only [Bool.false_eq_true,if_false,Bool.false_or]
   exact any_f q p r (fun y hy=>h y (List.mem_cons_of_mem _ hy))
  simp
/-- Is a part among a name's? -/
def hasS (fs:List (S36)) (name part:ByteArray):Bool:=(listS name fs).any (fun p=>sameN p part)
theorem Has_f (fs:List (S36)) (name part:ByteArray) (hf:FB fs) (hn:name.size ≤ 1048576) (hp:part.size ≤ 1048576) (k:Nat) (hk:1049600 ≤ k):field_Has.f k fs name part=some (hasS fs name part):=by
 unfold field_Has.f
 rw [List_f fs name hf hn k hk,Option.bind_some]
 exact any_f _ _ _ (fun x hx=>same_f x part (by have:=(list_bounds fs name hf).2 x hx;omega) (by omega))
theorem dec_fact (c:Int) (h0:0 ≤ c) (h1:c ≤ 255):tollbarref02_Digit.f c=some (decide (0 ≤ digV c∧digV c < 10))∧((0 ≤ digV c∧digV c < 10) → (c - 48) % 256=digV c):=by
 obtain ⟨n,rfl⟩:=Int.eq_ofNat_of_zero_le h0
 have h : ∀ m:Fin 256,tollbarref02_Digit.f (m.val:Int)=some (decide (0 ≤ digV (m.val:Int)∧digV (m.val:Int) < 10))∧((0 ≤ digV (m.val:Int)∧digV (m.val:Int) < 10) → ((m.val:Int) - 48) % 256=digV (m.val:Int)):=by decide +kernel
 exact h ⟨n,by omega⟩
/-- What a loop over digits tells. -/
def told (r:Option Int):Int × Bool:=match r with|some v=>(v,true)|none=>(0,false)
theorem refDec_l0 (s:ByteArray) (hm:s.size ≤ 18) (d:Nat) : ∀ (k:Nat) (n:Int) (i:Nat),i + d=s.size → d + 1 ≤ k → 0 ≤ n → n + 1 ≤ 10 ^ i →
 tollbarref02_Decimal.l0 k s n i=some (told (numL 10 ((bytesOf s).drop i) n)):=by
 induction d with
 | zero =>
  intro k n i hi hk h0 hn
  obtain ⟨k,rfl⟩ : ∃ m,k=m + 1:=⟨k - 1,by omega⟩
  rw [List.drop_of_length_le (by rw [bytesOf_length];omega)]
  simp only [tollbarref02_Decimal.l0,numL]
  rw [if_neg (by omega)]
  rfl
 | succ d ih =>
  intro k n i hi hk h0 hn
  obtain ⟨k,rfl⟩ : ∃ m,k=m + 1:=⟨k - 1,by omega⟩
  have hw:wrap64 ((i:Int) + 1)=((i + 1:Nat):Int):=by unfold wrap64;omega
  have hl:i < (bytesOf s).length:=by rw [bytesOf_length];omega
  have hg:(bytesOf s)[i]=bt s i:=by rw [← rd_bytesOf];simp [rd,List.getD_eq_getElem?_getD,List.getElem?_eq_getElem hl]
  have hr:=bt_range s i
  obtain ⟨f1,f2⟩:=dec_fact _ hr.1 hr.2
  have hP:(10:Int) ^ (i + 1)=10 ^ i * 10:=Int.pow_succ _ _
  have hle:=pow_mono' 10 (by decide) (i + 1) (18 - (i + 1))
  rw [show i + 1 + (18 - (i + 1))=18 by omega,hP] at hle
  have hc:(10:Int) ^ 18=1000000000000000000:=by decide
  rw [List.drop_eq_getElem_cons hl,hg]
  simp only [tollbarref02_Decimal.l0,numL]
  rw [if_pos (by omega),if_pos (by omega),f1,Option.bind_some]
  by_cases hv:0 ≤ digV (bt s i)∧digV (bt s i) < 10;rotate_left
  ·rw [decide_eq_false hv,if_neg (by simp),if_neg hv]
   rfl
  rw [decide_eq_true hv,if_pos rfl,if_pos hv,f2 hv,hw]
  have e1:wrap64 (wrap64 (n * 10) + digV (bt s i))=n * 10 + digV (bt s i):=by unfold wrap64;omega
  rw [e1]
  exact ih k _ (i + 1) (by omega) (by omega) (by omega) (by omega)
theorem refDecimal_f (s:ByteArray) (k:Nat) (hk:40 ≤ k) (hs:s.size ≤ 140737488355327):tollbarref02_Decimal.f k s=some (numSpec s 10 18):=by
 obtain ⟨k,rfl⟩ : ∃ m,k=m + 1:=⟨k - 1,by omega⟩
 unfold tollbarref02_Decimal.f numSpec
 by_cases h0:s.size=0
 ·rw [if_pos (by omega),if_pos (Or.inl h0)]
  simp only [tollbarref02_Decimal.j0]
  rfl
 rw [if_neg (by omega)]
 by_cases h1:s.size > 18
 ·rw [decide_eq_true (by omega),if_pos (Or.inr h1)]
  simp only [tollbarref02_Decimal.j0]
  rfl
 rw [decide_eq_false (by omega),if_neg (by omega)]
 simp only [tollbarref02_Decimal.j0]
 rw [if_neg (by simp)]
 have:=refDec_l0 s (by omega) s.size k 0 0 (by omega) (by omega) (by omega) (by simp)
 rw [show ((0:Nat):Int)=0 from rfl,List.drop_zero] at this
 exact this
theorem numL_nn (b:Int) (hb:0 ≤ b) : ∀ (l:List Int) (n v:Int),0 ≤ n → numL b l n=some v → 0 ≤ v
 | [],n,v,hn,h=>by simp only [numL,Option.some.injEq] at h;omega
 | c :: r,n,v,hn,h=>by
  rw [numL] at h
  split at h
  ·next hc=>exact numL_nn b hb r _ v (by have:=Int.mul_nonneg hn hb;omega) h
  cases h
theorem num_nn (s:ByteArray):0 ≤ (numSpec s 10 18).1:=by
 unfold numSpec
 split
 ·exact Int.le_refl _
 split
 ·next v hv=>exact numL_nn 10 (by decide) _ 0 v (Int.le_refl _) hv
 exact Int.le_refl _
def lenNm:ByteArray:=⟨#[99,111,110,116,101,110,116,45,108,101,110,103,116,104]⟩
def teNm:ByteArray:=⟨#[116,114,97,110,115,102,101,114,45,101,110,99,111,100,105,110,103]⟩
def lenNM:ByteArray:=⟨#[67,111,110,116,101,110,116,45,76,101,110,103,116,104]⟩
def teNM:ByteArray:=⟨#[84,114,97,110,115,102,101,114,45,69,110,99,111,100,105,110,103]⟩
theorem getS_nm (p q:ByteArray) (h:(bytesOf p).map foldC=(bytesOf q).map foldC) : ∀ fs,getS p fs=getS q fs
 | []=>rfl
 | f :: r=>by rw [getS,getS,getS_nm p q h r];unfold sameN;rw [h]
theorem listS_nm (p q:ByteArray) (h:(bytesOf p).map foldC=(bytesOf q).map foldC) (fs:List (S36)):listS p fs=listS q fs:=by unfold listS;rw [getS_nm p q h]
theorem len_nm:(bytesOf lenNM).map foldC=(bytesOf lenNm).map foldC:=by decide +kernel
theorem te_nm:(bytesOf teNM).map foldC=(bytesOf teNm).map foldC:=by decide +kernel
/-- Is a name there? -/
def thereS (name:ByteArray) (fs:List (S36)):Bool:=decide (((getS name fs).length:Int) > 0)
theorem there_f (fs:List (S36)) (name:ByteArray) (hf:FB fs) (hn:name.size ≤ 1048576) (k:Nat) (hk:fs.length < k):frame_there.f k fs name=some (thereS name fs):=by
 unfold frame_there.f
 rw [Get_f fs name hf hn k hk,Option.bind_some];rfl
theorem thereLen_f (fs:List (S36)) (hf:FB fs) (k:Nat) (hk:fs.length < k):frame_there.f k fs ⟨#[67,111,110,116,101,110,116,45,76,101,110,103,116,104]⟩=some (thereS lenNm fs):=by
 have h:=there_f fs lenNM hf (by decide) k hk
 have e:thereS lenNM fs=thereS lenNm fs:=by unfold thereS;rw [getS_nm _ _ len_nm]
 rw [e] at h
 exact h
theorem thereTe_f (fs:List (S36)) (hf:FB fs) (k:Nat) (hk:fs.length < k):frame_there.f k fs ⟨#[84,114,97,110,115,102,101,114,45,69,110,99,111,100,105,110,103]⟩=some (thereS teNm fs):=by
 have h:=there_f fs teNM hf (by decide) k hk
 have e:thereS teNM fs=thereS teNm fs:=by unfold thereS;rw [getS_nm _ _ te_nm]
 rw [e] at h
 exact h
/-- The length that parts tell. -/
def lenS:List ByteArray → Int × Bool
 | []=>(0,false)
 | p :: r=>if (numSpec p 10 18).2=true∧(r.all fun q=>decide (numSpec q 10 18=((numSpec p 10 18).1,true)))=true then ((numSpec p 10 18).1,true) else (0,false)
theorem len_rest (ps:List ByteArray) (hl:ps.length ≤ 1048577000) (hs : ∀ p ∈ ps,p.size ≤ 1048576) (n:Int) (hn:0 ≤ n) (d:Nat) : ∀ (k i:Nat),i + d=ps.length → d + 2100000 ≤ k →
 frame_length.l0 k n ps (ps.length:Int) (i:Int)=some (if ((ps.drop i).all fun q=>decide (numSpec q 10 18=(n,true)))=true then (n,true) else (0,false)):=by
 induction d with
 | zero =>
  intro k i hi hk
  obtain ⟨k,rfl⟩ : ∃ m,k=m + 1:=⟨k - 1,by omega⟩
  rw [frame_length.l0,if_neg (by omega),List.drop_of_length_le (by omega),List.all_nil,if_pos rfl,decide_eq_true hn]
 | succ d ih =>
  intro k i hi hk
  obtain ⟨k,rfl⟩ : ∃ m,k=m + 1:=⟨k - 1,by omega⟩
  have hlt:i < ps.length:=by omega
  have hb:=hs _ (List.getElem_mem hlt)
  have hw:wrap64 ((i:Int) + 1)=((i + 1:Nat):Int):=by unfold wrap64;omega
  rw [frame_length.l0,if_pos (by omega),if_pos (by omega),if_pos (by omega),rdB_at ps i hlt,Decimal_f _ (by omega) k (by omega),Option.bind_some,hw,List.drop_eq_getElem_cons hlt,List.all_cons]
  obtain ⟨z,hz⟩ : ∃ z,z=numSpec ps[i] 10 18:=⟨_,rfl⟩
  rw [← hz]
  by_cases h1:z.2=true;rotate_left
  ·have e : ¬ z=(n,true):=fun e=>h1 (by rw [e])
   rw [if_neg h1,decide_eq_false e,Bool.false_and,if_neg (by simp)]
  rw [if_pos h1,if_pos hn]
  by_cases h2:z.1=n
  ·have e:z=(n,true):=Prod.ext h2 h1
   rw [if_pos h2,h2,ih k (i + 1) (by omega) (by omega),decide_eq_true e,Bool.true_and]
  ·have e : ¬ z=(n,true):=fun e=>h2 (by rw [e])
   rw [if_neg h2,decide_eq_false e,Bool.false_and,if_neg (by simp)]
theorem length_fs (fs:List (S36)) (hf:FB fs) (k:Nat) (hk:1060000000 ≤ k):frame_length.f k fs=some (if listS lenNm fs=[] then (-1,false) else lenS (listS lenNm fs)):=by
 have hlb:=list_bounds fs lenNm hf
 obtain ⟨ps,hps⟩ : ∃ ps,ps=listS lenNm fs:=⟨_,rfl⟩
 have hL:field_List.f k fs (⟨#[67,111,110,116,101,110,116,45,76,101,110,103,116,104]⟩:ByteArray)=some ps:=by
  have h:=List_f fs lenNM hf (by decide) k (by omega)
  rw [listS_nm _ _ len_nm,← hps] at h
  exact h
 unfold frame_length.f
 rw [hL,Option.bind_some,← hps]
 rw [← hps] at hlb
 obtain ⟨k,rfl⟩ : ∃ m,k=m + 1:=⟨k - 1,by omega⟩
 cases ps with
 | nil =>
  rw [frame_length.l0,if_neg (by simp),if_pos rfl]
  rfl
 | cons p r =>
  have hb:=hlb.2 p List.mem_cons_self
  have hr0:rdOf ByteArray.empty (p :: r) 0=p:=rdB_at (p :: r) 0 (by simp)
  rw [frame_length.l0,if_pos (by simp only [List.length_cons];omega),if_pos (by omega),if_pos (by simp only [List.length_cons];omega),hr0,Decimal_f _ (by omega) k (by omega),Option.bind_some,show (if (p :: r)=[] then ((-1:Int),false) else lenS (p :: r))=lenS (p :: r) from if_neg (by simp),lenS]
  obtain ⟨z,hz⟩ : ∃ z,z=numSpec p 10 18:=⟨_,rfl⟩
  have hnn:=num_nn p
  rw [← hz] at hnn ⊢
  by_cases h1:z.2=true;rotate_left
  ·rw [if_neg h1,if_neg (fun h=>h1 h.1)]
  have h:=len_rest (p :: r) hlb.1 hlb.2 z.1 hnn r.length k 1 (by simp only [List.length_cons];omega) (by have:=hlb.1;simp only [List.length_cons] at this;omega)
  have h' : frame_length.l0 k z.1 (p :: r) ((p :: r).length:Int) 1=_:=h
  rw [if_pos h1,if_neg (by decide),show wrap64 (0 + 1)=1 by unfold wrap64;omega,h']
  simp only [List.drop_succ_cons,List.drop_zero]
  by_cases h2:(r.all fun q=>decide (numSpec q 10 18=(z.1,true)))=true
  ·rw [if_pos h2,if_pos ⟨h1,h2⟩]
  ·rw [if_neg h2,if_neg (fun h=>h2 h.2)]
def chunkedW:ByteArray:=⟨#[99,104,117,110,107,101,100]⟩
/-- Are they chunked? -/
def chunkedS (fs:List (S36)):Bool:=match listS teNm fs with|[p]=>sameN p chunkedW|_=>false
theorem chunked_f (fs:List (S36)) (hf:FB fs) (k:Nat) (hk:1049600 ≤ k):frame_chunked.f k fs=some (chunkedS fs):=by
 have hlb:=list_bounds fs teNm hf
 have hL:field_List.f k fs (⟨#[84,114,97,110,115,102,101,114,45,69,110,99,111,100,105,110,103]⟩:ByteArray)=some (listS teNm fs):=by
  have h:=List_f fs teNM hf (by decide) k (by omega)
  rw [listS_nm _ _ te_nm] at h
  exact h
 unfold frame_chunked.f chunkedS
 rw [hL,Option.bind_some]
 match hps:listS teNm fs with
 | []=>rw [if_neg (by simp)]
 | [p] =>
  rw [hps] at hlb
  have hb:=hlb.2 p List.mem_cons_self
  have hr0:rdOf ByteArray.empty [p] 0=p:=rdB_at [p] 0 (by simp)
  rw [if_pos (by simp),if_pos (by simp),hr0,same_f p _ (by omega) (by decide),Option.bind_some]
  rfl
 | p :: q :: r=>rw [if_neg (by simp only [List.length_cons];omega)]
/-- How long a request's body is. -/
def reqLen (fs:List (S36)) (minor:Int):Int × Bool × Int :=
 if thereS teNm fs=true then (if thereS lenNm fs=true ∨ minor=0 then (0,false,400) else if chunkedS fs=true then (0,true,0) else (0,false,501))
 else if thereS lenNm fs=true then (if (lenS (listS lenNm fs)).2=true then (if (lenS (listS lenNm fs)).1 > 4096 then (0,false,413) else ((lenS (listS lenNm fs)).1,false,0)) else (0,false,400)) else (0,false,0)
theorem lenS_if (ps:List ByteArray):(if ps=[] then ((-1:Int),false) else lenS ps).2=(lenS ps).2∧((lenS ps).2=true → (if ps=[] then ((-1:Int),false) else lenS ps).1=(lenS ps).1):=by
 by_cases h:ps=[]
 ·rw [if_pos h,h];exact ⟨rfl,fun h=>by cases h⟩
 rw [if_neg h];exact ⟨rfl,fun _=>rfl⟩
theorem frameReq_f (fs:List (S36)) (minor:Int) (hf:FB fs) (k:Nat) (hk:1060000010 ≤ k):frame_Request.f k fs minor=some (reqLen fs minor):=by
 have hfl:=hf.1
 obtain ⟨k,rfl⟩ : ∃ m,k=m + 2:=⟨k - 2,by omega⟩
 obtain ⟨hl1,hl2⟩:=lenS_if (listS lenNm fs)
 unfold frame_Request.f reqLen
 rw [thereLen_f fs hf _ (by omega),Option.bind_some,thereTe_f fs hf _ (by omega),Option.bind_some,length_fs fs hf _ (by omega),Option.bind_some]
 obtain ⟨z,hz⟩ : ∃ z,z=(if listS lenNm fs=[] then ((-1:Int),false) else lenS (listS lenNm fs)):=⟨_,rfl⟩
 rw [← hz] at hl1 hl2 ⊢
 obtain ⟨y,hy⟩ : ∃ y,y=lenS (listS lenNm fs):=⟨_,rfl⟩
 rw [← hy] at hl1 hl2 ⊢
 have hj1 : ∀ L T b,frame_Request.j1 (k + 1) L T z.1 z.2 b=some (if b=true then (0,false,501) else if T=true then (0,true,0) else if L=true then (if y.2=true then (if y.1 > 4096 then (0,false,413) else (y.1,false,0)) else (0,false,400)) else (0,false,0)):=by
  intro L T b
  rw [frame_Request.j1,hl1]
  cases b <;> cases T <;> cases L <;> try rfl
  cases h:y.2
  ·rfl
  rw [hl2 h]
  by_cases h9:y.1 > 4096
  ·simp [h9]
  simp [h9]
 have hj0 : ∀ L T x,frame_Request.j0 (k + 2) fs L T z.1 z.2 x=some (if x=true then (0,false,400) else if T=true then (if chunkedS fs=true then (0,true,0) else (0,false,501)) else if L=true then (if y.2=true then (if y.1 > 4096 then (0,false,413) else (y.1,false,0)) else (0,false,400)) else (0,false,0)):=by
  intro L T x
  rw [frame_Request.j0,chunked_f fs hf (k + 1) (by omega),Option.bind_some,hj1,hj1]
  cases x <;> cases T <;> cases chunkedS fs <;> rfl
 rw [hj0,hj0,hj0]
 by_cases hm:minor=0
 ·rw [beq_iff_eq.2 hm]
  cases thereS teNm fs <;> cases thereS lenNm fs <;> simp [hm]
 rw [beq_eq_false_iff_ne.2 hm]
 cases thereS teNm fs <;> cases thereS lenNm fs <;> simp [hm]
def bodyS (b:List Int) (size:Int) (coded:Bool):List Int × Int × Int :=
 if coded=true then (if (decS b (b.length + 1) 0 4096 []).2.2=2 then ([],-1,413) else if (decS b (b.length + 1) 0 4096 []).2.2=0 then (if (decS b (b.length + 1) 0 4096 []).2.1=0 then ([],-1,0) else ((decS b (b.length + 1) 0 4096 []).1,(decS b (b.length + 1) 0 4096 []).2.1,0)) else ([],-1,400))
 else if (b.length:Int) < size then ([],-1,0) else (b.take size.toNat,size,0)
theorem lenS_nn (ps:List ByteArray):0 ≤ (lenS ps).1:=by
 cases ps with
 | nil=>decide
 | cons p r =>
  rw [lenS]
  split
  ·exact num_nn p
  decide
theorem reqLen_size (fs:List (S36)) (m:Int):0 ≤ (reqLen fs m).1∧(reqLen fs m).1 ≤ 4096:=by
 have h0:0 ≤ (lenS (listS lenNm fs)).1:=lenS_nn _
 unfold reqLen
 repeat' split
 all_goals first|exact ⟨by decide,by decide⟩|(constructor <;> simp only [] <;> omega)
theorem trail_le (l:List Int) : ∀ (d p:Nat),p ≤ l.length → (trailS l d p).1 ≤ (l.length:Int):=by
 intro d
 induction d with
 | zero=>intro p _;exact Int.natCast_nonneg _
 | succ d ih =>
  intro p hp
  have hsh:=cutS_shape (l.drop p) 256
  have hdl:(l.drop p).length=l.length - p:=List.length_drop ..
  rw [trailS]
  obtain ⟨c,hc⟩ : ∃ c,c=cutSpec (l.drop p) 256:=⟨_,rfl⟩
  rw [← hc] at hsh ⊢
  by_cases h1:c.2.2=0;rotate_left
  ·rw [if_neg h1];exact Int.natCast_nonneg _
  rw [if_pos h1]
  by_cases h2:c.2.1=0
  ·rw [if_pos h2];exact Int.natCast_nonneg _
  have hz2:c.2.1 > 0∧c.2.1 ≤ (l.length:Int) - p:=by rcases hsh with h|h <;> omega
  rw [if_neg h2]
  by_cases h3:c.1.toList=[]
  ·rw [if_pos h3];show (p:Int) + c.2.1 ≤ _;omega
  rw [if_neg h3]
  by_cases h4:fieldOk c.1.data.toList=true
  ·rw [if_pos h4];exact ih _ (by omega)
  ·rw [if_neg h4];exact Int.natCast_nonneg _
theorem dec_le (l:List Int) (hl:l.length ≤ 1000000) : ∀ (d p:Nat) (left:Int) (out:List Int),p ≤ l.length → (decS l d p left out).2.1 ≤ (l.length:Int):=by
 intro d
 induction d with
 | zero=>intro p left out _;exact Int.natCast_nonneg _
 | succ d ih =>
  intro p left out hp
  have hsh:=cutS_shape (l.drop p) 256
  have hdl:(l.drop p).length=l.length - p:=List.length_drop ..
  have hz0:(0:Int) ≤ (l.length:Int):=Int.natCast_nonneg _
  rw [decS]
  obtain ⟨c,hc⟩ : ∃ c,c=cutSpec (l.drop p) 256:=⟨_,rfl⟩
  rw [← hc] at hsh ⊢
  have hzb:=size_bound c.1.data.toList
  obtain ⟨z,hz⟩ : ∃ z,z=sizeS c.1.data.toList:=⟨_,rfl⟩
  obtain ⟨q,hq⟩ : ∃ q,q=p + c.2.1.toNat:=⟨_,rfl⟩
  rw [← hz] at hzb
  rw [← hz,← hq]
  by_cases h1:c.2.2=0;rotate_left
  ·rw [if_neg h1];exact hz0
  rw [if_pos h1]
  by_cases h2:c.2.1=0
  ·rw [if_pos h2];exact hz0
  have hz2:c.2.1 > 0∧c.2.1 ≤ (l.length:Int) - p:=by rcases hsh with h|h <;> omega
  have hqd:(l.drop q).length=l.length - q:=List.length_drop ..
  rw [if_neg h2]
  by_cases h3:z.2=true
  ·rw [if_pos h3]
   by_cases h4:z.1=0
   ·rw [if_pos h4]
    by_cases h5:(trailS l 41 q).2=0;rotate_left
    ·rw [if_neg h5];exact hz0
    rw [if_pos h5]
    by_cases h6:(trailS l 41 q).1=0
    ·rw [if_pos h6];exact hz0
    ·rw [if_neg h6];exact trail_le l 41 q (by omega)
   rw [if_neg h4]
   by_cases h5:z.1 > left
   ·rw [if_pos h5];exact hz0
   rw [if_neg h5]
   by_cases h6:(dataOf (l.drop q) (q:Int) z.1 false).2.1=0;rotate_left
   ·rw [if_neg h6];exact hz0
   rw [if_pos h6]
   by_cases h7:(dataOf (l.drop q) (q:Int) z.1 false).2.2.2=true
   ·rw [if_pos h7];exact hz0
   rw [if_neg h7]
   obtain ⟨_,_,e3,_,_⟩:=data_ok (l.drop q) q z.1 (by omega) (by omega) hzb.1 (by omega) h6 h7
   exact ih _ _ _ (by omega)
  ·rw [if_neg h3];exact hz0
theorem decS_size (l:List Int) (hb:l.length ≤ 1000000) : ∀ (d p:Nat) (left:Int) (out:List Int),p ≤ l.length → out.length ≤ l.length → l.length < p + d → out.length ≤ p → (decS l d p left out).1.length ≤ l.length:=by
 intro d
 induction d with
 | zero=>intro p left out h1 h2 h3;omega
 | succ d ih =>
  intro p left out hp ho hd hop
  have hsh:=cutS_shape (l.drop p) 256
  have hdl:(l.drop p).length=l.length - p:=List.length_drop ..
  rw [decS]
  obtain ⟨c,hc⟩ : ∃ c,c=cutSpec (l.drop p) 256:=⟨_,rfl⟩
  rw [← hc] at hsh ⊢
  by_cases h1:c.2.2=0;rotate_left
  ·rw [if_neg h1];simp
  rw [if_pos h1]
  by_cases h2:c.2.1=0
  ·rw [if_pos h2];simp
  have hz2:c.2.1 > 0∧c.2.1 ≤ (l.length:Int) - p:=by rcases hsh with h|h <;> omega
  have hzb:=size_bound c.1.data.toList
  have hdq:(l.drop (p + c.2.1.toNat)).length=l.length - (p + c.2.1.toNat):=List.length_drop ..
  rw [if_neg h2]
  split
  ·split
   ·split
    ·split
     ·simp
     exact ho
    simp
   split
   ·simp
   split
   ·split
    ·simp
    rename_i h6 h7
    obtain ⟨_,_,e3,_,_⟩:=data_ok (l.drop (p + c.2.1.toNat)) ((p + c.2.1.toNat:Nat):Int) (sizeS c.1.data.toList).1 (by omega) (by omega) hzb.1 (by omega) h6 h7
    have htk:((l.drop (p + c.2.1.toNat)).take (sizeS c.1.data.toList).1.toNat).length ≤ (sizeS c.1.data.toList).1.toNat:=List.length_take_le ..
    exact ih _ _ _ (by omega) (by rw [List.length_append];omega) (by omega) (by rw [List.length_append];omega)
   simp
  ·simp
theorem trail_pos (l:List Int) : ∀ (d p:Nat),0 ≤ (trailS l d p).1:=by
 intro d
 induction d with
 | zero=>intro p;exact Int.le_refl _
 | succ d ih =>
  intro p
  have hsh:=cutS_shape (l.drop p) 256
  rw [trailS]
  repeat' split
  ·exact Int.le_refl _
  ·show 0 ≤ (p:Int) + _
   rcases hsh with h|h <;> omega
  ·exact ih _
  ·exact Int.le_refl _
  exact Int.le_refl _
theorem dec_none' (l:List Int) : ∀ (d p:Nat) (left:Int) (out:List Int),¬ (decS l d p left out).2.1 > 0 → (decS l d p left out).2.2=0 → (decS l d p left out).1=[]∧(decS l d p left out).2.1=0:=by
 intro d
 induction d with
 | zero=>intro p left out _ _;exact ⟨rfl,rfl⟩
 | succ d ih =>
  intro p left out g1 g2
  rw [decS] at g1 g2 ⊢
  obtain ⟨c,hc⟩ : ∃ c,c=cutSpec (l.drop p) 256:=⟨_,rfl⟩
  rw [← hc] at g1 g2 ⊢
  obtain ⟨z,hz⟩ : ∃ z,z=sizeS c.1.data.toList:=⟨_,rfl⟩
  obtain ⟨q,hq⟩ : ∃ q,q=p + c.2.1.toNat:=⟨_,rfl⟩
  rw [← hz,← hq] at g1 g2 ⊢
  by_cases h1:c.2.2=0;rotate_left
  ·rw [if_neg h1];exact ⟨rfl,rfl⟩
  rw [if_pos h1] at g1 g2 ⊢
  by_cases h2:c.2.1=0
  ·rw [if_pos h2];exact ⟨rfl,rfl⟩
  rw [if_neg h2] at g1 g2 ⊢
  by_cases h3:z.2=true
  ·rw [if_pos h3] at g1 g2 ⊢
   by_cases h4:z.1=0
   ·rw [if_pos h4] at g1 g2 ⊢
    by_cases h5:(trailS l 41 q).2=0;rotate_left
    ·rw [if_neg h5];exact ⟨rfl,rfl⟩
    rw [if_pos h5] at g1 g2 ⊢
    by_cases h6:(trailS l 41 q).1=0
    ·rw [if_pos h6];exact ⟨rfl,rfl⟩
    rw [if_neg h6] at g1
    have:=trail_pos l 41 q
    exact absurd (show (trailS l 41 q).1 > 0 by omega) g1
   rw [if_neg h4] at g1 g2 ⊢
   by_cases h5:z.1 > left
   ·rw [if_pos h5];exact ⟨rfl,rfl⟩
   rw [if_neg h5] at g1 g2 ⊢
   by_cases h6:(dataOf (l.drop q) (q:Int) z.1 false).2.1=0;rotate_left
   ·rw [if_neg h6];exact ⟨rfl,rfl⟩
   rw [if_pos h6] at g1 g2 ⊢
   by_cases h7:(dataOf (l.drop q) (q:Int) z.1 false).2.2.2=true
   ·rw [if_pos h7];exact ⟨rfl,rfl⟩
   rw [if_neg h7] at g1 g2 ⊢
   exact ih _ _ _ g1 g2
  ·rw [if_neg h3];exact ⟨rfl,rfl⟩
/-- The field that a line tells. -/
def fieldX (l:List UInt8):S36:=⟨mkS (l.takeWhile (· != 58)),mkS (trm ((l.dropWhile (· != 58)).drop 1))⟩
theorem field_ok (l:List UInt8) (hn:l.length ≤ 140737488355328) (hr:fieldOk l=true):field_Parse.f (mkS l)=some ((fieldX l).f0,(fieldX l).f1,0):=by
 unfold field_Parse.f
 rcases split_first 58 l with h|⟨a,b,rfl,h⟩
 ·rw [fieldOk_no l h] at hr;cases hr
 rw [fieldOk_yes a b h] at hr
 obtain ⟨e1,e2⟩:=take_first 58 a b h
 unfold fieldX
 rw [e1,e2,Cut_yes 58 a b h hn,Option.bind_some]
 simp only
 rw [Trim_mk _ (by rw [mkS_size];rw [List.length_append,List.length_cons] at hn;omega),Option.bind_some,if_pos trivial,field_right_f,Option.bind_some,mkS_data,hr]
 rfl
theorem field_no (l:List UInt8) (hn:l.length ≤ 140737488355328) (hr:fieldOk l=false) : ∃ x y,field_Parse.f (mkS l)=some (x,y,20):=by
 obtain ⟨x,y,h⟩:=field_f l hn
 rw [hr] at h
 exact ⟨x,y,h⟩
/-- The lines behind the first one;how many bytes the head has;a status. -/
def tailS (l:List Int) (e:Int):Nat → Nat → List ByteArray × Int × Int
 | 0,_=>([],0,0)
 | d + 1,p=>if (cutSpec (l.drop p) 2048).2.2=20 then ([],0,400)
  else if (cutSpec (l.drop p) 2048).2.1=0 then ([],0,e)
  else if (cutSpec (l.drop p) 2048).1.toList=[] then ([],(p:Int) + (cutSpec (l.drop p) 2048).2.1,0)
  else ((cutSpec (l.drop p) 2048).1 :: (tailS l e d (p + (cutSpec (l.drop p) 2048).2.1.toNat)).1,(tailS l e d (p + (cutSpec (l.drop p) 2048).2.1.toNat)).2)
/-- The lines of a head,without the empty one;how many bytes it has;a status. -/
def linesS (l:List Int) (e:Int):List ByteArray × Int × Int :=
 if (cutSpec l 2048).2.2=20 then ([],0,400)
 else if (cutSpec l 2048).2.1=0 then ([],0,e)
 else ((cutSpec l 2048).1 :: (tailS l e (l.length + 1) (cutSpec l 2048).2.1.toNat).1,(tailS l e (l.length + 1) (cutSpec l 2048).2.1.toNat).2)
/-- The fields that lines tell,n fields before them;a status. -/
def fieldsS:List ByteArray → Nat → List (S36) × Int
 | [],_=>([],0)
 | s :: ss,n=>if fieldOk s.data.toList=true then (if n=40 then ([],431) else if (fieldsS ss (n + 1)).2=0 then (fieldX s.data.toList :: (fieldsS ss (n + 1)).1,0) else ([],(fieldsS ss (n + 1)).2)) else ([],400)
def bdS (l:List Int):List Int:=l.take 2048
def extS (l:List Int):Int:=if 2048 ≤ (l.length:Int) then 431 else 0
theorem bdS_length (l:List Int):(bdS l).length ≤ 2048∧(bdS l).length ≤ l.length:=by unfold bdS;rw [List.length_take];omega
theorem mn_take (l:List Int):l.take (mn (l.length:Int) 2048).toNat=bdS l:=by
 unfold bdS mn
 split
 ·rfl
 rw [Int.toNat_natCast,List.take_of_length_le (Nat.le_refl _),List.take_of_length_le (by omega)]
theorem rightB_size {a t:ByteArray} (h:rightB a t=true):a.size ≤ 100∧t.size ≤ 1000:=by
 unfold rightB at h
 simp only [Bool.and_eq_true,decide_eq_true_eq] at h
 exact ⟨h.1,h.2.2.1⟩
theorem fieldX_right {l:List UInt8} (h:fieldOk l=true):rightB (fieldX l).f0 (fieldX l).f1=true:=by
 unfold fieldOk at h
 split at h
 ·exact h
 cases h
theorem fieldsS_err (ss:List ByteArray) : ∀ n,(fieldsS ss n).2 ≠ 0 → (fieldsS ss n).1=[]:=by
 cases ss with
 | nil=>intro n h;exact absurd rfl h
 | cons s ss =>
  intro n h
  rw [fieldsS] at h ⊢
  split at h
  ·rename_i h1
   rw [if_pos h1]
   split at h
   ·rename_i h2;rw [if_pos h2]
   rename_i h2
   rw [if_neg h2]
   split at h
   ·exact absurd rfl h
   rename_i h3;rw [if_neg h3]
  rename_i h1;rw [if_neg h1]
theorem fieldsS_FB (ss:List ByteArray) : ∀ n,n ≤ 40 → (fieldsS ss n).1.length + n ≤ 40 ∧ ∀ f ∈ (fieldsS ss n).1,rightB f.f0 f.f1=true:=by
 induction ss with
 | nil=>intro n hn;exact ⟨by simpa [fieldsS] using hn,fun f hf=>by cases hf⟩
 | cons s ss ih =>
  intro n hn
  rw [fieldsS]
  split
  ·rename_i h1
   split
   ·exact ⟨by simpa using hn,fun f hf=>by cases hf⟩
   rename_i h2
   have:=ih (n + 1) (by omega)
   split
   ·refine ⟨by simp only [List.length_cons];omega,fun f hf=>?_⟩
    rcases List.mem_cons.1 hf with rfl|hf
    ·exact fieldX_right h1
    exact this.2 f hf
   exact ⟨by simpa using hn,fun f hf=>by cases hf⟩
  exact ⟨by simpa using hn,fun f hf=>by cases hf⟩
theorem fields_FB (ss:List ByteArray):FB (fieldsS ss 0).1:=by
 have:=fieldsS_FB ss 0 (by omega)
 refine ⟨by omega,fun f hf=>?_⟩
 have:=rightB_size (this.2 f hf)
 omega
theorem tail_le (l:List Int) (e:Int) : ∀ (d p:Nat),p ≤ l.length → (tailS l e d p).2.1 ≤ (l.length:Int)∧0 ≤ (tailS l e d p).2.1∧((tailS l e d p).2.1 ≠ 0 → (tailS l e d p).2.2=0):=by
 intro d
 induction d with
 | zero=>intro p hp;exact ⟨by simp [tailS],by simp [tailS],fun _=>rfl⟩
 | succ d ih =>
  intro p hp
  have hsh:=cutS_shape (l.drop p) 2048
  have hdl:(l.drop p).length=l.length - p:=List.length_drop ..
  rw [tailS]
  split
  ·exact ⟨by simp,by simp,fun h=>absurd rfl h⟩
  split
  ·exact ⟨by simp,by simp,fun h=>absurd rfl h⟩
  rename_i h2
  have hz:(cutSpec (l.drop p) 2048).2.1 > 0∧(cutSpec (l.drop p) 2048).2.1 ≤ (l.length:Int) - p:=by rcases hsh with h|h <;> omega
  split
  ·exact ⟨by show (p:Int) + _ ≤ _;omega,by show 0 ≤ (p:Int) + _;omega,fun _=>rfl⟩
  exact ih _ (by omega)
theorem lines_le (l:List Int) (e:Int):(linesS l e).2.1 ≤ (l.length:Int)∧0 ≤ (linesS l e).2.1∧((linesS l e).2.1 ≠ 0 → (linesS l e).2.2=0)∧((linesS l e).1=[] → (linesS l e).2.1=0):=by
 have hsh:=cutS_shape l 2048
 unfold linesS
 split
 ·exact ⟨by simp,by simp,fun h=>absurd rfl h,fun _=>rfl⟩
 split
 ·exact ⟨by simp,by simp,fun h=>absurd rfl h,fun _=>rfl⟩
 rename_i h2
 have hz:(cutSpec l 2048).2.1 > 0∧(cutSpec l 2048).2.1 ≤ (l.length:Int):=by rcases hsh with h|h <;> omega
 have:=tail_le l e (l.length + 1) (cutSpec l 2048).2.1.toNat (by omega)
 exact ⟨this.1,this.2.1,this.2.2,fun h=>by cases h⟩
/-- A line's text has no 10,no 13: it is no longer than what it was cut from. -/
theorem cut_len (l:List Int) (h:l.length ≤ 2048):(cutSpec l 2048).1.size ≤ 2048:=by
 rcases cutS_shape l 2048 with h1|h1
 ·omega
 rw [h1.2];decide
theorem body_le (b:List Int) (hb:b.length ≤ 1000000) (size:Int) (hs:0 ≤ size) (coded:Bool):(bodyS b size coded).2.1 ≤ (b.length:Int)∧(-1 ≤ (bodyS b size coded).2.1)∧(bodyS b size coded).1.length ≤ b.length∧(0 ≤ (bodyS b size coded).2.1 → (bodyS b size coded).2.2=0):=by
 unfold bodyS
 cases coded
 ·rw [if_neg (show ¬ (false=true) by simp)]
  by_cases h:(b.length:Int) < size
  ·rw [if_pos h];exact ⟨by simp only [];omega,by decide,by simp,fun _=>rfl⟩
  rw [if_neg h];exact ⟨by simp only [];omega,by simp only [];omega,by simp only [List.length_take];omega,fun _=>rfl⟩
 rw [if_pos rfl]
 have hle:=dec_le b hb (b.length + 1) 0 4096 [] (by omega)
 have hsz:=decS_size b hb (b.length + 1) 0 4096 [] (by omega) (by simp) (by omega) (by simp)
 have hz:=dec_none' b (b.length + 1) 0 4096 []
 obtain ⟨r,hr⟩ : ∃ r,r=decS b (b.length + 1) 0 4096 []:=⟨_,rfl⟩
 rw [← hr] at hle hsz hz ⊢
 by_cases h1:r.2.2=2
 ·rw [if_pos h1];exact ⟨by simp only [];omega,by decide,by simp,fun h=>absurd h (by decide)⟩
 rw [if_neg h1]
 by_cases h2:r.2.2=0;rotate_left
 ·rw [if_neg h2];exact ⟨by simp only [];omega,by decide,by simp,fun h=>absurd h (by decide)⟩
 rw [if_pos h2]
 by_cases h3:r.2.1=0
 ·rw [if_pos h3];exact ⟨by simp only [];omega,by decide,by simp,fun _=>rfl⟩
 rw [if_neg h3]
 have:r.2.1 > 0:=by
  by_cases h4:r.2.1 > 0
  ·exact h4
  exact absurd (hz h4 h2).2 h3
 exact ⟨hle,by simp only [];omega,hsz,fun _=>rfl⟩
theorem body_f (b:List Int) (hb:b.length ≤ 1000000) (size:Int) (hs:0 ≤ size) (coded:Bool) (k:Nat) (hk:4000100 ≤ k):http_body.f k b size coded=some (bodyS b size coded):=by
 unfold http_body.f bodyS
 cases coded
 ·rw [if_neg (show ¬ (false=true) by simp),if_neg (show ¬ (false=true) by simp)]
  by_cases h:(b.length:Int) < size
  ·rw [if_pos h,if_pos h]
  unfold bytes_Clone.f
  rw [if_neg h,if_neg h,if_pos hs,if_pos (by omega),if_pos (by rw [List.length_take];omega),Option.bind_some]
 rw [if_pos rfl,if_pos rfl,Decode_f b 4096 hb (by decide) k (by omega),Option.bind_some,show mx 4096 0=4096 by decide]
 obtain ⟨r,hr⟩ : ∃ r,r=decS b (b.length + 1) 0 4096 []:=⟨_,rfl⟩
 rw [← hr]
 by_cases h1:r.2.2=2
 ·rw [if_pos h1,if_pos h1]
 rw [if_neg h1,if_neg h1]
 by_cases h2:r.2.2=0;rotate_left
 ·rw [if_neg h2,if_neg h2]
 rw [if_pos h2,if_pos h2]
 by_cases h3:r.2.1=0
 ·rw [if_pos h3,if_pos h3]
 ·rw [if_neg h3,if_neg h3]
def headEnd (t:List ByteArray × Int × Int) (g:List (S36) × Int) (fs:List (S36)) (st:Option ByteArray):List (S36) × Int × Int × Option ByteArray :=
 if g.2=0 then (if t.2.1=0 then ([],0,t.2.2,st) else (fs ++ g.1,t.2.1,0,st)) else ([],0,g.2,st)
theorem head_l (fst:Nat → ByteArray → Option Int) (l:List Int) (hl:l.length ≤ 4398046511104) (st:Option ByteArray) : ∀ (d p k:Nat) (fs:List (S36)),0 < p → p ≤ (bdS l).length → (bdS l).length < p + d → fs.length ≤ 40 → d + 6200 ≤ k →
 http_head.l fst k l fs (p:Int) st=some (headEnd (tailS (bdS l) (extS l) d p) (fieldsS (tailS (bdS l) (extS l) d p).1 fs.length) fs st):=by
 intro d
 induction d with
 | zero=>intro p k fs _ h1 h2;omega
 | succ d ih =>
  intro p k fs h0 hp hd hf hk
  obtain ⟨k,rfl⟩ : ∃ m,k=m + 1:=⟨k - 1,by omega⟩
  have hb:=bdS_length l
  have hsh:=cutS_shape ((bdS l).drop p) 2048
  have hdl:((bdS l).drop p).length=(bdS l).length - p:=List.length_drop ..
  have hcl:=cut_len ((bdS l).drop p) (by omega)
  rw [http_head.l,mn_take,if_pos (by omega),if_pos (by omega),Int.toNat_natCast,cut_f _ 2048 (by omega) k (by omega),Option.bind_some,tailS]
  obtain ⟨c,hc⟩ : ∃ c,c=cutSpec ((bdS l).drop p) 2048:=⟨_,rfl⟩
  rw [← hc] at hsh hcl ⊢
  by_cases h1:c.2.2=20
  ·rw [if_pos h1,if_pos h1];rfl
  rw [if_neg h1,if_neg h1]
  by_cases h2:c.2.1=0
  ·rw [if_pos h2,if_pos h2]
   unfold extS
   split <;> rfl
  have hz:c.2.1 > 0∧c.2.1 ≤ ((bdS l).length:Int) - p:=by rcases hsh with h|h <;> omega
  have hw:wrap64 ((p:Int) + c.2.1)=((p + c.2.1.toNat:Nat):Int):=by unfold wrap64;omega
  have hw2:(p:Int) + c.2.1=((p + c.2.1.toNat:Nat):Int):=by omega
  rw [if_neg h2,if_neg h2,if_neg (show ¬ (p:Int)=0 by omega),hw,hw2]
  by_cases h3:c.1.toList=[]
  ·rw [if_pos h3,if_pos h3]
   unfold headEnd
   rw [fieldsS,if_pos rfl,if_neg (show ¬ ((p + c.2.1.toNat:Nat):Int)=0 by omega),List.append_nil]
  rw [if_neg h3,if_neg h3]
  have hcn:c.1.data.toList.length ≤ 2048:=by rw [data_length];exact hcl
  simp only [fieldsS]
  cases hfo:fieldOk c.1.data.toList
  ·obtain ⟨x,y,hxy⟩:=field_no c.1.data.toList (by omega) hfo
   rw [mkS_self] at hxy
   rw [hxy,Option.bind_some,if_neg (show ¬ ((20:Int)=0) by decide),if_neg (by simp)]
   rfl
  have hxy:=field_ok c.1.data.toList (by omega) hfo
  rw [mkS_self] at hxy
  rw [hxy,Option.bind_some,if_pos rfl,if_pos rfl]
  by_cases h4:fs.length=40
  ·rw [if_pos (show (fs.length:Int)=40 by omega),if_pos h4];rfl
  rw [if_neg (show ¬ (fs.length:Int)=40 by omega),if_neg h4,if_pos (by omega)]
  have hlen:(fs ++ [fieldX c.1.data.toList]).length=fs.length + 1:=by simp
  have:=ih (p + c.2.1.toNat) k (fs ++ [fieldX c.1.data.toList]) (by omega) (by omega) (by omega) (by omega) (by omega)
  rw [hlen] at this
  refine this.trans ?_
  obtain ⟨t,ht⟩ : ∃ t,t=tailS (bdS l) (extS l) d (p + c.2.1.toNat):=⟨_,rfl⟩
  rw [← ht]
  obtain ⟨g,hg⟩ : ∃ g,g=fieldsS t.1 (fs.length + 1):=⟨_,rfl⟩
  rw [← hg]
  unfold headEnd
  by_cases h5:g.2=0;rotate_left
  ·rw [if_neg h5,if_neg h5,if_neg h5]
  rw [if_pos h5,if_pos h5,if_pos rfl]
  by_cases h6:t.2.1=0
  ·rw [if_pos h6,if_pos h6]
  ·rw [if_neg h6,if_neg h6,List.append_assoc];rfl
theorem head_nil (fst:Nat → ByteArray → Option Int) (l:List Int) (k:Nat) (hk:8300 ≤ k) (h:(linesS (bdS l) (extS l)).1=[]):http_head.f fst (k + 1) l=some ([],0,(linesS (bdS l) (extS l)).2.2,none):=by
 have hb:=bdS_length l
 unfold linesS at h ⊢
 rw [http_head.f,http_head.l,mn_take,if_pos (by omega),if_pos (by omega),show (0:Int).toNat=0 from rfl,List.drop_zero,cut_f _ 2048 (by omega) k (by omega),Option.bind_some]
 obtain ⟨c,hc⟩ : ∃ c,c=cutSpec (bdS l) 2048:=⟨_,rfl⟩
 rw [← hc] at h ⊢
 by_cases h1:c.2.2=20
 ·rw [if_pos h1,if_pos h1]
 rw [if_neg h1] at h ⊢
 rw [if_neg h1]
 by_cases h2:c.2.1=0;rotate_left
 ·rw [if_neg h2] at h;cases h
 rw [if_pos h2,if_pos h2]
 unfold extS
 split <;> rfl
theorem head_cons (fst:Nat → ByteArray → Option Int) (l:List Int) (hl:l.length ≤ 4398046511104) (k:Nat) (hk:8300 ≤ k) (s:ByteArray) (ss:List ByteArray) (h:(linesS (bdS l) (extS l)).1=s :: ss) :
 http_head.f fst (k + 1) l=(fst k s).bind fun code=>if code=0 then some (headEnd (ss,(linesS (bdS l) (extS l)).2) (fieldsS ss 0) [] (some s)) else some ([],0,code,some s):=by
 have hb:=bdS_length l
 have hsh:=cutS_shape (bdS l) 2048
 unfold linesS at h ⊢
 rw [http_head.f,http_head.l,mn_take,if_pos (by omega),if_pos (by omega),show (0:Int).toNat=0 from rfl,List.drop_zero,cut_f _ 2048 (by omega) k (by omega),Option.bind_some]
 obtain ⟨c,hc⟩ : ∃ c,c=cutSpec (bdS l) 2048:=⟨_,rfl⟩
 rw [← hc] at h hsh ⊢
 by_cases h1:c.2.2=20
 ·rw [if_pos h1] at h;cases h
 rw [if_neg h1] at h ⊢
 rw [if_neg h1]
 by_cases h2:c.2.1=0
 ·rw [if_pos h2] at h;cases h
 have hz:c.2.1 > 0∧c.2.1 ≤ ((bdS l).length:Int):=by rcases hsh with h|h <;> omega
 have hw:wrap64 ((0:Int) + c.2.1)=((c.2.1.toNat:Nat):Int):=by unfold wrap64;omega
 rw [if_neg h2] at h ⊢
 rw [if_neg h2,if_pos rfl,hw,head_l fst l hl (some c.1) ((bdS l).length + 1) c.2.1.toNat k [] (by omega) (by omega) (by omega) (by simp) (by omega)]
 simp only [List.cons.injEq] at h
 rw [← h.1,← h.2]
 rfl
theorem tail_sizes (l:List Int) (e:Int) (hl:l.length ≤ 2048) : ∀ (d p:Nat),∀ s ∈ (tailS l e d p).1,s.size ≤ 2048:=by
 intro d
 induction d with
 | zero=>intro p s hs;cases hs
 | succ d ih =>
  intro p s hs
  have hdl:(l.drop p).length=l.length - p:=List.length_drop ..
  have hc:=cut_len (l.drop p) (by omega)
  rw [tailS] at hs
  split at hs
  ·cases hs
  split at hs
  ·cases hs
  split at hs
  ·cases hs
  rcases List.mem_cons.1 hs with rfl|hs
  ·exact hc
  exact ih _ s hs
theorem lines_sizes (l:List Int) (e:Int) (hl:l.length ≤ 2048) : ∀ s ∈ (linesS l e).1,s.size ≤ 2048:=by
 intro s hs
 have hc:=cut_len l hl
 unfold linesS at hs
 split at hs
 ·cases hs
 split at hs
 ·cases hs
 rcases List.mem_cons.1 hs with rfl|hs
 ·exact hc
 exact tail_sizes l e hl _ _ s hs
def foldU (b:UInt8):UInt8:=UInt8.ofNat (foldC (b.toNat:Int)).toNat
theorem byteAll {P:UInt8 → Prop} (h : ∀ n:Fin 256,P (UInt8.ofNat n.val)) (b:UInt8):P b:=by
 have:=h ⟨b.toNat,b.toNat_lt⟩
 rwa [show UInt8.ofNat (⟨b.toNat,b.toNat_lt⟩:Fin 256).val=b from UInt8.ofNat_toNat] at this
def digU (b:UInt8):Bool:=([48,49,50,51,52,53,54,55,56,57]:List UInt8).contains b
theorem foldU_dig (b:UInt8):digU (foldU b)=digU b:=byteAll (P:=fun b=>digU (foldU b)=digU b) (by decide +kernel) b
theorem dig_host (b:UInt8):digU b=decide (48 ≤ (b.toNat:Int)∧(b.toNat:Int) ≤ 57):=byteAll (P:=fun b=>digU b=decide (48 ≤ (b.toNat:Int)∧(b.toNat:Int) ≤ 57)) (by decide +kernel) b
theorem foldU_colon (b:UInt8):foldU b=58 ↔ b=58:=byteAll (P:=fun b=>foldU b=58 ↔ b=58) (by decide +kernel) b
theorem fold_mk (l:List UInt8):strOfNums ((bytesOf (mkS l)).map foldC)=mkS (l.map foldU):=by
 rw [mkS_bytes]
 unfold strOfNums mkS
 rw [List.map_map,List.map_map]
 rfl
theorem data_get (l:List UInt8) (j:Nat) (h:j < l.length):(((mkS l).data[j]!).toNat:Int)=(l[j].toNat:Int):=by
 have hs:j < (mkS l).data.size:=by show j < (mkS l).size;rw [mkS_size];exact h
 rw [getElem!_pos (mkS l).data j hs]
 simp [mkS]
theorem trimS_nil (l:List UInt8):Lib.trimS l [48,49,50,51,52,53,54,55,56,57]=[] ↔ ∀ x ∈ l,digU x=true:=by
 show (l.reverse.dropWhile digU).reverse.dropWhile digU=[] ↔ _
 constructor
 ·intro h
  obtain ⟨pre,h1,h2⟩:=dw_split digU (l.reverse.dropWhile digU).reverse
  rw [h,List.append_nil] at h1
  have h3:l.reverse.dropWhile digU=[]:=by
   cases hd:l.reverse.dropWhile digU with
   | nil=>rfl
   | cons a t =>
    have h4:=dw_head digU l.reverse a (by rw [hd];rfl)
    have h5:=h2 a (by rw [← h1,hd];simp)
    rw [h4] at h5
    cases h5
  obtain ⟨pre,h4,h5⟩:=dw_split digU l.reverse
  rw [h3,List.append_nil] at h4
  exact fun x hx=>h5 x (by rw [← h4];exact List.mem_reverse.2 hx)
 intro h
 have h1:l.reverse.dropWhile digU=[]:=by
  have:=dw_append (p:=digU) l.reverse [] (fun a ha=>h a (List.mem_reverse.1 ha))
  rwa [List.append_nil] at this
 rw [h1]
 rfl
/-- A port at the place n. -/
def PortAt (l:List UInt8) (n:Nat):Prop := ∃ h:n < l.length,l[n]=58 ∧ ∀ x ∈ l.drop (n + 1),digU x=true
theorem last_at (l:List UInt8) (n:Nat) (h:n < l.length) (hc:l[n]=58) (hn:58 ∉ l.drop (n + 1)):Lib.lastIndexByte (mkS l) 58=n:=by
 have hd:=fun j (hj:j < l.length)=>data_get l j hj
 have no : ∀ j (hj:j < l.length),n < j → l[j] ≠ 58:=by
  intro j hj hnj e
  apply hn
  rw [List.mem_iff_getElem]
  exact ⟨j - (n + 1),by rw [List.length_drop];omega,by rw [List.getElem_drop,← e];congr 1;omega⟩
 rcases Lib.lastIndexByte_spec (mkS l) 58 with ⟨_,h2⟩|⟨i,hi,h1,h2,h3⟩
 ·exfalso
  have:=h2 n (by rw [mkS_size];exact h)
  rw [hd n h,hc] at this
  exact this rfl
 rw [mkS_size] at hi h3
 rw [hd i hi] at h2
 have hi58:l[i]=58:=UInt8.toNat_inj.1 (by show _=58;omega)
 rcases Nat.lt_trichotomy i n with c|c|c
 ·have:=h3 n c h
  rw [hd n h,hc] at this
  exact absurd rfl this
 ·rw [h1,c]
 exact absurd hi58 (no i hi c)
theorem cut_port (l:List UInt8) (n:Nat) (h:PortAt l n):hostCut (mkS l)=mkS (l.take n):=by
 obtain ⟨hn,hc,hd⟩:=h
 have hl:=last_at l n hn hc (fun h=>by have:=hd 58 h;revert this;decide)
 have e1:((n:Int) + 1).toNat=n + 1:=by omega
 have e2:((mkS l).extract (n + 1) (mkS l).size).data.toList=l.drop (n + 1):=by
  rw [mkS_size,mkS_extract,mkS_data,List.take_of_length_le (by rw [List.length_drop];omega)]
 have hp:hostPort (mkS l)=true:=by
  unfold hostPort
  rw [hl,decide_eq_true (by omega),e1,e2,(trimS_nil _).2 hd]
  rfl
 unfold hostCut
 rw [if_pos hp,hl,Int.toNat_natCast,mkS_extract]
 rfl
theorem cut_none (l:List UInt8) (h : ∀ n,¬ PortAt l n):hostCut (mkS l)=mkS l:=by
 unfold hostCut
 rw [if_neg]
 intro hp
 unfold hostPort at hp
 simp only [Bool.and_eq_true,decide_eq_true_eq,List.isEmpty_iff] at hp
 obtain ⟨h0,h1⟩:=hp
 rcases Lib.lastIndexByte_spec (mkS l) 58 with ⟨e,_⟩|⟨i,hi,e,h2,_⟩
 ·omega
 rw [mkS_size] at hi
 rw [data_get l i hi] at h2
 have e1:((i:Int) + 1).toNat=i + 1:=by omega
 rw [e,e1,mkS_size,mkS_extract,mkS_data,List.take_of_length_le (by rw [List.length_drop];omega),trimS_nil] at h1
 exact h i ⟨hi,UInt8.toNat_inj.1 (by show _=58;omega),h1⟩
theorem port_fold (l:List UInt8) (n:Nat):PortAt (l.map foldU) n ↔ PortAt l n:=by
 unfold PortAt
 constructor
 ·rintro ⟨h,h1,h2⟩
  rw [List.length_map] at h
  refine ⟨h,?_,fun x hx=>?_⟩
  ·rw [List.getElem_map] at h1
   exact (foldU_colon _).1 h1
  rw [← foldU_dig]
  exact h2 _ (by rw [← List.map_drop];exact List.mem_map_of_mem hx)
 rintro ⟨h,h1,h2⟩
 refine ⟨by rw [List.length_map];exact h,?_,fun x hx=>?_⟩
 ·rw [List.getElem_map,h1];rfl
 rw [← List.map_drop] at hx
 obtain ⟨y,hy,rfl⟩:=List.mem_map.1 hx
 rw [foldU_dig]
 exact h2 y hy
/-- The host of a text of which n bytes stand ahead of the port. -/
def hostOf (l:List UInt8) (n:Nat):ByteArray × Bool:=hostEnd (mkS ((l.take n).map foldU))
theorem Host_port (l:List UInt8) (hn:l.length ≤ 140737488355328) (n:Nat) (h:PortAt l n):line_Host.f (mkS l)=some (hostOf l n):=by
 unfold line_Host.f hostOf
 rw [if_pos (by rw [mkS_size];exact hn),fold_mk,cut_port _ n ((port_fold l n).2 h),List.map_take]
theorem Host_none (l:List UInt8) (hn:l.length ≤ 140737488355328) (h : ∀ n,¬ PortAt l n):line_Host.f (mkS l)=some (hostOf l l.length):=by
 unfold line_Host.f hostOf
 rw [if_pos (by rw [mkS_size];exact hn),fold_mk,cut_none _ (fun n hp=>h n ((port_fold l n).1 hp)),List.take_length]
theorem refFold_l0 (s:ByteArray) (hn:s.size ≤ 140737488355327) (d:Nat) : ∀ (k:Nat) (out:List Int) (i:Int),0 ≤ i → (s.size:Int) - i=d → d + 1 ≤ k → (out.length:Int)=i →
 tollbarref02_Fold.l0 k s out i=some (strOfNums (out ++ ((bytesOf s).drop i.toNat).map foldC)):=by
 induction d with
 | zero =>
  intro k out i h0 hd hk ho
  obtain ⟨k,rfl⟩ : ∃ m,k=m + 1:=⟨k - 1,by omega⟩
  simp only [tollbarref02_Fold.l0]
  rw [if_neg (by omega),List.drop_of_length_le (by rw [bytesOf_length];omega),List.map_nil,List.append_nil]
 | succ d ih =>
  intro k out i h0 hd hk ho
  obtain ⟨k,rfl⟩ : ∃ m,k=m + 1:=⟨k - 1,by omega⟩
  have hlt:i < (s.size:Int):=by omega
  have hl:i.toNat < (bytesOf s).length:=by rw [bytesOf_length];omega
  have hg:(bytesOf s)[i.toNat]=bt s i:=by rw [← rd_bytesOf];simp [rd,List.getD_eq_getElem?_getD,List.getElem?_eq_getElem hl]
  have hr:=bt_range s i
  have ih' := fun v=>ih k (out ++ [v]) (i + 1) (by omega) (by omega) (by omega) (by rw [List.length_append];simp;omega)
  have e1:(i + 1).toNat=i.toNat + 1:=by omega
  rw [List.drop_eq_getElem_cons hl,hg,List.map_cons]
  simp only [tollbarref02_Fold.l0]
  rw [if_pos hlt,if_pos h0,show wrap64 (i + 1)=i + 1 by unfold wrap64;omega]
  have hf : ∀ v,v=foldC (bt s i) → some (strOfNums (out ++ [v] ++ ((bytesOf s).drop (i.toNat + 1)).map foldC))=some (strOfNums (out ++ foldC (bt s i) :: ((bytesOf s).drop (i.toNat + 1)).map foldC)):=by
   intro v hv
   rw [hv,List.append_assoc]
   rfl
  have ho2:out.length < 140737488355328:=by omega
  by_cases h1:bt s i ≥ 65;rotate_left
  ·rw [if_neg h1,if_pos ho2,ih',e1];exact hf _ (by unfold foldC;rw [if_neg (by omega)])
  rw [if_pos h1]
  by_cases h2:bt s i ≤ 90
  ·rw [if_pos h2,if_pos ho2,ih',e1];exact hf _ (by unfold foldC;rw [if_pos ⟨h1,h2⟩];omega)
  ·rw [if_neg h2,if_pos ho2,ih',e1];exact hf _ (by unfold foldC;rw [if_neg (by omega)])
theorem refFold_f (s:ByteArray) (hn:s.size ≤ 140737488355327) (k:Nat) (hk:s.size + 1 ≤ k):tollbarref02_Fold.f k s=sign_Fold.f s:=by
 unfold tollbarref02_Fold.f sign_Fold.f
 rw [refFold_l0 s hn s.size k [] 0 (by omega) (by omega) hk rfl,if_pos (by omega)]
 rfl
theorem Fold_f (s:ByteArray) (hn:s.size ≤ 140737488355328):sign_Fold.f s=some (strOfNums ((bytesOf s).map foldC)):=if_pos hn
theorem CutPrefix_f (s p:List UInt8):strings_CutPrefix.f (mkS s) (mkS p)=some (if s.take p.length=p then (mkS (s.drop p.length),true) else (mkS s,false)):=by
 unfold strings_CutPrefix.f stringslite_CutPrefix.f stringslite_HasPrefix.f
 rw [mkS_size,mkS_size]
 by_cases h:p.length ≤ s.length
 ·rw [if_pos (by omega),if_pos (by omega),if_pos (by omega),Option.bind_some,Int.toNat_natCast,mkS_extract,mkS_extract,mkS_toList,mkS_toList,List.drop_zero,Nat.sub_zero]
  by_cases e:s.take p.length=p
  ·rw [if_pos e,e,if_pos (by simp),if_pos (by omega),if_pos (by omega),Option.bind_some,List.take_of_length_le (by rw [List.length_drop];omega)]
  rw [if_neg e,if_neg (by simpa using e),Option.bind_some]
 rw [if_neg (by omega),Option.bind_some,if_neg (by decide),Option.bind_some,if_neg ?_]
 intro e
 have:=congrArg List.length e
 rw [List.length_take] at this
 omega
theorem CutPrefix_yes (s p:List UInt8) (h:s.take p.length=p):strings_CutPrefix.f (mkS s) (mkS p)=some (mkS (s.drop p.length),true):=by rw [CutPrefix_f,if_pos h]
theorem CutPrefix_no (s p:List UInt8) (h : ¬ s.take p.length=p):strings_CutPrefix.f (mkS s) (mkS p)=some (mkS s,false):=by rw [CutPrefix_f,if_neg h]
/-- The last digit of a version that is known. -/
def minL (l:List UInt8):Option Int:=if l=[72,84,84,80,47,49,46,48] then some 0 else if l=[72,84,84,80,47,49,46,49] then some 1 else none
theorem minor_f (l:List UInt8):line_minor.f (mkS l)=some (match minL l with|some n=>(n,true)|none=>(0,false)):=by
 unfold line_minor.f minL
 rw [mkS_toList]
 by_cases h1:l=[72,84,84,80,47,49,46,48]
 ·rw [if_pos h1,if_pos h1]
 rw [if_neg h1,if_neg h1]
 by_cases h2:l=[72,84,84,80,47,49,46,49]
 ·rw [if_pos h2,if_pos h2]
 rw [if_neg h2,if_neg h2]
/-- The digits of a version. -/
def verL (l:List UInt8):Option (Int × Int):=match l with
 | [a,b,c,d,e,f,g,h]=>if [a,b,c,d,e]=[72,84,84,80,47]∧(48 ≤ (f.toNat:Int)∧(f.toNat:Int) ≤ 57)∧g=46∧(48 ≤ (h.toNat:Int)∧(h.toNat:Int) ≤ 57) then some ((f.toNat:Int) - 48,(h.toNat:Int) - 48) else none
 | _=>none
theorem verL_8 (a b c d e f g h:UInt8):verL [a,b,c,d,e,f,g,h]=if [a,b,c,d,e]=[72,84,84,80,47]∧(48 ≤ (f.toNat:Int)∧(f.toNat:Int) ≤ 57)∧g=46∧(48 ≤ (h.toNat:Int)∧(h.toNat:Int) ≤ 57) then some ((f.toNat:Int) - 48,(h.toNat:Int) - 48) else none:=rfl
theorem verL_none {l:List UInt8} (h:l.length ≠ 8):verL l=none:=by
 unfold verL
 split
 ·simp at h
 rfl
theorem eight {l:List UInt8} (h:l.length=8) : ∃ a b c d e f g i,l=[a,b,c,d,e,f,g,i]:=by
 match l,h with
 | [a,b,c,d,e,f,g,i],_=>exact ⟨a,b,c,d,e,f,g,i,rfl⟩
theorem refDigit_f (c:Int):tollbarref02_Digit.f c=some (decide (48 ≤ c∧c ≤ 57)):=by
 unfold tollbarref02_Digit.f
 by_cases h:c ≥ 48
 ·rw [if_pos h];congr 1;rw [Bool.eq_iff_iff,decide_eq_true_eq,decide_eq_true_eq];omega
 rw [if_neg h,decide_eq_false (by omega)]
theorem digit_f (c:Int):line_digit.f c=some (decide (48 ≤ c∧c ≤ 57)):=refDigit_f c
theorem refVersion_f (l:List UInt8):tollbarref05_Version.f (mkS l)=some (match verL l with|some p=>(p.1,p.2,true)|none=>(0,0,false)):=by
 unfold tollbarref05_Version.f
 by_cases h8:l.length=8;rotate_left
 ·rw [mkS_size,if_neg (by omega),verL_none h8]
 obtain ⟨a,b,c,d,e,f,g,i,rfl⟩:=eight h8
 have hz:((mkS [a,b,c,d,e,f,g,i]).size:Int)=8:=by rw [mkS_size];rfl
 have b5:=bt_mk [a,b,c,d,e,f,g,i] 5 (by simp)
 have b6:=bt_mk [a,b,c,d,e,f,g,i] 6 (by simp)
 have b7:=bt_mk [a,b,c,d,e,f,g,i] 7 (by simp)
 simp only [List.getElem_cons_succ,List.getElem_cons_zero] at b5 b6 b7
 have b5' : bt (mkS [a,b,c,d,e,f,g,i]) 5=f.toNat:=b5
 have b6' : bt (mkS [a,b,c,d,e,f,g,i]) 6=g.toNat:=b6
 have b7' : bt (mkS [a,b,c,d,e,f,g,i]) 7=i.toNat:=b7
 have hx:((mkS [a,b,c,d,e,f,g,i]).extract 0 5).toList=[a,b,c,d,e]:=by rw [mkS_extract,mkS_toList];rfl
 rw [hz,hx,b5',b6',b7',if_pos rfl,if_pos (by decide),if_pos (by decide),refDigit_f,refDigit_f,Option.bind_some,Option.bind_some]
 have fr:=f.toNat_lt
 have ir:=i.toNat_lt
 rw [verL_8]
 by_cases c1:[a,b,c,d,e]=[72,84,84,80,47]
 ·rw [if_pos c1,if_pos (by decide)]
  by_cases c2:48 ≤ (f.toNat:Int)∧(f.toNat:Int) ≤ 57;rotate_left
  ·rw [decide_eq_false c2,if_neg (by simp),if_neg (fun h=>c2 h.2.1)]
  rw [decide_eq_true c2,if_pos rfl,if_pos (by decide)]
  by_cases c3:g=46;rotate_left
  ·have g1 : ¬ ((g.toNat:Nat):Int)=46:=fun h=>c3 (UInt8.toNat_inj.1 (by show _=46;omega))
   rw [if_neg g1,if_neg (fun h=>c3 h.2.2.1)]
  have g1:((g.toNat:Nat):Int)=46:=by rw [c3];rfl
  rw [if_pos g1,if_pos (by decide)]
  by_cases c4:48 ≤ (i.toNat:Int)∧(i.toNat:Int) ≤ 57
  ·rw [decide_eq_true c4,if_pos rfl,if_pos ⟨c1,c2,c3,c4⟩]
   simp only
   congr 2
   ·omega
   ·congr 1;omega
  ·rw [decide_eq_false c4,if_neg (by simp),if_neg (fun h=>c4 h.2.2.2)]
 ·rw [if_neg c1,if_neg (fun h=>c1 h.1)]
theorem numbered_f (l : List UInt8) : line_numbered.f (mkS l) = some (verL l).isSome := by
  unfold line_numbered.f
  rw [show (⟨#[72, 84, 84, 80, 47]⟩ : ByteArray) = mkS [72, 84, 84, 80, 47] from rfl]
  by_cases c1 : l.take ([72, 84, 84, 80, 47] : List UInt8).length = [72, 84, 84, 80, 47]
  · rw [CutPrefix_yes _ _ c1, Option.bind_some, if_pos rfl, mkS_size]
    have hl : l.take 5 = [72, 84, 84, 80, 47] := c1
    by_cases h8 : l.length = 8
    · obtain ⟨a, b, c, d, e, f, g, i, rfl⟩ := eight h8
      have c1' : [a, b, c, d, e] = [72, 84, 84, 80, 47] := c1
      have hd : List.drop ([72, 84, 84, 80, 47] : List UInt8).length [a, b, c, d, e, f, g, i] = [f, g, i] := rfl
      have b0 : bt (mkS [f, g, i]) 0 = f.toNat := bt_mk [f, g, i] 0 (by simp)
      have b1 : bt (mkS [f, g, i]) 1 = g.toNat := bt_mk [f, g, i] 1 (by simp)
      have b2 : bt (mkS [f, g, i]) 2 = i.toNat := bt_mk [f, g, i] 2 (by simp)
      rw [hd, if_pos (by rfl), if_pos (by simp), b0, b1, b2, digit_f, digit_f, Option.bind_some, Option.bind_some]
      rw [verL_8]
      by_cases c2 : 48 ≤ (f.toNat : Int) ∧ (f.toNat : Int) ≤ 57
      · rw [decide_eq_true c2, if_pos rfl, if_pos (by simp)]
        by_cases c3 : g = 46
        · have g1 : ((g.toNat : Nat) : Int) = 46 := by rw [c3]; rfl
          rw [if_pos g1, if_pos (by simp)]
          by_cases c4 : 48 ≤ (i.toNat : Int) ∧ (i.toNat : Int) ≤ 57
          · rw [decide_eq_true c4, if_pos ⟨c1', c2, c3, c4⟩]; rfl
          · rw [decide_eq_false c4, if_neg (fun h => c4 h.2.2.2)]; rfl
        · have g1 : ¬ ((g.toNat : Nat) : Int) = 46 := fun h => c3 (UInt8.toNat_inj.1 (by show _ = 46; omega))
          rw [if_neg g1, if_neg (fun h => c3 h.2.2.1)]; rfl
      · rw [decide_eq_false c2, if_neg (by simp), if_neg (fun h => c2 h.2.1)]; rfl
    · rw [verL_none h8, List.length_drop, if_neg (by
        have := congrArg List.length hl
        rw [List.length_take] at this
        simp only [List.length_cons, List.length_nil] at this ⊢
        omega)]
      rfl
  · rw [CutPrefix_no _ _ c1, Option.bind_some, if_neg (by simp)]
    have : verL l = none := by
      unfold verL
      split
      · rw [if_neg (fun h => c1 h.1)]
      · rfl
    rw [this]
    rfl
theorem ver_min (l:List UInt8):minL l=match verL l with|some p=>if p.1=1∧p.2 ≤ 1 then some p.2 else none|none=>none:=by
 by_cases h8:l.length=8;rotate_left
 ·rw [verL_none h8]
  unfold minL
  rw [if_neg (fun h=>h8 (by rw [h];rfl)),if_neg (fun h=>h8 (by rw [h];rfl))]
 obtain ⟨a,b,c,d,e,f,g,i,rfl⟩:=eight h8
 have fr:=f.toNat_lt
 have ir:=i.toNat_lt
 rw [verL_8]
 unfold minL
 by_cases c0:[a,b,c,d,e]=[72,84,84,80,47]∧(48 ≤ (f.toNat:Int)∧(f.toNat:Int) ≤ 57)∧g=46∧(48 ≤ (i.toNat:Int)∧(i.toNat:Int) ≤ 57)
 ·rw [if_pos c0]
  obtain ⟨c1,c2,c3,c4⟩:=c0
  simp only [List.cons.injEq,and_true] at c1
  obtain ⟨rfl,rfl,rfl,rfl,rfl⟩:=c1
  subst c3
  simp only [List.cons.injEq,and_true,true_and]
  by_cases f1:f=49;rotate_left
  ·rw [if_neg (fun h=>f1 h.1),if_neg (fun h=>f1 h.1),if_neg ?_]
   rintro ⟨h,_⟩
   exact f1 (UInt8.toNat_inj.1 (by show _=49;omega))
  subst f1
  simp only [true_and]
  by_cases i0:i=48
  ·subst i0;simp
  rw [if_neg i0]
  by_cases i1:i=49
  ·subst i1;simp
  rw [if_neg i1,if_neg ?_]
  rintro ⟨_,h⟩
  have e0:i.toNat ≠ 48:=fun h=>i0 (UInt8.toNat_inj.1 h)
  have e1:i.toNat ≠ 49:=fun h=>i1 (UInt8.toNat_inj.1 h)
  omega
 ·rw [if_neg c0,if_neg,if_neg]
  ·intro h;simp only [List.cons.injEq,and_true] at h;obtain ⟨rfl,rfl,rfl,rfl,rfl,rfl,rfl,rfl⟩:=h;exact c0 (by decide)
  ·intro h;simp only [List.cons.injEq,and_true] at h;obtain ⟨rfl,rfl,rfl,rfl,rfl,rfl,rfl,rfl⟩:=h;exact c0 (by decide)
theorem ref_l1 (x:List UInt8) (hn:x.length ≤ 140737488355328) (d:Nat) : ∀ (k i:Nat),i + d=x.length → d + 1 ≤ k →
 tollbarref05_Host.l1 k (mkS x) i=some (if ((bytesOf (mkS x)).drop i).all hostC=true then (if x.length=0 ∨ 64 < x.length then ((⟨#[]⟩:ByteArray),false) else (mkS x,true)) else ((⟨#[]⟩:ByteArray),false)):=by
 induction d with
 | zero =>
  intro k i hi hk
  obtain ⟨k,rfl⟩ : ∃ m,k=m + 1:=⟨k - 1,by omega⟩
  rw [List.drop_of_length_le (by rw [bytesOf_length,mkS_size];omega),if_pos (show ([]:List Int).all hostC=true from rfl)]
  simp only [tollbarref05_Host.l1]
  rw [mkS_size,if_neg (by omega)]
  by_cases h0:x.length=0
  ·rw [if_pos (by omega),if_pos (Or.inl h0)]
  rw [if_neg (by omega)]
  by_cases h1:64 < x.length
  ·rw [if_pos (by omega),if_pos (Or.inr h1)]
  rw [if_neg (by omega),if_neg (by omega)]
 | succ d ih =>
  intro k i hi hk
  obtain ⟨k,rfl⟩ : ∃ m,k=m + 1:=⟨k - 1,by omega⟩
  have hlt:i < x.length:=by omega
  have ih' := ih k (i + 1) (by omega) (by omega)
  have hw:wrap64 ((i:Int) + 1)=((i + 1:Nat):Int):=by unfold wrap64;omega
  have hd:=bytes_drop_all hostC (mkS x) (i:Int) (by omega) (by rw [mkS_size];omega)
  rw [Int.toNat_natCast] at hd
  rw [hd]
  simp only [tollbarref05_Host.l1]
  rw [mkS_size,if_pos (by omega),if_pos (by omega),hw,ih',refDigit_f]
  have hr:=bt_range (mkS x) i
  generalize bt (mkS x) (i:Int)=c at hr ⊢
  have hh:hostC c=decide ((48 ≤ c∧c ≤ 57) ∨ (97 ≤ c∧c ≤ 122) ∨ c=45 ∨ c=46):=rfl
  simp only [Option.bind_some]
  by_cases a1:c ≥ 97
  ·rw [if_pos a1]
   by_cases a2:c ≤ 122
   ·rw [if_pos a2,hh,decide_eq_true (by omega),Bool.true_and]
   rw [if_neg a2,decide_eq_false (by omega),if_neg (by simp),if_neg (by omega),if_neg (by omega),hh,decide_eq_false (by omega),Bool.false_and,if_neg (by simp)]
  rw [if_neg a1]
  by_cases a2:48 ≤ c∧c ≤ 57
  ·rw [decide_eq_true a2,if_pos rfl,hh,decide_eq_true (by omega),Bool.true_and]
  rw [decide_eq_false a2,if_neg (by simp)]
  by_cases a3:c=45
  ·rw [if_pos a3,hh,decide_eq_true (by omega),Bool.true_and]
  rw [if_neg a3]
  by_cases a4:c=46
  ·rw [if_pos a4,hh,decide_eq_true (by omega),Bool.true_and]
  rw [if_neg a4,hh,decide_eq_false (by omega),Bool.false_and,if_neg (by simp)]
theorem ref_j3 (l:List UInt8) (hn:l.length ≤ 140737488355327) (n:Nat) (h:n ≤ l.length) (k:Nat) (hk:2 * l.length + 10 ≤ k):tollbarref05_Host.j3 k (mkS l) n=some (hostOf l n):=by
 obtain ⟨k,rfl⟩ : ∃ m,k=m + 1:=⟨k - 1,by omega⟩
 simp only [tollbarref05_Host.j3]
 have hl:(l.take n).length ≤ l.length:=by rw [List.length_take];omega
 rw [mkS_size,if_pos (by omega),if_pos (by omega),Int.toNat_natCast,mkS_extract,List.drop_zero,Nat.sub_zero,refFold_f _ (by rw [mkS_size];omega) k (by rw [mkS_size];omega),Fold_f _ (by rw [mkS_size];omega),fold_mk,Option.bind_some]
 have:=ref_l1 ((l.take n).map foldU) (by rw [List.length_map];omega) ((l.take n).map foldU).length k 0 (by omega) (by rw [List.length_map];omega)
 rw [show ((0:Nat):Int)=0 from rfl,List.drop_zero] at this
 rw [this]
 unfold hostOf hostEnd
 rw [mkS_size]
 congr 1
 by_cases c:((l.take n).map foldU).length=0 ∨ 64 < ((l.take n).map foldU).length;rotate_left
 ·rw [if_neg c]
  simp only [if_neg c]
 rw [if_pos c]
 simp only [if_pos c]
 split <;> rfl
theorem ref_j1 (l:List UInt8) (hn:l.length ≤ 140737488355327) (i:Nat) (h:i < l.length) (k:Nat) (hk:2 * l.length + 20 ≤ k) :
 tollbarref05_Host.j1 k (mkS l) (l.length:Int) (i:Int)=some (if l[i]=58 then hostOf l i else hostOf l l.length):=by
 obtain ⟨k,rfl⟩ : ∃ m,k=m + 2:=⟨k - 2,by omega⟩
 simp only [tollbarref05_Host.j1]
 rw [mkS_size,if_pos (by omega),if_pos (by omega),if_pos (by omega),bt_mk l i h]
 simp only [tollbarref05_Host.j2]
 by_cases c:l[i]=58
 ·rw [if_pos c,if_pos (by rw [c];rfl),ref_j3 l hn i (by omega) k (by omega)]
 rw [if_neg c,if_neg (by rw [beq_iff_eq];exact fun e=>c (UInt8.toNat_inj.1 (by show _=58;omega))),ref_j3 l hn l.length (by omega) k (by omega)]
theorem ref_l0 (l : List UInt8) (hn : l.length ≤ 140737488355327) (d : Nat) : ∀ (k : Nat), d ≤ l.length → 3 * l.length + 20 + d ≤ k → (∀ x ∈ l.drop d, digU x = true) →
    tollbarref05_Host.l0 k (mkS l) (l.length : Int) ((d : Int) - 1) = line_Host.f (mkS l) := by
  induction d with
  | zero =>
    intro k hd hk ha
    obtain ⟨k, rfl⟩ : ∃ m, k = m + 3 := ⟨k - 3, by omega⟩
    rw [List.drop_zero] at ha
    have hno : ∀ n, ¬ PortAt l n := by
      rintro n ⟨h, h1, _⟩
      have := ha _ (List.getElem_mem h)
      rw [h1] at this
      revert this
      decide
    rw [Host_none l (by omega) hno]
    simp only [tollbarref05_Host.l0]
    rw [if_neg (by omega)]
    simp only [tollbarref05_Host.j1]
    rw [if_neg (by omega)]
    simp only [tollbarref05_Host.j2]
    rw [if_neg (by simp), ref_j3 l hn l.length (by omega) k (by omega)]
  | succ d ih =>
    intro k hd hk ha
    obtain ⟨k, rfl⟩ : ∃ m, k = m + 1 := ⟨k - 1, by omega⟩
    have hlt : d < l.length := by omega
    have e : ((d + 1 : Nat) : Int) - 1 = (d : Int) := by omega
    have hw : wrap64 ((d : Int) - 1) = (d : Int) - 1 := by unfold wrap64; omega
    rw [e]
    simp only [tollbarref05_Host.l0]
    rw [mkS_size, if_pos (by omega), if_pos (by omega), if_pos (by omega), bt_mk l d hlt, refDigit_f, ← dig_host, Option.bind_some]
    cases hc : digU l[d]
    · rw [if_neg (by simp), ref_j1 l hn d hlt k (by omega)]
      by_cases c : l[d] = 58
      · rw [if_pos c, Host_port l (by omega) d ⟨hlt, c, ha⟩]
      · rw [if_neg c, Host_none l (by omega)]
        rintro n ⟨h, h1, h2⟩
        rcases Nat.lt_trichotomy n d with q | q | q
        · have := h2 l[d] (by
            rw [List.mem_iff_getElem]
            exact ⟨d - (n + 1), by rw [List.length_drop]; omega, by rw [List.getElem_drop]; congr 1; omega⟩)
          rw [hc] at this
          cases this
        · subst q; exact c h1
        · have := ha l[n] (by
            rw [List.mem_iff_getElem]
            exact ⟨n - (d + 1), by rw [List.length_drop]; omega, by rw [List.getElem_drop]; congr 1; omega⟩)
          rw [h1] at this
          revert this
          decide
    · rw [if_pos rfl, hw]
      refine ih k (by omega) (by omega) ?_
      intro x hx
      rw [List.drop_eq_getElem_cons hlt] at hx
      rcases List.mem_cons.1 hx with rfl | hx
      · exact hc
      · exact ha x hx
theorem refHost_f (l:List UInt8) (hn:l.length ≤ 140737488355327) (k:Nat) (hk:4 * l.length + 20 ≤ k):tollbarref05_Host.f k (mkS l)=line_Host.f (mkS l):=by
 unfold tollbarref05_Host.f
 rw [mkS_size,show wrap64 ((l.length:Int) - 1)=(l.length:Int) - 1 by unfold wrap64;omega]
 exact ref_l0 l hn l.length k (by omega) (by omega) (by simp)
theorem Host_some (l:List UInt8) (hn:l.length ≤ 140737488355328) : ∃ u,line_Host.f (mkS l)=some (hostEnd (mkS u)):=by
 unfold line_Host.f
 rw [if_pos (by rw [mkS_size];exact hn)]
 exact ⟨(hostCut (strOfNums ((bytesOf (mkS l)).map foldC))).data.toList,by rw [mkS_self]⟩
theorem refParts_l0 (l:List UInt8) (hn:l.length ≤ 4398046511100) (d:Nat) : ∀ (k:Nat) (out:List ByteArray) (f i:Nat),f ≤ i → i + d=l.length → 32 ∉ (l.drop f).take (i - f) → out.length ≤ i → d + 2 ≤ k →
 tollbarref05_parts.l0 k (mkS l) out f i=some (out ++ (pcs 32 (l.drop f)).map mkS):=by
 induction d with
 | zero =>
  intro k out f i hf hi hs ho hk
  obtain ⟨k,rfl⟩ : ∃ m,k=m + 2:=⟨k - 2,by omega⟩
  have hz:(mkS l).size=l.length:=mkS_size l
  have hw:wrap64 ((i:Int) + 1)=(i:Int) + 1:=wn1 i (by omega)
  have ht:(l.drop f).take (i - f)=l.drop f:=List.take_of_length_le (by rw [List.length_drop];omega)
  simp only [tollbarref05_parts.l0]
  rw [hz,if_pos (by omega),if_pos (by omega),if_pos (by omega),if_pos (by omega),if_pos (by omega),hw,if_neg (by omega),Int.toNat_natCast,Int.toNat_natCast,mkS_extract,ht]
  rw [ht] at hs
  rw [pcs_none _ hs]
  rfl
 | succ d ih =>
  intro k out f i hf hi hs ho hk
  obtain ⟨k,rfl⟩ : ∃ m,k=m + 1:=⟨k - 1,by omega⟩
  have hlt:i < l.length:=by omega
  have hz:(mkS l).size=l.length:=mkS_size l
  have hw:wrap64 ((i:Int) + 1)=((i + 1:Nat):Int):=by rw [wn1 i (by omega)];omega
  obtain ⟨e1,e2⟩:=seg_split l f i hf hlt
  have ih1:=fun o (h:o.length ≤ i + 1)=>ih k o (i + 1) (i + 1) (Nat.le_refl _) (by omega) (by simp) h (by omega)
  have ih2:=fun h=>ih k out f (i + 1) (by omega) (by omega) h (by omega) (by omega)
  simp only [tollbarref05_parts.l0]
  rw [hz,if_pos (by omega),if_neg (by omega),if_pos (by omega),if_pos (by omega),bt_mk l i hlt,hw]
  by_cases hc:l[i]=32;rotate_left
  ·have hb : ¬ ((l[i]).toNat:Int)=32:=fun e=>hc (UInt8.toNat_inj.1 (by show _=32;omega))
   rw [if_neg hb]
   refine ih2 ?_
   rw [e2]
   intro hm
   rcases List.mem_append.1 hm with hm|hm
   ·exact hs hm
   exact hc (List.mem_singleton.1 hm).symm
  have hb:((l[i]).toNat:Int)=32:=by rw [hc];rfl
  rw [if_pos hb,if_pos (by omega),if_pos (by omega),if_pos (by omega),Int.toNat_natCast,Int.toNat_natCast,mkS_extract,ih1 _ (by rw [List.length_append];simp;omega)]
  have e3:pcs 32 (l.drop f)=pcs 32 ((l.drop f).take (i - f)) ++ pcs 32 (l.drop (i + 1)):=by
   rw [← pcs_append]
   congr 1
   rw [← hc]
   exact e1
  rw [e3,pcs_none _ hs]
  simp
theorem refParts_f (l:List UInt8) (hn:l.length ≤ 4398046511100) (k:Nat) (hk:l.length + 2 ≤ k):tollbarref05_parts.f k (mkS l)=some ((pcs 32 l).map mkS):=by
 have:=refParts_l0 l hn l.length k [] 0 0 (Nat.le_refl _) (by omega) (by simp) (by simp) (by omega)
 unfold tollbarref05_parts.f
 rw [show ((0:Nat):Int)=0 from rfl] at this
 rw [this]
 rfl
def tgtB (c:Int):Bool:=(sign_Target_1.f c).getD false
theorem Target_f (s:ByteArray) (h:s.size ≤ 140737488355328):sign_Target.f s=some (!s.toList.isEmpty && (bytesOf s).all tgtB):=if_pos h
theorem tokenByte_tells (c:Int) (h0:0 ≤ c) (h1:c ≤ 255) (k:Nat) (hk:1 ≤ k):tollbarref02_tokenByte.f k c=some (tokB c):=by
 refine at_rounds (fun k=>tollbarref02_tokenByte.mono c k) hk ?_
 exact byte_cases (P:=fun c=>tollbarref02_tokenByte.f 1 c=some (tokB c)) (by decide +kernel) c h0 h1
theorem valB_eq (c:Int) (h0:0 ≤ c) (h1:c ≤ 255):valB c = !(decide (c < 32) && !decide (c=9) || decide (c=127)) :=
 byte_cases (P:=fun c=>valB c = !(decide (c < 32) && !decide (c=9) || decide (c=127))) (by decide +kernel) c h0 h1
theorem tgtB_eq (c:Int) (h0:0 ≤ c) (h1:c ≤ 255):tgtB c = !(decide (c ≤ 32) || decide (127 ≤ c)) :=
 byte_cases (P:=fun c=>tgtB c = !(decide (c ≤ 32) || decide (127 ≤ c))) (by decide +kernel) c h0 h1
theorem refToken_l0 (s:ByteArray) (hn:s.size ≤ 140737488355328) (d:Nat) : ∀ (k:Nat) (i:Int),0 ≤ i → (s.size:Int) - i=d → d + 2 ≤ k →
 tollbarref02_Token.l0 k s i=some (!s.toList.isEmpty && ((bytesOf s).drop i.toNat).all tokB):=by
 induction d with
 | zero =>
  intro k i h0 hd hk
  obtain ⟨k,rfl⟩ : ∃ m,k=m + 1:=⟨k - 1,by omega⟩
  simp only [tollbarref02_Token.l0]
  rw [if_neg (by omega),drop_end _ _ _ (by omega),isEmpty_size]
  congr 1
  by_cases h:s.size=0 <;> simp [h];omega
 | succ d ih =>
  intro k i h0 hd hk
  obtain ⟨k,rfl⟩ : ∃ m,k=m + 1:=⟨k - 1,by omega⟩
  have hlt:i < (s.size:Int):=by omega
  simp only [tollbarref02_Token.l0]
  rw [if_pos hlt,if_pos h0,tokenByte_tells _ (bt_range s i).1 (bt_range s i).2 k (by omega),w64 1 h0 hlt hn (by omega) (by omega),drop_all _ _ _ h0 hlt,isEmpty_size]
  have ih' := ih k (i + 1) (by omega) (by omega) (by omega)
  rw [isEmpty_size] at ih'
  simp only [Option.bind_some,ih']
  have hz:s.size ≠ 0:=by omega
  cases tokB (bt s i) <;> simp [hz]
theorem refToken_f (s:ByteArray) (hn:s.size ≤ 140737488355328) (k:Nat) (hk:s.size + 2 ≤ k):tollbarref02_Token.f k s=sign_Token.f s:=by
 rw [Token_f s hn]
 unfold tollbarref02_Token.f
 rw [refToken_l0 s hn s.size k 0 (by omega) (by omega) hk]
 rfl
theorem refValue_l0 (s:ByteArray) (hn:s.size ≤ 140737488355328) (d:Nat) : ∀ (k:Nat) (i:Int),0 ≤ i → (s.size:Int) - i=d → d + 1 ≤ k →
 tollbarref02_Value.l0 k s i=some (((bytesOf s).drop i.toNat).all valB):=by
 induction d with
 | zero =>
  intro k i h0 hd hk
  obtain ⟨k,rfl⟩ : ∃ m,k=m + 1:=⟨k - 1,by omega⟩
  simp only [tollbarref02_Value.l0]
  rw [if_neg (by omega),drop_end _ _ _ (by omega)]
 | succ d ih =>
  intro k i h0 hd hk
  obtain ⟨k,rfl⟩ : ∃ m,k=m + 1:=⟨k - 1,by omega⟩
  have hlt:i < (s.size:Int):=by omega
  simp only [tollbarref02_Value.l0]
  have ih' := ih k (i + 1) (by omega) (by omega) (by omega)
  rw [if_pos hlt,if_pos h0,w64 1 h0 hlt hn (by omega) (by omega),drop_all _ _ _ h0 hlt,ih',valB_eq _ (bt_range s i).1 (bt_range s i).2]
  by_cases a:bt s i < 32 <;> by_cases b:bt s i=9 <;> by_cases c:bt s i=127 <;> simp [a,b,c]
theorem refValue_f (s:ByteArray) (hn:s.size ≤ 140737488355328) (k:Nat) (hk:s.size + 1 ≤ k):tollbarref02_Value.f k s=sign_Value.f s:=by
 rw [Value_f s hn]
 unfold tollbarref02_Value.f
 rw [refValue_l0 s hn s.size k 0 (by omega) (by omega) hk]
 rfl
theorem refTarget_l0 (s:ByteArray) (hn:s.size ≤ 140737488355328) (d:Nat) : ∀ (k:Nat) (i:Int),0 ≤ i → (s.size:Int) - i=d → d + 1 ≤ k →
 tollbarref02_Target.l0 k s i=some (!s.toList.isEmpty && ((bytesOf s).drop i.toNat).all tgtB):=by
 induction d with
 | zero =>
  intro k i h0 hd hk
  obtain ⟨k,rfl⟩ : ∃ m,k=m + 1:=⟨k - 1,by omega⟩
  simp only [tollbarref02_Target.l0]
  rw [if_neg (by omega),drop_end _ _ _ (by omega),isEmpty_size]
  congr 1
  by_cases h:s.size=0 <;> simp [h];omega
 | succ d ih =>
  intro k i h0 hd hk
  obtain ⟨k,rfl⟩ : ∃ m,k=m + 1:=⟨k - 1,by omega⟩
  have hlt:i < (s.size:Int):=by omega
  simp only [tollbarref02_Target.l0]
  have ih' := ih k (i + 1) (by omega) (by omega) (by omega)
  rw [isEmpty_size] at ih'
  have hz:s.size ≠ 0:=by omega
  rw [if_pos hlt,if_pos h0,w64 1 h0 hlt hn (by omega) (by omega),drop_all _ _ _ h0 hlt,ih',tgtB_eq _ (bt_range s i).1 (bt_range s i).2,isEmpty_size]
  by_cases a:bt s i ≤ 32 <;> by_cases b:127 ≤ bt s i <;> simp [a,b,hz]
theorem refTarget_f (s:ByteArray) (hn:s.size ≤ 140737488355328) (k:Nat) (hk:s.size + 1 ≤ k):tollbarref02_Target.f k s=sign_Target.f s:=by
 rw [Target_f s hn]
 unfold tollbarref02_Target.f
 rw [refTarget_l0 s hn s.size k 0 (by omega) (by omega) hk]
 rfl
def tokOk (s:ByteArray):Bool := !s.toList.isEmpty && (bytesOf s).all tokB
def tgtOk (s:ByteArray):Bool := !s.toList.isEmpty && (bytesOf s).all tgtB
/-- A method and its target. -/
def aimOk (m t:ByteArray):Bool:=tgtOk t && (decide (bt t 0=47) || (decide (t.toList=[42]) && (m.toList == [79,80,84,73,79,78,83])))
def reqBad (c:Int):ByteArray × ByteArray × Int × (List (S36)) × List Int × Int:=((⟨#[]⟩:ByteArray),(⟨#[]⟩:ByteArray),0,[],[],c)
/-- What a request's three parts tell. -/
def reqP (m t v:List UInt8):ByteArray × ByteArray × Int × (List (S36)) × List Int × Int :=
 if (m.length ≤ 20∧tokOk (mkS m)=true)∧aimOk (mkS m) (mkS t)=true then
  if 512 < t.length then reqBad 414 else
  match verL v with
  | none=>reqBad 400
  | some p=>if p.1=1∧p.2 ≤ 1 then (mkS m,mkS t,p.2,[],[],0) else reqBad 505
 else reqBad 400
def reqSpec (l:List UInt8):ByteArray × ByteArray × Int × (List (S36)) × List Int × Int:=match pcs 32 l with|[m,t,v]=>reqP m t v|_=>reqBad 400
theorem three {α:Type} {l:List α} (h:l.length=3) : ∃ a b c,l=[a,b,c]:=by
 match l,h with
 | [a,b,c],_=>exact ⟨a,b,c,rfl⟩
theorem reqSpec_not {l:List UInt8} (h:(pcs 32 l).length ≠ 3):reqSpec l=reqBad 400:=by
 unfold reqSpec
 split
 ·rename_i e;rw [e] at h;simp at h
 rfl
theorem reqSpec_yes {l m t v:List UInt8} (h:pcs 32 l=[m,t,v]):reqSpec l=reqP m t v:=by
 unfold reqSpec
 rw [h]
theorem tgt_ne {s:ByteArray} (h:tgtOk s=true):0 < s.size:=by
 unfold tgtOk at h
 rw [isEmpty_size] at h
 rcases Nat.eq_zero_or_pos s.size with e|e
 ·rw [e] at h;simp at h
 exact e
theorem target_f (m t:ByteArray) (h:t.size ≤ 140737488355328):line_target.f m t=some (aimOk m t):=by
 unfold line_target.f aimOk
 rw [Target_f t h,Option.bind_some]
 change (if tgtOk t=true then _ else _)=_
 cases ht:tgtOk t
 ·rfl
 have hp:=tgt_ne ht
 rw [if_pos rfl,if_pos (by omega),Bool.true_and]
 by_cases c1:bt t 0=47
 ·rw [if_pos c1,decide_eq_true c1];rfl
 rw [if_neg c1,decide_eq_false c1,Bool.false_or]
 by_cases c2:t.toList=[42]
 ·rw [if_pos c2,decide_eq_true c2];rfl
 rw [if_neg c2,decide_eq_false c2];rfl
theorem Request_f (l:List UInt8) (hn:l.length ≤ 4398046511100) (k:Nat) (hk:l.length + 4 ≤ k):line_Request.f k (mkS l)=some (reqSpec l):=by
 obtain ⟨k,rfl⟩ : ∃ m,k=m + 1:=⟨k - 1,by omega⟩
 unfold line_Request.f
 rw [Split_fC (sp:=32) (mkS l) (by rw [mkS_size];omega) (k + 1) (by rw [mkS_size];omega),Option.bind_some,mkS_data,List.length_map]
 have hle:=pcs_le (sp:=32) l
 by_cases h3:(pcs 32 l).length=3;rotate_left
 ·rw [reqSpec_not h3,if_neg (by omega)]
  simp only [line_Request.j0]
  rfl
 obtain ⟨m,t,v,hp⟩:=three h3
 rw [reqSpec_yes hp]
 rw [hp] at hle ⊢
 have hm:=hle m (by simp)
 have ht:=hle t (by simp)
 have e0:rdOf ByteArray.empty ([m,t,v].map mkS) 0=mkS m:=rfl
 have e1:rdOf ByteArray.empty ([m,t,v].map mkS) 1=mkS t:=rfl
 have e2:rdOf ByteArray.empty ([m,t,v].map mkS) 2=mkS v:=rfl
 have hl:(([m,t,v].map mkS).length:Int)=3:=rfl
 have hbad:line_Request.j0 (k + 1) ([m,t,v].map mkS) true=some (reqBad 400):=by simp only [line_Request.j0];rfl
 rw [hbad,e0,e1,if_pos (by simp),if_pos (by simp),mkS_size,Token_f _ (by rw [mkS_size];omega),Option.bind_some]
 unfold reqP
 change (if (m.length:Int) > 20 then _ else if tokOk (mkS m)=true then _ else _)=_
 by_cases c1:(m.length:Int) > 20
 ·rw [if_pos c1,if_neg (fun h=>by omega)]
 rw [if_neg c1]
 cases c2:tokOk (mkS m)
 ·rw [if_neg (by simp),if_neg (by simp)]
 rw [if_pos rfl,if_pos (by simp),target_f _ _ (by rw [mkS_size];omega),Option.bind_some]
 cases c3:aimOk (mkS m) (mkS t)
 ·rw [if_neg (by simp),Bool.not_false,hbad]
 rw [if_pos ⟨⟨by omega,rfl⟩,rfl⟩,Bool.not_true]
 simp only [line_Request.j0]
 rw [if_neg (by simp),hl,e0,e1,e2,if_pos (by omega),minor_f,Option.bind_some,if_pos (by omega),mkS_size]
 by_cases c4:512 < t.length
 ·rw [if_pos (by omega),if_pos c4];rfl
 rw [if_neg (by omega),if_neg c4,numbered_f,Option.bind_some,ver_min]
 cases hv:verL v with
 | none=>rfl
 | some p =>
  simp only [Option.isSome_some,if_true]
  by_cases c5:p.1=1∧p.2 ≤ 1
  ·rw [if_pos c5,if_pos c5];rfl
  ·rw [if_neg c5,if_neg c5];rfl
theorem refRequest_f (l:List UInt8) (hn:l.length ≤ 4398046511100) (k:Nat) (hk:l.length + 6 ≤ k):tollbarref05_Request.f k (mkS l)=some (reqSpec l):=by
 obtain ⟨k,rfl⟩ : ∃ m,k=m + 2:=⟨k - 2,by omega⟩
 unfold tollbarref05_Request.f
 rw [refParts_f l hn (k + 2) (by omega),Option.bind_some,List.length_map]
 have hle:=pcs_le (sp:=32) l
 by_cases h3:(pcs 32 l).length=3;rotate_left
 ·rw [reqSpec_not h3,if_neg (by omega)]
  simp only [tollbarref05_Request.j0]
  rfl
 obtain ⟨m,t,v,hp⟩:=three h3
 rw [reqSpec_yes hp]
 rw [hp] at hle ⊢
 have hm:=hle m (by simp)
 have ht:=hle t (by simp)
 have e0:rdOf ByteArray.empty ([m,t,v].map mkS) 0=mkS m:=rfl
 have e1:rdOf ByteArray.empty ([m,t,v].map mkS) 1=mkS t:=rfl
 have e2:rdOf ByteArray.empty ([m,t,v].map mkS) 2=mkS v:=rfl
 have hl:(([m,t,v].map mkS).length:Int)=3:=rfl
 have hbad:tollbarref05_Request.j0 (k + 2) ([m,t,v].map mkS) true=some (reqBad 400):=by simp only [tollbarref05_Request.j0];rfl
 have hbad1:tollbarref05_Request.j1 (k + 1) ([m,t,v].map mkS) true=some (reqBad 400):=by simp only [tollbarref05_Request.j1];rfl
 rw [hbad,e0,e1,if_pos (by simp),if_pos (by simp),mkS_size,refToken_f _ (by rw [mkS_size];omega) _ (by rw [mkS_size];omega),refTarget_f _ (by rw [mkS_size];omega) _ (by rw [mkS_size];omega),Token_f _ (by rw [mkS_size];omega),Target_f _ (by rw [mkS_size];omega),Option.bind_some,Option.bind_some]
 unfold reqP
 change (if tokOk (mkS m)=true then (if (m.length:Int) > 20 then _ else if _ then tollbarref05_Request.j0 (k + 2) _ (!tgtOk (mkS t)) else _) else _)=_
 cases c2:tokOk (mkS m)
 ·rw [if_neg (by simp),if_neg (by simp)]
 rw [if_pos rfl]
 by_cases c1:(m.length:Int) > 20
 ·rw [if_pos c1,if_neg (fun h=>by omega)]
 rw [if_neg c1,if_pos (by simp)]
 cases ht3:tgtOk (mkS t)
 ·rw [Bool.not_false,hbad,if_neg (by unfold aimOk;rw [ht3];simp)]
 have hp0:=tgt_ne ht3
 rw [Bool.not_true]
 have haim:aimOk (mkS m) (mkS t)=(decide (bt (mkS t) 0=47) || (decide ((mkS t).toList=[42]) && ((mkS m).toList == [79,80,84,73,79,78,83]))):=by unfold aimOk;rw [ht3];rfl
 have hj1:tollbarref05_Request.j0 (k + 2) ([m,t,v].map mkS) false=tollbarref05_Request.j1 (k + 1) ([m,t,v].map mkS) (!aimOk (mkS m) (mkS t)):=by
  simp only [tollbarref05_Request.j0]
  rw [if_neg (by simp),hl,e0,e1,if_pos (by omega),if_pos (by omega),haim]
  by_cases d1:bt (mkS t) 0=47
  ·rw [if_pos d1,decide_eq_true d1];rfl
  rw [if_neg d1,decide_eq_false d1,Bool.false_or]
  by_cases d2:(mkS t).toList=[42]
  ·rw [if_pos d2,decide_eq_true d2,if_pos (by omega),Bool.true_and];rfl
  rw [if_neg d2,decide_eq_false d2];rfl
 rw [hj1]
 cases c3:aimOk (mkS m) (mkS t)
 ·rw [if_neg (by simp),Bool.not_false,hbad1]
 rw [if_pos ⟨⟨by omega,rfl⟩,rfl⟩,Bool.not_true]
 simp only [tollbarref05_Request.j1]
 rw [if_neg (by simp),hl,e0,e1,e2,if_pos (by omega),mkS_size]
 by_cases c4:512 < t.length
 ·rw [if_pos (by omega),if_pos c4];rfl
 rw [if_neg (by omega),if_neg c4,if_pos (by omega),refVersion_f,Option.bind_some]
 cases hv:verL v with
 | none=>rfl
 | some p =>
  simp only [if_true]
  by_cases c5:p.1=1∧p.2 ≤ 1
  ·rw [if_pos c5,if_pos c5.1,if_neg (by omega),if_pos (by omega)]
  rw [if_neg c5]
  by_cases c6:p.1=1
  ·rw [if_pos c6,if_pos (by omega)];rfl
  ·rw [if_neg c6];rfl
theorem reqSpec_nil (l:List UInt8):(reqSpec l).2.2.2.1=[]∧(reqSpec l).2.2.2.2.1=[]:=by
 unfold reqSpec
 split
 ·unfold reqP
  split
  ·split
   ·exact ⟨rfl,rfl⟩
   split
   ·exact ⟨rfl,rfl⟩
   split <;> exact ⟨rfl,rfl⟩
  exact ⟨rfl,rfl⟩
 exact ⟨rfl,rfl⟩
def hostNm:ByteArray:=⟨#[104,111,115,116]⟩
def hostNM:ByteArray:=⟨#[72,111,115,116]⟩
theorem host_nm:(bytesOf hostNM).map foldC=(bytesOf hostNm).map foldC:=by decide +kernel
def hostT (h:ByteArray):ByteArray × Bool:=(line_Host.f h).getD (⟨#[]⟩,false)
theorem hostT_f (h:ByteArray) (hs:h.size ≤ 140737488355328):line_Host.f h=some (hostT h):=by
 obtain ⟨u,hu⟩:=Host_some h.data.toList (by rw [data_length];omega)
 rw [mkS_self] at hu
 unfold hostT
 rw [hu]
 rfl
/-- Are a request's hosts right? -/
def hostsOk:List ByteArray → Int → Bool
 | [],minor=>minor == 0
 | [h],_=>(hostT h).2
 | _ :: _ :: _,_=>false
def openBad (c:Int):ByteArray × ByteArray × Int × List (S36) × List Int × Int × Int × Bool × Int:=(⟨#[]⟩,⟨#[]⟩,0,[],[],0,0,false,c)
def openF (q:ByteArray × ByteArray × Int × List (S36) × List Int × Int) (g:List (S36)) (n:Int):ByteArray × ByteArray × Int × List (S36) × List Int × Int × Int × Bool × Int :=
 if hostsOk (getS hostNm g) q.2.2.1=true then (if (reqLen g q.2.2.1).2.2=0 then (q.1,q.2.1,q.2.2.1,g,[],n,(reqLen g q.2.2.1).1,(reqLen g q.2.2.1).2.1,0) else openBad (reqLen g q.2.2.1).2.2) else openBad 400
def openL:List ByteArray × Int × Int → ByteArray × ByteArray × Int × List (S36) × List Int × Int × Int × Bool × Int
 | ([],_,c)=>openBad c
 | (s :: ss,n,c)=>if (reqSpec s.data.toList).2.2.2.2.2=0 then (if (fieldsS ss 0).2=0 then (if n=0 then openBad c else openF (reqSpec s.data.toList) (fieldsS ss 0).1 n) else openBad (fieldsS ss 0).2) else openBad (reqSpec s.data.toList).2.2.2.2.2
/-- What a request's beginning tells. -/
def openS (l:List Int):ByteArray × ByteArray × Int × List (S36) × List Int × Int × Int × Bool × Int:=openL (linesS (bdS l) (extS l))
/-- The request with which bytes begin. -/
def reqS (l:List Int):ByteArray × ByteArray × Int × List (S36) × List Int × Int × Int :=
 if (openS l).2.2.2.2.2.1=0 then (⟨#[]⟩,⟨#[]⟩,0,[],[],0,(openS l).2.2.2.2.2.2.2.2)
 else if (bodyS (l.drop (openS l).2.2.2.2.2.1.toNat) (openS l).2.2.2.2.2.2.1 (openS l).2.2.2.2.2.2.2.1).2.1 < 0 then (⟨#[]⟩,⟨#[]⟩,0,[],[],0,(bodyS (l.drop (openS l).2.2.2.2.2.1.toNat) (openS l).2.2.2.2.2.2.1 (openS l).2.2.2.2.2.2.2.1).2.2)
 else ((openS l).1,(openS l).2.1,(openS l).2.2.1,(openS l).2.2.2.1,(bodyS (l.drop (openS l).2.2.2.2.2.1.toNat) (openS l).2.2.2.2.2.2.1 (openS l).2.2.2.2.2.2.2.1).1,(openS l).2.2.2.2.2.1 + (bodyS (l.drop (openS l).2.2.2.2.2.1.toNat) (openS l).2.2.2.2.2.2.1 (openS l).2.2.2.2.2.2.2.1).2.1,0)
theorem reqSpec_minor (l:List UInt8):(reqSpec l).2.2.1=0 ∨ (reqSpec l).2.2.1=1:=by
 have hv : ∀ v p,verL v=some p → 0 ≤ p.2:=by
  intro v p h
  unfold verL at h
  split at h
  ·split at h
   ·rename_i c
    injection h with h
    subst h
    show (0:Int) ≤ _ - 48
    omega
   cases h
  cases h
 unfold reqSpec
 split
 ·unfold reqP
  split
  ·split
   ·exact Or.inl rfl
   split
   ·exact Or.inl rfl
   rename_i p hp
   have:=hv _ _ hp
   split
   ·rename_i h
    show p.2=0 ∨ p.2=1
    omega
   exact Or.inl rfl
  exact Or.inl rfl
 exact Or.inl rfl
/-- What is known of a request's beginning that is whole. -/
structure OpenOk (l:List Int) (o:ByteArray × ByteArray × Int × List (S36) × List Int × Int × Int × Bool × Int):Prop where
 pos:0 < o.2.2.2.2.2.1
 le:o.2.2.2.2.2.1 ≤ (l.length:Int)∧o.2.2.2.2.2.1 ≤ 2048
 code:o.2.2.2.2.2.2.2.2=0
 size:0 ≤ o.2.2.2.2.2.2.1∧o.2.2.2.2.2.2.1 ≤ 4096
 minor:o.2.2.1=0 ∨ o.2.2.1=1
 fields:o.2.2.2.1.length ≤ 40 ∧ ∀ f ∈ o.2.2.2.1,rightB f.f0 f.f1=true
 body:o.2.2.2.2.1=[]
theorem open_cases (l:List Int):(∃ c,openS l=openBad c) ∨ OpenOk l (openS l):=by
 have hb:=bdS_length l
 have hle:=lines_le (bdS l) (extS l)
 unfold openS
 obtain ⟨L,hL⟩ : ∃ L,L=linesS (bdS l) (extS l):=⟨_,rfl⟩
 rw [← hL] at hle ⊢
 obtain ⟨ss,n,c⟩:=L
 simp only at hle
 cases ss with
 | nil=>exact Or.inl ⟨c,rfl⟩
 | cons s ss =>
  rw [openL]
  split
  ·split
   ·split
    ·exact Or.inl ⟨c,rfl⟩
    rename_i h3
    unfold openF
    split
    ·split
     ·have hf:=fieldsS_FB ss 0 (by omega)
      exact Or.inr ⟨by show 0 < n;omega,by show n ≤ _∧n ≤ 2048;omega,rfl,reqLen_size _ _,reqSpec_minor _,⟨by show (fieldsS ss 0).1.length ≤ 40;omega,hf.2⟩,rfl⟩
     exact Or.inl ⟨_,rfl⟩
    exact Or.inl ⟨_,rfl⟩
   exact Or.inl ⟨_,rfl⟩
  exact Or.inl ⟨_,rfl⟩
theorem hosts_f (m t:ByteArray) (mi:Int) (fs:List (S36)) (b:List Int) (hf:FB fs) (k:Nat) (hk:1001 ≤ k):http_hosts.f k m t mi fs b=some (hostsOk (getS hostNm fs) mi):=by
 have hfl:=hf.1
 have hg:=Get_f fs hostNM hf (by decide) k (by omega)
 rw [getS_nm hostNM hostNm host_nm] at hg
 have hb:=get_bounds fs hostNm hf
 unfold http_hosts.f
 rw [show (⟨#[72,111,115,116]⟩:ByteArray)=hostNM from rfl,hg,Option.bind_some]
 cases hs:getS hostNm fs with
 | nil=>rfl
 | cons p r =>
  rw [hs] at hb
  have hp:=hb.2 p (List.mem_cons_self ..)
  have hr0:rdOf ByteArray.empty (p :: r) 0=p:=rfl
  rw [if_neg (by simp only [List.length_cons];omega),if_pos (by simp only [List.length_cons];omega),hr0,hostT_f p (by omega),Option.bind_some]
  cases r with
  | nil =>
   rw [hostsOk]
   cases (hostT p).2
   ·rw [if_neg (by simp)]
   rw [if_pos rfl];rfl
  | cons q s =>
   rw [hostsOk]
   have:(((p :: q :: s).length:Int) == 1)=false:=beq_eq_false_iff_ne.2 (by simp only [List.length_cons];omega)
   rw [this]
   split <;> rfl
theorem http_open_f (l:List Int) (hl:l.length ≤ 1000000) (k:Nat) (hk:1070000000 ≤ k) : ∃ o,http_open.f (k + 1) l=some o∧(o=openS l ∨ (o.2.2.2.2.2.2.2.2 ≠ 0∧openS l=openBad o.2.2.2.2.2.2.2.2)):=by
 have hb:=bdS_length l
 have hsz:=lines_sizes (bdS l) (extS l) hb.1
 have hn1:=head_nil reqFst l k (by omega)
 have hn2:=head_cons reqFst l (by omega) k (by omega)
 unfold openS http_open.f
 obtain ⟨L,hL⟩ : ∃ L,L=linesS (bdS l) (extS l):=⟨_,rfl⟩
 rw [← hL] at hsz hn1 hn2 ⊢
 obtain ⟨ss,n,c⟩:=L
 cases ss with
 | nil =>
  rw [hn1 rfl,Option.bind_some]
  exact ⟨_,rfl,Or.inl rfl⟩
 | cons s ss =>
  have hs:=hsz s (List.mem_cons_self ..)
  have hq : ∀ k,1000000 ≤ k → line_Request.f k s=some (reqSpec s.data.toList):=fun k hk=>by
   have:=Request_f s.data.toList (by rw [data_length];omega) k (by rw [data_length];omega)
   rw [mkS_self] at this
   exact this
  have hr:reqFst k s=some (reqSpec s.data.toList).2.2.2.2.2:=by unfold reqFst;rw [hq k (by omega),Option.bind_some]
  rw [hn2 s ss rfl,hr,Option.bind_some,openL]
  obtain ⟨q,hqq⟩ : ∃ q,q=reqSpec s.data.toList:=⟨_,rfl⟩
  have hFB:=fields_FB ss
  rw [← hqq] at hq ⊢
  obtain ⟨g,hg⟩ : ∃ g,g=fieldsS ss 0:=⟨_,rfl⟩
  rw [← hg] at hFB ⊢
  by_cases h1:q.2.2.2.2.2=0;rotate_left
  ·rw [if_neg h1,if_neg h1,Option.bind_some]
   exact ⟨_,rfl,Or.inl rfl⟩
  rw [if_pos h1,if_pos h1]
  unfold headEnd
  by_cases h2:g.2=0
  ·rw [if_pos h2,if_pos h2]
   simp only
   by_cases h3:n=0
   ·rw [if_pos h3,if_pos h3,Option.bind_some]
    exact ⟨_,rfl,Or.inl rfl⟩
   rw [if_neg h3,if_neg h3,Option.bind_some,if_neg h3,Option.bind_some,hq _ (by omega),Option.bind_some,List.nil_append]
   rw [hosts_f q.1 q.2.1 q.2.2.1 g.1 [] hFB _ (by omega),Option.bind_some]
   unfold openF
   by_cases h4:hostsOk (getS hostNm g.1) q.2.2.1=true;rotate_left
   ·rw [if_neg h4,if_neg h4]
    exact ⟨_,rfl,Or.inl rfl⟩
   rw [if_pos h4,if_pos h4,frameReq_f g.1 q.2.2.1 hFB _ (by omega),Option.bind_some]
   refine ⟨_,rfl,?_⟩
   by_cases h5:(reqLen g.1 q.2.2.1).2.2=0
   ·rw [if_pos h5]
    exact Or.inl (by rw [h5])
   ·rw [if_neg h5]
    exact Or.inr ⟨h5,rfl⟩
  ·rw [if_neg h2,if_neg h2,Option.bind_some]
   exact ⟨_,rfl,Or.inl rfl⟩
theorem http_Request_f (l:List Int) (hl:l.length ≤ 1000000) (k:Nat) (hk:1070000010 ≤ k):http_Request.f k l=some (reqS l):=by
 obtain ⟨k,rfl⟩ : ∃ m,k=m + 1:=⟨k - 1,by omega⟩
 obtain ⟨o,ho,hs⟩:=http_open_f l hl k (by omega)
 unfold http_Request.f reqS
 rw [ho,Option.bind_some]
 have hbad : ∀ x6 x7 x8 x9 a b c d e,http_Request.j0 (k + 1) l x6 x7 x8 x9 true a b c d e=some (⟨#[]⟩,⟨#[]⟩,0,[],[],0,x9):=by
  intros
  rw [http_Request.j0,if_pos rfl]
 rcases hs with hs|⟨h1,hs⟩
 ·rw [← hs]
  rcases open_cases l with ⟨c,hc⟩|hok
  ·rw [hc] at hs
   subst hs
   rw [if_pos (show (openBad c).2.2.2.2.2.1=0 from rfl),if_pos (show (openBad c).2.2.2.2.2.1=0 from rfl),hbad]
  rw [← hs] at hok
  have p1:=hok.pos
  have hne : ¬ o.2.2.2.2.2.1=0:=by omega
  have p2:=hok.le
  have hdl:(l.drop o.2.2.2.2.2.1.toNat).length=l.length - o.2.2.2.2.2.1.toNat:=List.length_drop ..
  have hbl:=body_le (l.drop o.2.2.2.2.2.1.toNat) (by omega) o.2.2.2.2.2.2.1 hok.size.1 o.2.2.2.2.2.2.2.1
  rw [if_neg hne,if_neg hne,hok.code,show ((0:Int) != 0)=false from rfl,http_Request.j0,if_neg (by simp),if_pos (by omega),if_pos (by omega),body_f _ (by omega) _ hok.size.1 _ k (by omega),Option.bind_some]
  by_cases h3:(bodyS (l.drop o.2.2.2.2.2.1.toNat) o.2.2.2.2.2.2.1 o.2.2.2.2.2.2.2.1).2.1 < 0
  ·rw [if_pos h3,if_pos h3]
  rw [if_neg h3,if_neg h3]
  have hw:wrap64 (o.2.2.2.2.2.1 + (bodyS (l.drop o.2.2.2.2.2.1.toNat) o.2.2.2.2.2.2.1 o.2.2.2.2.2.2.2.1).2.1)=o.2.2.2.2.2.1 + (bodyS (l.drop o.2.2.2.2.2.1.toNat) o.2.2.2.2.2.2.1 o.2.2.2.2.2.2.2.1).2.1:=by unfold wrap64;omega
  rw [hw]
 rw [hs,if_pos (show (openBad o.2.2.2.2.2.2.2.2).2.2.2.2.2.1=0 from rfl)]
 by_cases h2:o.2.2.2.2.2.1=0
 ·rw [if_pos h2,hbad];rfl
 rw [if_neg h2,bne_iff_ne.2 h1,hbad];rfl
/-- The head with which bytes begin. -/
def headQ (l:List Int):ByteArray × ByteArray × Int × List (S36) × List Int × Int × Int:=((openS l).1,(openS l).2.1,(openS l).2.2.1,(openS l).2.2.2.1,(openS l).2.2.2.2.1,(openS l).2.2.2.2.2.1,(openS l).2.2.2.2.2.2.2.2)
def hostS (fs:List (S36)):ByteArray:=match getS hostNm fs with
 | []=>⟨#[]⟩
 | h :: _=>(hostT h).1
theorem http_Host_f (m t:ByteArray) (mi:Int) (fs:List (S36)) (b:List Int) (hf:FB fs) (k:Nat) (hk:1002 ≤ k):http_Host.f k m t mi fs b=some (hostS fs):=by
 have hfl:=hf.1
 obtain ⟨k,rfl⟩ : ∃ m,k=m + 1:=⟨k - 1,by omega⟩
 have hg:=Get_f fs hostNM hf (by decide) (k + 1) (by omega)
 rw [getS_nm hostNM hostNm host_nm] at hg
 have hb:=get_bounds fs hostNm hf
 unfold http_Host.f hostS
 rw [show (⟨#[72,111,115,116]⟩:ByteArray)=hostNM from rfl,hg,Option.bind_some,http_Host.l0]
 cases hs:getS hostNm fs with
 | nil=>rfl
 | cons p r =>
  rw [hs] at hb
  have hp:=hb.2 p (List.mem_cons_self ..)
  have hr0:rdOf ByteArray.empty (p :: r) 0=p:=rfl
  rw [if_pos (by simp only [List.length_cons];omega),if_pos (by omega),if_pos (by simp only [List.length_cons];omega),hr0,hostT_f p (by omega),Option.bind_some]
def expNm:ByteArray:=⟨#[101,120,112,101,99,116]⟩
def expNM:ByteArray:=⟨#[69,120,112,101,99,116]⟩
def contW:ByteArray:=⟨#[49,48,48,45,99,111,110,116,105,110,117,101]⟩
theorem exp_nm:(bytesOf expNM).map foldC=(bytesOf expNm).map foldC:=by decide +kernel
def waitsS (l:List Int):Bool :=
 if (openS l).2.2.2.2.2.1=0 then false else if (openS l).2.2.1=0 then false else if hasS (openS l).2.2.2.1 expNm contW=true then
  (if (bodyS (l.drop (openS l).2.2.2.2.2.1.toNat) (openS l).2.2.2.2.2.2.1 (openS l).2.2.2.2.2.2.2.1).2.1 < 0 then (bodyS (l.drop (openS l).2.2.2.2.2.1.toNat) (openS l).2.2.2.2.2.2.1 (openS l).2.2.2.2.2.2.2.1).2.2 == 0 else false) else false
theorem ok_FB {l:List Int} {o:ByteArray × ByteArray × Int × List (S36) × List Int × Int × Int × Bool × Int} (h:OpenOk l o):FB o.2.2.2.1:=by
 have h1:=h.fields.1
 refine ⟨by omega,fun f hf=>?_⟩
 have:=rightB_size (h.fields.2 f hf)
 omega
theorem http_Waits_f (l:List Int) (hl:l.length ≤ 1000000) (k:Nat) (hk:1070000010 ≤ k):http_Waits.f k l=some (waitsS l):=by
 obtain ⟨k,rfl⟩ : ∃ m,k=m + 1:=⟨k - 1,by omega⟩
 obtain ⟨o,ho,hs⟩:=http_open_f l hl k (by omega)
 unfold http_Waits.f waitsS
 rw [ho,Option.bind_some]
 rcases hs with hs|⟨h1,hs⟩
 ·rw [← hs]
  rcases open_cases l with ⟨c,hc⟩|hok
  ·rw [hc] at hs
   subst hs
   rw [if_pos (show (openBad c).2.2.2.2.2.1=0 from rfl),if_pos (show (openBad c).2.2.2.2.2.1=0 from rfl)]
  rw [← hs] at hok
  have p1:=hok.pos
  have hne : ¬ o.2.2.2.2.2.1=0:=by omega
  have p2:=hok.le
  have hdl:(l.drop o.2.2.2.2.2.1.toNat).length=l.length - o.2.2.2.2.2.1.toNat:=List.length_drop ..
  have hh:=Has_f o.2.2.2.1 expNM contW (ok_FB hok) (by decide) (by decide) (k + 1) (by omega)
  have he:hasS o.2.2.2.1 expNM contW=hasS o.2.2.2.1 expNm contW:=by unfold hasS;rw [listS_nm _ _ exp_nm]
  rw [he] at hh
  rw [if_neg hne,if_neg hne,if_pos hok.code]
  by_cases h2:o.2.2.1=0
  ·rw [if_pos h2,if_pos h2]
  rw [if_neg h2,if_neg h2,show (⟨#[69,120,112,101,99,116]⟩:ByteArray)=expNM from rfl,show (⟨#[49,48,48,45,99,111,110,116,105,110,117,101]⟩:ByteArray)=contW from rfl,hh,Option.bind_some]
  by_cases h3:hasS o.2.2.2.1 expNm contW=true;rotate_left
  ·rw [if_neg h3,if_neg h3]
  rw [if_pos h3,if_pos h3,if_pos (by omega),if_pos (by omega),body_f _ (by omega) _ hok.size.1 _ _ (by omega),Option.bind_some]
  by_cases h4:(bodyS (l.drop o.2.2.2.2.2.1.toNat) o.2.2.2.2.2.2.1 o.2.2.2.2.2.2.2.1).2.1 < 0
  ·rw [if_pos h4,if_pos h4]
  ·rw [if_neg h4,if_neg h4]
 rw [hs,if_pos (show (openBad o.2.2.2.2.2.2.2.2).2.2.2.2.2.1=0 from rfl)]
 by_cases h2:o.2.2.2.2.2.1=0
 ·rw [if_pos h2]
 rw [if_neg h2,if_neg h1]
theorem http_Head_f (l:List Int) (hl:l.length ≤ 1000000) (k:Nat) (hk:1070000010 ≤ k):http_Head.f k l=some (headQ l):=by
 obtain ⟨k,rfl⟩ : ∃ m,k=m + 1:=⟨k - 1,by omega⟩
 obtain ⟨o,ho,hs⟩:=http_open_f l hl k (by omega)
 unfold http_Head.f headQ
 rw [ho,Option.bind_some]
 rcases hs with hs|⟨h1,hs⟩
 ·rw [← hs]
  rcases open_cases l with ⟨c,hc⟩|hok
  ·rw [hc] at hs
   subst hs
   rw [if_pos (show (openBad c).2.2.2.2.2.1=0 from rfl)]
   rfl
  rw [← hs] at hok
  have p1:=hok.pos
  have hne : ¬ o.2.2.2.2.2.1=0:=by omega
  rw [if_neg hne,if_pos hok.code,hok.code]
 rw [hs]
 by_cases h2:o.2.2.2.2.2.1=0
 ·rw [if_pos h2];rfl
 rw [if_neg h2,if_neg h1];rfl
theorem req_le (l:List Int) (hl:l.length ≤ 1000000):(reqS l).2.2.2.2.2.1 ≤ (l.length:Int)∧0 ≤ (reqS l).2.2.2.2.2.1∧((reqS l).2.2.2.2.2.1 ≠ 0 → (reqS l).2.2.2.2.2.2=0)∧(reqS l).2.2.2.1.length ≤ 40∧(reqS l).2.2.2.2.1.length ≤ l.length:=by
 rcases open_cases l with ⟨c,hc⟩|ho
 ·unfold reqS
  rw [hc]
  exact ⟨by show (0:Int) ≤ _;omega,Int.le_refl _,fun h=>absurd rfl h,Nat.zero_le _,Nat.zero_le _⟩
 unfold reqS
 obtain ⟨o,hoo⟩ : ∃ o,o=openS l:=⟨_,rfl⟩
 rw [← hoo] at ho ⊢
 have h1:=ho.pos
 have h2:=ho.le
 rw [if_neg (by omega)]
 have hdl:(l.drop o.2.2.2.2.2.1.toNat).length=l.length - o.2.2.2.2.2.1.toNat:=List.length_drop ..
 have hb:=body_le (l.drop o.2.2.2.2.2.1.toNat) (by omega) o.2.2.2.2.2.2.1 ho.size.1 o.2.2.2.2.2.2.2.1
 split
 ·exact ⟨by show (0:Int) ≤ _;omega,Int.le_refl _,fun h=>absurd rfl h,Nat.zero_le _,Nat.zero_le _⟩
 exact ⟨by show o.2.2.2.2.2.1 + _ ≤ _;omega,by show (0:Int) ≤ o.2.2.2.2.2.1 + _;omega,fun _=>rfl,ho.fields.1,by show (bodyS _ _ _).1.length ≤ _;omega⟩
theorem join_l1 (b:List Int) (hb:b.length < 140737488355328) (d:Nat) : ∀ (k:Nat) (out:List Int) (i:Nat),i + d=b.length → d < k → out.length + d < 140737488355328 → tollbarref01_Join.l1 k b out (i:Int)=some (out ++ b.drop i):=by
 induction d with
 | zero =>
  intro k out i hi hk ho
  obtain ⟨k,rfl⟩ : ∃ m,k=m + 1:=⟨k - 1,by omega⟩
  simp only [tollbarref01_Join.l1]
  rw [if_neg (by omega),List.drop_of_length_le (by omega),List.append_nil]
 | succ d ih =>
  intro k out i hi hk ho
  obtain ⟨k,rfl⟩ : ∃ m,k=m + 1:=⟨k - 1,by omega⟩
  have hlt:i < b.length:=by omega
  simp only [tollbarref01_Join.l1]
  rw [if_pos (by omega),if_pos (by omega),if_pos (by omega),show wrap64 ((i:Int) + 1)=((i + 1:Nat):Int) by unfold wrap64;omega,ih k _ (i + 1) (by omega) (by omega) (by rw [List.length_append];simp;omega),List.append_assoc,List.drop_eq_getElem_cons hlt]
  simp [rd,List.getD_eq_getElem?_getD,List.getElem?_eq_getElem hlt]
theorem join_l0 (a b:List Int) (ha:a.length < 140737488355328) (hb:b.length < 140737488355328) (d:Nat) : ∀ (k:Nat) (out:List Int) (i:Nat),i + d=a.length → d + b.length + 1 < k → out.length + d + b.length < 140737488355328 → tollbarref01_Join.l0 k a b out (i:Int)=some (out ++ a.drop i ++ b):=by
 induction d with
 | zero =>
  intro k out i hi hk ho
  obtain ⟨k,rfl⟩ : ∃ m,k=m + 1:=⟨k - 1,by omega⟩
  simp only [tollbarref01_Join.l0]
  rw [if_neg (by omega),List.drop_of_length_le (by omega),List.append_nil]
  have:=join_l1 b hb b.length k out 0 (by omega) (by omega) (by omega)
  rw [List.drop_zero] at this
  exact this
 | succ d ih =>
  intro k out i hi hk ho
  obtain ⟨k,rfl⟩ : ∃ m,k=m + 1:=⟨k - 1,by omega⟩
  have hlt:i < a.length:=by omega
  simp only [tollbarref01_Join.l0]
  rw [if_pos (by omega),if_pos (by omega),if_pos (by omega),show wrap64 ((i:Int) + 1)=((i + 1:Nat):Int) by unfold wrap64;omega,ih k _ (i + 1) (by omega) (by omega) (by rw [List.length_append];simp;omega),List.append_assoc out,List.drop_eq_getElem_cons hlt]
  simp [rd,List.getD_eq_getElem?_getD,List.getElem?_eq_getElem hlt]
theorem Join_f (a b:List Int) (k:Nat) (hk:a.length + b.length + 2 ≤ k) (hl:a.length + b.length < 140737488355328):tollbarref01_Join.f k a b=some (a ++ b):=by
 unfold tollbarref01_Join.f
 have:=join_l0 a b (by omega) (by omega) a.length k [] 0 (by omega) (by omega) (by simpa using hl)
 rw [List.drop_zero,List.nil_append] at this
 exact this
theorem refCut_l0 (l:List Int) (m:Int) (hm:0 ≤ m) (hn:l.length ≤ 140737488355328) (d:Nat) : ∀ (k:Nat) (i:Int),0 ≤ i → (l.length:Int) - i=d → 3 * d + 3 ≤ k →
 tollbarref05_Cut.l0 k l m i=some (cutAt l m d i):=by
 induction d with
 | zero =>
  intro k i h0 hd hk
  obtain ⟨k,rfl⟩ : ∃ m,k=m + 1:=⟨k - 1,by omega⟩
  simp only [tollbarref05_Cut.l0,cutAt];rw [if_neg (by omega)]
 | succ d ih =>
  intro k i h0 hd hk
  obtain ⟨k,rfl⟩ : ∃ m,k=m + 3:=⟨k - 3,by omega⟩
  have hlt:i < (l.length:Int):=by omega
  have hw1:wrap64 (i + 1)=i + 1:=w64 1 h0 hlt hn (by omega) (by omega)
  have hw2:wrap64 (i + 2)=i + 2:=w64 2 h0 hlt hn (by omega) (by omega)
  have hw3:wrap64 ((l.length:Int) - 1)=(l.length:Int) - 1:=by unfold wrap64;omega
  have ih' := ih k (i + 1) (by omega) (by omega) (by omega)
  have hle:i ≤ (l.length:Int):=by omega
  have h01:0 ≤ i + 1:=by omega
  unfold tollbarref05_Cut.l0
  rw [if_pos hlt]
  unfold tollbarref05_Cut.j2 tollbarref05_Cut.j4 tollbarref05_Cut.j3 tollbarref05_Cut.j5
  simp only [cutAt,hw1,hw2,hw3,ih']
  by_cases hlast:i=(l.length:Int) - 1
  ·have h1 : ¬ (i + 1 < (l.length:Int)):=by omega
   rw [if_pos hlast,if_pos h0]
   by_cases h10:rd l i=10
   ·simp [h10]
   by_cases h13:rd l i=13
   ·simp [h13,h1,h0,hlt]
   by_cases hm' : m ≤ i <;> simp [h10,h13,h0,hlt,hm']
  have h1:i + 1 < (l.length:Int):=by omega
  rw [if_neg hlast,if_pos h0]
  by_cases h10:rd l i=10
  ·simp [h10]
  by_cases h13:rd l i=13
  ·by_cases hr:rd l (i + 1)=10 <;> simp [h13,h1,h0,hlt,h01,hle,hr]
  by_cases hm' : m ≤ i <;> simp [h10,h13,h0,hlt,hm']
theorem refCut_f (l:List Int) (a:Int) (hn:l.length ≤ 140737488355328) (k:Nat) (hk:3 * l.length + 4 ≤ k):tollbarref05_Cut.f k l a=some (cutSpec l a):=by
 obtain ⟨k,rfl⟩ : ∃ m,k=m + 1:=⟨k - 1,by omega⟩
 unfold tollbarref05_Cut.f tollbarref05_Cut.j0 cutSpec mx
 by_cases h:a < 0
 ·rw [if_pos h,if_pos h]
  exact refCut_l0 l 0 (by omega) hn l.length k 0 (by omega) (by omega) (by omega)
 rw [if_neg h,if_neg h]
 exact refCut_l0 l a (by omega) hn l.length k 0 (by omega) (by omega) (by omega)
theorem One_f (a t:ByteArray) (ha:a.size ≤ 1000000) (ht:t.size ≤ 1000000) (k:Nat) (hk:2 * a.size + 2 * t.size + 5 ≤ k):tollbarref04_One.f k a t=some (rightB a t):=by
 unfold tollbarref04_One.f rightB
 rw [refToken_f a (by omega) k (by omega),Token_f a (by omega),Option.bind_some]
 cases hT:(!a.toList.isEmpty && (bytesOf a).all tokB)
 ·rw [if_neg (by simp),Bool.false_and,Bool.and_false]
 rw [if_pos rfl,Bool.true_and]
 by_cases h1:(a.size:Int) ≤ 100;rotate_left
 ·rw [if_neg h1,decide_eq_false (show ¬ a.size ≤ 100 by omega),Bool.false_and]
 rw [if_pos h1,decide_eq_true (show a.size ≤ 100 by omega),Bool.true_and,refValue_f t (by omega) k (by omega),Value_f t (by omega),Option.bind_some]
 cases (bytesOf t).all valB
 ·rw [if_neg (by simp),Bool.false_and,Bool.and_false]
 rw [if_pos rfl,Bool.true_and,refTrim_f t (by omega) k (by omega),Trim_mk t (by omega),Option.bind_some]
 by_cases h2:(mkS (trm t.data.toList)).toList=t.toList
 ·rw [if_pos h2,beq_iff_eq.2 h2,Bool.and_true]
  congr 1
  exact decide_eq_decide.2 (by omega)
 ·rw [if_neg h2,beq_eq_false_iff_ne.2 h2,Bool.and_false]
theorem colon (b:UInt8):((b.toNat:Int)=58) ↔ b=58:=⟨fun h=>UInt8.toNat_inj.1 (show b.toNat=58 by omega),fun h=>by rw [h];rfl⟩
theorem refField_no (l:List UInt8) (h:58 ∉ l) (hn:l.length ≤ 1000000) (d:Nat) : ∀ (k i:Nat),i + d=l.length → d < k → ∃ x y,tollbarref04_Parse.l0 k (mkS l) (i:Int)=some (x,y,false):=by
 have hs:(mkS l).size=l.length:=mkS_size l
 induction d with
 | zero =>
  intro k i hi hk
  obtain ⟨k,rfl⟩ : ∃ m,k=m + 1:=⟨k - 1,by omega⟩
  rw [tollbarref04_Parse.l0,if_neg (by omega)]
  exact ⟨_,_,rfl⟩
 | succ d ih =>
  intro k i hi hk
  obtain ⟨k,rfl⟩ : ∃ m,k=m + 1:=⟨k - 1,by omega⟩
  have hlt:i < l.length:=by omega
  rw [tollbarref04_Parse.l0,if_pos (by omega),if_pos (by omega),bt_mk l i hlt,if_neg (fun e=>h (by rw [← (colon _).1 e];exact List.getElem_mem hlt)),show wrap64 ((i:Int) + 1)=((i + 1:Nat):Int) by unfold wrap64;omega]
  exact ih k (i + 1) (by omega) (by omega)
theorem refField_yes (a b:List UInt8) (h:58 ∉ a) (hn:(a ++ 58 :: b).length ≤ 1000000) (d:Nat) : ∀ (k i:Nat),i + d=a.length → d + 4 * (a ++ 58 :: b).length + 20 ≤ k → ∃ x y,tollbarref04_Parse.l0 k (mkS (a ++ 58 :: b)) (i:Int)=some (x,y,rightB (mkS a) (mkS (trm b))):=by
 have hl:(a ++ 58 :: b).length=a.length + b.length + 1:=by rw [List.length_append,List.length_cons];omega
 have hs:(mkS (a ++ 58 :: b)).size=a.length + b.length + 1:=by rw [mkS_size,hl]
 induction d with
 | zero =>
  intro k i hi hk
  obtain ⟨k,rfl⟩ : ∃ m,k=m + 1:=⟨k - 1,by omega⟩
  obtain rfl:i=a.length:=by omega
  have e1:bt (mkS (a ++ 58 :: b)) (a.length:Int)=58:=by rw [bt_mk _ _ (by omega)];simp
  have e2:(mkS (a ++ 58 :: b)).extract (a.length + 1) (a.length + b.length + 1)=mkS b:=by
   rw [mkS_extract,List.drop_append,List.drop_of_length_le (by omega),show a.length + 1 - a.length=1 by omega]
   simp
  have e3:(mkS (a ++ 58 :: b)).extract 0 a.length=mkS a:=by rw [mkS_extract];simp
  have hb:(mkS b).size=b.length:=mkS_size b
  have ht:=trm_length b
  rw [tollbarref04_Parse.l0,if_pos (by omega),if_pos (by omega),e1,if_pos rfl,if_pos (by omega),show wrap64 ((a.length:Int) + 1)=((a.length + 1:Nat):Int) by unfold wrap64;omega,if_pos (by omega),if_pos (by omega),Int.toNat_natCast,Int.toNat_natCast,hs,e2,e3,
   refTrim_f (mkS b) (by omega) k (by omega),Trim_mk _ (by omega),Option.bind_some,mkS_data,One_f _ _ (by rw [mkS_size];omega) (by rw [mkS_size];omega) k (by rw [mkS_size,mkS_size];omega),Option.bind_some]
  cases rightB (mkS a) (mkS (trm b)) <;> exact ⟨_,_,rfl⟩
 | succ d ih =>
  intro k i hi hk
  obtain ⟨k,rfl⟩ : ∃ m,k=m + 1:=⟨k - 1,by omega⟩
  have hlt:i < (a ++ 58 :: b).length:=by omega
  have hla:i < a.length:=by omega
  have e1:(a ++ 58 :: b)[i]=a[i]:=List.getElem_append_left hla
  rw [tollbarref04_Parse.l0,if_pos (by omega),if_pos (by omega),bt_mk _ i hlt,if_neg (fun e=>h (by rw [← (colon _).1 e,e1];exact List.getElem_mem hla)),show wrap64 ((i:Int) + 1)=((i + 1:Nat):Int) by unfold wrap64;omega]
  exact ih k (i + 1) (by omega) (by omega)
theorem refField_f (l:List UInt8) (hn:l.length ≤ 1000000) (k:Nat) (hk:5 * l.length + 20 ≤ k) : ∃ x y,tollbarref04_Parse.f k (mkS l)=some (x,y,fieldOk l):=by
 unfold tollbarref04_Parse.f
 rcases split_first 58 l with h|⟨a,b,rfl,h⟩
 ·rw [fieldOk_no l h]
  exact refField_no l h hn l.length k 0 (by omega) (by omega)
 rw [fieldOk_yes a b h]
 exact refField_yes a b h hn a.length k 0 (by omega) (by rw [List.length_append] at hk ⊢;omega)
theorem hdec_fact (c:Int) (h0:0 ≤ c) (h1:c ≤ 255):tollbarref02_Digit.f c=some (decide (0 ≤ digV c∧digV c < 10))∧((0 ≤ digV c∧digV c < 10) → (c - 48) % 256=digV c):=by
 obtain ⟨n,rfl⟩:=Int.eq_ofNat_of_zero_le h0
 have h : ∀ m:Fin 256,tollbarref02_Digit.f (m.val:Int)=some (decide (0 ≤ digV (m.val:Int)∧digV (m.val:Int) < 10))∧((0 ≤ digV (m.val:Int)∧digV (m.val:Int) < 10) → ((m.val:Int) - 48) % 256=digV (m.val:Int)):=by decide +kernel
 exact h ⟨n,by omega⟩
theorem hhex_fact (c:Int) (h0:0 ≤ c) (h1:c ≤ 255):((c ≥ 97∧c ≤ 102) → (c - 97) % 256 + 10=digV c)∧((c ≥ 65∧c ≤ 70) → (c - 65) % 256 + 10=digV c)∧(¬ (0 ≤ digV c∧digV c < 10) → ¬ (c ≥ 97∧c ≤ 102) → ¬ (c ≥ 65∧c ≤ 70) → digV c < 0):=by
 obtain ⟨n,rfl⟩:=Int.eq_ofNat_of_zero_le h0
 have h : ∀ m:Fin 256,(((m.val:Int) ≥ 97∧(m.val:Int) ≤ 102) → ((m.val:Int) - 97) % 256 + 10=digV (m.val:Int))∧(((m.val:Int) ≥ 65∧(m.val:Int) ≤ 70) → ((m.val:Int) - 65) % 256 + 10=digV (m.val:Int))∧(¬ (0 ≤ digV (m.val:Int)∧digV (m.val:Int) < 10) → ¬ ((m.val:Int) ≥ 97∧(m.val:Int) ≤ 102) → ¬ ((m.val:Int) ≥ 65∧(m.val:Int) ≤ 70) → digV (m.val:Int) < 0):=by decide +kernel
 exact h ⟨n,by omega⟩
/-- What a loop over digits tells. -/
def htold (r:Option Int):Int × Bool:=match r with|some v=>(v,true)|none=>(0,false)
theorem hrefHex_l0 (s:ByteArray) (hm:s.size ≤ 15) (d:Nat) : ∀ (k:Nat) (n:Int) (i:Nat),i + d=s.size → 2 * d + 1 ≤ k → 0 ≤ n → n + 1 ≤ 16 ^ i →
 tollbarref02_Hex.l0 k s n i=some (htold (numL 16 ((bytesOf s).drop i) n)):=by
 induction d with
 | zero =>
  intro k n i hi hk h0 hn
  obtain ⟨k,rfl⟩ : ∃ m,k=m + 1:=⟨k - 1,by omega⟩
  rw [List.drop_of_length_le (by rw [bytesOf_length];omega)]
  simp only [tollbarref02_Hex.l0,numL]
  rw [if_neg (by omega)]
  rfl
 | succ d ih =>
  intro k n i hi hk h0 hn
  obtain ⟨k,rfl⟩ : ∃ m,k=m + 1:=⟨k - 1,by omega⟩
  have hw:wrap64 ((i:Int) + 1)=((i + 1:Nat):Int):=by unfold wrap64;omega
  have hl:i < (bytesOf s).length:=by rw [bytesOf_length];omega
  have hg:(bytesOf s)[i]=bt s i:=by rw [← rd_bytesOf];simp [rd,List.getD_eq_getElem?_getD,List.getElem?_eq_getElem hl]
  have hr:=bt_range s i
  obtain ⟨f1,f2⟩:=hdec_fact _ hr.1 hr.2
  obtain ⟨g1,g2,g3⟩:=hhex_fact _ hr.1 hr.2
  have hlt:=digV_lt _ hr.1 hr.2
  have hP:(16:Int) ^ (i + 1)=16 ^ i * 16:=Int.pow_succ _ _
  have hle:=pow_mono' 16 (by decide) (i + 1) (15 - (i + 1))
  rw [show i + 1 + (15 - (i + 1))=15 by omega,hP] at hle
  have hc:(16:Int) ^ 15=1152921504606846976:=by decide
  have ih1:=fun k (hk:2 * d + 1 ≤ k) (h:0 ≤ digV (bt s i))=>ih k (n * 16 + digV (bt s i)) (i + 1) (by omega) hk (by omega) (by omega)
  rw [List.drop_eq_getElem_cons hl,hg]
  simp only [tollbarref02_Hex.l0,numL]
  rw [if_pos (by omega),if_pos (by omega),f1,Option.bind_some]
  by_cases hv:0 ≤ digV (bt s i)∧digV (bt s i) < 10
  ·have hp:0 ≤ digV (bt s i)∧digV (bt s i) < 16:=⟨hv.1,hlt⟩
   rw [decide_eq_true hv,if_pos rfl,if_pos hp,f2 hv,hw]
   have e1:wrap64 (wrap64 (n * 16) + digV (bt s i))=n * 16 + digV (bt s i):=by unfold wrap64;omega
   rw [e1]
   exact ih1 k (by omega) hv.1
  obtain ⟨k,rfl⟩ : ∃ m,k=m + 1:=⟨k - 1,by omega⟩
  rw [decide_eq_false hv,if_neg (by simp)]
  simp only [tollbarref02_Hex.j2]
  by_cases ha:bt s i ≥ 97∧bt s i ≤ 102
  ·have e:=g1 ha
   have hp:0 ≤ digV (bt s i)∧digV (bt s i) < 16:=⟨by omega,hlt⟩
   rw [if_pos ha.1,decide_eq_true ha.2,if_pos rfl,if_pos hp,hw]
   have e1:wrap64 (wrap64 (wrap64 (n * 16) + (bt s i - 97) % 256) + 10)=n * 16 + digV (bt s i):=by unfold wrap64;omega
   rw [e1]
   exact ih1 k (by omega) (by omega)
  by_cases hA:bt s i ≥ 65∧bt s i ≤ 70
  ·have e:=g2 hA
   have hp:0 ≤ digV (bt s i)∧digV (bt s i) < 16:=⟨by omega,hlt⟩
   have h97 : ¬ (bt s i ≥ 97):=by omega
   rw [if_neg h97,if_neg (by simp),if_pos hA.1,if_pos hA.2,if_pos hp,hw]
   have e1:wrap64 (wrap64 (wrap64 (n * 16) + (bt s i - 65) % 256) + 10)=n * 16 + digV (bt s i):=by unfold wrap64;omega
   rw [e1]
   exact ih1 k (by omega) (by omega)
  have e:=g3 hv ha hA
  have hp : ¬ (0 ≤ digV (bt s i)∧digV (bt s i) < 16):=by omega
  rw [if_neg hp]
  have ht:htold none=((0:Int),false):=rfl
  rw [ht]
  by_cases h97:bt s i ≥ 97
  ·rw [if_pos h97,decide_eq_false (by omega),if_neg (by simp)]
   repeat' split
   all_goals first|rfl|(exfalso;omega)
  rw [if_neg h97,if_neg (by simp)]
  repeat' split
  all_goals first|rfl|(exfalso;omega)
theorem hrefHex_f (s:ByteArray) (k:Nat) (hk:40 ≤ k) (hs:s.size ≤ 140737488355327):tollbarref02_Hex.f k s=some (numSpec s 16 15):=by
 obtain ⟨k,rfl⟩ : ∃ m,k=m + 1:=⟨k - 1,by omega⟩
 unfold tollbarref02_Hex.f numSpec
 by_cases h0:s.size=0
 ·rw [if_pos (by omega),if_pos (Or.inl h0)]
  simp only [tollbarref02_Hex.j0]
  rfl
 rw [if_neg (by omega)]
 by_cases h1:s.size > 15
 ·rw [decide_eq_true (by omega),if_pos (Or.inr h1)]
  simp only [tollbarref02_Hex.j0]
  rfl
 rw [decide_eq_false (by omega),if_neg (by omega)]
 simp only [tollbarref02_Hex.j0]
 rw [if_neg (by simp)]
 have:=hrefHex_l0 s (by omega) s.size k 0 0 (by omega) (by omega) (by omega) (by simp)
 rw [show ((0:Nat):Int)=0 from rfl,List.drop_zero] at this
 exact this
theorem semi (b:UInt8):((b.toNat:Int)=59) ↔ b=59:=⟨fun h=>UInt8.toNat_inj.1 (show b.toNat=59 by omega),fun h=>by rw [h];rfl⟩
theorem refsz_l1 (n:Nat) : ∀ (l:List UInt8) (k:Nat),l.length=n → n + 41 ≤ k → n ≤ 1000000 → tollbarref06_size.l1 k (mkS l)=some (numSpec (mkS (rtrim l)) 16 15):=by
 induction n with
 | zero =>
  intro l k hl hk _
  obtain ⟨k,rfl⟩ : ∃ m,k=m + 1:=⟨k - 1,by omega⟩
  obtain rfl:=List.eq_nil_of_length_eq_zero hl
  rw [tollbarref06_size.l1,if_neg (by rw [mkS_size];simp),hrefHex_f _ k (by omega) (by rw [mkS_size];simp),Option.bind_some]
  rfl
 | succ n ih =>
  intro l k hl hk hn
  obtain ⟨k,rfl⟩ : ∃ m,k=m + 1:=⟨k - 1,by omega⟩
  rcases List.eq_nil_or_concat l with rfl|⟨l',c,rfl⟩
  ·simp at hl
  rw [List.concat_eq_append] at hl ⊢
  rw [List.length_append] at hl
  have hsz:(l' ++ [c]).length=l'.length + 1:=by rw [List.length_append];rfl
  have hl' : l'.length=n:=by simpa using hl
  obtain ⟨h1,h2,h3,h4,h5⟩:=snoc_parts l' c (by omega)
  rw [tollbarref06_size.l1,if_pos h1,h2,if_pos (by omega),if_pos (by omega),h4,rtrim_snoc,if_pos (show (l'.length:Int) ≤ ((mkS (l' ++ [c])).size:Int) by omega),Int.toNat_natCast,h5,ih l' k hl' (by omega) (by omega),blk_iff]
  by_cases c1:(c.toNat:Int)=32
  ·have:c=32:=UInt8.toNat_inj.1 (show c.toNat=32 by omega)
   rw [if_pos c1,this,if_pos (by rfl)]
  have d1:c ≠ 32:=fun e=>c1 (by rw [e];rfl)
  rw [if_neg c1]
  by_cases c2:(c.toNat:Int)=9
  ·have:c=9:=UInt8.toNat_inj.1 (show c.toNat=9 by omega)
   rw [if_pos c2,this,if_pos (by rfl)]
  have d2:c ≠ 9:=fun e=>c2 (by rw [e];rfl)
  rw [if_neg c2,hrefHex_f _ k (by omega) (by rw [mkS_size];omega),Option.bind_some,decide_eq_false d1,decide_eq_false d2,if_neg (by simp)]
theorem refsz_down (u:List UInt8) (hu:u.length ≤ 1000000) (x4:Int) (R:Option (Int × Bool)) (K:Nat) (hR : ∀ k,K ≤ k → tollbarref06_size.l0 k (mkS u) x4 (-1)=R) :
 ∀ (d k:Nat),d ≤ u.length → 59 ∉ u.take d → K + d ≤ k → tollbarref06_size.l0 k (mkS u) x4 ((d:Int) - 1)=R:=by
 have hs:=mkS_size u
 intro d
 induction d with
 | zero=>intro k _ _ hk;exact hR k (by omega)
 | succ d ih =>
  intro k hd h hk
  obtain ⟨k,rfl⟩ : ∃ m,k=m + 1:=⟨k - 1,by omega⟩
  have hlt:d < u.length:=by omega
  have h2:59 ∉ u.take d:=fun e=>h (by rw [List.take_add_one];exact List.mem_append_left _ e)
  have h3:u[d] ≠ 59:=fun e=>h (by rw [← e];exact List.mem_take_iff_getElem.2 ⟨d,by omega,rfl⟩)
  rw [show ((d + 1:Nat):Int) - 1=(d:Int) by omega,tollbarref06_size.l0,if_pos (by omega),if_pos (by omega),if_pos (by omega),bt_mk u d hlt,if_neg (fun e=>h3 ((semi _).1 e)),show wrap64 ((d:Int) - 1)=(d:Int) - 1 by unfold wrap64;omega]
  exact ih k (by omega) h2 (by omega)
theorem refsz_up (a b:List UInt8) (hu:(a ++ 59 :: b).length ≤ 1000000) (R:Option (Int × Bool)) (K:Nat) (hR : ∀ k,K ≤ k → tollbarref06_size.l0 k (mkS (a ++ 59 :: b)) (a.length:Int) ((a.length:Int) - 1)=R) :
 ∀ (d k:Nat) (x4:Int),a.length + 1 + d ≤ (a ++ 59 :: b).length → K + d + 1 ≤ k → tollbarref06_size.l0 k (mkS (a ++ 59 :: b)) x4 ((a.length + d:Nat):Int)=R:=by
 have hs:=mkS_size (a ++ 59 :: b)
 intro d
 induction d with
 | zero =>
  intro k x4 hd hk
  obtain ⟨k,rfl⟩ : ∃ m,k=m + 1:=⟨k - 1,by omega⟩
  have e1:bt (mkS (a ++ 59 :: b)) ((a.length + 0:Nat):Int)=59:=by rw [bt_mk _ _ (by omega)];simp
  rw [tollbarref06_size.l0,if_pos (by omega),if_pos (by omega),if_pos (by omega),e1,if_pos rfl,show wrap64 (((a.length + 0:Nat):Int) - 1)=(a.length:Int) - 1 by unfold wrap64;omega]
  exact hR k (by omega)
 | succ d ih =>
  intro k x4 hd hk
  obtain ⟨k,rfl⟩ : ∃ m,k=m + 1:=⟨k - 1,by omega⟩
  rw [tollbarref06_size.l0,if_pos (by omega),if_pos (by omega),if_pos (by omega),show wrap64 (((a.length + (d + 1):Nat):Int) - 1)=((a.length + d:Nat):Int) by unfold wrap64;omega]
  split
  ·exact ih k _ (by omega) (by omega)
  exact ih k _ (by omega) (by omega)
theorem refSize_f (u:List UInt8) (hu:u.length ≤ 1000000) (k:Nat) (hk:4 * u.length + 100 ≤ k) : ∃ x,tollbarref06_size.f k (mkS u)=some (x,(sizeS u).2)∧((sizeS u).2=true → x=(sizeS u).1):=by
 have hs:=mkS_size u
 unfold tollbarref06_size.f
 rw [show wrap64 (((mkS u).size:Int) - 1)=(u.length:Int) - 1 by unfold wrap64;omega,hs]
 rcases split_first 59 u with h|⟨a,b,rfl,h⟩
 ·rw [sizeS_no u h]
  refine ⟨(numSpec (mkS (rtrim u)) 16 15).1,?_,fun _=>rfl⟩
  refine refsz_down u hu (u.length:Int) _ (u.length + 60) (fun k hk=>?_) u.length k (Nat.le_refl _) (by rw [List.take_length];exact h) (by omega)
  obtain ⟨k,rfl⟩ : ∃ m,k=m + 2:=⟨k - 2,by omega⟩
  rw [tollbarref06_size.l0,if_neg (by decide),if_neg (by omega),tollbarref06_size.j1,if_neg (by decide),if_pos (by omega),if_pos (by omega),Int.toNat_natCast,mkS_extract,List.drop_zero,Nat.sub_zero,List.take_length]
  exact refsz_l1 u.length u k rfl (by omega) hu
 have hl:(a ++ 59 :: b).length=a.length + b.length + 1:=by rw [List.length_append,List.length_cons];omega
 rw [sizeS_yes a b h]
 have e2:(mkS (a ++ 59 :: b)).extract (a.length + 1) (a ++ 59 :: b).length=mkS b:=by
  rw [mkS_extract,hl,List.drop_append,List.drop_of_length_le (by omega),show a.length + 1 - a.length=1 by omega]
  simp
 have e3:(mkS (a ++ 59 :: b)).extract 0 a.length=mkS a:=by rw [mkS_extract];simp
 have key : ∀ R:Option (Int × Bool),(if (bytesOf (mkS b)).all valB=true then some (numSpec (mkS (rtrim a)) 16 15) else some (0,false))=R → tollbarref06_size.l0 k (mkS (a ++ 59 :: b)) ((a ++ 59 :: b).length:Int) (((a ++ 59 :: b).length:Int) - 1)=R:=by
  intro R hR
  have:=refsz_up a b hu R (2 * a.length + b.length + 80) (fun k hk=>refsz_down (a ++ 59 :: b) hu (a.length:Int) R (a.length + b.length + 70) (fun k hk=>?_) a.length k (by omega) (by simpa using h) (by omega)) b.length k ((a ++ 59 :: b).length:Int) (by omega) (by omega)
  ·rw [show ((a.length + b.length:Nat):Int)=((a ++ 59 :: b).length:Int) - 1 by omega] at this
   exact this
  obtain ⟨k,rfl⟩ : ∃ m,k=m + 2:=⟨k - 2,by omega⟩
  have hb:(mkS b).size=b.length:=mkS_size b
  rw [tollbarref06_size.l0,if_neg (by decide),if_pos (by omega),show wrap64 ((a.length:Int) + 1)=((a.length + 1:Nat):Int) by unfold wrap64;omega,if_pos (by omega),if_pos (by omega),Int.toNat_natCast,hs,e2,refValue_f _ (by omega) _ (by omega),Value_f _ (by omega),Option.bind_some,tollbarref06_size.j1,← hR]
  cases (bytesOf (mkS b)).all valB
  ·rw [if_pos (by rfl),if_neg (by simp)]
  rw [if_neg (by decide),if_pos (by omega),if_pos (by omega),if_pos rfl,Int.toNat_natCast,e3]
  exact refsz_l1 a.length a k rfl (by omega) (by omega)
 have:=key _ rfl
 rw [this]
 cases (bytesOf (mkS b)).all valB
 ·exact ⟨0,by simp,by simp⟩
 exact ⟨_,by rw [if_pos rfl,Bool.and_true],fun _=>rfl⟩
theorem ref_trail (l:List Int) (hl:l.length ≤ 1000000) (out:List Int) : ∀ (d n p k:Nat),n + d=41 → 1 ≤ d → p ≤ l.length → 2 * d + 8 * l.length + 40 ≤ k →
 tollbarref06_Decode.l3 k l out p n=some (if (trailS l d p).2=0 then (if (trailS l d p).1=0 then ([],0,0) else (out,(trailS l d p).1,0)) else ([],0,(trailS l d p).2)):=by
 intro d
 induction d with
 | zero=>intro n p k _ h;omega
 | succ d ih =>
  intro n p k hn _ hp hk
  obtain ⟨k,rfl⟩ : ∃ m,k=m + 2:=⟨k - 2,by omega⟩
  have hsh:=cutS_shape (l.drop p) 256
  have hd:(l.drop p).length=l.length - p:=List.length_drop ..
  rw [tollbarref06_Decode.l3,if_pos (by omega),if_pos (by omega),Int.toNat_natCast,refCut_f _ _ (by omega) _ (by omega),Option.bind_some,trailS]
  obtain ⟨c,hc⟩ : ∃ c,c=cutSpec (l.drop p) 256:=⟨_,rfl⟩
  rw [← hc] at hsh ⊢
  by_cases h1:c.2.2=0;rotate_left
  ·rw [if_neg h1,if_neg h1,tollbarref06_Decode.j6,if_pos rfl]
   simp only
   rw [if_neg h1]
  rw [if_pos h1,if_pos h1,tollbarref06_Decode.j6]
  by_cases h2:c.2.1=0
  ·rw [if_pos h2,if_pos (by rw [h2];rfl),h1]
   rfl
  rw [if_neg h2,if_neg (by simpa using h2)]
  have hz:c.1.data.toList.length=c.1.size:=data_length _
  have hz2:c.2.1 > 0∧c.2.1 ≤ (l.length:Int) - p∧(c.1.size:Int)=c.2.1 - 2:=by rcases hsh with h|h <;> omega
  have hw:wrap64 ((p:Int) + c.2.1)=(p:Int) + c.2.1:=by unfold wrap64;omega
  by_cases h3:c.1.toList=[]
  ·rw [if_pos h3,if_pos h3,hw]
   simp only
   rw [if_pos trivial,if_neg (by omega)]
  rw [if_neg h3,if_neg h3]
  obtain ⟨x,y,hf⟩:=refField_f c.1.data.toList (by omega) k (by omega)
  rw [mkS_self] at hf
  rw [hf,Option.bind_some]
  simp only
  cases fieldOk c.1.data.toList
  ·rw [if_neg (by simp),if_neg (by simp)]
   rfl
  rw [if_pos rfl,if_pos rfl,show wrap64 ((n:Int) + 1)=((n + 1:Nat):Int) by unfold wrap64;omega]
  by_cases h4:n=40
  ·obtain rfl:d=0:=by omega
   rw [if_pos (by omega),trailS]
   rfl
  ·rw [if_neg (by omega),hw,show (p:Int) + c.2.1=((p + c.2.1.toNat:Nat):Int) by omega]
   exact ih (n + 1) (p + c.2.1.toNat) k (by omega) (by omega) (by omega) (by omega)
theorem ref_short (l:List Int) (hl:l.length ≤ 1000000) (most total n:Int) (hn:n ≤ 1152921504606846976) : ∀ (j k p:Nat) (i:Int) (out:List Int),p + j=l.length → 0 ≤ i → i + j < n → j + 1 ≤ k → out.length ≤ p → tollbarref06_Decode.l1 k l most out total p n i=some ([],0,0):=by
 intro j
 induction j with
 | zero =>
  intro k p i out hp h0 hi hk ho
  obtain ⟨k,rfl⟩ : ∃ m,k=m + 1:=⟨k - 1,by omega⟩
  rw [tollbarref06_Decode.l1,if_pos (by omega),if_pos (by omega)]
 | succ j ih =>
  intro k p i out hp h0 hi hk ho
  obtain ⟨k,rfl⟩ : ∃ m,k=m + 1:=⟨k - 1,by omega⟩
  rw [tollbarref06_Decode.l1,if_pos (by omega),if_neg (by omega),if_pos (by omega),if_pos (by omega),if_pos (by omega),show wrap64 ((p:Int) + 1)=((p + 1:Nat):Int) by unfold wrap64;omega,show wrap64 (i + 1)=i + 1 by unfold wrap64;omega]
  exact ih k (p + 1) (i + 1) _ (by omega) (by omega) (by omega) (by omega) (by rw [List.length_append];simp;omega)
theorem ref_long (l:List Int) (hl:l.length ≤ 1000000) (most total n:Int) (hn:n ≤ 1152921504606846976) : ∀ (j k p:Nat) (i:Int) (out:List Int),p + j ≤ l.length → 0 ≤ i → i + j=n → j + 1 ≤ k → out.length ≤ p → tollbarref06_Decode.l1 k l most out total p n i=tollbarref06_Decode.l2 (k - j - 1) l most (out ++ (l.drop p).take j) total ((p + j:Nat):Int) [13,10] 0:=by
 intro j
 induction j with
 | zero =>
  intro k p i out hp h0 hi hk ho
  obtain ⟨k,rfl⟩ : ∃ m,k=m + 1:=⟨k - 1,by omega⟩
  rw [tollbarref06_Decode.l1,if_neg (by omega),List.take_zero,List.append_nil]
  rfl
 | succ j ih =>
  intro k p i out hp h0 hi hk ho
  obtain ⟨k,rfl⟩ : ∃ m,k=m + 1:=⟨k - 1,by omega⟩
  have hlt:p < l.length:=by omega
  rw [tollbarref06_Decode.l1,if_pos (by omega),if_neg (by omega),if_pos (by omega),if_pos (by omega),if_pos (by omega),show wrap64 ((p:Int) + 1)=((p + 1:Nat):Int) by unfold wrap64;omega,show wrap64 (i + 1)=i + 1 by unfold wrap64;omega,
   ih k (p + 1) (i + 1) _ (by omega) (by omega) (by omega) (by omega) (by rw [List.length_append];simp;omega),List.drop_eq_getElem_cons hlt,List.take_succ_cons,List.append_assoc,show k + 1 - (j + 1) - 1=k - j - 1 by omega,show p + 1 + j=p + (j + 1) by omega]
  simp [rd,List.getD_eq_getElem?_getD,List.getElem?_eq_getElem hlt]
theorem ref_end (l:List Int) (hl:l.length ≤ 1000000) (most total:Int) (out:List Int) (p k:Nat) (hp:p ≤ l.length) (hk:3 ≤ k) :
 tollbarref06_Decode.l2 k l most out total p [13,10] 0=if p < l.length then (if rd l p=13 then (if p + 1 < l.length then (if rd l ((p:Int) + 1)=10 then tollbarref06_Decode.l0 (k - 3) l most out total ((p + 2:Nat):Int) else some ([],0,20)) else some ([],0,0)) else some ([],0,20)) else some ([],0,0):=by
 obtain ⟨k,rfl⟩ : ∃ m,k=m + 3:=⟨k - 3,by omega⟩
 rw [tollbarref06_Decode.l2,if_pos (by decide)]
 by_cases h1:p < l.length;rotate_left
 ·rw [if_neg h1,if_pos (by omega)]
 rw [if_pos h1,if_neg (by omega),if_pos (by omega),if_pos (by omega),if_pos (by decide),if_pos (by decide),show rd [13,10] 0=13 from rfl]
 by_cases h2:rd l p=13
 ·rw [if_pos h2,if_pos h2,show wrap64 ((p:Int) + 1)=(p:Int) + 1 by unfold wrap64;omega,show wrap64 ((0:Int) + 1)=1 by unfold wrap64;omega,tollbarref06_Decode.l2,if_pos (by decide)]
  by_cases h3:p + 1 < l.length;rotate_left
  ·rw [if_neg h3,if_pos (by omega)]
  rw [if_pos h3,if_neg (by omega),if_pos (by omega),if_pos (by omega),if_pos (by decide),if_pos (by decide),show rd [13,10] 1=10 from rfl]
  by_cases h4:rd l ((p:Int) + 1)=10
  ·rw [if_pos h4,if_pos h4,show wrap64 ((p:Int) + 1 + 1)=((p + 2:Nat):Int) by unfold wrap64;omega,show wrap64 ((1:Int) + 1)=2 by unfold wrap64;omega,tollbarref06_Decode.l2,if_neg (by decide)]
   rfl
  ·rw [if_neg h4,if_neg h4]
 ·rw [if_neg h2,if_neg h2]
theorem rd_drop (l:List Int) (p:Nat) (i:Int) (h0:0 ≤ i):rd (l.drop p) i=rd l ((p:Int) + i):=by
 unfold rd
 rw [List.getD_eq_getElem?_getD,List.getD_eq_getElem?_getD,List.getElem?_drop,show ((p:Int) + i).toNat=p + i.toNat by omega]
theorem refdec_f (l:List Int) (hl:l.length ≤ 1000000) (most:Int) (hm0:0 ≤ most) (hm:most ≤ 9223372036854775807) : ∀ (d p:Nat) (total:Int) (out:List Int) (k:Nat),p ≤ l.length → l.length < p + d → out.length ≤ p → 0 ≤ total → total ≤ most → 8 * d + 40 * l.length + (l.length - p) + 400 ≤ k →
 tollbarref06_Decode.l0 k l most out total p=some (decS l d p (most - total) out):=by
 intro d
 induction d with
 | zero=>intro p total out k h1 h2;omega
 | succ d ih =>
  intro p total out k hp hd ho ht0 ht1 hk
  obtain ⟨k,rfl⟩ : ∃ m,k=m + 2:=⟨k - 2,by omega⟩
  have hsh:=cutS_shape (l.drop p) 256
  have hdl:(l.drop p).length=l.length - p:=List.length_drop ..
  rw [tollbarref06_Decode.l0,if_pos (by omega),if_pos (by omega),Int.toNat_natCast,refCut_f _ _ (by omega) _ (by omega),Option.bind_some,decS]
  obtain ⟨c,hc⟩ : ∃ c,c=cutSpec (l.drop p) 256:=⟨_,rfl⟩
  rw [← hc] at hsh ⊢
  by_cases h1:c.2.2=0;rotate_left
  ·rw [if_neg h1,if_neg h1,tollbarref06_Decode.j2,if_pos rfl]
  rw [if_pos h1,if_pos h1,tollbarref06_Decode.j2]
  by_cases h2:c.2.1=0
  ·rw [if_pos h2,if_pos (by rw [h2];rfl),h1]
  have hz2:c.2.1 > 0∧c.2.1 ≤ (l.length:Int) - p∧(c.1.size:Int)=c.2.1 - 2:=by rcases hsh with h|h <;> omega
  have hlen:c.1.data.toList.length=c.1.size:=data_length _
  rw [if_neg h2,if_neg (by simpa using h2)]
  obtain ⟨x,hx,hx2⟩:=refSize_f c.1.data.toList (by omega) k (by omega)
  rw [mkS_self] at hx
  rw [hx,Option.bind_some]
  obtain ⟨z,hz⟩ : ∃ z,z=sizeS c.1.data.toList:=⟨_,rfl⟩
  have hzb:=size_bound c.1.data.toList
  rw [← hz] at hzb hx2 ⊢
  obtain ⟨q,hq⟩ : ∃ q,q=p + c.2.1.toNat:=⟨_,rfl⟩
  have hq2:wrap64 ((p:Int) + c.2.1)=(q:Int):=by unfold wrap64;omega
  rw [← hq,hq2]
  by_cases h3:z.2=true
  ·obtain rfl:=hx2 h3
   simp only
   rw [if_pos h3,if_pos h3,show wrap64 (most - total)=most - total by unfold wrap64;omega]
   by_cases h4:z.1=0
   ·rw [if_pos h4,if_pos h4]
    exact ref_trail l hl out 41 0 q k (by omega) (by omega) (by omega) (by omega)
   rw [if_neg h4,if_neg h4]
   by_cases h5:z.1 > most - total
   ·rw [if_pos h5,if_pos h5]
   rw [if_neg h5,if_neg h5,show wrap64 (total + z.1)=total + z.1 by unfold wrap64;omega]
   have hdr:(l.drop q).length=l.length - q:=List.length_drop ..
   have hout:out.length ≤ q:=by omega
   unfold dataOf
   by_cases a0:z.1 ≤ ((l.drop q).length:Int);rotate_left
   ·rw [ref_short l hl most _ z.1 hzb.2 (l.length - q) k q 0 out (by omega) (by omega) (by omega) (by omega) hout,if_neg (show ¬ (z.1 < ((l.drop q).length:Int)) by omega)]
    rfl
   rw [ref_long l hl most _ z.1 hzb.2 z.1.toNat k q 0 out (by omega) (by omega) (by omega) (by omega) hout,ref_end l hl _ _ _ _ _ (by omega) (by omega),rd_drop l q z.1 hzb.1,rd_drop l q (z.1 + 1) (by omega),show (q:Int) + (z.1 + 1)=((q + z.1.toNat:Nat):Int) + 1 by omega,show (q:Int) + z.1=((q + z.1.toNat:Nat):Int) by omega]
   by_cases a1:z.1 < ((l.drop q).length:Int)
   ·rw [if_pos (by omega),if_pos a1]
    by_cases a2:rd l ((q + z.1.toNat:Nat):Int)=13;rotate_left
    ·rw [if_neg a2,if_neg a2]
     rfl
    rw [if_pos a2,if_pos a2]
    by_cases a3:z.1 + 1 < ((l.drop q).length:Int)
    ·rw [if_pos (by omega),if_pos a3]
     by_cases a4:rd l (((q + z.1.toNat:Nat):Int) + 1)=10;rotate_left
     ·rw [if_neg a4,if_neg a4]
      rfl
     rw [if_pos a4,if_pos a4]
     simp only
     rw [if_pos trivial,if_neg (by simp)]
     have htk:((l.drop q).take z.1.toNat).length ≤ z.1.toNat:=List.length_take_le ..
     have:=ih (q + z.1.toNat + 2) (total + z.1) (out ++ (l.drop q).take z.1.toNat) (k - z.1.toNat - 1 - 3) (by omega) (by omega) (by rw [List.length_append];omega) (by omega) (by omega) (by omega)
     rw [show most - (total + z.1)=most - total - z.1 by omega] at this
     exact this
    ·rw [if_neg (by omega),if_neg a3]
     rfl
   ·rw [if_neg (by omega),if_neg a1]
    rfl
  ·rw [if_neg h3,if_neg h3]
theorem refDecode_f (l:List Int) (most:Int) (hl:l.length ≤ 1000000) (hm:most ≤ 9223372036854775807) (k:Nat) (hk:50 * l.length + 500 ≤ k):tollbarref06_Decode.f k l most=some (decS l (l.length + 1) 0 (mx most 0) []):=by
 obtain ⟨k,rfl⟩ : ∃ m,k=m + 1:=⟨k - 1,by omega⟩
 unfold tollbarref06_Decode.f
 by_cases h:most < 0
 ·rw [if_pos h,tollbarref06_Decode.j0,show mx most 0=0 by unfold mx;rw [if_pos h]]
  have:=refdec_f l hl 0 (by omega) (by omega) (l.length + 1) 0 0 [] k (by omega) (by omega) (by simp) (by omega) (by omega) (by omega)
  simpa using this
 rw [if_neg h,tollbarref06_Decode.j0,show mx most 0=most by unfold mx;rw [if_neg h]]
 have:=refdec_f l hl most (by omega) hm (l.length + 1) 0 0 [] k (by omega) (by omega) (by simp) (by omega) (by omega) (by omega)
 simpa using this
theorem blank_tells (b:UInt8):tollbarref02_blank.f (b.toNat:Int)=some (blk b):=by
 have h : ∀ n:Fin 256,tollbarref02_blank.f (n.val:Int)=some (blk (UInt8.ofNat n.val)):=by decide +kernel
 have:=h ⟨b.toNat,b.toNat_lt⟩
 rw [this]
 congr 2
 exact UInt8.ofNat_toNat
theorem trimR_ref (d:Nat) : ∀ (k:Nat) (x:List UInt8),x.length=d → x.length ≤ 4398046511104 → d + 1 ≤ k → (∀ a,x.head? = some a → blk a=false) →
 ∃ r post,tollbarref02_Trim.l1 k (mkS x)=some (mkS r)∧x=r ++ post∧Clean r ∧ ∀ a ∈ post,blk a=true:=by
 induction d with
 | zero =>
  intro k x hx hn hk hh
  obtain ⟨k,rfl⟩ : ∃ m,k=m + 1:=⟨k - 1,by omega⟩
  obtain rfl:x=[]:=List.eq_nil_of_length_eq_zero hx
  refine ⟨[],[],?_,rfl,⟨by simp,by simp⟩,by simp⟩
  simp only [tollbarref02_Trim.l1]
  rw [if_neg (by rw [mkS_size];simp)]
 | succ d ih =>
  intro k x hx hn hk hh
  obtain ⟨k,rfl⟩ : ∃ m,k=m + 1:=⟨k - 1,by omega⟩
  obtain ⟨y,b,rfl⟩ : ∃ y b,x=y ++ [b]:=⟨x.dropLast,x.getLast (by intro e;simp [e] at hx),(List.dropLast_concat_getLast _).symm⟩
  have hy:y.length=d:=by simpa using hx
  have hs:(mkS (y ++ [b])).size=d + 1:=by rw [mkS_size];simp [hy]
  have hw:wrap64 (((d + 1:Nat):Int) - 1)=((d:Nat):Int):=by unfold wrap64;omega
  have hb:bt (mkS (y ++ [b])) ((d:Nat):Int)=(b.toNat:Int):=by
   rw [bt_mk _ d (by simp;omega)]
   simp [← hy]
  have hex:(mkS (y ++ [b])).extract 0 d=mkS y:=by
   rw [mkS_extract,List.drop_zero,Nat.sub_zero,← hy,List.take_left]
  simp only [tollbarref02_Trim.l1]
  rw [hs,if_pos (by omega),hw,if_pos (by omega),if_pos (by omega),hb,blank_tells,Option.bind_some,Int.toNat_natCast,hex]
  cases hbl:blk b
  ·rw [if_neg (by simp)]
   exact ⟨y ++ [b],[],rfl,by simp,⟨hh,by intro a ha;simp at ha;rw [← ha];exact hbl⟩,by simp⟩
  rw [if_pos rfl,if_pos (by omega)]
  obtain ⟨r,post,h1,h2,h3,h4⟩:=ih k y hy (by omega) (by omega) (by
   intro a ha
   refine hh a ?_
   rw [List.head?_append,ha]
   rfl)
  refine ⟨r,post ++ [b],h1,by rw [h2];simp,h3,fun a ha=>?_⟩
  rcases List.mem_append.1 ha with ha|ha
  ·exact h4 a ha
  rw [List.mem_singleton.1 ha];exact hbl
theorem trimL_ref (n:Nat) (hn:n ≤ 4398046511104) (d:Nat) : ∀ (k:Nat) (x:List UInt8),x.length=d → d ≤ n → d + n + 4 ≤ k →
 ∃ r pre post,tollbarref02_Trim.l0 k (mkS x)=some (mkS r)∧x=pre ++ r ++ post∧Clean r∧(∀ a ∈ pre,blk a=true) ∧ ∀ a ∈ post,blk a=true:=by
 induction d with
 | zero =>
  intro k x hx hd hk
  obtain ⟨k,rfl⟩ : ∃ m,k=m + 2:=⟨k - 2,by omega⟩
  obtain rfl:x=[]:=List.eq_nil_of_length_eq_zero hx
  obtain ⟨r,post,h1,h2,h3,h4⟩:=trimR_ref 0 k [] rfl (by simp) (by omega) (by simp)
  refine ⟨r,[],post,?_,by simpa using h2,h3,by simp,h4⟩
  simp only [tollbarref02_Trim.l0]
  rw [if_neg (by rw [mkS_size];simp)]
  simp only [tollbarref02_Trim.j1]
  exact h1
 | succ d ih =>
  intro k x hx hd hk
  obtain ⟨k,rfl⟩ : ∃ m,k=m + 2:=⟨k - 2,by omega⟩
  obtain ⟨b,y,rfl⟩ : ∃ b y,x=b :: y:=by
   cases x with
   | nil=>simp at hx
   | cons b y=>exact ⟨b,y,rfl⟩
  have hy:y.length=d:=by simpa using hx
  have hs:(mkS (b :: y)).size=d + 1:=by rw [mkS_size];simp [hy]
  have hb:bt (mkS (b :: y)) 0=(b.toNat:Int):=bt_mk (b :: y) 0 (by simp)
  have hex:(mkS (b :: y)).extract 1 (d + 1)=mkS y:=by
   rw [mkS_extract]
   simp [← hy]
  simp only [tollbarref02_Trim.l0]
  rw [hs,if_pos (by omega),if_pos (by omega),hb,blank_tells,Option.bind_some]
  cases hbl:blk b
  ·rw [if_neg (by simp)]
   obtain ⟨r,post,h1,h2,h3,h4⟩:=trimR_ref (d + 1) k (b :: y) hx (by omega) (by omega) (by intro a ha;simp at ha;rw [← ha];exact hbl)
   refine ⟨r,[],post,?_,by simpa using h2,h3,by simp,h4⟩
   simp only [tollbarref02_Trim.j1]
   exact h1
  rw [if_pos rfl,if_pos (by omega),hex]
  obtain ⟨r,pre,post,h1,h2,h3,h4,h5⟩:=ih (k + 1) y hy (by omega) (by omega)
  refine ⟨r,b :: pre,post,h1,by rw [h2];simp,h3,fun a ha=>?_,h5⟩
  rcases List.mem_cons.1 ha with rfl|ha
  ·exact hbl
  exact h4 a ha
theorem refTrim_mk (x:List UInt8) (hn:x.length ≤ 4398046511104) (k:Nat) (hk:2 * x.length + 4 ≤ k):tollbarref02_Trim.f k (mkS x)=some (mkS (trm x)):=by
 obtain ⟨r,pre,post,h1,h2,h3,h4,h5⟩:=trimL_ref x.length hn x.length k x rfl (Nat.le_refl _) (by omega)
 unfold tollbarref02_Trim.f
 rw [h1,h2,trm_around pre r post h3 h4 h5]
/-- One part ends: what is told of it. -/
theorem part_ends (out:List ByteArray) (seg:List UInt8) (h:44 ∉ seg) (ho:out.length < 8796093022208) (R:List ByteArray → Option (List ByteArray)) :
 (if (mkS (trm seg)).toList=([]:List UInt8) then R out else (if out.length < 8796093022208 then R (out ++ [mkS (trm seg)]) else none))=R (out ++ (commaParts seg).map mkS):=by
 rw [comma_one seg h,mkS_toList]
 by_cases he:trm seg=[]
 ·rw [if_pos he,if_pos (by simpa using he)];simp
 rw [if_neg he,if_pos ho,if_neg (by simpa using he)];rfl
theorem refSplit_l0 (l : List UInt8) (hn : l.length ≤ 1048580) (d : Nat) : ∀ (k : Nat) (out : List ByteArray) (f i : Nat), f ≤ i → i + d = l.length → 44 ∉ (l.drop f).take (i - f) → out.length ≤ 2 * i → 3 * d + 2 * l.length + 20 ≤ k →
    tollbarref02_Split.l0 k (mkS l) out f i = some (out ++ (commaParts (l.drop f)).map mkS) := by
  induction d with
  | zero =>
    intro k out f i hf hi hs ho hk
    obtain ⟨k, rfl⟩ : ∃ m, k = m + 3 := ⟨k - 3, by omega⟩
    have hz : (mkS l).size = l.length := mkS_size l
    have hw : wrap64 ((i : Int) + 1) = (i : Int) + 1 := wn1 i (by omega)
    have ht : (l.drop f).take (i - f) = l.drop f := List.take_of_length_le (by rw [List.length_drop]; omega)
    have hend : ∀ o : List ByteArray, tollbarref02_Split.l0 (k + 1) (mkS l) o ((i : Int) + 1) ((i : Int) + 1) = some o := by
      intro o
      simp only [tollbarref02_Split.l0]
      rw [if_neg (by omega)]
    simp only [tollbarref02_Split.l0]
    rw [hz, if_pos (by omega), if_pos (by omega)]
    simp only [tollbarref02_Split.j1]
    rw [if_pos trivial, if_pos (by omega), if_pos (by omega), hz, if_pos (by omega), Int.toNat_natCast, Int.toNat_natCast, mkS_extract, refTrim_mk _ (by rw [List.length_take, List.length_drop]; omega) _ (by rw [List.length_take, List.length_drop]; omega), Option.bind_some, hw, hend, hend]
    rw [ht] at hs ⊢
    exact part_ends out _ hs (by omega) (fun o => some o)
  | succ d ih =>
    intro k out f i hf hi hs ho hk
    obtain ⟨k, rfl⟩ : ∃ m, k = m + 2 := ⟨k - 2, by omega⟩
    have hlt : i < l.length := by omega
    have hz : (mkS l).size = l.length := mkS_size l
    have hw : wrap64 ((i : Int) + 1) = ((i + 1 : Nat) : Int) := by rw [wn1 i (by omega)]; omega
    obtain ⟨e1, e2⟩ := seg_split l f i hf hlt
    have ih1 := fun o (h : o.length ≤ 2 * (i + 1)) => ih k o (i + 1) (i + 1) (Nat.le_refl _) (by omega) (by simp) h (by omega)
    have ih2 := fun h => ih k out f (i + 1) (by omega) (by omega) h (by omega) (by omega)
    simp only [tollbarref02_Split.l0]
    rw [hz, if_pos (by omega), if_neg (by omega), if_pos (by omega), if_pos (by omega), bt_mk l i hlt]
    simp only [tollbarref02_Split.j1]
    by_cases hc : l[i] = 44
    · have hb : (((l[i]).toNat : Int) == 44) = true := by rw [hc]; rfl
      rw [hb, if_pos rfl, if_pos (by omega), if_pos (by omega), hz, if_pos (by omega), Int.toNat_natCast, Int.toNat_natCast, mkS_extract, refTrim_mk _ (by rw [List.length_take, List.length_drop]; omega) _ (by rw [List.length_take, List.length_drop]; omega), Option.bind_some, hw]
      have hp := part_ends out ((l.drop f).take (i - f)) hs (by omega) (fun o => tollbarref02_Split.l0 k (mkS l) o ((i + 1 : Nat) : Int) ((i + 1 : Nat) : Int))
      refine hp.trans ?_
      have hlen : (commaParts ((l.drop f).take (i - f))).length ≤ 1 := by rw [comma_one _ hs]; split <;> simp
      rw [ih1 _ (by rw [List.length_append, List.length_map]; omega)]
      have e3 : commaParts (l.drop f) = commaParts ((l.drop f).take (i - f)) ++ commaParts (l.drop (i + 1)) := by
        rw [← comma_append]
        congr 1
        rw [← hc]
        exact e1
      rw [e3, List.map_append, List.append_assoc]
    · have hb : (((l[i]).toNat : Int) == 44) = false := by
        rw [beq_eq_false_iff_ne]
        intro e
        exact hc (UInt8.toNat_inj.1 (by show _ = 44; omega))
      rw [hb, if_neg (by simp), hw]
      refine ih2 ?_
      rw [e2]
      intro hm
      rcases List.mem_append.1 hm with hm | hm
      · exact hs hm
      · exact hc (List.mem_singleton.1 hm).symm
theorem refSplit_f (l:List UInt8) (hn:l.length ≤ 1048580) (k:Nat) (hk:5 * l.length + 20 ≤ k):tollbarref02_Split.f k (mkS l)=some ((commaParts l).map mkS):=by
 have:=refSplit_l0 l hn l.length k [] 0 0 (Nat.le_refl _) (by omega) (by simp) (by simp) (by omega)
 unfold tollbarref02_Split.f
 rw [show ((0:Nat):Int)=0 from rfl] at this
 rw [this]
 rfl
theorem refSame_f (a b:ByteArray) (ha:a.size ≤ 1048576) (hb:b.size ≤ 1048576) (k:Nat) (hk:1048578 ≤ k):tollbarref04_same.f k a b=some (sameN a b):=by
 unfold tollbarref04_same.f
 rw [refFold_f a (by omega) k (by omega),refFold_f b (by omega) k (by omega),Fold_f a (by omega),Fold_f b (by omega),Option.bind_some,Option.bind_some,str_inj (bytes_fold (bytes_of a)) (bytes_fold (bytes_of b))]
 rfl
theorem refGet_l0 (name:ByteArray) (hn:name.size ≤ 1048576) (fs:List (S36)) (hf:FB fs) (d:Nat) : ∀ (k i:Nat) (out:List ByteArray),i + d=fs.length → d + 1048580 ≤ k → out.length ≤ i →
 tollbarref04_Get.l0 k fs name out (i:Int)=some (out ++ getS name (fs.drop i)):=by
 have hfl:=hf.1
 induction d with
 | zero =>
  intro k i out hi hk ho
  obtain ⟨k,rfl⟩ : ∃ m,k=m + 1:=⟨k - 1,by omega⟩
  rw [tollbarref04_Get.l0,if_neg (by omega),List.drop_of_length_le (by omega),getS,List.append_nil]
 | succ d ih =>
  intro k i out hi hk ho
  obtain ⟨k,rfl⟩ : ∃ m,k=m + 1:=⟨k - 1,by omega⟩
  have hlt:i < fs.length:=by omega
  have hb:=hf.2 _ (List.getElem_mem hlt)
  have hw:wrap64 ((i:Int) + 1)=((i + 1:Nat):Int):=by unfold wrap64;omega
  rw [tollbarref04_Get.l0,if_pos (by omega),if_pos (by omega),rdT_at fs i hlt,refSame_f _ _ (by omega) (by omega) k (by omega),Option.bind_some,hw,List.drop_eq_getElem_cons hlt,getS]
  by_cases hs:sameN fs[i].f0 name=true;rotate_left
  ·rw [if_neg hs,if_neg hs,ih k (i + 1) _ (by omega) (by omega) (by omega)]
  rw [if_pos hs,if_pos hs,if_pos (by omega),ih k (i + 1) _ (by omega) (by omega) (by rw [List.length_append];simp;omega)]
  simp only [List.append_assoc,List.singleton_append]
theorem refGet_f (fs:List (S36)) (name:ByteArray) (hf:FB fs) (hn:name.size ≤ 1048576) (k:Nat) (hk:1049600 ≤ k):tollbarref04_Get.f k fs name=some (getS name fs):=by
 have hfl:=hf.1
 have:=refGet_l0 name hn fs hf fs.length k 0 [] (by omega) (by omega) (Nat.zero_le _)
 rw [List.drop_zero,List.nil_append] at this
 exact this
theorem refList_l1 (vs:List ByteArray) (x7:Int) (ps:List ByteArray) (hpl:ps.length ≤ 2000000) (R:Nat → List ByteArray → Option (List ByteArray)) (hR : ∀ k out,R k out=tollbarref04_List.l0 k out vs (wrap64 (x7 + 1))) (d:Nat) : ∀ (k i:Nat) (out:List ByteArray),i + d=ps.length → out.length + d < 8796093022208 →
 tollbarref04_List.l1 (k + 1 + d) out vs x7 ps (i:Int)=R k (out ++ ps.drop i):=by
 induction d with
 | zero =>
  intro k i out hi ho
  rw [Nat.add_zero,tollbarref04_List.l1,if_neg (by omega),List.drop_of_length_le (by omega),List.append_nil,hR]
 | succ d ih =>
  intro k i out hi ho
  have hlt:i < ps.length:=by omega
  have hw:wrap64 ((i:Int) + 1)=((i + 1:Nat):Int):=by unfold wrap64;omega
  rw [show k + 1 + (d + 1)=(k + 1 + d) + 1 by omega,tollbarref04_List.l1,if_pos (by omega),if_pos (by omega),if_pos (by omega),rdB_at ps i hlt,hw,ih k (i + 1) _ (by omega) (by rw [List.length_append];simp;omega),List.drop_eq_getElem_cons hlt]
  simp only [List.append_assoc,List.singleton_append]
theorem refList_l0 (vs:List ByteArray) (hl:vs.length ≤ 1000) (hv : ∀ v ∈ vs,v.size ≤ 1048576) (C E:Nat) (hC:1048580 ≤ C) (hE:8000000 ≤ E) (d:Nat) : ∀ (k i:Nat) (out:List ByteArray),i + d=vs.length → d * C + E ≤ k → out.length ≤ 1048577 * i →
 tollbarref04_List.l0 k out vs (i:Int)=some (out ++ (vs.drop i).flatMap partsS):=by
 induction d with
 | zero =>
  intro k i out hi hk ho
  obtain ⟨k,rfl⟩ : ∃ m,k=m + 1:=⟨k - 1,by omega⟩
  rw [tollbarref04_List.l0,if_neg (by omega),List.drop_of_length_le (by omega),List.flatMap_nil,List.append_nil]
 | succ d ih =>
  intro k i out hi hk ho
  rw [Nat.succ_mul] at hk
  obtain ⟨X,hX⟩ : ∃ X,X=d * C:=⟨_,rfl⟩
  rw [← hX] at hk
  have HX:=Aside0.mk hX
  clear hX
  obtain ⟨k,rfl⟩ : ∃ m,k=m + 1:=⟨k - 1,by omega⟩
  have hlt:i < vs.length:=by omega
  have hw:wrap64 ((i:Int) + 1)=((i + 1:Nat):Int):=by unfold wrap64;omega
  have HW:=Aside0.mk hw
  clear hw
  have hb:=hv _ (List.getElem_mem hlt)
  have hp:=parts_len vs[i]
  have hsp:=refSplit_f vs[i].data.toList (by rw [data_length];omega) k (by rw [data_length];omega)
  rw [mkS_self] at hsp
  have e:(commaParts vs[i].data.toList).map mkS=partsS vs[i]:=rfl
  rw [tollbarref04_List.l0,if_pos (Int.ofNat_lt.2 hlt),if_pos (Int.natCast_nonneg i),rdB_at vs i hlt,hsp,Option.bind_some,List.drop_eq_getElem_cons hlt,List.flatMap_cons,e]
  obtain ⟨j,hj⟩ : ∃ j,k=j + 1 + (partsS vs[i]).length:=⟨k - 1 - (partsS vs[i]).length,by omega⟩
  have h1:=refList_l1 vs (i:Int) (partsS vs[i]) (by omega) _ (fun _ _=>rfl) (partsS vs[i]).length j 0 out (by omega) (by omega)
  rw [← hj,List.drop_zero] at h1
  have h2:tollbarref04_List.l1 k out vs (i:Int) (partsS vs[i]) 0=tollbarref04_List.l0 j (out ++ partsS vs[i]) vs (wrap64 ((i:Int) + 1)):=h1
  have hj2:d * C + E ≤ j:=by rw [← HX.out];omega
  have h3:=ih j (i + 1) (out ++ partsS vs[i]) (by omega) hj2 (by have hla := @List.length_append _ out (partsS vs[i]);omega)
  rw [h2,HW.out,h3,List.append_assoc]
theorem refList_f (fs:List (S36)) (name:ByteArray) (hf:FB fs) (hn:name.size ≤ 1048576) (k:Nat) (hk:1057000000 ≤ k):tollbarref04_List.f k fs name=some (listS name fs):=by
 obtain ⟨h1,h2⟩:=get_bounds fs name hf
 unfold tollbarref04_List.f
 rw [refGet_f fs name hf hn k (by omega),Option.bind_some]
 obtain ⟨C,hC⟩ : ∃ C,C=1048580:=⟨_,rfl⟩
 obtain ⟨E,hE⟩ : ∃ E,E=8000000:=⟨_,rfl⟩
 have h3:(getS name fs).length * C ≤ 1000 * C:=Nat.mul_le_mul_right _ h1
 have h4:(getS name fs).length * C + E ≤ k:=by
  have h5:1000 * C=1048580000:=by rw [hC]
  omega
 have:=refList_l0 (getS name fs) h1 h2 C E (by omega) (by omega) (getS name fs).length k 0 [] (by omega) h4 (by simp)
 rw [List.drop_zero,List.nil_append] at this
 exact this
theorem refThere_f (fs:List (S36)) (name:ByteArray) (hf:FB fs) (hn:name.size ≤ 1048576) (k:Nat) (hk:1049600 ≤ k):tollbarref07_There.f k fs name=some (thereS name fs):=by
 unfold tollbarref07_There.f
 rw [refGet_f fs name hf hn k hk,Option.bind_some];rfl
theorem refLen_rest (ps:List ByteArray) (hl:ps.length ≤ 1048577000) (hs : ∀ p ∈ ps,p.size ≤ 1048576) (n:Int) (d:Nat) : ∀ (k i:Nat),i + d=ps.length → d + 100 ≤ k →
 tollbarref07_Length.l0 k ps n true (i:Int)=some (if ((ps.drop i).all fun q=>decide (numSpec q 10 18=(n,true)))=true then (n,true) else (0,false)):=by
 induction d with
 | zero =>
  intro k i hi hk
  obtain ⟨k,rfl⟩ : ∃ m,k=m + 1:=⟨k - 1,by omega⟩
  rw [tollbarref07_Length.l0,if_neg (by omega),List.drop_of_length_le (by omega),List.all_nil,if_pos rfl]
 | succ d ih =>
  intro k i hi hk
  obtain ⟨k,rfl⟩ : ∃ m,k=m + 1:=⟨k - 1,by omega⟩
  have hlt:i < ps.length:=by omega
  have hb:=hs _ (List.getElem_mem hlt)
  have hw:wrap64 ((i:Int) + 1)=((i + 1:Nat):Int):=by unfold wrap64;omega
  rw [tollbarref07_Length.l0,if_pos (by omega),if_pos (by omega),rdB_at ps i hlt,refDecimal_f _ k (by omega) (by omega),Option.bind_some,hw,List.drop_eq_getElem_cons hlt,List.all_cons]
  obtain ⟨z,hz⟩ : ∃ z,z=numSpec ps[i] 10 18:=⟨_,rfl⟩
  rw [← hz]
  by_cases h1:z.2=true;rotate_left
  ·have e : ¬ z=(n,true):=fun e=>h1 (by rw [e])
   rw [if_neg h1,decide_eq_false e,Bool.false_and,if_neg (by simp)]
  rw [if_pos h1]
  by_cases h2:z.1=n
  ·have e:z=(n,true):=Prod.ext h2 h1
   rw [if_pos h2,ih k (i + 1) (by omega) (by omega),decide_eq_true e,Bool.true_and]
  ·have e : ¬ z=(n,true):=fun e=>h2 (by rw [e])
   rw [if_neg h2,decide_eq_false e,Bool.false_and,if_neg (by simp)]
theorem refLength_fs (fs:List (S36)) (hf:FB fs) (k:Nat) (hk:1060000000 ≤ k):tollbarref07_Length.f k fs=some (lenS (listS lenNm fs)):=by
 have hlb:=list_bounds fs lenNm hf
 obtain ⟨ps,hps⟩ : ∃ ps,ps=listS lenNm fs:=⟨_,rfl⟩
 have hL:tollbarref04_List.f k fs (⟨#[99,111,110,116,101,110,116,45,108,101,110,103,116,104]⟩:ByteArray)=some ps:=by
  have h:=refList_f fs lenNm hf (by decide) k (by omega)
  rw [← hps] at h
  exact h
 rw [← hps] at hlb ⊢
 unfold tollbarref07_Length.f
 rw [hL,Option.bind_some]
 match ps,hlb with
 | [],_=>rw [if_pos (by simp)];rfl
 | p :: r,hlb =>
  have hb:=hlb.2 p List.mem_cons_self
  have hr0:rdOf ByteArray.empty (p :: r) 0=p:=rdB_at (p :: r) 0 (by simp)
  obtain ⟨k,rfl⟩ : ∃ m,k=m + 1:=⟨k - 1,by omega⟩
  rw [if_neg (by simp only [List.length_cons];omega),if_pos (by simp only [List.length_cons];omega),hr0,refDecimal_f p (k + 1) (by omega) (by omega),Option.bind_some,tollbarref07_Length.l0,if_pos (by simp only [List.length_cons];omega),if_pos (by omega),hr0,refDecimal_f p k (by omega) (by omega),Option.bind_some,lenS]
  obtain ⟨z,hz⟩ : ∃ z,z=numSpec p 10 18:=⟨_,rfl⟩
  rw [← hz]
  by_cases h1:z.2=true;rotate_left
  ·rw [if_neg h1,if_neg (fun h=>h1 h.1)]
  have h:=refLen_rest (p :: r) hlb.1 hlb.2 z.1 r.length k 1 (by simp only [List.length_cons];omega) (by have:=hlb.1;simp only [List.length_cons] at this;omega)
  have h' : tollbarref07_Length.l0 k (p :: r) z.1 true 1=_:=h
  rw [if_pos h1,if_pos rfl,show wrap64 (0 + 1)=1 by unfold wrap64;omega,h1,h']
  simp only [List.drop_succ_cons,List.drop_zero]
  by_cases h2:(r.all fun q=>decide (numSpec q 10 18=(z.1,true)))=true
  ·rw [if_pos h2,if_pos ⟨trivial,h2⟩]
  ·rw [if_neg h2,if_neg (fun h=>h2 h.2)]
theorem fold_sameN (a W:ByteArray) (hw:strOfNums ((bytesOf W).map foldC)=W):((strOfNums ((bytesOf a).map foldC)).toList == W.toList)=sameN a W:=by
 have h:=str_inj (bytes_fold (bytes_of a)) (bytes_fold (bytes_of W))
 rw [hw] at h
 rw [h]
 rfl
theorem refCoded_f (fs:List (S36)) (hf:FB fs) (k:Nat) (hk:1060000000 ≤ k):tollbarref07_Coded.f k fs=some (chunkedS fs):=by
 have hlb:=list_bounds fs teNm hf
 have hL:tollbarref04_List.f k fs (⟨#[116,114,97,110,115,102,101,114,45,101,110,99,111,100,105,110,103]⟩:ByteArray)=some (listS teNm fs):=refList_f fs teNm hf (by decide) k (by omega)
 unfold tollbarref07_Coded.f chunkedS
 rw [hL,Option.bind_some]
 match hps:listS teNm fs with
 | []=>rw [if_neg (by simp)]
 | [p] =>
  rw [hps] at hlb
  have hb:=hlb.2 p List.mem_cons_self
  have hr0:rdOf ByteArray.empty [p] 0=p:=rdB_at [p] 0 (by simp)
  have hc:=fold_sameN p chunkedW (by decide +kernel)
  rw [show chunkedW.toList=[99,104,117,110,107,101,100] by rw [toList_data];rfl] at hc
  rw [if_pos (by simp),if_pos (by simp),hr0,refFold_f p (by omega) k (by omega),Fold_f p (by omega),Option.bind_some,hc]
 | p :: q :: r=>rw [if_neg (by simp only [List.length_cons];omega)]
theorem refFrameReq_f (fs:List (S36)) (minor:Int) (hf:FB fs) (k:Nat) (hk:1060000010 ≤ k):tollbarref07_Request.f k fs minor=some (reqLen fs minor):=by
 obtain ⟨k,rfl⟩ : ∃ m,k=m + 1:=⟨k - 1,by omega⟩
 have e1:tollbarref07_There.f (k + 1) fs (⟨#[99,111,110,116,101,110,116,45,108,101,110,103,116,104]⟩:ByteArray)=some (thereS lenNm fs):=refThere_f fs lenNm hf (by decide) (k + 1) (by omega)
 have e2:tollbarref07_There.f (k + 1) fs (⟨#[116,114,97,110,115,102,101,114,45,101,110,99,111,100,105,110,103]⟩:ByteArray)=some (thereS teNm fs):=refThere_f fs teNm hf (by decide) (k + 1) (by omega)
 obtain ⟨y,hy⟩ : ∃ y,y=lenS (listS lenNm fs):=⟨_,rfl⟩
 have hj : ∀ L T x,tollbarref07_Request.j0 (k + 1) fs L T x=some (if x=true then (0,false,400) else if T=true then (if chunkedS fs=true then (0,true,0) else (0,false,501)) else if L=true then (if y.2=true then (if y.1 > 4096 then (0,false,413) else (y.1,false,0)) else (0,false,400)) else (0,false,0)):=by
  intro L T x
  rw [tollbarref07_Request.j0,refCoded_f fs hf k (by omega),Option.bind_some,refLength_fs fs hf k (by omega),Option.bind_some,← hy]
  cases x <;> cases T <;> cases chunkedS fs <;> cases L <;> try rfl
  all_goals (simp only [Bool.false_eq_true,if_false,if_true];split <;> (try split) <;> rfl)
 unfold tollbarref07_Request.f reqLen
 rw [e1,Option.bind_some,e2,Option.bind_some,hj,hj,hj,← hy]
 by_cases hm:minor=0
 ·rw [beq_iff_eq.2 hm]
  cases thereS teNm fs <;> cases thereS lenNm fs <;> simp [hm]
 rw [beq_eq_false_iff_ne.2 hm]
 cases thereS teNm fs <;> cases thereS lenNm fs <;> simp [hm]
theorem refField_at (a b:List UInt8) (h:58 ∉ a) (hr:rightB (mkS a) (mkS (trm b))=true) (hn:(a ++ 58 :: b).length ≤ 1000000) (d:Nat) : ∀ (k i:Nat),i + d=a.length → d + 4 * (a ++ 58 :: b).length + 20 ≤ k → tollbarref04_Parse.l0 k (mkS (a ++ 58 :: b)) (i:Int)=some (mkS a,mkS (trm b),true):=by
 have hl:(a ++ 58 :: b).length=a.length + b.length + 1:=by rw [List.length_append,List.length_cons];omega
 have hs:(mkS (a ++ 58 :: b)).size=a.length + b.length + 1:=by rw [mkS_size,hl]
 induction d with
 | zero =>
  intro k i hi hk
  obtain ⟨k,rfl⟩ : ∃ m,k=m + 1:=⟨k - 1,by omega⟩
  obtain rfl:i=a.length:=by omega
  have e1:bt (mkS (a ++ 58 :: b)) (a.length:Int)=58:=by rw [bt_mk _ _ (by omega)];simp
  have e2:(mkS (a ++ 58 :: b)).extract (a.length + 1) (a.length + b.length + 1)=mkS b:=by
   rw [mkS_extract,List.drop_append,List.drop_of_length_le (by omega),show a.length + 1 - a.length=1 by omega]
   simp
  have e3:(mkS (a ++ 58 :: b)).extract 0 a.length=mkS a:=by rw [mkS_extract];simp
  have hb:(mkS b).size=b.length:=mkS_size b
  have ht:=trm_length b
  rw [tollbarref04_Parse.l0,if_pos (by omega),if_pos (by omega),e1,if_pos rfl,if_pos (by omega),show wrap64 ((a.length:Int) + 1)=((a.length + 1:Nat):Int) by unfold wrap64;omega,if_pos (by omega),if_pos (by omega),Int.toNat_natCast,Int.toNat_natCast,hs,e2,e3,
   refTrim_f (mkS b) (by omega) k (by omega),Trim_mk _ (by omega),Option.bind_some,mkS_data,One_f _ _ (by rw [mkS_size];omega) (by rw [mkS_size];omega) k (by rw [mkS_size,mkS_size];omega),Option.bind_some,hr]
  rfl
 | succ d ih =>
  intro k i hi hk
  obtain ⟨k,rfl⟩ : ∃ m,k=m + 1:=⟨k - 1,by omega⟩
  have hlt:i < (a ++ 58 :: b).length:=by omega
  have hla:i < a.length:=by omega
  have e1:(a ++ 58 :: b)[i]=a[i]:=List.getElem_append_left hla
  rw [tollbarref04_Parse.l0,if_pos (by omega),if_pos (by omega),bt_mk _ i hlt,if_neg (fun e=>h (by rw [← (colon _).1 e,e1];exact List.getElem_mem hla)),show wrap64 ((i:Int) + 1)=((i + 1:Nat):Int) by unfold wrap64;omega]
  exact ih k (i + 1) (by omega) (by omega)
theorem refField_ok (l:List UInt8) (hn:l.length ≤ 1000000) (hr:fieldOk l=true) (k:Nat) (hk:5 * l.length + 20 ≤ k):tollbarref04_Parse.f k (mkS l)=some ((fieldX l).f0,(fieldX l).f1,true):=by
 unfold tollbarref04_Parse.f
 rcases split_first 58 l with h|⟨a,b,rfl,h⟩
 ·rw [fieldOk_no l h] at hr;cases hr
 rw [fieldOk_yes a b h] at hr
 obtain ⟨e1,e2⟩:=take_first 58 a b h
 unfold fieldX
 rw [e1,e2]
 exact refField_at a b h hr hn a.length k 0 (by omega) (by rw [List.length_append] at hk ⊢;omega)
theorem refLines_l (l:List Int) (hl:l.length ≤ 1000000) : ∀ (d p k:Nat) (out:List ByteArray),0 < p → p ≤ (bdS l).length → (bdS l).length < p + d → 0 < out.length → out.length ≤ p → 2 * d + 6200 ≤ k →
 tollbarref08_Lines.l0 k l out (p:Int)=some (out ++ (tailS (bdS l) (extS l) d p).1,(tailS (bdS l) (extS l) d p).2):=by
 intro d
 induction d with
 | zero=>intro p k out _ h1 h2;omega
 | succ d ih =>
  intro p k out h0 hp hd ho hop hk
  obtain ⟨k,rfl⟩ : ∃ m,k=m + 2:=⟨k - 2,by omega⟩
  have hb:=bdS_length l
  have hsh:=cutS_shape ((bdS l).drop p) 2048
  have hdl:((bdS l).drop p).length=(bdS l).length - p:=List.length_drop ..
  have hbe:(bdS l).length=min 2048 l.length:=by unfold bdS;rw [List.length_take]
  have hj : ∀ x7:Int,0 ≤ x7 → x7 ≤ (l.length:Int) → l.take x7.toNat=bdS l → tollbarref08_Lines.j1 (k + 1) l out (p:Int) x7=some (out ++ (tailS (bdS l) (extS l) (d + 1) p).1,(tailS (bdS l) (extS l) (d + 1) p).2):=by
   intro x7 h7 h7l he
   have hx:(bdS l).length ≤ x7.toNat:=by rw [← he,List.length_take];omega
   rw [tollbarref08_Lines.j1,if_pos (by omega),if_pos (by omega),if_pos h7l,he,Int.toNat_natCast,refCut_f _ 2048 (by omega) k (by omega),Option.bind_some,tailS]
   obtain ⟨c,hc⟩ : ∃ c,c=cutSpec ((bdS l).drop p) 2048:=⟨_,rfl⟩
   rw [← hc] at hsh ⊢
   by_cases h1:c.2.2=20
   ·rw [if_pos h1,if_pos h1,List.append_nil]
   rw [if_neg h1,if_neg h1]
   by_cases h2:c.2.1=0
   ·rw [if_pos h2,if_pos h2,List.append_nil]
    unfold extS
    by_cases h4:2048 ≤ (l.length:Int)
    ·rw [if_pos h4,if_pos h4]
    rw [if_neg h4,if_neg (show ¬ (l.length:Int) ≥ 2048 from h4)]
   have hz:c.2.1 > 0∧c.2.1 ≤ ((bdS l).length:Int) - p:=by rcases hsh with h|h <;> omega
   have hw:wrap64 ((p:Int) + c.2.1)=((p + c.2.1.toNat:Nat):Int):=by unfold wrap64;omega
   have hw2:(p:Int) + c.2.1=((p + c.2.1.toNat:Nat):Int):=by omega
   rw [if_neg h2,if_neg h2,hw,hw2]
   by_cases h3:c.1.toList=[]
   ·rw [if_pos h3,if_pos h3,if_pos (by omega),List.append_nil]
   rw [if_neg h3,if_neg h3,if_pos (by omega)]
   have:=ih (p + c.2.1.toNat) k (out ++ [c.1]) (by omega) (by omega) (by omega) (by simp) (by simp only [List.length_append,List.length_cons,List.length_nil];omega) (by omega)
   rw [this,List.append_assoc]
   rfl
  rw [tollbarref08_Lines.l0]
  by_cases h:(l.length:Int) > 2048
  ·rw [if_pos h]
   exact hj 2048 (by omega) (by omega) rfl
  rw [if_neg h]
  exact hj (l.length:Int) (by omega) (by omega) (by rw [Int.toNat_natCast];unfold bdS;rw [List.take_of_length_le (Nat.le_refl _),List.take_of_length_le (by omega)])
theorem refLines_f (l:List Int) (hl:l.length ≤ 1000000) (k:Nat) (hk:20000 ≤ k):tollbarref08_Lines.f k l=some (linesS (bdS l) (extS l)):=by
 obtain ⟨k,rfl⟩ : ∃ m,k=m + 2:=⟨k - 2,by omega⟩
 have hb:=bdS_length l
 have hsh:=cutS_shape (bdS l) 2048
 have hj : ∀ x7:Int,0 ≤ x7 → x7 ≤ (l.length:Int) → l.take x7.toNat=bdS l → tollbarref08_Lines.j1 (k + 1) l [] 0 x7=some (linesS (bdS l) (extS l)):=by
  intro x7 h7 h7l he
  unfold linesS
  rw [tollbarref08_Lines.j1,if_pos (by omega),if_pos (by omega),if_pos h7l,he,show (0:Int).toNat=0 from rfl,List.drop_zero,refCut_f _ 2048 (by omega) k (by omega),Option.bind_some]
  obtain ⟨c,hc⟩ : ∃ c,c=cutSpec (bdS l) 2048:=⟨_,rfl⟩
  rw [← hc] at hsh ⊢
  by_cases h1:c.2.2=20
  ·rw [if_pos h1,if_pos h1]
  rw [if_neg h1,if_neg h1]
  by_cases h2:c.2.1=0
  ·rw [if_pos h2,if_pos h2]
   unfold extS
   by_cases h4:2048 ≤ (l.length:Int)
   ·rw [if_pos h4,if_pos h4]
   rw [if_neg h4,if_neg (show ¬ (l.length:Int) ≥ 2048 from h4)]
  have hz:c.2.1 > 0∧c.2.1 ≤ ((bdS l).length:Int):=by rcases hsh with h|h <;> omega
  have hw:wrap64 ((0:Int) + c.2.1)=((c.2.1.toNat:Nat):Int):=by unfold wrap64;omega
  rw [if_neg h2,if_neg h2,hw]
  have:=refLines_l l hl ((bdS l).length + 1) c.2.1.toNat k [c.1] (by omega) (by omega) (by omega) (by simp) (by simp only [List.length_cons,List.length_nil];omega) (by omega)
  by_cases h3:c.1.toList=[]
  ·rw [if_pos h3,if_neg (by simp),if_pos (by simp),List.nil_append,this];rfl
  rw [if_neg h3,if_pos (by simp),List.nil_append,this];rfl
 rw [tollbarref08_Lines.f,tollbarref08_Lines.l0]
 by_cases h:(l.length:Int) > 2048
 ·rw [if_pos h]
  exact hj 2048 (by omega) (by omega) rfl
 rw [if_neg h]
 exact hj (l.length:Int) (by omega) (by omega) (by rw [Int.toNat_natCast];unfold bdS;rw [List.take_of_length_le (Nat.le_refl _),List.take_of_length_le (by omega)])
theorem refFields_l (ss:List ByteArray) (hs : ∀ s ∈ ss,s.size ≤ 2048) (hn:ss.length ≤ 100000) : ∀ (d i k:Nat) (fs:List (S36)),i + d=ss.length → fs.length ≤ 40 → d + 20000 ≤ k →
 tollbarref08_fields.l0 k ss fs (i:Int)=some (if (fieldsS (ss.drop i) fs.length).2=0 then (fs ++ (fieldsS (ss.drop i) fs.length).1,0) else ([],(fieldsS (ss.drop i) fs.length).2)):=by
 intro d
 induction d with
 | zero =>
  intro i k fs hi hf hk
  obtain ⟨k,rfl⟩ : ∃ m,k=m + 1:=⟨k - 1,by omega⟩
  rw [tollbarref08_fields.l0,if_neg (by omega),List.drop_of_length_le (by omega),fieldsS,if_pos rfl,List.append_nil]
 | succ d ih =>
  intro i k fs hi hf hk
  obtain ⟨k,rfl⟩ : ∃ m,k=m + 1:=⟨k - 1,by omega⟩
  have hlt:i < ss.length:=by omega
  have hsz:=hs _ (List.getElem_mem hlt)
  have hdl:(ss[i]).data.toList.length ≤ 2048:=by rw [data_length];exact hsz
  rw [tollbarref08_fields.l0,if_pos (by omega),if_pos (by omega),rdB_at ss i hlt,List.drop_eq_getElem_cons hlt,fieldsS]
  cases hfo:fieldOk (ss[i]).data.toList
  ·obtain ⟨x,y,hxy⟩:=refField_f (ss[i]).data.toList (by omega) k (by omega)
   rw [mkS_self,hfo] at hxy
   rw [hxy,Option.bind_some,if_neg (by simp),if_neg (by simp),if_neg (by simp)]
  have hxy:=refField_ok (ss[i]).data.toList (by omega) hfo k (by omega)
  rw [mkS_self] at hxy
  rw [hxy,Option.bind_some,if_pos rfl,if_pos rfl]
  by_cases h4:fs.length=40
  ·rw [if_pos (show (fs.length:Int)=40 by omega),if_pos h4,if_neg (by simp)]
  rw [if_neg (show ¬ (fs.length:Int)=40 by omega),if_neg h4,if_pos (by omega),show wrap64 ((i:Int) + 1)=((i + 1:Nat):Int) by unfold wrap64;omega]
  have hlen:(fs ++ [fieldX (ss[i]).data.toList]).length=fs.length + 1:=by simp
  have:=ih (i + 1) k (fs ++ [fieldX (ss[i]).data.toList]) (by omega) (by omega) (by omega)
  rw [hlen] at this
  refine this.trans ?_
  obtain ⟨g,hg⟩ : ∃ g,g=fieldsS (ss.drop (i + 1)) (fs.length + 1):=⟨_,rfl⟩
  rw [← hg]
  by_cases h5:g.2=0
  ·rw [if_pos h5,if_pos h5,if_pos rfl,List.append_assoc];rfl
  rw [if_neg h5,if_neg h5,if_neg h5]
theorem refFields_f (ss:List ByteArray) (hs : ∀ s ∈ ss,s.size ≤ 2048) (hn:ss.length ≤ 100000) (k:Nat) (hk:120000 ≤ k):tollbarref08_fields.f k ss=some (fieldsS ss 0):=by
 have:=refFields_l ss hs hn ss.length 0 k [] (by omega) (by simp) (by omega)
 have he:=fieldsS_err ss 0
 unfold tollbarref08_fields.f
 rw [show ((0:Nat):Int)=0 from rfl] at this
 rw [this,List.drop_zero,List.length_nil,List.nil_append]
 obtain ⟨g,hg⟩ : ∃ g,g=fieldsS ss 0:=⟨_,rfl⟩
 rw [← hg] at he ⊢
 obtain ⟨g1,g2⟩:=g
 by_cases h:g2=0
 ·subst h;rfl
 rw [if_neg h];rw [show g1=[] from he h]
theorem tail_len (l:List Int) (e:Int) : ∀ (d p:Nat),(tailS l e d p).1.length ≤ d:=by
 intro d
 induction d with
 | zero=>intro p;exact Nat.le_refl _
 | succ d ih =>
  intro p
  rw [tailS]
  split
  ·exact Nat.zero_le _
  split
  ·exact Nat.zero_le _
  split
  ·exact Nat.zero_le _
  have:=ih (p + (cutSpec (l.drop p) 2048).2.1.toNat)
  simp only [List.length_cons]
  omega
theorem lines_len (l:List Int) (e:Int):(linesS l e).1.length ≤ l.length + 2:=by
 unfold linesS
 split
 ·exact Nat.zero_le _
 split
 ·exact Nat.zero_le _
 have:=tail_len l e (l.length + 1) (cutSpec l 2048).2.1.toNat
 simp only [List.length_cons]
 omega
theorem refOpened_f (l:List Int) (hl:l.length ≤ 1000000) (k:Nat) (hk:1070000000 ≤ k):tollbarref08_opened.f k l=some (openS l):=by
 have hb:=bdS_length l
 have hsz:=lines_sizes (bdS l) (extS l) hb.1
 have hln:=lines_len (bdS l) (extS l)
 unfold openS tollbarref08_opened.f
 rw [refLines_f l hl k (by omega),Option.bind_some]
 obtain ⟨L,hL⟩ : ∃ L,L=linesS (bdS l) (extS l):=⟨_,rfl⟩
 rw [← hL] at hsz hln ⊢
 obtain ⟨ss,n,c⟩:=L
 simp only at hsz hln ⊢
 cases ss with
 | nil=>rw [if_pos (by simp)];rfl
 | cons s ss =>
  have hs:=hsz s (List.mem_cons_self ..)
  have hq:=refRequest_f s.data.toList (by rw [data_length];omega) k (by rw [data_length];omega)
  rw [mkS_self] at hq
  have hr0:rdOf ByteArray.empty (s :: ss) 0=s:=rfl
  have hmi:=reqSpec_minor s.data.toList
  have hnil:=reqSpec_nil s.data.toList
  rw [if_neg (by simp only [List.length_cons];omega),if_pos (by simp only [List.length_cons];omega),hr0,hq,Option.bind_some,openL]
  obtain ⟨q,hqq⟩ : ∃ q,q=reqSpec s.data.toList:=⟨_,rfl⟩
  have hFB:=fields_FB ss
  rw [← hqq] at hmi hnil ⊢
  by_cases h1:q.2.2.2.2.2=0;rotate_left
  ·rw [if_neg h1,if_neg h1];rfl
  rw [if_pos h1,if_pos h1,List.drop_succ_cons,List.drop_zero,refFields_f ss (fun t ht=>hsz t (List.mem_cons_of_mem _ ht)) (by simp only [List.length_cons] at hln;omega) k (by omega),Option.bind_some]
  obtain ⟨g,hg⟩ : ∃ g,g=fieldsS ss 0:=⟨_,rfl⟩
  rw [← hg] at hFB ⊢
  by_cases h2:g.2=0
  ·rw [if_pos h2,if_pos h2]
   by_cases h3:n=0
   ·rw [if_pos h3,if_pos h3];rfl
   rw [if_neg h3,if_neg h3,show (⟨#[104,111,115,116]⟩:ByteArray)=hostNm from rfl,refGet_f g.1 hostNm hFB (by decide) k (by omega),Option.bind_some]
   have hgb:=get_bounds g.1 hostNm hFB
   have hfr:=refFrameReq_f g.1 q.2.2.1 hFB k (by omega)
   unfold openF
   rw [hnil.2]
   cases hgs:getS hostNm g.1 with
   | nil =>
    rw [if_neg (by simp),if_pos (by simp),hostsOk]
    by_cases h5:q.2.2.1=1
    ·rw [if_pos h5,if_neg (by rw [h5];decide)];rfl
    have h6:q.2.2.1=0:=by omega
    rw [if_neg h5,if_pos (by rw [h6];rfl),hfr,Option.bind_some]
    by_cases h7:(reqLen g.1 q.2.2.1).2.2=0
    ·rw [if_pos h7,if_pos h7]
    rw [if_neg h7,if_neg h7];rfl
   | cons p r =>
    cases r with
    | cons u v =>
     rw [if_pos (by simp only [List.length_cons];omega),hostsOk,if_neg (by simp)];rfl
    | nil =>
     rw [hgs] at hgb
     have hp:=hgb.2 p (List.mem_cons_self ..)
     have hr1:rdOf ByteArray.empty [p] 0=p:=rfl
     have hh:=refHost_f p.data.toList (by rw [data_length];omega) k (by rw [data_length];omega)
     rw [mkS_self,hostT_f p (by omega)] at hh
     rw [if_neg (by simp),if_neg (by simp),hr1,hh,Option.bind_some,hostsOk]
     by_cases h5:(hostT p).2=true;rotate_left
     ·rw [if_neg h5,if_neg h5];rfl
     rw [if_pos h5,if_pos h5,hfr,Option.bind_some]
     by_cases h7:(reqLen g.1 q.2.2.1).2.2=0
     ·rw [if_pos h7,if_pos h7]
     ·rw [if_neg h7,if_neg h7];rfl
  ·rw [if_neg h2,if_neg h2];rfl
theorem dec_err (l:List Int) : ∀ (d p:Nat) (left:Int) (out:List Int),(decS l d p left out).2.2 ≠ 0 → (decS l d p left out).2.1=0:=by
 intro d
 induction d with
 | zero=>intro p left out h;exact absurd rfl h
 | succ d ih =>
  intro p left out
  rw [decS]
  repeat' split
  all_goals intro h
  all_goals first|rfl|exact absurd rfl h|exact ih _ _ _ h
theorem refBody_f (b:List Int) (hb:b.length ≤ 1000000) (size:Int) (hs:0 ≤ size) (coded:Bool) (k:Nat) (hk:50000600 ≤ k) : ∃ z,tollbarref08_Body.f k b size coded=some z ∧
 ((z.2.2.2=2∧(bodyS b size coded).2.1 < 0∧(bodyS b size coded).2.2=413) ∨ (z.2.2.2 ≠ 2∧z.2.2.2 ≠ 0∧z.2.2.1=false∧(bodyS b size coded).2.1 < 0∧(bodyS b size coded).2.2=400) ∨ (z.2.2.2=0∧z.2.2.1=false∧(bodyS b size coded).2.1 < 0∧(bodyS b size coded).2.2=0) ∨
  (z.2.2.2=0∧z.2.2.1=true ∧ ¬ (bodyS b size coded).2.1 < 0∧(bodyS b size coded).2.2=0∧z.1=(bodyS b size coded).1∧z.2.1=(bodyS b size coded).2.1)):=by
 unfold tollbarref08_Body.f bodyS
 cases coded
 ·rw [if_neg (show ¬ (false=true) by simp),if_neg (show ¬ (false=true) by simp)]
  by_cases h:(b.length:Int) < size
  ·rw [if_pos h,if_pos h]
   exact ⟨_,rfl,Or.inr (Or.inr (Or.inl ⟨rfl,rfl,by decide,rfl⟩))⟩
  rw [if_neg h,if_neg h,if_pos hs,if_pos (by omega),Join_f _ [] k (by simp only [List.length_take,List.length_nil];omega) (by simp only [List.length_take,List.length_nil];omega),Option.bind_some,List.append_nil]
  exact ⟨_,rfl,Or.inr (Or.inr (Or.inr ⟨rfl,rfl,by simp only [];omega,rfl,rfl,rfl⟩))⟩
 rw [if_pos rfl,if_pos rfl,refDecode_f b 4096 hb (by decide) k (by omega),Option.bind_some,show mx 4096 0=4096 by decide]
 have hz:=dec_none' b (b.length + 1) 0 4096 []
 have hp:=dec_err b (b.length + 1) 0 4096 []
 obtain ⟨r,hr⟩ : ∃ r,r=decS b (b.length + 1) 0 4096 []:=⟨_,rfl⟩
 rw [← hr] at hz hp ⊢
 refine ⟨_,rfl,?_⟩
 simp only
 by_cases h1:r.2.2=2
 ·rw [if_pos h1]
  exact Or.inl ⟨h1,by decide,rfl⟩
 rw [if_neg h1]
 by_cases h2:r.2.2=0;rotate_left
 ·rw [if_neg h2]
  exact Or.inr (Or.inl ⟨h1,h2,decide_eq_false (by have:=hp h2;omega),by decide,rfl⟩)
 rw [if_pos h2]
 by_cases h3:r.2.1=0
 ·rw [if_pos h3]
  exact Or.inr (Or.inr (Or.inl ⟨h2,decide_eq_false (by omega),by decide,rfl⟩))
 rw [if_neg h3]
 have:r.2.1 > 0:=by
  by_cases h4:r.2.1 > 0
  ·exact h4
  ·exact absurd (hz h4 h2).2 h3
 exact Or.inr (Or.inr (Or.inr ⟨h2,decide_eq_true this,by simp only [];omega,rfl,rfl,rfl⟩))
theorem refReq_f (l:List Int) (hl:l.length ≤ 1000000) (k:Nat) (hk:1070000010 ≤ k):tollbarref08_Request.f k l=some (reqS l):=by
 unfold tollbarref08_Request.f reqS
 rw [refOpened_f l hl k (by omega),Option.bind_some]
 rcases open_cases l with ⟨c,hc⟩|hok
 ·rw [hc,if_pos (show (openBad c).2.2.2.2.2.1=0 from rfl),if_pos (show (openBad c).2.2.2.2.2.1=0 from rfl)]
 obtain ⟨o,hs⟩ : ∃ o,o=openS l:=⟨_,rfl⟩
 rw [← hs] at hok ⊢
 have p1:=hok.pos
 have hne : ¬ o.2.2.2.2.2.1=0:=by omega
 have p2:=hok.le
 have hdl:(l.drop o.2.2.2.2.2.1.toNat).length=l.length - o.2.2.2.2.2.1.toNat:=List.length_drop ..
 have hbl:=body_le (l.drop o.2.2.2.2.2.1.toNat) (by omega) o.2.2.2.2.2.2.1 hok.size.1 o.2.2.2.2.2.2.2.1
 obtain ⟨z,hz,hc⟩:=refBody_f (l.drop o.2.2.2.2.2.1.toNat) (by omega) o.2.2.2.2.2.2.1 hok.size.1 o.2.2.2.2.2.2.2.1 k (by omega)
 rw [if_neg hne,if_neg hne,if_pos (by omega),if_pos (by omega),hz,Option.bind_some]
 obtain ⟨B,hB⟩ : ∃ B,B=bodyS (l.drop o.2.2.2.2.2.1.toNat) o.2.2.2.2.2.2.1 o.2.2.2.2.2.2.2.1:=⟨_,rfl⟩
 rw [← hB] at hc hbl ⊢
 rcases hc with ⟨c1,c2,c3⟩|⟨c1,c2,c3,c4,c5⟩|⟨c1,c2,c3,c4⟩|⟨c1,c2,c3,c4,c5,c6⟩
 ·rw [if_pos c1,if_pos c2,c3]
 ·rw [if_neg c1,if_neg c2,if_pos c4,c5]
 ·rw [c1,if_neg (by decide),if_pos rfl,c2,if_neg (by simp),if_pos c3,c4]
 rw [c1,if_neg (by decide),if_pos rfl,if_pos c2,if_neg c3,c5,c6,show wrap64 (o.2.2.2.2.2.1 + B.2.1)=o.2.2.2.2.2.1 + B.2.1 by unfold wrap64;omega]
theorem refHead_f (l:List Int) (hl:l.length ≤ 1000000) (k:Nat) (hk:1070000010 ≤ k):tollbarref08_Head.f k l=some (headQ l):=by
 unfold tollbarref08_Head.f headQ
 rw [refOpened_f l hl k (by omega),Option.bind_some]
theorem refHost8_f (m t:ByteArray) (mi:Int) (fs:List (S36)) (b:List Int) (hf:FB fs) (k:Nat) (hk:5000000 ≤ k):tollbarref08_Host.f k m t mi fs b=some (hostS fs):=by
 have hb:=get_bounds fs hostNm hf
 unfold tollbarref08_Host.f hostS
 rw [show (⟨#[104,111,115,116]⟩:ByteArray)=hostNm from rfl,refGet_f fs hostNm hf (by decide) k (by omega),Option.bind_some]
 cases hs:getS hostNm fs with
 | nil=>rfl
 | cons p r =>
  rw [hs] at hb
  have hp:=hb.2 p (List.mem_cons_self ..)
  have hr0:rdOf ByteArray.empty (p :: r) 0=p:=rfl
  have hh:=refHost_f p.data.toList (by rw [data_length];omega) k (by rw [data_length];omega)
  rw [mkS_self,hostT_f p (by omega)] at hh
  rw [if_neg (by simp only [List.length_cons];omega),if_pos (by simp only [List.length_cons];omega),hr0,hh,Option.bind_some]
theorem refHas_l0 (part:ByteArray) (hn:part.size ≤ 1048576) (ps:List ByteArray) (hl:ps.length ≤ 2000000000) (hs : ∀ n ∈ ps,n.size ≤ 1048576) (d:Nat) : ∀ (k i:Nat),i + d=ps.length → d + 1048580 ≤ k →
 tollbarref04_Has.l0 k part ps (i:Int)=some ((ps.drop i).any fun p=>sameN p part):=by
 induction d with
 | zero =>
  intro k i hi hk
  obtain ⟨k,rfl⟩ : ∃ m,k=m + 1:=⟨k - 1,by omega⟩
  rw [tollbarref04_Has.l0,if_neg (by omega),List.drop_of_length_le (by omega)]
  rfl
 | succ d ih =>
  intro k i hi hk
  obtain ⟨k,rfl⟩ : ∃ m,k=m + 1:=⟨k - 1,by omega⟩
  have hlt:i < ps.length:=by omega
  have hsz:=hs _ (List.getElem_mem hlt)
  rw [tollbarref04_Has.l0,if_pos (by omega),if_pos (by omega),rdB_at ps i hlt,refSame_f _ part hsz hn k (by omega),Option.bind_some,List.drop_eq_getElem_cons hlt,List.any_cons,show wrap64 ((i:Int) + 1)=((i + 1:Nat):Int) by unfold wrap64;omega,ih k (i + 1) (by omega) (by omega)]
  cases sameN ps[i] part
  ·rw [if_neg (by simp),Bool.false_or]
  rw [if_pos rfl,Bool.true_or]
theorem refHas_f (fs:List (S36)) (name part:ByteArray) (hf:FB fs) (hn:name.size ≤ 1048576) (hp:part.size ≤ 1048576) (k:Nat) (hk:1060000000 ≤ k):tollbarref04_Has.f k fs name part=some (hasS fs name part):=by
 have hb:=list_bounds fs name hf
 unfold tollbarref04_Has.f hasS
 rw [refList_f fs name hf hn k (by omega),Option.bind_some]
 have:=refHas_l0 part hp (listS name fs) (by omega) hb.2 (listS name fs).length k 0 (by omega) (by omega)
 rw [List.drop_zero] at this
 exact this
theorem refWaits_f (l:List Int) (hl:l.length ≤ 1000000) (k:Nat) (hk:1070000010 ≤ k):tollbarref08_Waits.f k l=some (waitsS l):=by
 unfold tollbarref08_Waits.f waitsS
 rw [refOpened_f l hl k (by omega),Option.bind_some]
 rcases open_cases l with ⟨c,hc⟩|hok
 ·rw [hc,if_pos (show (openBad c).2.2.2.2.2.1=0 from rfl),if_pos (show (openBad c).2.2.2.2.2.1=0 from rfl)]
 obtain ⟨o,hs⟩ : ∃ o,o=openS l:=⟨_,rfl⟩
 rw [← hs] at hok ⊢
 have p1:=hok.pos
 have hne : ¬ o.2.2.2.2.2.1=0:=by omega
 have p2:=hok.le
 have hdl:(l.drop o.2.2.2.2.2.1.toNat).length=l.length - o.2.2.2.2.2.1.toNat:=List.length_drop ..
 have hh:=refHas_f o.2.2.2.1 expNm contW (ok_FB hok) (by decide) (by decide) k (by omega)
 rw [if_neg hne,if_neg hne]
 by_cases h2:o.2.2.1=0
 ·rw [if_pos h2,if_pos h2]
 rw [if_neg h2,if_neg h2,show (⟨#[101,120,112,101,99,116]⟩:ByteArray)=expNm from rfl,show (⟨#[49,48,48,45,99,111,110,116,105,110,117,101]⟩:ByteArray)=contW from rfl,hh,Option.bind_some]
 by_cases h3:hasS o.2.2.2.1 expNm contW=true;rotate_left
 ·rw [if_neg h3,if_neg h3]
 obtain ⟨z,hz,hc⟩:=refBody_f (l.drop o.2.2.2.2.2.1.toNat) (by omega) o.2.2.2.2.2.2.1 hok.size.1 o.2.2.2.2.2.2.2.1 k (by omega)
 rw [if_pos h3,if_pos h3,if_pos (by omega),if_pos (by omega),hz,Option.bind_some]
 rcases hc with ⟨c1,c2,c3⟩|⟨c1,c2,c3,c4,c5⟩|⟨c1,c2,c3,c4⟩|⟨c1,c2,c3,c4,c5,c6⟩
 ·rw [if_pos c2,c3,c1]
  split <;> rfl
 ·rw [if_pos c4,c5,c3,if_neg (by simp),beq_eq_false_iff_ne.2 c2];rfl
 ·rw [if_pos c3,c4,c2,if_neg (by simp),c1]
 ·rw [if_neg c3,if_pos c2]
theorem sameB_l0 (xs:List Int) (hn:xs.length ≤ 4398046511104) (d:Nat) : ∀ (k:Nat) (i:Int),0 ≤ i → (xs.length:Int) - i=d → d + 1 ≤ k → tollbarref01_SameBytes.l0 k xs xs i=some true:=by
 induction d with
 | zero =>
  intro k i h0 hd hk
  obtain ⟨k,rfl⟩ : ∃ m,k=m + 1:=⟨k - 1,by omega⟩
  simp only [tollbarref01_SameBytes.l0]
  rw [if_neg (by omega)]
 | succ d ih =>
  intro k i h0 hd hk
  obtain ⟨k,rfl⟩ : ∃ m,k=m + 1:=⟨k - 1,by omega⟩
  simp only [tollbarref01_SameBytes.l0]
  rw [if_pos (by omega),if_pos h0,if_pos (by omega),if_pos trivial,show wrap64 (i + 1)=i + 1 by unfold wrap64;omega]
  exact ih k (i + 1) (by omega) (by omega) (by omega)
theorem sameB_eq (xs:List Int) (hn:xs.length ≤ 4398046511104) (k:Nat) (hk:xs.length + 1 ≤ k):tollbarref01_SameBytes.f k xs xs=some true:=by
 unfold tollbarref01_SameBytes.f
 rw [if_pos rfl]
 exact sameB_l0 xs hn xs.length k 0 (by omega) (by omega) hk
theorem sameF_l0 (xs:List (S36)) (hn:xs.length ≤ 1000000) (d:Nat) : ∀ (k i:Nat),i + d=xs.length → d < k → tollbarref04_Same.l0 k xs xs (i:Int)=some true:=by
 induction d with
 | zero =>
  intro k i hi hk
  obtain ⟨k,rfl⟩ : ∃ m,k=m + 1:=⟨k - 1,by omega⟩
  rw [tollbarref04_Same.l0,if_neg (by omega)]
 | succ d ih =>
  intro k i hi hk
  obtain ⟨k,rfl⟩ : ∃ m,k=m + 1:=⟨k - 1,by omega⟩
  rw [tollbarref04_Same.l0,if_pos (by omega),if_pos (by omega),if_pos (by omega),if_pos rfl,if_pos rfl,show wrap64 ((i:Int) + 1)=((i + 1:Nat):Int) by unfold wrap64;omega]
  exact ih k (i + 1) (by omega) (by omega)
theorem sameF_eq (xs:List (S36)) (hn:xs.length ≤ 1000000) (k:Nat) (hk:xs.length < k):tollbarref04_Same.f k xs xs=some true:=by
 unfold tollbarref04_Same.f
 rw [if_pos rfl]
 exact sameF_l0 xs hn xs.length k 0 (by omega) hk
theorem sameReq_eq (m t:ByteArray) (mi:Int) (fs:List (S36)) (b:List Int) (hf:fs.length ≤ 100000) (hb:b.length ≤ 1000000) (k:Nat) (hk:1000010 ≤ k):tollbarref08_SameReq.f k m t mi fs b m t mi fs b=some true:=by
 unfold tollbarref08_SameReq.f
 rw [if_pos rfl,if_pos rfl,if_pos rfl,sameF_eq _ (by omega) k (by omega),Option.bind_some,if_pos rfl,sameB_eq b (by omega) k (by omega),Option.bind_some]
theorem req_FB (l:List Int):FB (reqS l).2.2.2.1:=by
 have h0:FB ([]:List (S36)):=⟨Nat.zero_le _,fun f hf=>by cases hf⟩
 rcases open_cases l with ⟨c,hc⟩|ho
 ·unfold reqS
  rw [hc]
  exact h0
 unfold reqS
 split
 ·exact h0
 split
 ·exact h0
 exact ok_FB ho
theorem headQ_le (l:List Int):(headQ l).2.2.2.1.length ≤ 40∧(headQ l).2.2.2.2.1=[]:=by
 unfold headQ
 rcases open_cases l with ⟨c,hc⟩|ho
 ·rw [hc]
  exact ⟨Nat.zero_le _,rfl⟩
 exact ⟨ho.fields.1,ho.body⟩
theorem HttpRequests : ∀ (l0:List Int),l0.length ≤ maxLen → l0.length * 1 ≤ 140737488351232 → (∀ x ∈ l0,(Lit.int .u8 x).wf=true) → ∃ k,tollbarlaw08_HttpRequests.f k l0=some true:=by
 intro l _ _ _
 by_cases h:(l.length:Int) > 8000
 ·refine ⟨0,?_⟩
  unfold tollbarlaw08_HttpRequests.f
  rw [if_pos h]
 refine ⟨1080000000,?_⟩
 have hl:l.length ≤ 1000000:=by omega
 have hle:=req_le l hl
 have hhq:=headQ_le l
 have hFB:=req_FB l
 unfold tollbarlaw08_HttpRequests.f
 rw [if_neg h,http_Request_f l hl _ (by omega),Option.bind_some,refReq_f l hl _ (by omega),Option.bind_some,http_Head_f l hl _ (by omega),Option.bind_some,refHead_f l hl _ (by omega),Option.bind_some,
  sameReq_eq _ _ _ _ _ (by omega) (by rw [hhq.2];simp) _ (by omega),Option.bind_some,sameReq_eq _ _ _ _ _ (by omega) (by omega) _ (by omega),Option.bind_some,http_Waits_f l hl _ (by omega),Option.bind_some,refWaits_f l hl _ (by omega),Option.bind_some,http_Host_f _ _ _ _ _ hFB _ (by omega),Option.bind_some,refHost8_f _ _ _ _ _ hFB _ (by omega),Option.bind_some,
  if_pos ⟨rfl,rfl,rfl,rfl,rfl,rfl,rfl,rfl⟩]
end Go.Proofs.YtagffbblalldiaaGreatDoor.Pure
