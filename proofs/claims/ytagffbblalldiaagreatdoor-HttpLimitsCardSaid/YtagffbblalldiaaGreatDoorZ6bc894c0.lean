/- Each function below answers as its Lean twin says; plain lemmas; a row where its theorem stands. No further condition. (Laid by this repo's pack.py out of its texts and of the print's words.) -/
import Derived.Test.YtagffbblalldiaaGreatDoorZ804fef78
import Derived.Test.YtagffbblalldiaaGreatDoorZ36bc4e15
import Derived.Test.YtagffbblalldiaaGreatDoorZ6f2c931c
import Derived.Test.YtagffbblalldiaaGreatDoorZacead438
import Derived.Lib.SlBytesConst
import Derived.Lib.IndexBytes
import Derived.Lib.Strings
import Derived.Shelf.Strings.SlTrimAscii
import Derived.Lib.SlTrimSet
import Derived.Lib.LastIndexByte
namespace Go.Proofs.YtagffbblalldiaaGreatDoor.P
open Go.RowKit Go.Proofs.YtagffbblalldiaaGreatDoorW.PrintWords Go.Proofs.YtagffbblalldiaaGreatDoorW.PrintLast Go.Proofs.YtagffbblalldiaaGreatDoorW.PrintMore
attribute [local go_sem] max2_int min2_int max_two min_two max_three min_three max_four min_four
set_option linter.unusedVariables false
set_option linter.unusedSimpArgs false
def as_b:List Int:=[71,69,84,32,47,32,72,84,84,80,47,49,46,49,13,10,72,111,115,116,58,32,97,13,10,13,10]
def as_n:List Int:=[71,69,84,32,47,32,72,84,84,80,47,49,46,49,10,72,111,115,116,58,32,97,13,10,13,10]
def as_w:List Int:=[80,85,84,32,47,32,72,84,84,80,47,49,46,49,13,10,72,111,115,116,58,32,97,13,10,69,120,112,101,99,116,58,32,49,48,48,45,67,111,110,116,105,110,117,101,13,10,67,111,110,116,101,110,116,45,76,101,110,103,116,104,58,32,50,13,10,13,10,97]
def as_fs:List (S36):=[⟨⟨#[72,111,115,116]⟩,⟨#[97]⟩⟩]
theorem as_1:http_Request.f 80 (as_b ++ bytesOf ⟨#[109,111,114,101]⟩)=some (⟨#[71,69,84]⟩,⟨#[47]⟩,1,as_fs,[],27,0):=by kernel_rfl
theorem as_2:http_Request.f 80 (as_b.take 20)=some (⟨#[]⟩,⟨#[]⟩,0,[],[],0,0):=by kernel_rfl
theorem as_3:http_Request.f 80 as_n=some (⟨#[]⟩,⟨#[]⟩,0,[],[],0,400):=by kernel_rfl
theorem as_4:http_Host.f 80 ⟨#[71,69,84]⟩ ⟨#[47]⟩ 1 as_fs []=some ⟨#[97]⟩:=by kernel_rfl
theorem as_5:http_WriteRequest.f 80 ⟨#[71,69,84]⟩ ⟨#[47]⟩ 1 as_fs []=some as_b:=by kernel_rfl
theorem as_6:tollbarref01_SameBytes.f 80 as_b as_b=some true:=by kernel_rfl
theorem as_7:http_Waits.f 80 as_w=some true:=by kernel_rfl
theorem as_8:http_Waits.f 80 as_b=some false:=by kernel_rfl
def tollbarlaw08_asking.f:Option Bool:=some true
set_option maxHeartbeats 8000000 in
set_option maxRecDepth 100000 in
theorem tollbarlaw08_asking.calls (r:Bool) (w:World) (h:tollbarlaw08_asking.f=some r) (ht:Tabs w) :
 Calls Tryz.prog 11 #[] w fun e w' => e = .returned (.bool r)∧Below w.heap.size w w' := by
 obtain rfl:=Option.some.inj h
 clear h
 have HTB:=Aside0.mk ht
 clear ht
 have hu3:=Tryz.underlying26
 have kc:=fun (w:World) (C:Array Value) (n c:Nat)=>Lib.run_convert_bytes_const (P:=Tryz.prog) w 22 5 C n c Tryz.underlying22 Tryz.underlying5
 have CB:=Aside0.mk (show Kd.C (Kd.int .u8) (w.alloc (.cells #[.int .u8 71,.int .u8 69,.int .u8 84,.int .u8 32,.int .u8 47,.int .u8 32,.int .u8 72,.int .u8 84,.int .u8 84,.int .u8 80,.int .u8 47,.int .u8 49,.int .u8 46,.int .u8 49,.int .u8 13,.int .u8 10,.int .u8 72,.int .u8 111,.int .u8 115,.int .u8 116,.int .u8 58,.int .u8 32,.int .u8 97,.int .u8 13,.int .u8 10,.int .u8 13,.int .u8 10] 5 (27,28))) (some ⟨w.heap.size,0,none⟩) as_b.length as_b from C_const w 5 as_b (27,28) zb58)
 have B0:=Aside0.mk (below_alloc (Below.refl w.heap.size w) (.cells #[.int .u8 71,.int .u8 69,.int .u8 84,.int .u8 32,.int .u8 47,.int .u8 32,.int .u8 72,.int .u8 84,.int .u8 84,.int .u8 80,.int .u8 47,.int .u8 49,.int .u8 46,.int .u8 49,.int .u8 13,.int .u8 10,.int .u8 72,.int .u8 111,.int .u8 115,.int .u8 116,.int .u8 58,.int .u8 32,.int .u8 97,.int .u8 13,.int .u8 10,.int .u8 13,.int .u8 10] 5 (27,28)))
 obtain ⟨i0,hi0,hz0,hsz0,hby0⟩:=info_parts info5
 have HI:=Aside0.mk (And.intro hi0 (And.intro hz0 (And.intro hsz0 hby0)))
 clear hi0 hz0 hsz0 hby0
 have BE : ∀ V:World,BufM V (w.alloc (.cells #[.int .u8 71,.int .u8 69,.int .u8 84,.int .u8 32,.int .u8 47,.int .u8 32,.int .u8 72,.int .u8 84,.int .u8 84,.int .u8 80,.int .u8 47,.int .u8 49,.int .u8 46,.int .u8 49,.int .u8 13,.int .u8 10,.int .u8 72,.int .u8 111,.int .u8 115,.int .u8 116,.int .u8 58,.int .u8 32,.int .u8 97,.int .u8 13,.int .u8 10,.int .u8 13,.int .u8 10] 5 (27,28))).heap.size (.slice (some ⟨w.heap.size + 1,0,none⟩) 0 0) []:=fun V=>⟨w.heap.size + 1,0,rfl,zb36,Nat.le_refl _,fun j u h=>by simp at h,fun j h=>by omega⟩
 have BEE:=Aside0.mk BE
 clear BE
 go_enter Tryz.func11,Tryz.ntmps11
 go_wp2_with (first
  | ((with_reducible refine gate_builtin (b:=.append) (xs:=#[.tmp 14,.tmp 15]) rfl ?_);at_builtin;refine wp_bufM rfl (.tmp 14) (.tmp 15) 22 22 rfl (w.alloc (.cells #[.int .u8 71,.int .u8 69,.int .u8 84,.int .u8 32,.int .u8 47,.int .u8 32,.int .u8 72,.int .u8 84,.int .u8 84,.int .u8 80,.int .u8 47,.int .u8 49,.int .u8 46,.int .u8 49,.int .u8 13,.int .u8 10,.int .u8 72,.int .u8 111,.int .u8 115,.int .u8 116,.int .u8 58,.int .u8 32,.int .u8 97,.int .u8 13,.int .u8 10,.int .u8 13,.int .u8 10] 5 (27,28))).heap.size 5 i0 Tryz.underlying22 HI.out.1 HI.out.2.1 HI.out.2.2.1 HI.out.2.2.2 _ (.slice (some ⟨w.heap.size,0,none⟩) as_b.length 27) [] as_b rfl rfl (BEE.out _) (src_ints Tryz.underlying22 (Kd.C_alloc CB.out _)) zb58 (below_alloc (Below.refl (w.alloc (.cells #[.int .u8 71,.int .u8 69,.int .u8 84,.int .u8 32,.int .u8 47,.int .u8 32,.int .u8 72,.int .u8 84,.int .u8 84,.int .u8 80,.int .u8 47,.int .u8 49,.int .u8 46,.int .u8 49,.int .u8 13,.int .u8 10,.int .u8 72,.int .u8 111,.int .u8 115,.int .u8 116,.int .u8 58,.int .u8 32,.int .u8 97,.int .u8 13,.int .u8 10,.int .u8 13,.int .u8 10] 5 (27,28))).heap.size (w.alloc (.cells #[.int .u8 71,.int .u8 69,.int .u8 84,.int .u8 32,.int .u8 47,.int .u8 32,.int .u8 72,.int .u8 84,.int .u8 84,.int .u8 80,.int .u8 47,.int .u8 49,.int .u8 46,.int .u8 49,.int .u8 13,.int .u8 10,.int .u8 72,.int .u8 111,.int .u8 115,.int .u8 116,.int .u8 58,.int .u8 32,.int .u8 97,.int .u8 13,.int .u8 10,.int .u8 13,.int .u8 10] 5 (27,28)))) _).size ?_;intro v3 w3 hB3 hb3;obtain ⟨y3,hy3⟩ : ∃ y,y=([]:List Int) ++ as_b:=⟨_,rfl⟩;rw [← hy3] at hB3;obtain ⟨A3,c3,e3⟩:=hB3.form;subst e3;have Y3:=Aside0.mk hy3;have BU3:=Aside0.mk hB3;have L3:=Aside0.mk ((below_alloc (Below.refl (w.alloc (.cells #[.int .u8 71,.int .u8 69,.int .u8 84,.int .u8 32,.int .u8 47,.int .u8 32,.int .u8 72,.int .u8 84,.int .u8 84,.int .u8 80,.int .u8 47,.int .u8 49,.int .u8 46,.int .u8 49,.int .u8 13,.int .u8 10,.int .u8 72,.int .u8 111,.int .u8 115,.int .u8 116,.int .u8 58,.int .u8 32,.int .u8 97,.int .u8 13,.int .u8 10,.int .u8 13,.int .u8 10] 5 (27,28))).heap.size (w.alloc (.cells #[.int .u8 71,.int .u8 69,.int .u8 84,.int .u8 32,.int .u8 47,.int .u8 32,.int .u8 72,.int .u8 84,.int .u8 84,.int .u8 80,.int .u8 47,.int .u8 49,.int .u8 46,.int .u8 49,.int .u8 13,.int .u8 10,.int .u8 72,.int .u8 111,.int .u8 115,.int .u8 116,.int .u8 58,.int .u8 32,.int .u8 97,.int .u8 13,.int .u8 10,.int .u8 13,.int .u8 10] 5 (27,28)))) (.cells #[] 5)).trans hb3);clear hy3 hB3 hb3)
  | ((with_reducible refine gate_builtin (b:=.append) (xs:=#[.tmp 16,.const (.string ⟨#[109,111,114,101]⟩)]) rfl ?_);at_builtin;refine wp_bufM rfl (.tmp 16) (.const (.string ⟨#[109,111,114,101]⟩)) 22 9 rfl (w.alloc (.cells #[.int .u8 71,.int .u8 69,.int .u8 84,.int .u8 32,.int .u8 47,.int .u8 32,.int .u8 72,.int .u8 84,.int .u8 84,.int .u8 80,.int .u8 47,.int .u8 49,.int .u8 46,.int .u8 49,.int .u8 13,.int .u8 10,.int .u8 72,.int .u8 111,.int .u8 115,.int .u8 116,.int .u8 58,.int .u8 32,.int .u8 97,.int .u8 13,.int .u8 10,.int .u8 13,.int .u8 10] 5 (27,28))).heap.size 5 i0 Tryz.underlying22 HI.out.1 HI.out.2.1 HI.out.2.2.1 HI.out.2.2.2 _ (.string ⟨#[109,111,114,101]⟩) y3 (bytesOf ⟨#[109,111,114,101]⟩) rfl rfl BU3.out (src_bytes _ Tryz.underlying9 ⟨#[109,111,114,101]⟩) (by rw [Y3.out];decide) L3.out.size ?_;intro v4 w4 hB4 hb4;obtain ⟨y4,hy4⟩ : ∃ y,y=y3 ++ bytesOf ⟨#[109,111,114,101]⟩:=⟨_,rfl⟩;rw [← hy4] at hB4;obtain ⟨A4,c4,e4⟩:=hB4.form;subst e4;have Y4:=Aside0.mk (show y4=as_b ++ bytesOf ⟨#[109,111,114,101]⟩ by rw [hy4,Y3.out];rfl);have BU4:=Aside0.mk hB4;have LW:=Aside0.mk (L3.out.trans hb4);have L4:=Aside0.mk (B0.out.trans (hbase2 B0.out.size (L3.out.trans hb4)));have CB4:=Aside0.mk (Kd.C_below CB.out (L3.out.trans hb4));clear hy4 hB4 hb4))
 go_at_call 12
 refine (http_Request.calls 80 A4 c4 y4 _ _ _ _ _ _ _ w4 (BufM.reads' BU4.out (by rw [Y4.out];decide)).2.2 (BufM.reads' BU4.out (by rw [Y4.out];decide)).2.1 (by rw [Y4.out];exact as_1)).mono ?_
 rintro e w5 ⟨v1,v2,rfl,h1,h2,hb⟩
 obtain ⟨A1,c1,rfl,hl1,hC1⟩:=Kd.R_reads h1
 obtain ⟨A2,c2,rfl⟩:=Kd.R_slice h2
 have B5:=Aside0.mk (below_alloc (below_step L4.out hb) (.cells #[.string ⟨#[71,69,84]⟩,.string ⟨#[47]⟩,.int .i64 1,.slice A1 1 c1,.slice A2 0 c2] 26 (0,0)))
 have R1:=Aside0.mk (Kd.C_alloc hC1 (.cells #[.string ⟨#[71,69,84]⟩,.string ⟨#[47]⟩,.int .i64 1,.slice A1 1 c1,.slice A2 0 c2] 26 (0,0)))
 have X5:=Aside0.mk (blk_new w5 (.cells #[.string ⟨#[71,69,84]⟩,.string ⟨#[47]⟩,.int .i64 1,.slice A1 1 c1,.slice A2 0 c2] 26 (0,0)))
 have C5:=Aside0.mk (Kd.C_alloc (Kd.C_below CB4.out hb) (.cells #[.string ⟨#[71,69,84]⟩,.string ⟨#[47]⟩,.int .i64 1,.slice A1 1 c1,.slice A2 0 c2] 26 (0,0)))
 clear h1 h2 hC1 hb
 obtain ⟨hsl,hrd,hcc⟩:=print_take_of (P:=Tryz.prog) (Value.int .u8) 0 22 5 .i64 Tryz.underlying22 HI.out.1 HI.out.2.2.1 (some ⟨w.heap.size,0,none⟩) 27 as_b 20 zb58 zb58 zb58
 have C6:=Aside0.mk (Kd.C_of_reads (h1:=fun _=>rfl) (hrd _ (Kd.reads_of_C C5.out)))
 have hsl' : ∀ W:World,(Instr.slice 22 (.slice (some ⟨w.heap.size,0,none⟩) 27 27) none (some (.int .i64 20)) none).run Tryz.prog W = .ok (.slice (some ⟨w.heap.size,0,none⟩) 20 27) W:=hsl
 clear hsl hrd hcc
 simp only [show as_fs.length=1 from rfl,List.length_nil]
 go_wp2_with fail
 go_at_call 12
 refine (http_Request.calls 80 (some ⟨w.heap.size,0,none⟩) 27 (as_b.take 20) _ _ _ _ _ _ _ _ C6.out zb58 as_2).mono ?_
 rintro e w6 ⟨v3,v4,rfl,h3,h4,hb⟩
 obtain ⟨A5,c5,rfl⟩:=Kd.R_slice h3
 obtain ⟨A6,c6,rfl⟩:=Kd.R_slice h4
 have B6:=Aside0.mk (below_alloc (below_step B5.out hb) (.cells #[.string ⟨#[]⟩,.string ⟨#[]⟩,.int .i64 0,.slice A5 0 c5,.slice A6 0 c6] 26 (0,0)))
 have C7:=Aside0.mk (Kd.C_alloc (Kd.C_below C5.out hb) (.cells #[.string ⟨#[]⟩,.string ⟨#[]⟩,.int .i64 0,.slice A5 0 c5,.slice A6 0 c6] 26 (0,0)))
 have R2:=Aside0.mk (Kd.C_alloc (Kd.C_below R1.out hb) (.cells #[.string ⟨#[]⟩,.string ⟨#[]⟩,.int .i64 0,.slice A5 0 c5,.slice A6 0 c6] 26 (0,0)))
 have X6:=Aside0.mk (blk_alloc (blk_below X5.out hb) (.cells #[.string ⟨#[]⟩,.string ⟨#[]⟩,.int .i64 0,.slice A5 0 c5,.slice A6 0 c6] 26 (0,0)))
 have hz:(w6.alloc (.cells #[.string ⟨#[]⟩,.string ⟨#[]⟩,.int .i64 0,.slice A5 0 c5,.slice A6 0 c6] 26 (0,0))).heap.size=w6.heap.size + 1:=by simp
 have kc2:=Lib.run_convert_bytes_const (P:=Tryz.prog) (w6.alloc (.cells #[.string ⟨#[]⟩,.string ⟨#[]⟩,.int .i64 0,.slice A5 0 c5,.slice A6 0 c6] 26 (0,0))) 22 5 #[.int .u8 71,.int .u8 69,.int .u8 84,.int .u8 32,.int .u8 47,.int .u8 32,.int .u8 72,.int .u8 84,.int .u8 84,.int .u8 80,.int .u8 47,.int .u8 49,.int .u8 46,.int .u8 49,.int .u8 10,.int .u8 72,.int .u8 111,.int .u8 115,.int .u8 116,.int .u8 58,.int .u8 32,.int .u8 97,.int .u8 13,.int .u8 10,.int .u8 13,.int .u8 10] 26 26 Tryz.underlying22 Tryz.underlying5
 rw [hz] at kc2
 have hcn:=C_const (w6.alloc (.cells #[.string ⟨#[]⟩,.string ⟨#[]⟩,.int .i64 0,.slice A5 0 c5,.slice A6 0 c6] 26 (0,0))) 5 as_n (26,27) zb58
 rw [hz] at hcn
 have CN:=Aside0.mk hcn
 clear h3 h4 hb hcn hz hsl'
 simp only [List.length_nil]
 go_wp2_with fail
 go_at_call 12
 refine (http_Request.calls 80 (some ⟨w6.heap.size + 1,0,none⟩) 26 as_n _ _ _ _ _ _ _ _ CN.out zb58 as_3).mono ?_
 rintro e w7 ⟨v5,v6,rfl,h5,h6,hb⟩
 obtain ⟨A7,c7,rfl⟩:=Kd.R_slice h5
 obtain ⟨A8,c8,rfl⟩:=Kd.R_slice h6
 have B7:=Aside0.mk (below_alloc (below_step (below_alloc B6.out _) hb) (.cells #[.string ⟨#[]⟩,.string ⟨#[]⟩,.int .i64 0,.slice A7 0 c7,.slice A8 0 c8] 26 (0,0)))
 have C8:=Aside0.mk (Kd.C_alloc (Kd.C_below (Kd.C_alloc C7.out _) hb) (.cells #[.string ⟨#[]⟩,.string ⟨#[]⟩,.int .i64 0,.slice A7 0 c7,.slice A8 0 c8] 26 (0,0)))
 have R3:=Aside0.mk (Kd.C_alloc (Kd.C_below (Kd.C_alloc R2.out _) hb) (.cells #[.string ⟨#[]⟩,.string ⟨#[]⟩,.int .i64 0,.slice A7 0 c7,.slice A8 0 c8] 26 (0,0)))
 have X7:=Aside0.mk (blk_alloc (blk_below (blk_alloc X6.out _) hb) (.cells #[.string ⟨#[]⟩,.string ⟨#[]⟩,.int .i64 0,.slice A7 0 c7,.slice A8 0 c8] 26 (0,0)))
 have q0:(w7.alloc (.cells #[.string ⟨#[]⟩,.string ⟨#[]⟩,.int .i64 0,.slice A7 0 c7,.slice A8 0 c8] 26 (0,0))).cell? ⟨w5.heap.size,0,none⟩=some (.string ⟨#[71,69,84]⟩):=(blk_cell X7.out 0).trans rfl
 have q1:(w7.alloc (.cells #[.string ⟨#[]⟩,.string ⟨#[]⟩,.int .i64 0,.slice A7 0 c7,.slice A8 0 c8] 26 (0,0))).cell? ⟨w5.heap.size,1,none⟩=some (.string ⟨#[47]⟩):=(blk_cell X7.out 1).trans rfl
 have q2:(w7.alloc (.cells #[.string ⟨#[]⟩,.string ⟨#[]⟩,.int .i64 0,.slice A7 0 c7,.slice A8 0 c8] 26 (0,0))).cell? ⟨w5.heap.size,2,none⟩=some (.int .i64 1):=(blk_cell X7.out 2).trans rfl
 have q3:(w7.alloc (.cells #[.string ⟨#[]⟩,.string ⟨#[]⟩,.int .i64 0,.slice A7 0 c7,.slice A8 0 c8] 26 (0,0))).cell? ⟨w5.heap.size,3,none⟩=some (.slice A1 1 c1):=(blk_cell X7.out 3).trans rfl
 have q4:(w7.alloc (.cells #[.string ⟨#[]⟩,.string ⟨#[]⟩,.int .i64 0,.slice A7 0 c7,.slice A8 0 c8] 26 (0,0))).cell? ⟨w5.heap.size,4,none⟩=some (.slice A2 0 c2):=(blk_cell X7.out 4).trans rfl
 clear h5 h6 hb kc2
 simp only [List.length_nil]
 go_wp2_with fail
 go_at_call 19
 refine (http_Host.calls 80 ⟨#[71,69,84]⟩ ⟨#[47]⟩ 1 A1 c1 as_fs A2 c2 [] ⟨#[97]⟩ _ R3.out hl1 ⟨rfl,zb36,fun h=>absurd h (Nat.lt_irrefl 0)⟩ (Nat.zero_le _) as_4).mono ?_
 rintro e w8 ⟨rfl,hb⟩
 have B8:=Aside0.mk (below_step B7.out hb)
 have C9:=Aside0.mk (Kd.C_below C8.out hb)
 have R4:=Aside0.mk (Kd.C_below R3.out hb)
 have X8:=Aside0.mk (blk_below X7.out hb)
 have q0:w8.cell? ⟨w5.heap.size,0,none⟩=some (.string ⟨#[71,69,84]⟩):=(blk_cell X8.out 0).trans rfl
 have q1:w8.cell? ⟨w5.heap.size,1,none⟩=some (.string ⟨#[47]⟩):=(blk_cell X8.out 1).trans rfl
 have q2:w8.cell? ⟨w5.heap.size,2,none⟩=some (.int .i64 1):=(blk_cell X8.out 2).trans rfl
 have q3:w8.cell? ⟨w5.heap.size,3,none⟩=some (.slice A1 1 c1):=(blk_cell X8.out 3).trans rfl
 have q4:w8.cell? ⟨w5.heap.size,4,none⟩=some (.slice A2 0 c2):=(blk_cell X8.out 4).trans rfl
 clear hb
 go_wp2_with fail
 go_at_call 24
 refine (http_WriteRequest.callsB 80 ⟨#[71,69,84]⟩ ⟨#[47]⟩ 1 A1 c1 as_fs A2 c2 [] as_b w8 R4.out hl1 ⟨rfl,zb36,fun h=>absurd h (Nat.lt_irrefl 0)⟩ (Nat.zero_le _) as_5 (HTB.out.below B8.out)).mono ?_
 rintro e w9 ⟨v7,rfl,hB,hb⟩
 obtain ⟨A9,c9,rfl,hl9,hC9⟩:=hB.reads zb58
 have B9:=Aside0.mk (below_step B8.out hb)
 have C10:=Aside0.mk (Kd.C_below C9.out hb)
 have R9:=Aside0.mk hC9
 clear hB hC9 hb
 go_wp2_with fail
 go_at_call 25
 refine (tollbarref01_SameBytes.calls 80 A9 c9 as_b (some ⟨w.heap.size,0,none⟩) 27 as_b true w9 R9.out hl9 C10.out zb58 as_6).mono ?_
 rintro e w10 ⟨rfl,hd⟩
 have hb:Below w9.heap.size w9 w10:=by
  obtain ⟨n,rfl⟩:=hd.out
  exact pw_below_drewN (Below.refl _ _) _
 have B10:=Aside0.mk (below_step B9.out hb)
 have C11:=Aside0.mk (Kd.C_below C10.out hb)
 clear hd hb
 go_wp2_with fail
 go_at_call 17
 refine (http_Waits.calls 80 (some ⟨w10.heap.size,0,none⟩) 69 as_w true _ (C_const w10 5 as_w (69,70) zb58) zb58 as_7).mono ?_
 rintro e w11 ⟨rfl,hb⟩
 have B11:=Aside0.mk (below_step (below_alloc B10.out _) hb)
 have C12:=Aside0.mk (Kd.C_below (Kd.C_alloc C11.out _) hb)
 clear hb
 go_wp2_with fail
 go_at_call 17
 refine (http_Waits.calls 80 (some ⟨w.heap.size,0,none⟩) 27 as_b false w11 C12.out zb58 as_8).mono ?_
 rintro e w12 ⟨rfl,hb⟩
 have B12:=Aside0.mk (below_step B11.out hb)
 clear hb
 go_wp2
 go_ret
 exact ⟨zb53,B12.out⟩
/-- A text,put behind until it is there often enough. -/
def limA:Nat → ByteArray → Int → Int → ByteArray → Option ByteArray
 | 0,_,_,_,_=>none
 | k + 1,x,n,i,s=>if s.size ≤ 1000000000 then (if i < n then limA k x n (wrap64 (i + 1)) (s ++ x) else some s) else none
def limEnd (k:Nat) (c:Int) (s:ByteArray):Option Bool :=
 (http_Request.f k (bytesOf (s ++ (⟨#[13,10]⟩:ByteArray)))).bind fun r=>if c > 40 then (if r.2.2.2.2.2.2=431∧r.2.2.2.2.2.1=0 then some true else none) else if 2048 < s.size + 2 then (if r.2.2.2.2.2.2=431∧r.2.2.2.2.2.1=0 then some true else none) else (if r.2.2.2.2.2.2=0∧r.2.2.2.2.2.1=(s.size:Int) + 2∧(r.2.2.2.1.length:Int)=c then some true else none)
def limO:Nat → Int → Int → ByteArray → Option Bool
 | 0,_,_,_=>none
 | k + 1,sz,c,s=>if s.size ≤ 1000000000∧0 ≤ sz∧sz ≤ 1000000000 then (if (s.size:Int) + 7 ≤ sz then ((limA k (⟨#[120]⟩:ByteArray) (if sz - s.size - 7 < 900 then sz - s.size - 7 else 900) 0 (s ++ (⟨#[88,58,32]⟩:ByteArray))).bind fun t=>if t.size ≤ 1000000000 then limO k sz (wrap64 (c + 1)) (t ++ (⟨#[13,10]⟩:ByteArray)) else none) else limEnd k c s) else none
def tollbarlaw08_HttpLimits.f (k:Nat) (a0 a1:Int):Option Bool :=
 (limA k (⟨#[102,58,32,118,13,10]⟩:ByteArray) (Go.bits .and .i64 a0 63) 0 (⟨#[71,69,84,32,47,32,72,84,84,80,47,49,46,49,13,10,72,111,115,116,58,32,97,13,10]⟩:ByteArray)).bind fun s=>limO k (wrap64 (1900 + Go.bits .and .i64 a1 255)) (wrap64 (Go.bits .and .i64 a0 63 + 1)) s
set_option maxHeartbeats 16000000 in
set_option maxRecDepth 100000 in
theorem tollbarlaw08_HttpLimits.calls (k:Nat) (a0 a1:Int) (r:Bool) (w:World) (h:tollbarlaw08_HttpLimits.f k a0 a1=some r) (hr:r=true) (ht:Tabs w) :
 Calls Tryz.prog 4 #[.int .i64 a0,.int .i64 a1] w fun e w' => e = .returned (.bool r)∧Below w.heap.size w w' := by
 subst hr
 have hu:=Tryz.underlying26
 have HT:=Aside0.mk ht
 clear ht
 unfold tollbarlaw08_HttpLimits.f at h
 obtain ⟨fn,hfn⟩ : ∃ fn,fn=Go.bits .and .i64 a0 63:=⟨_,rfl⟩
 obtain ⟨sz,hsz⟩ : ∃ sz,sz=wrap64 (1900 + Go.bits .and .i64 a1 255):=⟨_,rfl⟩
 rw [← hfn,← hsz] at h
 replace hfn:=hfn.symm
 replace hsz:=hsz.symm
 obtain ⟨s0,hs0,h'⟩:=Option.bind_eq_some_iff.1 h
 clear h
 have H0:=Aside0.mk hs0
 have H1:=Aside0.mk h'
 clear hs0 h'
 go_enter Tryz.func4,Tryz.ntmps4
 go_wp2_with (first
  | (go_at_call 11;refine (tollbarlaw08_asking.calls true _ rfl HT.out).mono ?_;rintro E w1 ⟨rfl,hb⟩;have L1:=Aside0.mk hb;clear hb))
 go_loopg [5,6] k (fun kq v5 v6 wr => ∃ (i:Int) (s:ByteArray),v5 = .string s∧v6 = .int .i64 i∧Aside0 (limA kq (⟨#[102,58,32,118,13,10]⟩:ByteArray) fn i s=some s0)∧Aside0 (Below w.heap.size w wr))
 case atStart=>exact ⟨0,_,rfl,rfl,H0,L1⟩
 case round =>
  obtain ⟨i,s,rfl,rfl,H,HB⟩:=hrel
  clear H0 L1
  cases gk with
  | zero=>exact absurd H.out (by simp [limA])
  | succ ka =>
   have h:=H.out
   clear H
   simp only [limA] at h
   by_cases bs:s.size ≤ 1000000000;rotate_left
   ·rw [if_neg bs] at h
    cases h
   rw [if_pos bs] at h
   have f1:(s.size + 6 ≤ 9223372036854775807)=True:=eq_true zb14
   have f2:(9223372036854775807 < s.size + 6)=False:=eq_false zb14
   by_cases b2:i < fn
   ·rw [if_pos b2] at h
    have H:=Aside0.mk h
    have d0:decide (i < fn)=true:=decide_eq_true b2
    replace b2:=eq_true b2
    clear h bs
    go_wp2
    go_roundg ka
    case rel=>exact ⟨wrap64 (i + 1),_,zb53,zb53,H,HB⟩
    case measure=>exact Nat.lt_succ_self ka
   rw [if_neg b2] at h
   injection h with h
   subst h
   have d0:decide (i < fn)=false:=decide_eq_false b2
   replace b2:=eq_false b2
   clear f1 f2
   go_wp2
   go_loopg [5,7,8,9] k (fun kq v5 v7 _ _ wr => ∃ (c:Int) (s:ByteArray),v5 = .string s∧v7 = .int .i64 c∧Aside0 (limO kq sz c s=some true)∧Aside0 (Below w.heap.size w wr))
   case atStart=>exact ⟨_,_,rfl,rfl,H1,HB⟩
   case round =>
    clear HB
    obtain ⟨c,s,rfl,rfl,H,HB⟩:=hrel
    clear H1
    cases gk with
    | zero=>exact absurd H.out (by simp [limO])
    | succ kb =>
     have h:=H.out
     clear H
     simp only [limO] at h
     by_cases bs:s.size ≤ 1000000000∧0 ≤ sz∧sz ≤ 1000000000
     ·rw [if_pos bs] at h
      by_cases b2:(s.size:Int) + 7 ≤ sz;rotate_left
      ·rw [if_neg b2] at h
       have d0:decide ((s.size:Int) + 7 ≤ sz)=false:=decide_eq_false b2
       have d0' : ((s.size:Int) + 7 ≤ sz)=False:=eq_false b2
       have w1_:wrap64 (wrap64 ((s.size:Int) + 2) + 5)=(s.size:Int) + 7:=by unfold wrap64;omega
       have w2_:wrap64 ((s.size:Int) + 2)=(s.size:Int) + 2:=by unfold wrap64;omega
       have w3_:wrap64 ((s.size:Int) + 2 + 5)=(s.size:Int) + 7:=by unfold wrap64;omega
       clear b2
       unfold limEnd at h
       obtain ⟨⟨r1,r2,r3,r4,r5,r6,r7⟩,hq_,h'⟩:=Option.bind_eq_some_iff.1 h
       clear h
       have HQ:=Aside0.mk hq_
       have e3:(s ++ (⟨#[13,10]⟩:ByteArray)).size=s.size + 2:=ByteArray.size_append ..
       have HLQ:=Aside0.mk (show (bytesOf (s ++ (⟨#[13,10]⟩:ByteArray))).length ≤ 9223372036854775807 by rw [bytesOf_length];omega)
       have EL:=Aside0.mk (show s.size + 2=(bytesOf (s ++ (⟨#[13,10]⟩:ByteArray))).length by rw [bytesOf_length];exact e3.symm)
       have LCAP:=Aside0.mk (show (bytesOf (s ++ (⟨#[13,10]⟩:ByteArray))).length ≤ grownCap wr (bytesOf (s ++ (⟨#[13,10]⟩:ByteArray))).length 0 5 from by have z:=(BufM.reads' (bufM_conv wr 5 (s ++ (⟨#[13,10]⟩:ByteArray))) HLQ.out).2.1;rw [← bytesOf_length (s ++ (⟨#[13,10]⟩:ByteArray))] at z;exact z)
       have f1:(s.size + 2 ≤ 9223372036854775807)=True:=eq_true zb14
       have f2:(9223372036854775807 < s.size + 2)=False:=eq_false zb14
       have f3:(s.size + 2 ≤ 140737488355328)=True:=eq_true zb14
       have f4:(140737488355328 < s.size + 2)=False:=eq_false zb14
       have hconv : ∀ (W:World) (y:ByteArray),(convert 9 22 (.string y)).run Tryz.prog W = .ok (.slice (some ⟨W.heap.size,0,none⟩) y.size (grownCap W y.size 0 5)) (Lib.bytesWorld W 5 y):=fun W y=>Lib.run_convert_string_bytes W _ _ _ y Tryz.underlying9 Tryz.underlying22 Tryz.underlying5
       have LC:=Aside0.mk (show Below w.heap.size w (Lib.bytesWorld wr 5 (s ++ (⟨#[13,10]⟩:ByteArray))) from bytes_below HB.out HB.out.size _ _)
       clear hq_ e3
       try simp only at h'
       by_cases c1:c > 40
       ·rw [if_pos c1] at h'
        by_cases b6:r7=431∧r6=0;rotate_left
        ·rw [if_neg b6] at h'
         cases h'
        obtain ⟨rfl,rfl⟩:=b6
        have d1:decide (40 < c)=true:=decide_eq_true c1
        have d2:(40 < c)=True:=eq_true c1
        clear h' bs c1
        go_wp2_with (first
         | (go_at_call 12;rw [EL.out];refine (http_Request.calls kb _ _ (bytesOf (s ++ (⟨#[13,10]⟩:ByteArray))) r1 r2 r3 r4 r5 _ _ _ (BufM.reads' (bufM_conv wr 5 (s ++ (⟨#[13,10]⟩:ByteArray))) HLQ.out).2.2 LCAP.out HQ.out).mono ?_;rintro E w5 ⟨v3,v4,rfl,h3,h4,hb⟩;obtain ⟨A3,c3,rfl⟩:=Kd.R_slice h3;obtain ⟨A4,c4,rfl⟩:=Kd.R_slice h4;have BX:=Aside0.mk (blk_new w5 (.cells #[.string r1,.string r2,.int .i64 r3,.slice A3 r4.length c3,.slice A4 r5.length c4] 26 (0,0)));have L5:=Aside0.mk (below_alloc (below_step LC.out hb) (.cells #[.string r1,.string r2,.int .i64 r3,.slice A3 r4.length c3,.slice A4 r5.length c4] 26 (0,0)));clear h3 h4 hb))
        go_ret
        exact ⟨rfl,L5.out⟩
       rw [if_neg c1] at h'
       have d1:decide (40 < c)=false:=decide_eq_false c1
       have d2:(40 < c)=False:=eq_false c1
       clear c1
       by_cases c2:2048 < s.size + 2
       ·rw [if_pos c2] at h'
        by_cases b6:r7=431∧r6=0;rotate_left
        ·rw [if_neg b6] at h'
         cases h'
        obtain ⟨rfl,rfl⟩:=b6
        have d3:decide (2048 < (s.size:Int) + 2)=true:=decide_eq_true zb14
        have d4:(2048 < (s.size:Int) + 2)=True:=eq_true zb14
        have d5:decide (2048 < s.size + 2)=true:=decide_eq_true c2
        have d6:(2048 < s.size + 2)=True:=eq_true c2
        clear h' bs c2
        go_wp2_with (first
         | (go_at_call 12;rw [EL.out];refine (http_Request.calls kb _ _ (bytesOf (s ++ (⟨#[13,10]⟩:ByteArray))) r1 r2 r3 r4 r5 _ _ _ (BufM.reads' (bufM_conv wr 5 (s ++ (⟨#[13,10]⟩:ByteArray))) HLQ.out).2.2 LCAP.out HQ.out).mono ?_;rintro E w5 ⟨v3,v4,rfl,h3,h4,hb⟩;obtain ⟨A3,c3,rfl⟩:=Kd.R_slice h3;obtain ⟨A4,c4,rfl⟩:=Kd.R_slice h4;have BX:=Aside0.mk (blk_new w5 (.cells #[.string r1,.string r2,.int .i64 r3,.slice A3 r4.length c3,.slice A4 r5.length c4] 26 (0,0)));have L5:=Aside0.mk (below_alloc (below_step LC.out hb) (.cells #[.string r1,.string r2,.int .i64 r3,.slice A3 r4.length c3,.slice A4 r5.length c4] 26 (0,0)));clear h3 h4 hb))
        go_ret
        exact ⟨rfl,L5.out⟩
       rw [if_neg c2] at h'
       by_cases b6:r7=0∧r6=(s.size:Int) + 2∧(r4.length:Int)=c;rotate_left
       ·rw [if_neg b6] at h'
        cases h'
       obtain ⟨rfl,rfl,rfl⟩:=b6
       have d3:decide (2048 < (s.size:Int) + 2)=false:=decide_eq_false zb14
       have d4:(2048 < (s.size:Int) + 2)=False:=eq_false zb14
       have d5:decide (2048 < s.size + 2)=false:=decide_eq_false c2
       have d6:(2048 < s.size + 2)=False:=eq_false c2
       clear h' bs c2
       go_wp2_with (first
        | (go_at_call 12;rw [EL.out];refine (http_Request.calls kb _ _ (bytesOf (s ++ (⟨#[13,10]⟩:ByteArray))) r1 r2 r3 r4 r5 _ _ _ (BufM.reads' (bufM_conv wr 5 (s ++ (⟨#[13,10]⟩:ByteArray))) HLQ.out).2.2 LCAP.out HQ.out).mono ?_;rintro E w5 ⟨v3,v4,rfl,h3,h4,hb⟩;obtain ⟨A3,c3,rfl⟩:=Kd.R_slice h3;obtain ⟨A4,c4,rfl⟩:=Kd.R_slice h4;have BX:=Aside0.mk (blk_new w5 (.cells #[.string r1,.string r2,.int .i64 r3,.slice A3 r4.length c3,.slice A4 r5.length c4] 26 (0,0)));have L5:=Aside0.mk (below_alloc (below_step LC.out hb) (.cells #[.string r1,.string r2,.int .i64 r3,.slice A3 r4.length c3,.slice A4 r5.length c4] 26 (0,0)));clear h3 h4 hb))
       go_ret
       exact ⟨rfl,L5.out⟩
      rw [if_pos b2] at h
      obtain ⟨q,hq,h'⟩:=Option.bind_eq_some_iff.1 h
      clear h
      by_cases bq:q.size ≤ 1000000000
      ·rw [if_pos bq] at h'
       have HO2:=Aside0.mk h'
       have HI:=Aside0.mk hq
       clear hq h'
       have d0:decide ((s.size:Int) + 7 ≤ sz)=true:=decide_eq_true b2
       have d0' : ((s.size:Int) + 7 ≤ sz)=True:=eq_true b2
       have g1:(s.size + 3 ≤ 9223372036854775807)=True:=eq_true zb14
       have g2:(9223372036854775807 < s.size + 3)=False:=eq_false zb14
       have g3:(q.size + 2 ≤ 9223372036854775807)=True:=eq_true zb14
       have g4:(9223372036854775807 < q.size + 2)=False:=eq_false zb14
       have w1_:wrap64 (wrap64 ((s.size:Int) + 2) + 5)=(s.size:Int) + 7:=by unfold wrap64;omega
       have w2_:wrap64 ((s.size:Int) + 2)=(s.size:Int) + 2:=by unfold wrap64;omega
       have w3_:wrap64 ((s.size:Int) + 2 + 5)=(s.size:Int) + 7:=by unfold wrap64;omega
       have w4_:wrap64 (wrap64 (wrap64 (sz - (s.size:Int)) - 2) - 5)=sz - (s.size:Int) - 7:=by unfold wrap64;omega
       have w5_:wrap64 (sz - (s.size:Int))=sz - (s.size:Int):=by unfold wrap64;omega
       have w6_:wrap64 (sz - (s.size:Int) - 2)=sz - (s.size:Int) - 2:=by unfold wrap64;omega
       have w7_:wrap64 (sz - (s.size:Int) - 2 - 5)=sz - (s.size:Int) - 7:=by unfold wrap64;omega
       by_cases bm:sz - (s.size:Int) - 7 < 900
       ·rw [if_pos bm] at HI
        have m1:=eq_true bm
        clear bm bs b2 bq
        go_wp2
        go_loopg [5,9] kb (fun kq v5 v9 wr => ∃ (i:Int) (y:ByteArray),v5 = .string y∧v9 = .int .i64 i∧Aside0 (limA kq (⟨#[120]⟩:ByteArray) (sz - (s.size:Int) - 7) i y=some q)∧Aside0 (Below w.heap.size w wr))
        case atStart=>exact ⟨0,_,rfl,rfl,HI,HB⟩
        case round =>
         clear HB
         obtain ⟨i,y,rfl,rfl,H,HB⟩:=hrel
         clear HI
         cases gk with
         | zero=>exact absurd H.out (by simp [limA])
         | succ kc =>
          have h:=H.out
          clear H
          simp only [limA] at h
          by_cases bs:y.size ≤ 1000000000
          ·rw [if_pos bs] at h
           have f1:(y.size + 1 ≤ 9223372036854775807)=True:=eq_true zb14
           have f2:(9223372036854775807 < y.size + 1)=False:=eq_false zb14
           by_cases b2:i < (sz - (s.size:Int) - 7)
           ·rw [if_pos b2] at h
            have H:=Aside0.mk h
            have d0:decide (i < (sz - (s.size:Int) - 7))=true:=decide_eq_true b2
            replace b2:=eq_true b2
            clear h bs
            go_wp2
            go_roundg kc
            case rel=>exact ⟨wrap64 (i + 1),_,zb53,zb53,H,HB⟩
            case measure=>exact Nat.lt_succ_self kc
           ·rw [if_neg b2] at h
            injection h with h
            subst h
            have d0:decide (i < (sz - (s.size:Int) - 7))=false:=decide_eq_false b2
            replace b2:=eq_false b2
            clear f1 f2
            go_wp2
            go_roundg kb
            case rel=>exact ⟨wrap64 (c + 1),_,zb53,zb53,HO2,HB⟩
            case measure=>exact Nat.lt_succ_self kb
          ·rw [if_neg bs] at h
           cases h
       ·rw [if_neg bm] at HI
        have m1:=eq_false bm
        clear bm bs b2 bq
        go_wp2
        go_loopg [5,9] kb (fun kq v5 v9 wr => ∃ (i:Int) (y:ByteArray),v5 = .string y∧v9 = .int .i64 i∧Aside0 (limA kq (⟨#[120]⟩:ByteArray) 900 i y=some q)∧Aside0 (Below w.heap.size w wr))
        case atStart=>exact ⟨0,_,rfl,rfl,HI,HB⟩
        case round =>
         clear HB
         obtain ⟨i,y,rfl,rfl,H,HB⟩:=hrel
         clear HI
         cases gk with
         | zero=>exact absurd H.out (by simp [limA])
         | succ kc =>
          have h:=H.out
          clear H
          simp only [limA] at h
          by_cases bs:y.size ≤ 1000000000
          ·rw [if_pos bs] at h
           have f1:(y.size + 1 ≤ 9223372036854775807)=True:=eq_true zb14
           have f2:(9223372036854775807 < y.size + 1)=False:=eq_false zb14
           by_cases b2:i < 900
           ·rw [if_pos b2] at h
            have H:=Aside0.mk h
            have d0:decide (i < 900)=true:=decide_eq_true b2
            replace b2:=eq_true b2
            clear h bs
            go_wp2
            go_roundg kc
            case rel=>exact ⟨wrap64 (i + 1),_,zb53,zb53,H,HB⟩
            case measure=>exact Nat.lt_succ_self kc
           ·rw [if_neg b2] at h
            injection h with h
            subst h
            have d0:decide (i < 900)=false:=decide_eq_false b2
            replace b2:=eq_false b2
            clear f1 f2
            go_wp2
            go_roundg kb
            case rel=>exact ⟨wrap64 (c + 1),_,zb53,zb53,HO2,HB⟩
            case measure=>exact Nat.lt_succ_self kb
          ·rw [if_neg bs] at h
           cases h
      ·rw [if_neg bq] at h'
       cases h'
     ·rw [if_neg bs] at h
      cases h
end Go.Proofs.YtagffbblalldiaaGreatDoor.P
namespace Go.Proofs.YtagffbblalldiaaGreatDoor.Pure
open Go.RowKit Go.Proofs.YtagffbblalldiaaGreatDoor.P Go.Proofs.YtagffbblalldiaaGreatDoorW.PrintWords Go.Proofs.YtagffbblalldiaaGreatDoorW.PrintLast Go.Proofs.YtagffbblalldiaaGreatDoorW.PrintMore
set_option linter.unusedVariables false
set_option linter.unusedSimpArgs false
theorem and_mask (x : Int) (j : Nat) (hj : j ≤ 62) : Go.bits .and .i64 x (2 ^ j - 1) = x % 2 ^ j := by
  have hpos : 0 < 2 ^ j := Nat.two_pow_pos j
  have hlt : 2 ^ j ≤ 2 ^ 62 := Nat.pow_le_pow_right (by decide) hj
  have hc : ((2 : Int) ^ j - 1) = ((2 ^ j - 1 : Nat) : Int) := by rw [Int.natCast_sub hpos]; simp
  have hb : (2 ^ j - 1) % 2 ^ 64 = 2 ^ j - 1 := Nat.mod_eq_of_lt (by omega)
  have hd : ((2 : Int) ^ j) ∣ 2 ^ 64 := ⟨2 ^ (64 - j), by rw [← Int.pow_add]; congr 1; omega⟩
  have hk : (BitVec.ofInt 64 x &&& BitVec.ofInt 64 ((2 ^ j - 1 : Nat) : Int)).toNat = (x % ((2 ^ 64 : Nat) : Int)).toNat % 2 ^ j := by
    rw [BitVec.toNat_and, BitVec.ofInt_natCast, BitVec.toNat_ofNat, hb, Nat.and_two_pow_sub_one_eq_mod, BitVec.toNat_ofInt]
  have hg : bits .and .i64 x (2 ^ j - 1) = IntKind.i64.wrap (((BitVec.ofInt 64 x &&& BitVec.ofInt 64 ((2 ^ j - 1 : Nat) : Int)).toNat : Nat) : Int) := by rw [hc]; rfl
  have hx : (((x % ((2 ^ 64 : Nat) : Int)).toNat % 2 ^ j : Nat) : Int) = x % 2 ^ j := by
    rw [Int.natCast_emod, Int.toNat_of_nonneg (Int.emod_nonneg _ (by decide))]
    have := Int.emod_emod_of_dvd x hd
    simpa using this
  rw [hg, hk, hx, IntKind.wrap_i64]
  have h1 : 0 ≤ x % (2 : Int) ^ j := Int.emod_nonneg _ (by have : (0 : Int) < 2 ^ j := by exact_mod_cast hpos
                                                           omega)
  have h2 : x % (2 : Int) ^ j < 2 ^ j := Int.emod_lt_of_pos _ (by exact_mod_cast hpos)
  have h3 : (2 : Int) ^ j ≤ 2 ^ 62 := by exact_mod_cast hlt
  have h4 : (2 : Int) ^ 62 = 4611686018427387904 := by decide
  omega
theorem and_63 (x:Int):Go.bits .and .i64 x 63=x % 64:=and_mask x 6 (by decide)
theorem str_append (xs ys:List Int):strOfNums (xs ++ ys)=strOfNums xs ++ strOfNums ys:=by
 apply ByteArray.ext
 simp [strOfNums]
theorem str_size (xs:List Int):(strOfNums xs).size=xs.length:=strOfNums_size xs
theorem rd_append_left (l x:List Int) (i:Int) (h0:0 ≤ i) (h:i < (l.length:Int)):rd (l ++ x) i=rd l i:=by
 unfold rd
 rw [List.getD_eq_getElem?_getD,List.getD_eq_getElem?_getD,List.getElem?_append_left (by omega)]
theorem rd_append_right (l x:List Int) (i:Int) (h:(l.length:Int) ≤ i):rd (l ++ x) i=rd x (i - l.length):=by
 unfold rd
 rw [List.getD_eq_getElem?_getD,List.getD_eq_getElem?_getD,List.getElem?_append_right (by omega)]
 congr 2
 omega
theorem take_two (l:List Int) (i:Int) (h0:0 ≤ i) (h:i + 1 < (l.length:Int)):l.take (i + 2).toNat=l.take i.toNat ++ [rd l i,rd l (i + 1)]:=by
 obtain ⟨n,rfl⟩:=Int.eq_ofNat_of_zero_le h0
 have e1:((n:Int) + 2).toNat=n + 1 + 1:=by omega
 have h1:n + 1 < l.length:=by omega
 rw [e1,List.take_succ_eq_append_getElem h1,List.take_succ_eq_append_getElem (by omega)]
 have e2:((n:Int) + 1).toNat=n + 1:=by omega
 simp only [Int.toNat_natCast,rd,e2,List.getD_eq_getElem?_getD,List.getElem?_eq_getElem h1,List.getElem?_eq_getElem (show n < l.length by omega),Option.getD_some,List.append_assoc,List.cons_append,List.nil_append]
theorem w64 {i:Int} {n:Nat} (c:Int) (h0:0 ≤ i) (h:i < (n:Int)) (hn:n ≤ 140737488355328) (hc0 : -3 ≤ c) (hc:c ≤ 3):wrap64 (i + c)=i + c:=by
 unfold wrap64;omega
theorem toList_data (s:ByteArray):s.toList=s.data.toList:=by
 simp [ByteArray.toList_eq]
theorem isEmpty_size (s:ByteArray):s.toList.isEmpty=decide (s.size=0):=by
 rw [toList_data,Bool.eq_iff_iff,List.isEmpty_iff,decide_eq_true_eq,← data_length]
 exact List.length_eq_zero_iff.symm
theorem bytes_app (a b:ByteArray):bytesOf (a ++ b)=bytesOf a ++ bytesOf b:=by
 unfold bytesOf
 rw [ByteArray.data_append,Array.toList_append,List.map_append]
/-- The line at the place i of l,with the bound m;d bytes are left. -/
def cutAt (l:List Int) (m:Int):Nat → Int → (ByteArray × Int × Int)
 | 0,_=>((⟨#[]⟩:ByteArray),0,0)
 | d + 1,i =>
  if rd l i=10 then ((⟨#[]⟩:ByteArray),0,20)
  else if rd l i=13 then
   (if i + 1 < (l.length:Int) then (if rd l (i + 1)=10 then (strOfNums (l.take i.toNat),i + 2,0) else ((⟨#[]⟩:ByteArray),0,20)) else ((⟨#[]⟩:ByteArray),0,0))
  else if m ≤ i then ((⟨#[]⟩:ByteArray),0,2) else cutAt l m d (i + 1)
theorem cut_l0 (l:List Int) (a:Int) (hn:l.length ≤ 140737488355328) (d:Nat) : ∀ (k:Nat) (i:Int),0 ≤ i → (l.length:Int) - i=d → 3 * d + 3 ≤ k →
 line_Cut.l0 k l a l (l.length:Int) i=some (cutAt l (mx a 0) d i):=by
 induction d with
 | zero =>
  intro k i h0 hd hk
  obtain ⟨k,rfl⟩ : ∃ m,k=m + 1:=⟨k - 1,by omega⟩
  simp only [line_Cut.l0,cutAt];rw [if_neg (by omega)]
 | succ d ih =>
  intro k i h0 hd hk
  obtain ⟨k,rfl⟩ : ∃ m,k=m + 3:=⟨k - 3,by omega⟩
  have hlt:i < (l.length:Int):=by omega
  have hw1:wrap64 (i + 1)=i + 1:=w64 1 h0 hlt hn (by omega) (by omega)
  have hw2:wrap64 (i + 2)=i + 2:=w64 2 h0 hlt hn (by omega) (by omega)
  have ih' := ih k (i + 1) (by omega) (by omega) (by omega)
  unfold line_Cut.l0
  rw [if_pos hlt,if_pos h0,if_pos hlt]
  unfold line_Cut.j1 line_Cut.j2
  simp only [cutAt,hw1,hw2,ih']
  by_cases h10:rd l i=10
  ·simp [h10]
  ·rw [if_neg h10]
   by_cases h13:rd l i=13
   ·simp only [h13]
    by_cases h1:i + 1 < (l.length:Int)
    ·by_cases hr:rd l (i + 1)=10
     ·have hne : ¬ (i + 1=(l.length:Int)):=by omega
      have hle:i ≤ (l.length:Int):=by omega
      have h01:0 ≤ i + 1:=by omega
      simp [h1,hr,hne,hle,h01,h0]
     ·have h01:0 ≤ i + 1:=by omega
      simp [h1,hr,h01]
    ·have he:i + 1=(l.length:Int):=by omega
     simp [he]
   ·simp only [h13,if_false,h10]
    by_cases hm:mx a 0 ≤ i
    ·simp [hm]
    ·simp [hm]
/-- What Cut tells. -/
def cutSpec (l:List Int) (a:Int):(ByteArray × Int × Int):=cutAt l (mx a 0) l.length 0
theorem cut_f (l:List Int) (a:Int) (hn:l.length ≤ 140737488355328) (k:Nat) (hk:3 * l.length + 3 ≤ k):line_Cut.f k l a=some (cutSpec l a):=by
 unfold line_Cut.f cutSpec
 exact cut_l0 l a hn l.length k 0 (by omega) (by omega) hk
theorem cutA_shape (l:List Int) (m:Int) (d:Nat) : ∀ (i:Int),0 ≤ i → (l.length:Int) - i=d →
 ((cutAt l m d i).2.1 > 0∧(cutAt l m d i).2.1 ≤ l.length∧strOfNums (l.take (cutAt l m d i).2.1.toNat)=(cutAt l m d i).1 ++ (⟨#[13,10]⟩:ByteArray)∧((cutAt l m d i).1.size:Int)=(cutAt l m d i).2.1 - 2∧(cutAt l m d i).2.2=0)
 ∨ ((cutAt l m d i).2.1=0∧(cutAt l m d i).1=(⟨#[]⟩:ByteArray)):=by
 induction d with
 | zero=>intro i h0 hd;right;simp [cutAt]
 | succ d ih =>
  intro i h0 hd
  have hlt:i < (l.length:Int):=by omega
  have ih' := ih (i + 1) (by omega) (by omega)
  simp only [cutAt]
  by_cases h10:rd l i=10
  ·simp [h10]
  ·rw [if_neg h10]
   by_cases h13:rd l i=13
   ·rw [if_pos h13]
    by_cases h1:i + 1 < (l.length:Int)
    ·rw [if_pos h1]
     by_cases hr:rd l (i + 1)=10
     ·rw [if_pos hr]
      left
      refine ⟨by show i + 2 > 0;omega,by show i + 2 ≤ _;omega,?_,?_,rfl⟩
      ·show strOfNums (l.take (i + 2).toNat)=_
       rw [take_two l i h0 h1,str_append,h13,hr]
       rfl
      ·show ((strOfNums (l.take i.toNat)).size:Int)=i + 2 - 2
       rw [str_size,List.length_take]
       omega
     ·rw [if_neg hr];right;exact ⟨rfl,rfl⟩
    ·rw [if_neg h1];right;exact ⟨rfl,rfl⟩
   ·rw [if_neg h13]
    by_cases hm:m ≤ i
    ·rw [if_pos hm];right;exact ⟨rfl,rfl⟩
    ·rw [if_neg hm];exact ih'
theorem cutS_shape (l:List Int) (m:Int) :
 (cutSpec l m).2.1 > 0∧(cutSpec l m).2.1 ≤ l.length∧((cutSpec l m).1.size:Int)=(cutSpec l m).2.1 - 2∧(cutSpec l m).2.2=0 ∨ (cutSpec l m).2.1=0∧(cutSpec l m).1=(⟨#[]⟩:ByteArray):=by
 rcases cutA_shape l (mx m 0) l.length 0 (by omega) (by omega) with h|h
 ·exact Or.inl ⟨h.1,h.2.1,h.2.2.2.1,h.2.2.2.2⟩
 ·exact Or.inr h
def mkS (l:List UInt8):ByteArray:=⟨l.toArray⟩
theorem mkS_data (l:List UInt8):(mkS l).data.toList=l:=by simp [mkS]
theorem mkS_self (s:ByteArray):mkS s.data.toList=s:=by simp [mkS]
theorem mkS_size (l:List UInt8):(mkS l).size=l.length:=by rw [← data_length,mkS_data]
theorem mkS_toList (l:List UInt8):(mkS l).toList=l:=by rw [toList_data,mkS_data]
theorem wn0 (n:Nat) (h:n ≤ 4398046511104):wrap64 ((n:Int) + 0)=(n:Int):=by unfold wrap64;omega
theorem wn1 (n:Nat) (h:n ≤ 4398046511104):wrap64 ((n:Int) + 1)=(n:Int) + 1:=by unfold wrap64;omega
theorem wnm (n:Nat) (h:n ≤ 4398046511104):wrap64 ((n:Int) + 1 - 1)=(n:Int):=by unfold wrap64;omega
theorem wi1 (i:Int) (h0:0 ≤ i) (h:i ≤ 4398046511104):wrap64 (i + 1)=i + 1:=by unfold wrap64;omega
theorem rdOf_mk (ps:List (List UInt8)) (i:Int) (h0:0 ≤ i) (h:i < (ps.length:Int)):rdOf ByteArray.empty (ps.map mkS) i=mkS (ps.getD i.toNat []):=by
 unfold rdOf
 rw [List.getD_eq_getElem?_getD,List.getElem?_map,List.getD_eq_getElem?_getD,List.getElem?_eq_getElem (by omega)]
 rfl
theorem bt_mk (l:List UInt8) (i:Nat) (h:i < l.length):bt (mkS l) i=((l[i]).toNat:Int):=by
 unfold bt
 have hs:(mkS l).size=l.length:=mkS_size l
 rw [dif_pos (by rw [Int.toNat_natCast];omega)]
 have:(mkS l)[((i:Nat):Int).toNat]'(by rw [Int.toNat_natCast];omega)=l[i]:=by simp [mkS,ByteArray.getElem_eq_getElem_data]
 rw [this]
theorem mkS_extract (l:List UInt8) (a b:Nat):(mkS l).extract a b=mkS ((l.drop a).take (b - a)):=by
 rw [← mkS_self ((mkS l).extract a b),Lib.extract_data,mkS_data]
theorem mkS_bytes (l:List UInt8):bytesOf (mkS l)=l.map fun b=>(b.toNat:Int):=by unfold bytesOf;rw [mkS_data]
theorem index_append (sp:UInt8) (a b:List UInt8) (h:sp ∉ a):Lib.indexByte (a ++ sp :: b) sp=a.length:=by
 induction a with
 | nil=>simp [Lib.indexByte]
 | cons c a ih =>
  have hc:c ≠ sp:=fun e=>h (e ▸ List.mem_cons_self ..)
  have hb:(c == sp)=false:=by simpa using hc
  have h3:=ih (fun e=>h (List.mem_cons_of_mem _ e))
  have hn:((a.length:Int) == -1)=false:=by simp only [beq_eq_false_iff_ne];omega
  simp [Lib.indexByte,hb,h3,hn]
theorem index_none (sp:UInt8) (a:List UInt8) (h:sp ∉ a):Lib.indexByte a sp = -1:=by
 induction a with
 | nil=>simp [Lib.indexByte]
 | cons c a ih =>
  have hc:c ≠ sp:=fun e=>h (e ▸ List.mem_cons_self ..)
  have hb:(c == sp)=false:=by simpa using hc
  have h3:=ih (fun e=>h (List.mem_cons_of_mem _ e))
  simp [Lib.indexByte,hb,h3]
theorem slIndex (s:List UInt8) (sp:UInt8):stringslite_Index.f (mkS s) ⟨#[sp]⟩=some (Lib.indexByte s sp):=by
 show some (Lib.indexByte (mkS s).data.toList sp)=_
 rw [mkS_data]
theorem Cut_no (sp:UInt8) (s:List UInt8) (h:sp ∉ s):strings_Cut.f (mkS s) ⟨#[sp]⟩=some (mkS s,(⟨#[]⟩:ByteArray),false):=by
 unfold strings_Cut.f stringslite_Cut.f
 rw [slIndex,index_none sp s h,Option.bind_some,if_neg (by decide),Option.bind_some]
theorem Cut_yes (sp:UInt8) (a b:List UInt8) (h:sp ∉ a) (hn:(a ++ sp :: b).length ≤ 140737488355328):strings_Cut.f (mkS (a ++ sp :: b)) ⟨#[sp]⟩=some (mkS a,mkS b,true):=by
 unfold strings_Cut.f stringslite_Cut.f
 have hl:(a ++ sp :: b).length=a.length + b.length + 1:=by rw [List.length_append,List.length_cons];omega
 rw [hl] at hn
 have h1:((⟨#[sp]⟩:ByteArray).size:Int)=1:=rfl
 have hw:wrap64 ((a.length:Int) + 1)=(a.length:Int) + 1:=by unfold wrap64;omega
 have e1:((a.length:Int) + 1).toNat=a.length + 1:=by omega
 rw [slIndex,index_append sp a b h,Option.bind_some,h1,hw,mkS_size,hl,if_pos (by omega),if_pos (by omega),if_pos (by omega),if_pos (by omega),if_pos (by omega),Option.bind_some,e1,Int.toNat_natCast,mkS_extract,mkS_extract,List.drop_zero,Nat.sub_zero,List.take_left,← List.drop_drop,List.drop_left]
 rw [show List.drop 1 (sp :: b)=b from rfl,List.take_of_length_le (by omega)]
/-- What stands ahead of the first sp,and behind it. -/
theorem split_first (sp:UInt8) (s:List UInt8):sp ∉ s ∨ ∃ a b,s=a ++ sp :: b∧sp ∉ a:=by
 induction s with
 | nil=>exact .inl (by simp)
 | cons c s ih =>
  by_cases hc:c=sp
  ·exact .inr ⟨[],s,by rw [hc];rfl,by simp⟩
  ·rcases ih with h|⟨a,b,rfl,h⟩
   ·refine .inl fun hm=>?_
    rcases List.mem_cons.1 hm with e|e
    ·exact hc e.symm
    ·exact h e
   ·refine .inr ⟨c :: a,b,rfl,fun hm=>?_⟩
    rcases List.mem_cons.1 hm with e|e
    ·exact hc e.symm
    ·exact h e
def tokB (c:Int):Bool:=(sign_Token_1.f c).getD false
def valB (c:Int):Bool:=(sign_Value_1.f c).getD false
theorem Token_f (s:ByteArray) (h:s.size ≤ 140737488355328):sign_Token.f s=some (!s.toList.isEmpty && (bytesOf s).all tokB):=if_pos h
theorem Value_f (s:ByteArray) (h:s.size ≤ 140737488355328):sign_Value.f s=some ((bytesOf s).all valB):=if_pos h
/-- Is a byte a blank? -/
def blk (b:UInt8):Bool:=([32,9]:List UInt8).contains b
/-- A text without blanks at its ends. -/
def trm (l:List UInt8):List UInt8:=(l.reverse.dropWhile blk).reverse.dropWhile blk
/-- No blank at either end. -/
def Clean (l:List UInt8):Prop:=(∀ a,l.head? = some a → blk a=false) ∧ ∀ a,l.getLast? = some a → blk a=false
theorem dw_self {p:UInt8 → Bool} {l:List UInt8} (h : ∀ a,l.head? = some a → p a=false):l.dropWhile p=l:=by
 cases l with
 | nil=>rfl
 | cons a l=>simp [List.dropWhile,h a rfl]
theorem dw_append {p:UInt8 → Bool} (pre t:List UInt8) (h : ∀ a ∈ pre,p a=true):(pre ++ t).dropWhile p=t.dropWhile p:=by
 induction pre with
 | nil=>rfl
 | cons b l ih =>
  simp only [List.cons_append,List.dropWhile,h b (List.mem_cons_self ..)]
  exact ih (fun a ha=>h a (List.mem_cons_of_mem _ ha))
theorem trm_self {l:List UInt8} (h:Clean l):trm l=l:=by
 unfold trm
 rw [dw_self (l:=l.reverse) (by intro a ha;rw [List.head?_reverse] at ha;exact h.2 a ha),List.reverse_reverse,dw_self h.1]
theorem trm_around (pre t post : List UInt8) (ht : Clean t) (h1 : ∀ a ∈ pre, blk a = true) (h2 : ∀ a ∈ post, blk a = true) : trm (pre ++ t ++ post) = t := by
  unfold trm
  rw [List.reverse_append, dw_append _ _ (by intro a ha; exact h2 a (List.mem_reverse.1 ha)), List.reverse_append]
  by_cases he : t = []
  · subst he
    have := dw_append (p := blk) pre.reverse [] (by intro a ha; exact h1 a (List.mem_reverse.1 ha))
    simp only [List.append_nil] at this
    simp [this]
  · have : (t.reverse ++ pre.reverse).dropWhile blk = t.reverse ++ pre.reverse := dw_self (by
      intro a ha
      rw [List.head?_append] at ha
      obtain ⟨b, hb⟩ : ∃ b, t.reverse.head? = some b := by
        cases hh : t.reverse with
        | nil => exact absurd (List.reverse_eq_nil_iff.1 hh) he
        | cons b _ => exact ⟨b, rfl⟩
      rw [hb] at ha
      obtain rfl : b = a := by simpa using ha
      rw [List.head?_reverse] at hb
      exact ht.2 _ hb)
    rw [this, List.reverse_append, List.reverse_reverse, List.reverse_reverse, dw_append _ _ h1, dw_self ht.1]
theorem trm_length (l:List UInt8):(trm l).length ≤ l.length:=by
 unfold trm
 have h1:((l.reverse.dropWhile blk).reverse.dropWhile blk).length ≤ (l.reverse.dropWhile blk).reverse.length:=(List.dropWhile_suffix _).length_le
 have h2:(l.reverse.dropWhile blk).length ≤ l.reverse.length:=(List.dropWhile_suffix _).length_le
 rw [List.length_reverse] at h1 h2
 omega
theorem Trim_f (s:ByteArray) (h:s.size ≤ 9223372036854775807):sign_Trim.f s=some ⟨(trm s.data.toList).toArray⟩:=by
 unfold sign_Trim.f strings_Trim.f
 rw [if_pos ⟨h,by decide,by decide⟩]
 rfl
/-- Is a field right? -/
def rightB (a t:ByteArray):Bool:=decide (a.size ≤ 100) && ((!a.toList.isEmpty && (bytesOf a).all tokB) && (decide (t.size ≤ 1000) && ((bytesOf t).all valB && (mkS (trm t.data.toList)).toList == t.toList)))
theorem Trim_mk (s:ByteArray) (h:s.size ≤ 9223372036854775807):sign_Trim.f s=some (mkS (trm s.data.toList)):=Trim_f s h
theorem field_right_f (a t:ByteArray):field_right.f a t=some (rightB a t):=by
 unfold field_right.f rightB
 by_cases h1:(a.size:Int) ≤ 100
 ·rw [if_pos h1,Token_f a (by omega),Option.bind_some,decide_eq_true (show a.size ≤ 100 by omega),Bool.true_and]
  cases hT:(!a.toList.isEmpty && (bytesOf a).all tokB)
  ·rw [if_neg (by simp),Bool.false_and]
  ·rw [if_pos rfl,Bool.true_and]
   by_cases h2:(t.size:Int) ≤ 1000
   ·rw [if_pos h2,Value_f t (by omega),Option.bind_some,decide_eq_true (show t.size ≤ 1000 by omega),Bool.true_and]
    cases (bytesOf t).all valB
    ·rw [if_neg (by simp),Bool.false_and]
    ·rw [if_pos rfl,Bool.true_and,Trim_mk t (by omega),Option.bind_some]
   ·rw [if_neg h2,decide_eq_false (show ¬ t.size ≤ 1000 by omega),Bool.false_and]
 ·rw [if_neg h1,decide_eq_false (show ¬ a.size ≤ 100 by omega),Bool.false_and]
def fieldOk (l:List UInt8):Bool:=if 58 ∈ l then rightB (mkS (l.takeWhile (· != 58))) (mkS (trm ((l.dropWhile (· != 58)).drop 1))) else false
theorem take_first (sp:UInt8) (a b:List UInt8) (h:sp ∉ a):(a ++ sp :: b).takeWhile (· != sp)=a∧((a ++ sp :: b).dropWhile (· != sp)).drop 1=b:=by
 induction a with
 | nil=>simp [List.takeWhile_cons,List.dropWhile_cons]
 | cons x a ih =>
  have hx:x ≠ sp:=fun e=>h (by rw [e];exact List.mem_cons_self ..)
  have:=ih (fun e=>h (List.mem_cons_of_mem _ e))
  simp only [List.cons_append,List.takeWhile_cons,List.dropWhile_cons,bne_iff_ne,ne_eq,hx,not_false_eq_true,if_true]
  exact ⟨by rw [this.1],this.2⟩
theorem fieldOk_no (l:List UInt8) (h:58 ∉ l):fieldOk l=false:=by unfold fieldOk;rw [if_neg h]
theorem fieldOk_yes (a b:List UInt8) (h:58 ∉ a):fieldOk (a ++ 58 :: b)=rightB (mkS a) (mkS (trm b)):=by
 unfold fieldOk
 obtain ⟨e1,e2⟩:=take_first 58 a b h
 rw [if_pos (by simp),e1,e2]
theorem field_f (l:List UInt8) (hn:l.length ≤ 140737488355328) : ∃ x y,field_Parse.f (mkS l)=some (x,y,if fieldOk l=true then 0 else 20):=by
 unfold field_Parse.f
 rcases split_first 58 l with h|⟨a,b,rfl,h⟩
 ·rw [Cut_no 58 l h,Option.bind_some,fieldOk_no l h]
  simp only
  rw [Trim_mk _ (by decide),Option.bind_some]
  exact ⟨_,_,rfl⟩
 ·rw [Cut_yes 58 a b h hn,Option.bind_some,fieldOk_yes a b h]
  simp only
  rw [Trim_mk _ (by rw [mkS_size];rw [List.length_append,List.length_cons] at hn;omega),Option.bind_some,if_pos trivial,field_right_f,Option.bind_some,mkS_data]
  cases rightB (mkS a) (mkS (trm b)) <;> exact ⟨_,_,rfl⟩
theorem fold_tells (s:ByteArray) (hn:s.size ≤ 140737488355328):sign_Fold.f s=some (strOfNums ((bytesOf s).map foldC)):=if_pos hn
def Bytes (xs:List Int):Prop := ∀ x ∈ xs,0 ≤ x∧x ≤ 255
theorem bytes_of (s:ByteArray):Bytes (bytesOf s):=by
 intro x hx
 obtain ⟨b,_,rfl⟩:=List.mem_map.1 hx
 have:=b.toNat_lt
 omega
theorem foldC_byte (x:Int) (h0:0 ≤ x) (h1:x ≤ 255):0 ≤ foldC x∧foldC x ≤ 255:=by unfold foldC;split <;> omega
theorem bytes_fold {xs:List Int} (h:Bytes xs):Bytes (xs.map foldC):=by
 intro x hx
 obtain ⟨y,hy,rfl⟩:=List.mem_map.1 hx
 exact foldC_byte y (h y hy).1 (h y hy).2
theorem bytes_str {xs:List Int} (h:Bytes xs):bytesOf (strOfNums xs)=xs:=by
 unfold bytesOf
 rw [strOfNums_data,List.map_map]
 conv=>rhs;rw [← List.map_id xs]
 refine List.map_congr_left fun x hx=>?_
 have:=h x hx
 show ((UInt8.ofNat x.toNat).toNat:Int)=x
 rw [UInt8.toNat_ofNat']
 omega
theorem str_inj {xs ys:List Int} (hx:Bytes xs) (hy:Bytes ys):((strOfNums xs).toList == (strOfNums ys).toList)=decide (xs=ys):=by
 rw [Bool.eq_iff_iff,beq_iff_eq,decide_eq_true_eq]
 refine ⟨fun e=>?_,fun e=>by rw [e]⟩
 rw [← bytes_str hx,← bytes_str hy]
 unfold bytesOf
 rw [← toList_data,← toList_data,e]
/-- The value of a digit,or -1. -/
def digV (c:Int):Int:=Lib.indexByte [48,49,50,51,52,53,54,55,56,57,97,98,99,100,101,102] (foldC c).toNat.toUInt8
/-- The number of digits,from n on. -/
def numL (base:Int):List Int → Int → Option Int
 | [],n=>some n
 | c :: r,n=>if 0 ≤ digV c∧digV c < base then numL base r (n * base + digV c) else none
theorem digV_lt (c:Int) (h0:0 ≤ c) (h1:c ≤ 255):digV c < 16:=by
 obtain ⟨n,rfl⟩:=Int.eq_ofNat_of_zero_le h0
 have h : ∀ m:Fin 256,digV (m.val:Int) < 16:=by decide +kernel
 exact h ⟨n,by omega⟩
theorem one_fold (s:ByteArray) (i:Int) (h0:0 ≤ i) (h:i < (s.size:Int)):sign_Fold.f (s.extract i.toNat (i + 1).toNat)=some (strOfNums [foldC (bt s i)]):=by
 have hl:i.toNat < s.data.toList.length:=by rw [data_length];omega
 have e1:(s.extract i.toNat (i + 1).toNat).data.toList=[s.data.toList[i.toNat]]:=by
  rw [Lib.extract_data,show (i + 1).toNat - i.toNat=1 by omega,List.drop_eq_getElem_cons hl]
  rfl
 have hz:(s.extract i.toNat (i + 1).toNat).size=1:=by rw [← data_length,e1];rfl
 rw [fold_tells _ (by omega)]
 unfold bytesOf
 rw [e1]
 have e2:((s.data.toList[i.toNat]).toNat:Int)=bt s i:=by
  unfold bt
  rw [dif_pos (by omega)]
  rfl
 simp only [List.map_cons,List.map_nil,e2]
theorem bt_one (x:Int) (h0:0 ≤ x) (h1:x ≤ 255):bt (strOfNums [x]) 0=x:=by
 have h:=bytes_str (xs:=[x]) (by intro y hy;rw [List.mem_singleton.1 hy];exact ⟨h0,h1⟩)
 rw [← rd_bytesOf,h]
 rfl
theorem index_dig (s:ByteArray) (i:Int):strings_IndexByte.f (⟨#[48,49,50,51,52,53,54,55,56,57,97,98,99,100,101,102]⟩:ByteArray) (bt (strOfNums [foldC (bt s i)]) 0)=some (digV (bt s i)):=by
 have hr:=bt_range s i
 have hf:=foldC_byte _ hr.1 hr.2
 rw [bt_one _ hf.1 hf.2]
 rfl
theorem pow_pos' (b:Int) (hb:1 ≤ b) : ∀ n:Nat,1 ≤ b ^ n
 | 0=>by simp
 | n + 1=>by
  rw [Int.pow_succ]
  have h1:=pow_pos' b hb n
  have h2:=Int.mul_le_mul_of_nonneg_left hb (show 0 ≤ b ^ n by omega)
  rw [Int.mul_one] at h2
  omega
theorem pow_mono' (b:Int) (hb:1 ≤ b) (i:Nat) : ∀ d:Nat,b ^ i ≤ b ^ (i + d)
 | 0=>Int.le_refl _
 | d + 1=>by
  rw [← Nat.add_assoc,Int.pow_succ]
  have h0:=pow_mono' b hb i d
  have h1:=pow_pos' b hb (i + d)
  have h2:=Int.mul_le_mul_of_nonneg_left hb (show 0 ≤ b ^ (i + d) by omega)
  rw [Int.mul_one] at h2
  omega
/-- Too long: none. -/
theorem number_long (s:ByteArray) (base most:Int) (hm:(s.size:Int) > most) (hs:s.size ≤ 140737488355327) (d:Nat) : ∀ (k:Nat) (n i:Int),0 ≤ i → (s.size:Int) - i=d → 2 * d + 1 ≤ k →
 sign_number.l0 k s base most n (s.size:Int) i=some (0,false):=by
 induction d with
 | zero =>
  intro k n i h0 hd hk
  obtain ⟨k,rfl⟩ : ∃ m,k=m + 1:=⟨k - 1,by omega⟩
  simp only [sign_number.l0]
  rw [if_neg (by omega)]
  repeat' split
  all_goals first|rfl|(exfalso;omega)
 | succ d ih =>
  intro k n i h0 hd hk
  obtain ⟨k,rfl⟩ : ∃ m,k=m + 2:=⟨k - 2,by omega⟩
  have hw:wrap64 (i + 1)=i + 1:=by unfold wrap64;omega
  have ih' := fun n=>ih k n (i + 1) (by omega) (by omega) (by omega)
  simp only [sign_number.l0]
  rw [if_pos (by omega),if_pos h0,hw,if_pos (by omega),if_pos (by omega),one_fold s i h0 (by omega),Option.bind_some,if_pos (by rw [str_size];simp),index_dig,Option.bind_some]
  simp only [sign_number.j1]
  rw [hw,ih',ih']
  repeat' split
  all_goals rfl
theorem number_short (s : ByteArray) (base : Int) (most : Nat) (hb0 : 0 ≤ base) (hB : base ^ most ≤ 4611686018427387904) (hb1 : 1 ≤ base) (hm : s.size ≤ most) (hs : s.size ≤ 140737488355327) (d : Nat) : ∀ (k : Nat) (n : Int) (i : Nat), i + d = s.size → 2 * d + 1 ≤ k → 0 ≤ n → n + 1 ≤ base ^ i →
    sign_number.l0 k s base most n (s.size : Int) i = some (match numL base ((bytesOf s).drop i) n with | some v => if s.size = 0 then (0, false) else (v, true) | none => (0, false)) := by
  induction d with
  | zero =>
    intro k n i hi hk h0 hn
    obtain ⟨k, rfl⟩ : ∃ m, k = m + 1 := ⟨k - 1, by omega⟩
    rw [List.drop_of_length_le (by rw [bytesOf_length]; omega)]
    simp only [sign_number.l0, numL]
    rw [if_neg (by omega)]
    by_cases hz : s.size = 0
    · have he : s.toList = [] := by rw [toList_data]; exact List.eq_nil_of_length_eq_zero (by rw [data_length]; exact hz)
      rw [if_pos he, if_pos hz]
    · have he : ¬ (s.toList = []) := by
        intro e
        rw [toList_data] at e
        have := data_length s
        rw [e] at this
        exact hz this.symm
      rw [if_neg he, if_neg hz, if_neg (by omega)]
  | succ d ih =>
    intro k n i hi hk h0 hn
    obtain ⟨k, rfl⟩ : ∃ m, k = m + 2 := ⟨k - 2, by omega⟩
    have hw : wrap64 ((i : Int) + 1) = (i : Int) + 1 := by unfold wrap64; omega
    have hl : i < (bytesOf s).length := by rw [bytesOf_length]; omega
    have hg : (bytesOf s)[i] = bt s i := by rw [← rd_bytesOf]; simp [rd, List.getD_eq_getElem?_getD, List.getElem?_eq_getElem hl]
    have hr := bt_range s i
    have hP : base ^ (i + 1) = base ^ i * base := Int.pow_succ _ _
    have hle : base ^ (i + 1) ≤ base ^ most := by
      have := pow_mono' base hb1 (i + 1) (most - (i + 1))
      rwa [show i + 1 + (most - (i + 1)) = most by omega] at this
    have h1 := Int.mul_le_mul_of_nonneg_right hn hb0
    rw [Int.add_mul, ← hP, Int.one_mul] at h1
    have h2 : 0 ≤ n * base := Int.mul_nonneg h0 hb0
    have h3 : 0 ≤ base := hb0
    have hdl := digV_lt _ hr.1 hr.2
    rw [List.drop_eq_getElem_cons hl, hg]
    simp only [sign_number.l0, numL]
    rw [if_pos (by omega), if_pos (by omega), hw, if_pos (by omega), if_pos (by omega), one_fold s i (by omega) (by omega), Option.bind_some, if_pos (by rw [str_size]; simp), index_dig, Option.bind_some]
    simp only [sign_number.j1]
    obtain ⟨D, hD⟩ : ∃ D, D = digV (bt s i) := ⟨_, rfl⟩
    rw [← hD] at hdl ⊢
    by_cases hv : 0 ≤ D ∧ D < base
    · rw [if_neg (by omega), decide_eq_false (by omega), if_neg (by simp), if_pos (by omega), hw, if_pos hv]
      have e1 : wrap64 (wrap64 (n * base) + D) = n * base + D := by unfold wrap64; omega
      rw [e1]
      have := ih k (n * base + D) (i + 1) (by omega) (by omega) (by omega) (by omega)
      rw [show (((i + 1 : Nat)) : Int) = (i : Int) + 1 by omega] at this
      exact this
    · rw [if_neg hv]
      by_cases hn0 : D < 0
      · rw [if_pos hn0, if_pos trivial]
      · rw [if_neg hn0, decide_eq_true (by omega), if_pos rfl]
/-- What number tells. -/
def numSpec (s:ByteArray) (base:Int) (most:Nat):Int × Bool :=
 if s.size=0 ∨ s.size > most then (0,false) else match numL base (bytesOf s) 0 with|some v=>(v,true)|none=>(0,false)
theorem number_f (s:ByteArray) (base:Int) (most:Nat) (hb1:1 ≤ base) (hB:base ^ most ≤ 4611686018427387904) (hs:s.size ≤ 140737488355327) (k:Nat) (hk:2 * s.size + 1 ≤ k):sign_number.f k s base most=some (numSpec s base most):=by
 unfold sign_number.f numSpec
 by_cases hm:s.size > most
 ·rw [if_pos (Or.inr hm)]
  exact number_long s base most (by omega) hs s.size k 0 0 (by omega) (by omega) hk
 ·have:=number_short s base most (by omega) hB hb1 (by omega) hs s.size k 0 0 (by omega) hk (by omega) (by simp)
  rw [show ((0:Nat):Int)=0 from rfl] at this
  rw [this]
  by_cases hz:s.size=0
  ·rw [if_pos (Or.inl hz),List.drop_zero]
   cases numL base (bytesOf s) 0 <;> simp [hz]
  ·rw [if_neg (by omega),List.drop_zero]
   cases numL base (bytesOf s) 0 <;> simp [hz]
theorem Decimal_f (s:ByteArray) (hs:s.size ≤ 140737488355327) (k:Nat) (hk:2 * s.size + 1 ≤ k):sign_Decimal.f k s=some (numSpec s 10 18):=by
 unfold sign_Decimal.f
 rw [show (18:Int)=((18:Nat):Int) from rfl,number_f s 10 18 (by decide) (by decide) hs k hk,Option.bind_some]
theorem Hex_f (s:ByteArray) (hs:s.size ≤ 140737488355327) (k:Nat) (hk:2 * s.size + 1 ≤ k):sign_Hex.f k s=some (numSpec s 16 15):=by
 unfold sign_Hex.f
 rw [show (15:Int)=((15:Nat):Int) from rfl,number_f s 16 15 (by decide) (by decide) hs k hk,Option.bind_some]
/-- Blanks behind taken away. -/
def rtrim (l:List UInt8):List UInt8:=(l.reverse.dropWhile blk).reverse
theorem rtrim_len (l:List UInt8):(rtrim l).length ≤ l.length:=by
 unfold rtrim
 rw [List.length_reverse]
 have:=(List.dropWhile_sublist blk (l:=l.reverse)).length_le
 rw [List.length_reverse] at this
 exact this
/-- The size that a chunk's line tells;is it one? -/
def sizeS (l:List UInt8):Int × Bool :=
 ((numSpec (mkS (rtrim (l.takeWhile (· != 59)))) 16 15).1,(numSpec (mkS (rtrim (l.takeWhile (· != 59)))) 16 15).2 && (bytesOf (mkS ((l.dropWhile (· != 59)).drop 1))).all valB)
theorem take_none (sp:UInt8) (l:List UInt8) (h:sp ∉ l):l.takeWhile (· != sp)=l∧(l.dropWhile (· != sp)).drop 1=[]:=by
 induction l with
 | nil=>simp
 | cons x a ih =>
  have hx:x ≠ sp:=fun e=>h (by rw [e];exact List.mem_cons_self ..)
  have:=ih (fun e=>h (List.mem_cons_of_mem _ e))
  simp only [List.takeWhile_cons,List.dropWhile_cons,bne_iff_ne,ne_eq,hx,not_false_eq_true,if_true]
  exact ⟨by rw [this.1],this.2⟩
theorem sizeS_no (l:List UInt8) (h:59 ∉ l):sizeS l=numSpec (mkS (rtrim l)) 16 15:=by
 obtain ⟨e1,e2⟩:=take_none 59 l h
 unfold sizeS
 rw [e1,e2]
 have:(bytesOf (mkS [])).all valB=true:=by rw [mkS_bytes];rfl
 rw [this,Bool.and_true]
theorem sizeS_yes (a b:List UInt8) (h:59 ∉ a):sizeS (a ++ 59 :: b)=((numSpec (mkS (rtrim a)) 16 15).1,(numSpec (mkS (rtrim a)) 16 15).2 && (bytesOf (mkS b)).all valB):=by
 obtain ⟨e1,e2⟩:=take_first 59 a b h
 unfold sizeS
 rw [e1,e2]
theorem TrimRight_f (l:List UInt8) (hl:l.length ≤ 140737488355328):strings_TrimRight.f (mkS l) ⟨#[32,9]⟩=some (mkS (rtrim l)):=by
 unfold strings_TrimRight.f
 rw [if_pos ⟨by rw [mkS_size];omega,by decide,by decide⟩,mkS_data]
 rfl
theorem numL_bound (xs:List Int) : ∀ (n v:Int) (B:Int),0 ≤ n → n < B → numL 16 xs n=some v → 0 ≤ v∧v < B * 16 ^ xs.length:=by
 induction xs with
 | nil=>intro n v B h0 h1 h;simp only [numL,Option.some.injEq] at h;subst h;simpa using ⟨h0,h1⟩
 | cons x xs ih =>
  intro n v B h0 h1 h
  rw [numL] at h
  by_cases hd:0 ≤ digV x∧digV x < 16
  ·rw [if_pos hd] at h
   have:=ih _ v (B * 16) (by omega) (by omega) h
   rw [List.length_cons,Int.pow_succ,Int.mul_comm (16 ^ xs.length) 16,← Int.mul_assoc]
   exact this
  ·rw [if_neg hd] at h;cases h
theorem hexs_bound (s : ByteArray) : 0 ≤ (numSpec s 16 15).1 ∧ (numSpec s 16 15).1 ≤ 1152921504606846976 := by
  unfold numSpec
  split
  · exact ⟨by decide, by decide⟩
  · rename_i h
    cases hv : numL 16 (bytesOf s) 0 with
    | none => exact ⟨by decide, by decide⟩
    | some v =>
      have := numL_bound (bytesOf s) 0 v 1 (by decide) (by decide) hv
      have hl : (bytesOf s).length ≤ 15 := by rw [bytesOf_length]; omega
      have h2 : (16 : Int) ^ (bytesOf s).length ≤ 16 ^ 15 := by
        have := pow_mono' 16 (by decide) (bytesOf s).length (15 - (bytesOf s).length)
        rwa [show (bytesOf s).length + (15 - (bytesOf s).length) = 15 by omega] at this
      exact ⟨this.1, by simp only; have h3 : (16 : Int) ^ 15 = 1152921504606846976 := by decide
                        omega⟩
theorem size_bound (l:List UInt8):0 ≤ (sizeS l).1∧(sizeS l).1 ≤ 1152921504606846976:=hexs_bound _
theorem line_f (l:List Int) (p:Nat) (hp:p ≤ l.length) (hl:l.length ≤ 1000000) (k:Nat) (hk:3 * l.length + 3 ≤ k) :
 chunk_reader_line.f k l p=some ((cutSpec (l.drop p) 256).1,(cutSpec (l.drop p) 256).2.2,(p:Int) + (cutSpec (l.drop p) 256).2.1,decide ((cutSpec (l.drop p) 256).2.1=0) && decide ((cutSpec (l.drop p) 256).2.2=0)):=by
 unfold chunk_reader_line.f
 have hd:(l.drop p).length=l.length - p:=List.length_drop ..
 rw [if_pos (by omega),if_pos (by omega),Int.toNat_natCast,cut_f _ _ (by omega) k (by omega),Option.bind_some]
 have hw:wrap64 ((p:Int) + (cutSpec (l.drop p) 256).2.1)=(p:Int) + (cutSpec (l.drop p) 256).2.1:=by
  rcases cutS_shape (l.drop p) 256 with h|h <;> unfold wrap64 <;> omega
 rw [hw]
theorem size_f (l : List Int) (p : Nat) (hp : p ≤ l.length) (hl : l.length ≤ 1000000) (k : Nat) (hk : 3 * l.length + 3 ≤ k) :
    chunk_reader_size.f k l p = some (if (cutSpec (l.drop p) 256).2.2 = 0 then (if (cutSpec (l.drop p) 256).2.1 = 0 then (0, 0, (p : Int), true) else
        if (sizeS (cutSpec (l.drop p) 256).1.data.toList).2 = true then ((sizeS (cutSpec (l.drop p) 256).1.data.toList).1, 0, (p : Int) + (cutSpec (l.drop p) 256).2.1, false) else (0, 30, (p : Int) + (cutSpec (l.drop p) 256).2.1, false))
      else (0, (cutSpec (l.drop p) 256).2.2, (p : Int) + (cutSpec (l.drop p) 256).2.1, false)) := by
  unfold chunk_reader_size.f
  rw [line_f l p hp hl k hk, Option.bind_some]
  have hsh := cutS_shape (l.drop p) 256
  have hd : (l.drop p).length = l.length - p := List.length_drop ..
  obtain ⟨c, hc⟩ : ∃ c, c = cutSpec (l.drop p) 256 := ⟨_, rfl⟩
  rw [← hc] at hsh ⊢
  simp only
  by_cases h1 : c.2.2 = 0
  · rw [if_pos h1, if_pos h1]
    by_cases h2 : c.2.1 = 0
    · rw [if_pos h2, decide_eq_true h2, decide_eq_true h1, if_pos (by rfl), h2, Int.add_zero]
    · rw [if_neg h2, decide_eq_false h2, Bool.false_and, if_neg (by simp)]
      have hsz : c.1.data.toList.length ≤ 1000000 := by rw [data_length]; rcases hsh with h | h <;> omega
      have e0 : c.1 = mkS c.1.data.toList := (mkS_self _).symm
      obtain ⟨u, hu⟩ : ∃ u, u = c.1.data.toList := ⟨_, rfl⟩
      rw [← hu] at e0 hsz ⊢
      rw [e0]
      have hk2 : 2 * u.length + 1 ≤ k := by
        have : u.length = c.1.size := by rw [hu, data_length]
        rcases hsh with h | h <;> omega
      rcases split_first 59 u with h | ⟨a, b, hab, h⟩
      · have hr := rtrim_len u
        rw [Cut_no 59 u h, Option.bind_some]
        simp only
        rw [TrimRight_f u (by omega), Option.bind_some, Hex_f _ (by rw [mkS_size]; omega) k (by rw [mkS_size]; omega), Option.bind_some, sizeS_no u h]
        cases (numSpec (mkS (rtrim u)) 16 15).2
        · rw [if_neg (by simp), if_neg (by simp)]
        · rw [if_pos rfl, if_pos rfl, Value_f _ (by decide), Option.bind_some, if_pos (by rfl)]
      · subst hab
        have hab : (a ++ 59 :: b).length = a.length + b.length + 1 := by rw [List.length_append, List.length_cons]; omega
        have hr := rtrim_len a
        rw [Cut_yes 59 a b h (by omega), Option.bind_some]
        simp only
        rw [TrimRight_f a (by omega), Option.bind_some, Hex_f _ (by rw [mkS_size]; omega) k (by rw [mkS_size]; omega), Option.bind_some, sizeS_yes a b h]
        cases (numSpec (mkS (rtrim a)) 16 15).2
        · rw [if_neg (by simp), Bool.false_and, if_neg (by simp)]
        · rw [if_pos rfl, Bool.true_and, Value_f _ (by rw [mkS_size]; omega), Option.bind_some]
          cases (bytesOf (mkS b)).all valB <;> rfl
  · rw [if_neg h1, if_neg h1, decide_eq_false h1, Bool.and_false]
/-- The lines behind the last chunk, at most d more: the place behind them (0: they are not whole), the error. -/
def trailS (l : List Int) : Nat → Nat → Int × Int
  | 0, _ => (0, 3)
  | d + 1, p => if (cutSpec (l.drop p) 256).2.2 = 0 then (if (cutSpec (l.drop p) 256).2.1 = 0 then (0, 0)
      else if (cutSpec (l.drop p) 256).1.toList = [] then ((p : Int) + (cutSpec (l.drop p) 256).2.1, 0)
      else if fieldOk (cutSpec (l.drop p) 256).1.data.toList = true then trailS l d (p + (cutSpec (l.drop p) 256).2.1.toNat) else (0, 20))
    else (0, (cutSpec (l.drop p) 256).2.2)
/-- The body from a place on. -/
def decS (l : List Int) : Nat → Nat → Int → List Int → List Int × Int × Int
  | 0, _, _, _ => ([], 0, 0)
  | d + 1, p, left, out => if (cutSpec (l.drop p) 256).2.2 = 0 then (if (cutSpec (l.drop p) 256).2.1 = 0 then ([], 0, 0)
      else if (sizeS (cutSpec (l.drop p) 256).1.data.toList).2 = true then (if (sizeS (cutSpec (l.drop p) 256).1.data.toList).1 = 0 then
          (if (trailS l 41 (p + (cutSpec (l.drop p) 256).2.1.toNat)).2 = 0 then (if (trailS l 41 (p + (cutSpec (l.drop p) 256).2.1.toNat)).1 = 0 then ([], 0, 0) else (out, (trailS l 41 (p + (cutSpec (l.drop p) 256).2.1.toNat)).1, 0)) else ([], 0, (trailS l 41 (p + (cutSpec (l.drop p) 256).2.1.toNat)).2))
        else if (sizeS (cutSpec (l.drop p) 256).1.data.toList).1 > left then ([], 0, 2)
        else if (dataOf (l.drop (p + (cutSpec (l.drop p) 256).2.1.toNat)) ((p + (cutSpec (l.drop p) 256).2.1.toNat : Nat) : Int) (sizeS (cutSpec (l.drop p) 256).1.data.toList).1 false).2.1 = 0 then
          (if (dataOf (l.drop (p + (cutSpec (l.drop p) 256).2.1.toNat)) ((p + (cutSpec (l.drop p) 256).2.1.toNat : Nat) : Int) (sizeS (cutSpec (l.drop p) 256).1.data.toList).1 false).2.2.2 = true then ([], 0, 0)
            else decS l d (p + (cutSpec (l.drop p) 256).2.1.toNat + (sizeS (cutSpec (l.drop p) 256).1.data.toList).1.toNat + 2) (left - (sizeS (cutSpec (l.drop p) 256).1.data.toList).1) (out ++ (l.drop (p + (cutSpec (l.drop p) 256).2.1.toNat)).take (sizeS (cutSpec (l.drop p) 256).1.data.toList).1.toNat))
        else ([], 0, 20))
      else ([], 0, 30))
    else ([], 0, (cutSpec (l.drop p) 256).2.2)
theorem trail_f (l:List Int) (hl:l.length ≤ 1000000) : ∀ (d:Nat) (n p k:Nat),n + d=41 → 1 ≤ d → p ≤ l.length → d + 3 * l.length + 4 ≤ k →
 ∃ q m,chunk_reader_trailer.l k l p n=some ((trailS l d p).2,q,m)∧((trailS l d p).2=0 → (m=true ↔ (trailS l d p).1=0)∧(m=false → q=(trailS l d p).1)):=by
 intro d
 induction d with
 | zero=>intro n p k _ h;omega
 | succ d ih =>
  intro n p k hn _ hp hk
  obtain ⟨k,rfl⟩ : ∃ m,k=m + 1:=⟨k - 1,by omega⟩
  have hsh:=cutS_shape (l.drop p) 256
  have hd:(l.drop p).length=l.length - p:=List.length_drop ..
  rw [chunk_reader_trailer.l,line_f l p hp hl k (by omega),Option.bind_some,trailS]
  obtain ⟨c,hc⟩ : ∃ c,c=cutSpec (l.drop p) 256:=⟨_,rfl⟩
  rw [← hc] at hsh ⊢
  simp only
  by_cases h1:c.2.2=0
  ·rw [if_pos h1,if_pos h1]
   by_cases h2:c.2.1=0
   ·rw [if_pos h2,decide_eq_true h2,decide_eq_true h1,if_pos (by rfl)]
    exact ⟨_,_,rfl,fun _=>⟨by simp,by simp⟩⟩
   ·rw [if_neg h2,decide_eq_false h2,Bool.false_and,if_neg (by simp)]
    by_cases h3:c.1.toList=[]
    ·rw [if_pos h3,if_pos h3]
     refine ⟨_,_,rfl,fun _=>⟨⟨by simp,fun e=>?_⟩,fun _=>rfl⟩⟩
     simp only at e
     rcases hsh with h|h <;> omega
    ·rw [if_neg h3,if_neg h3]
     have hz:c.1.data.toList.length=c.1.size:=data_length _
     have hz2:c.2.1 > 0∧c.2.1 ≤ (l.length:Int) - p∧(c.1.size:Int)=c.2.1 - 2:=by rcases hsh with h|h <;> omega
     obtain ⟨x,y,hf⟩:=field_f c.1.data.toList (by omega)
     rw [mkS_self] at hf
     rw [hf,Option.bind_some]
     simp only
     cases fieldOk c.1.data.toList
     ·rw [if_neg (by simp),if_neg (by decide),if_neg (by simp)]
      exact ⟨_,_,rfl,fun e=>by simp at e⟩
     ·rw [if_pos rfl,if_pos rfl,if_pos rfl]
      by_cases h4:(n:Int)=40
      ·obtain rfl:d=0:=by omega
       rw [if_pos h4,trailS]
       exact ⟨_,_,rfl,fun e=>by simp at e⟩
      ·rw [if_neg h4]
       have:=ih (n + 1) (p + c.2.1.toNat) k (by omega) (by omega) (by omega) (by omega)
       rw [show ((p + c.2.1.toNat:Nat):Int)=(p:Int) + c.2.1 by omega,show ((n + 1:Nat):Int)=(n:Int) + 1 by omega] at this
       exact this
  ·rw [if_neg h1,if_neg h1]
   exact ⟨_,_,rfl,fun e=>absurd e h1⟩
theorem data_f (l:List Int) (p:Nat) (n:Int) (hp:p ≤ l.length) (h0:0 ≤ n) (h1:n ≤ 1152921504606846976):chunk_reader_data.f l p n false=some (dataOf (l.drop p) p n false):=by
 unfold chunk_reader_data.f
 rw [if_pos ⟨by omega,by omega,h0,by omega⟩,Int.toNat_natCast]
theorem data_shape (rest:List Int) (p n:Int) (h0:0 ≤ p) (hp:p ≤ 1000000) (n0:0 ≤ n) (hr:rest.length ≤ 1000000):(dataOf rest p n false).2.1=0 ∨ (dataOf rest p n false).2.1=20:=by
 unfold dataOf
 repeat' split
 all_goals first|exact Or.inl rfl|exact Or.inr rfl
theorem data_ok (rest:List Int) (p n:Int) (h0:0 ≤ p) (hp:p ≤ 1000000) (n0:0 ≤ n) (hr:rest.length ≤ 1000000) (h1:(dataOf rest p n false).2.1=0) (h2 : ¬ (dataOf rest p n false).2.2.2=true) :
 (dataOf rest p n false).1=rest.take n.toNat∧(dataOf rest p n false).2.2.1=p + (n + 2)∧n + 2 ≤ (rest.length:Int)∧rd rest n=13∧rd rest (n + 1)=10:=by
 unfold dataOf at h1 h2 ⊢
 by_cases a0:n < (rest.length:Int)
 ·rw [if_pos a0] at h1 h2 ⊢
  by_cases a1:rd rest n=13
  ·rw [if_pos a1] at h1 h2 ⊢
   by_cases a2:n + 1 < (rest.length:Int)
   ·rw [if_pos a2] at h1 h2 ⊢
    by_cases a3:rd rest (n + 1)=10
    ·rw [if_pos a3]
     exact ⟨rfl,by show wrap64 (p + (n + 2))=_;unfold wrap64;omega,by omega,a1,a3⟩
    ·rw [if_neg a3] at h1;simp at h1
   ·rw [if_neg a2] at h2;simp at h2
  ·rw [if_neg a1] at h1;simp at h1
 ·rw [if_neg a0] at h2;simp at h2
theorem dec_f (l:List Int) (hl:l.length ≤ 1000000) : ∀ (d p:Nat) (left:Int) (out:List Int) (k:Nat),p ≤ l.length → l.length < p + d → out.length ≤ p → 0 ≤ left → left ≤ 9223372036854775807 → d + 3 * l.length + 60 ≤ k →
 chunk_Decode.l k l p left out=some (decS l d p left out):=by
 intro d
 induction d with
 | zero=>intro p left out k h1 h2;omega
 | succ d ih =>
  intro p left out k hp hd ho hl0 hl1 hk
  obtain ⟨k,rfl⟩ : ∃ m,k=m + 1:=⟨k - 1,by omega⟩
  have hsh:=cutS_shape (l.drop p) 256
  have hdl:(l.drop p).length=l.length - p:=List.length_drop ..
  rw [chunk_Decode.l,size_f l p hp hl k (by omega),Option.bind_some,decS]
  obtain ⟨c,hc⟩ : ∃ c,c=cutSpec (l.drop p) 256:=⟨_,rfl⟩
  rw [← hc] at hsh ⊢
  by_cases h1:c.2.2=0
  ·rw [if_pos h1,if_pos h1]
   by_cases h2:c.2.1=0
   ·rw [if_pos h2,if_pos h2]
    simp
   ·have hz2:c.2.1 > 0∧c.2.1 ≤ (l.length:Int) - p∧(c.1.size:Int)=c.2.1 - 2:=by rcases hsh with h|h <;> omega
    rw [if_neg h2,if_neg h2]
    obtain ⟨z,hz⟩ : ∃ z,z=sizeS c.1.data.toList:=⟨_,rfl⟩
    have hzb:=size_bound c.1.data.toList
    rw [← hz] at hzb ⊢
    obtain ⟨q,hq⟩ : ∃ q,q=p + c.2.1.toNat:=⟨_,rfl⟩
    have hq2:(p:Int) + c.2.1=(q:Int):=by omega
    rw [← hq,hq2]
    by_cases h3:z.2=true
    ·rw [if_pos h3,if_pos h3]
     simp only
     rw [if_pos trivial,if_neg (by simp)]
     by_cases h4:z.1=0
     ·rw [if_pos h4,if_pos h4]
      obtain ⟨q',m,ht,hm⟩:=trail_f l hl 41 0 q k (by omega) (by omega) (by omega) (by omega)
      have ht' : chunk_reader_trailer.f k l q=some ((trailS l 41 q).2,q',m):=ht
      rw [ht',Option.bind_some]
      by_cases h5:(trailS l 41 q).2=0
      ·obtain ⟨hm1,hm2⟩:=hm h5
       rw [if_pos h5,if_pos h5]
       by_cases h6:(trailS l 41 q).1=0
       ·rw [if_pos h6,if_pos (hm1.2 h6)]
       ·have hmf:m=false:=by cases m with|false=>rfl|true=>exact absurd (hm1.1 rfl) h6
        rw [if_neg h6,hmf,if_neg (by simp),hm2 hmf]
      ·rw [if_neg h5,if_neg h5]
     ·rw [if_neg h4,if_neg h4]
      by_cases h5:z.1 > left
      ·rw [if_pos h5,if_pos h5]
      ·rw [if_neg h5,if_neg h5,data_f l q z.1 (by omega) hzb.1 hzb.2,Option.bind_some]
       have hdr:(l.drop q).length=l.length - q:=List.length_drop ..
       by_cases h6:(dataOf (l.drop q) (q:Int) z.1 false).2.1=0
       ·rw [if_pos h6,if_pos h6]
        by_cases h7:(dataOf (l.drop q) (q:Int) z.1 false).2.2.2=true
        ·rw [if_pos h7,if_pos h7]
        ·obtain ⟨e1,e2,e3,_,_⟩:=data_ok (l.drop q) q z.1 (by omega) (by omega) hzb.1 (by omega) h6 h7
         have htk:((l.drop q).take z.1.toNat).length ≤ z.1.toNat:=List.length_take_le ..
         rw [if_neg h7,if_neg h7,e1,e2,if_pos (by omega),show wrap64 (left - z.1)=left - z.1 by unfold wrap64;omega,show (q:Int) + (z.1 + 2)=((q + z.1.toNat + 2:Nat):Int) by omega]
         exact ih _ _ _ k (by omega) (by omega) (by rw [List.length_append];omega) (by omega) (by omega) (by omega)
       ·rcases data_shape (l.drop q) q z.1 (by omega) (by omega) hzb.1 (by omega) with e|e
        ·exact absurd e h6
        ·rw [if_neg h6,if_neg h6,e]
    ·rw [if_neg h3,if_neg h3]
     simp
  ·rw [if_neg h1,if_neg h1]
   simp only
   rw [if_neg h1]
theorem Decode_f (l:List Int) (most:Int) (hl:l.length ≤ 1000000) (hm:most ≤ 9223372036854775807) (k:Nat) (hk:4 * l.length + 70 ≤ k):chunk_Decode.f k l most=some (decS l (l.length + 1) 0 (mx most 0) []):=by
 unfold chunk_Decode.f
 exact dec_f l hl (l.length + 1) 0 (mx most 0) [] k (by omega) (by omega) (by simp) (by unfold mx;split <;> omega) (by unfold mx;split <;> omega) (by omega)
theorem same_tells (a b:ByteArray) (ha:a.size ≤ 140737488355328) (hb:b.size ≤ 140737488355328):sign_Same.f a b=some (decide ((bytesOf a).map foldC=(bytesOf b).map foldC)):=by
 unfold sign_Same.f
 by_cases h:(a.size:Int)=b.size
 ·rw [if_pos h,fold_tells a ha,Option.bind_some,fold_tells b hb,Option.bind_some,str_inj (bytes_fold (bytes_of a)) (bytes_fold (bytes_of b))]
 ·rw [if_neg h]
  have hne : ¬ ((bytesOf a).map foldC=(bytesOf b).map foldC):=by
   intro e
   have:=congrArg List.length e
   rw [List.length_map,List.length_map,bytesOf_length,bytesOf_length] at this
   omega
  rw [decide_eq_false hne]
/-- How many commas. -/
def cntC (sp:UInt8):List UInt8 → Nat
 | []=>0
 | c :: l=>if c=sp then cntC sp l + 1 else cntC sp l
theorem cntC_count {sp:UInt8} (l:List UInt8):l.count sp=cntC sp l:=by
 induction l with
 | nil=>rfl
 | cons c l ih=>rw [List.count_cons,ih];by_cases hc:c=sp <;> simp [cntC,hc]
theorem cntC_append {sp:UInt8} (a b:List UInt8):cntC sp (a ++ b)=cntC sp a + cntC sp b:=by
 rw [← cntC_count,← cntC_count,← cntC_count,List.count_append]
theorem cntC_none {sp:UInt8} (l:List UInt8):cntC sp l=0 ↔ sp ∉ l:=by rw [← cntC_count];exact List.count_eq_zero
theorem cntC_le {sp:UInt8} (l:List UInt8):cntC sp l ≤ l.length:=by rw [← cntC_count];exact List.count_le_length
/-- The parts between commas. -/
def pcs (sp:UInt8):List UInt8 → List (List UInt8)
 | []=>[[]]
 | c :: l=>if c=sp then [] :: pcs sp l else (match pcs sp l with|p :: ps=>(c :: p) :: ps|[]=>[[c]])
theorem pcs_ne {sp:UInt8} (l:List UInt8) : ∃ p ps,pcs sp l=p :: ps:=by
 induction l with
 | nil=>exact ⟨[],[],rfl⟩
 | cons c l ih =>
  obtain ⟨p,ps,h⟩:=ih
  by_cases hc:c=sp
  ·exact ⟨[],pcs sp l,by simp [pcs,hc]⟩
  ·exact ⟨c :: p,ps,by simp [pcs,hc,h]⟩
theorem pcs_none {sp:UInt8} (l:List UInt8) (h:sp ∉ l):pcs sp l=[l]:=by
 induction l with
 | nil=>rfl
 | cons c l ih =>
  have hc:c ≠ sp:=fun e=>h (e ▸ List.mem_cons_self ..)
  simp [pcs,hc,ih (fun e=>h (List.mem_cons_of_mem _ e))]
theorem pcs_append {sp:UInt8} (a b:List UInt8):pcs sp (a ++ sp :: b)=pcs sp a ++ pcs sp b:=by
 induction a with
 | nil=>simp [pcs]
 | cons c a ih =>
  by_cases hc:c=sp
  ·simp [pcs,hc,ih]
  ·obtain ⟨p,ps,hp⟩:=pcs_ne (sp:=sp) a
   simp [pcs,hc,ih,hp]
theorem pcs_length {sp:UInt8} (l:List UInt8):(pcs sp l).length=cntC sp l + 1:=by
 induction l with
 | nil=>rfl
 | cons c l ih =>
  by_cases hc:c=sp
  ·simp [pcs,cntC,hc,ih]
  ·obtain ⟨p,ps,hp⟩:=pcs_ne (sp:=sp) l
   rw [hp] at ih
   simp only [pcs,hc,if_false,hp,cntC]
   simpa using ih
theorem pcs_le {sp:UInt8} (l:List UInt8) : ∀ p ∈ pcs sp l,p.length ≤ l.length:=by
 induction l with
 | nil=>intro p hp;simp [pcs] at hp;simp [hp]
 | cons c l ih =>
  intro p hp
  by_cases hc:c=sp
  ·simp only [pcs,hc,if_true] at hp
   rcases List.mem_cons.1 hp with rfl|hp
   ·simp
   ·have:=ih p hp;simp;omega
  ·obtain ⟨q,qs,hq⟩:=pcs_ne (sp:=sp) l
   simp only [pcs,hc,if_false,hq] at hp
   rcases List.mem_cons.1 hp with rfl|hp
   ·have:=ih q (by rw [hq];exact List.mem_cons_self ..);simp;omega
   ·have:=ih p (by rw [hq];exact List.mem_cons_of_mem _ hp);simp;omega
/-- What Split tells. -/
theorem index_splitC {sp:UInt8} (l:List UInt8) (h:0 < cntC sp l) : ∃ a b,l=a ++ sp :: b∧sp ∉ a∧Lib.indexByte l sp=a.length:=by
 induction l with
 | nil=>simp [cntC] at h
 | cons c l ih =>
  by_cases hc:c=sp
  ·exact ⟨[],l,by simp [hc],by simp,by simp [Lib.indexByte,hc]⟩
  ·have h' : 0 < cntC sp l:=by simpa [cntC,hc] using h
   obtain ⟨a,b,h1,h2,h3⟩:=ih h'
   refine ⟨c :: a,b,by simp [h1],?_,?_⟩
   ·intro hm
    rcases List.mem_cons.1 hm with e|e
    ·exact hc e.symm
    ·exact h2 e
   ·have hb:(c == sp)=false:=by simpa using hc
    have hn:((a.length:Int) == -1)=false:=by simp only [beq_eq_false_iff_ne];omega
    simp [Lib.indexByte,hb,h3,hn]
theorem gs_endC {sp:UInt8} (k:Nat) (s:ByteArray) (x3:Int) (x9:List ByteArray) (i:Nat) (hc:sp ∉ s.data.toList) (hx:x3=i) (hl:x9.length=i + 1) (hi:i ≤ 4398046511104) :
 strings_genSplit.l0 (k + 1) s ⟨#[sp]⟩ 0 x3 x9 i=some (x9.take i ++ (pcs sp s.data.toList).map mkS):=by
 simp only [strings_genSplit.l0]
 rw [if_neg (by omega),if_pos (by omega),if_pos (by omega),wn1 i hi,if_pos (by omega),if_pos (by omega),pcs_none _ hc]
 have e1:((i:Int) + 1).toNat=i + 1:=by omega
 rw [e1,Int.toNat_natCast,List.take_succ_eq_append_getElem (by rw [List.length_set];omega),List.take_set_of_le (Nat.le_refl _)]
 simp [mkS_self]
theorem extract_midC {sp : UInt8} (s : ByteArray) (a b : List UInt8) (hab : s.data.toList = a ++ sp :: b) : (s.extract (a.length + 1) s.size).data.toList = b ∧ s.extract 0 a.length = mkS a ∧ (s.extract (a.length + 1) s.size).size ≤ s.size := by
  have e2 : (s.extract (a.length + 1) s.size).data.toList = b := by
    rw [Lib.extract_to_end, hab, ← List.drop_drop, List.drop_left]; rfl
  refine ⟨e2, ?_, ?_⟩
  · have : (s.extract 0 a.length).data.toList = a := by
      rw [Lib.extract_data, hab, List.drop_zero, Nat.sub_zero, List.take_left]
    rw [← mkS_self (s.extract 0 _), this]
  · have hlen : a.length + b.length + 1 = s.size := by rw [← data_length, hab]; simp; omega
    rw [← data_length, e2]
    omega
theorem gs_stepC {sp:UInt8} (k:Nat) (s:ByteArray) (x3:Int) (x9:List ByteArray) (i:Nat) (a b:List UInt8) (hab:s.data.toList=a ++ sp :: b) (hidx:Lib.indexByte s.data.toList sp=a.length) (hx:(i:Int) < x3) (hl:i < x9.length) (hs:s.size ≤ 4398046511104) (hi:i ≤ 4398046511104) :
 ∀ R,strings_genSplit.l0 k (s.extract (a.length + 1) s.size) ⟨#[sp]⟩ 0 x3 (x9.set i (mkS a)) ((i:Int) + 1)=R → strings_genSplit.l0 (k + 1) s ⟨#[sp]⟩ 0 x3 x9 i=R:=by
 intro R hR
 have hlen:a.length + b.length + 1=s.size:=by rw [← data_length,hab];simp;omega
 have hix:strings_Index.f s ⟨#[sp]⟩=some (a.length:Int):=by
  show some (Lib.indexByte s.data.toList sp)=_
  rw [hidx]
 have hs1:((⟨#[sp]⟩:ByteArray).size:Int)=1:=rfl
 have e1:((a.length:Int) + 1).toNat=a.length + 1:=by omega
 obtain ⟨_,e3,_⟩:=extract_midC s a b hab
 simp only [strings_genSplit.l0]
 rw [if_pos hx,hix]
 rw [Option.bind_some]
 rw [if_neg (by omega),wn0 _ (by omega),hs1,wn1 _ (by omega),if_pos (by omega),if_pos (by omega),if_pos (by omega),if_pos (by omega),if_pos (by omega),if_pos (by omega),wn1 i hi,e1,Int.toNat_natCast,Int.toNat_natCast,e3]
 exact hR
theorem gs_l0C {sp:UInt8} (d:Nat) : ∀ (k:Nat) (s:ByteArray) (x3:Int) (x9:List ByteArray) (i:Nat),cntC sp s.data.toList=d → x3=i + d → x9.length=i + d + 1 → d + 1 ≤ k → s.size ≤ 4398046511104 →
 i + d ≤ 4398046511104 → strings_genSplit.l0 k s ⟨#[sp]⟩ 0 x3 x9 i=some (x9.take i ++ (pcs sp s.data.toList).map mkS):=by
 induction d with
 | zero =>
  intro k s x3 x9 i hc hx hl hk hs hid
  obtain ⟨k,rfl⟩ : ∃ m,k=m + 1:=⟨k - 1,by omega⟩
  exact gs_endC k s x3 x9 i ((cntC_none _).1 hc) (by omega) (by omega) (by omega)
 | succ d ih =>
  intro k s x3 x9 i hc hx hl hk hs hid
  obtain ⟨k,rfl⟩ : ∃ m,k=m + 1:=⟨k - 1,by omega⟩
  obtain ⟨a,b,hab,ha,hidx⟩:=index_splitC (sp:=sp) s.data.toList (by omega)
  obtain ⟨e2,_,e4⟩:=extract_midC s a b hab
  have hcb:cntC sp b=d:=by
   rw [hab,cntC_append,(cntC_none a).2 ha] at hc
   simp only [cntC,if_true] at hc
   omega
  refine gs_stepC k s x3 x9 i a b hab hidx (by omega) (by omega) hs (by omega) _ ?_
  have:=ih k (s.extract (a.length + 1) s.size) x3 (x9.set i (mkS a)) (i + 1) (by rw [e2];exact hcb) (by omega) (by rw [List.length_set];omega) (by omega) (by omega) (by omega)
  rw [show (((i + 1:Nat)):Int)=(i:Int) + 1 by omega] at this
  rw [this,e2,hab,pcs_append,pcs_none a ha,List.take_succ_eq_append_getElem (by rw [List.length_set];omega),List.take_set_of_le (Nat.le_refl _)]
  simp
theorem gs_firstC {sp:UInt8} (k:Nat) (s:ByteArray) (hs:s.size ≤ 4398046511103) :
 ∀ R,strings_genSplit.l0 k s ⟨#[sp]⟩ 0 ((cntC sp s.data.toList:Nat):Int) (List.replicate (cntC sp s.data.toList + 1) (⟨#[]⟩:ByteArray)) 0=R → strings_genSplit.f (k + 1) s ⟨#[sp]⟩ 0 (-1)=R:=by
 intro R hR
 have hcl:=cntC_le (sp:=sp) s.data.toList
 rw [data_length] at hcl
 have hcf:strings_Count.f s ⟨#[sp]⟩=some ((cntC sp s.data.toList:Nat):Int):=by
  rw [← cntC_count];rfl
 obtain ⟨c,hc⟩ : ∃ c,c=cntC sp s.data.toList:=⟨_,rfl⟩
 rw [← hc] at hcf hcl hR
 have hm:mn ((c:Int) + 1) ((s.size:Int) + 1)=(c:Int) + 1:=by unfold mn;split <;> omega
 have e1:((c:Int) + 1).toNat=c + 1:=by omega
 have hne : ¬ ((⟨#[sp]⟩:ByteArray).toList=[]):=by rw [toList_data];simp
 unfold strings_genSplit.f
 rw [if_neg (by decide),if_neg hne,if_pos (by decide),hcf]
 rw [Option.bind_some]
 simp only [strings_genSplit.j0]
 rw [wn1 c (by omega),wn1 s.size (by omega),hm,wnm c (by omega),e1,if_pos (by omega),if_pos (by omega)]
 exact hR
theorem Split_fC {sp:UInt8} (s:ByteArray) (hs:s.size ≤ 4398046511103) (k:Nat) (hk:s.size + 3 ≤ k):strings_Split.f k s ⟨#[sp]⟩=some ((pcs sp s.data.toList).map mkS):=by
 obtain ⟨k,rfl⟩ : ∃ m,k=m + 1:=⟨k - 1,by omega⟩
 have hcl:=cntC_le (sp:=sp) s.data.toList
 rw [data_length] at hcl
 unfold strings_Split.f
 have:=gs_l0C (cntC sp s.data.toList) k s ((cntC sp s.data.toList:Nat):Int) (List.replicate (cntC sp s.data.toList + 1) (⟨#[]⟩:ByteArray)) 0 rfl (by omega) (by rw [List.length_replicate];omega) (by omega) (by omega) (by omega)
 rw [show ((0:Nat):Int)=0 from rfl] at this
 rw [gs_firstC k s hs _ this]
 simp
/-- The parts of a list: trimmed,the empty ones left out. -/
def commaParts (l:List UInt8):List (List UInt8):=((pcs 44 l).map trm).filter (fun p => !p.isEmpty)
theorem split_step (ps:List (List UInt8)) (i:Int) (h0:0 ≤ i) (hlt:i < (ps.length:Int)):((ps.drop i.toNat).map trm).filter (fun p => !p.isEmpty)=(if trm (ps.getD i.toNat [])=[] then [] else [trm (ps.getD i.toNat [])]) ++ ((ps.drop (i + 1).toNat).map trm).filter (fun p => !p.isEmpty):=by
 have hl:i.toNat < ps.length:=by omega
 have hg:ps.getD i.toNat []=ps[i.toNat]:=by rw [List.getD_eq_getElem?_getD,List.getElem?_eq_getElem hl];rfl
 rw [hg,List.drop_eq_getElem_cons hl,show (i + 1).toNat=i.toNat + 1 by omega,List.map_cons,List.filter_cons]
 by_cases he:trm ps[i.toNat]=[]
 ·rw [if_pos he,he];rfl
 ·rw [if_neg he,if_pos (by simpa using he)];rfl
theorem split_l0 (ps:List (List UInt8)) (hl : ∀ p ∈ ps,p.length ≤ 4398046511104) (hn:ps.length ≤ 4398046511104) (d:Nat) : ∀ (k:Nat) (out:List ByteArray) (i:Int),0 ≤ i → (ps.length:Int) - i=d → d + 1 ≤ k → (out.length:Int) ≤ i →
 sign_Split.l0 k out (ps.map mkS) (ps.length:Int) i=some (out ++ (((ps.drop i.toNat).map trm).filter (fun p => !p.isEmpty)).map mkS):=by
 induction d with
 | zero =>
  intro k out i h0 hd hk ho
  obtain ⟨k,rfl⟩ : ∃ m,k=m + 1:=⟨k - 1,by omega⟩
  simp only [sign_Split.l0]
  rw [if_neg (by omega),List.drop_of_length_le (by omega)]
  simp
 | succ d ih =>
  intro k out i h0 hd hk ho
  obtain ⟨k,rfl⟩ : ∃ m,k=m + 1:=⟨k - 1,by omega⟩
  have hlt:i.toNat < ps.length:=by omega
  have hg:ps.getD i.toNat []=ps[i.toNat]:=by rw [List.getD_eq_getElem?_getD,List.getElem?_eq_getElem hlt];rfl
  have hlp:=hl _ (List.getElem_mem hlt)
  rw [← hg] at hlp
  rw [split_step ps i h0 (by omega)]
  simp only [sign_Split.l0]
  rw [if_pos (by omega),if_pos h0,if_pos (by rw [List.length_map];omega),rdOf_mk ps i h0 (by omega),Trim_f _ (by rw [mkS_size];omega),mkS_data]
  simp only [Option.bind_some,wi1 i h0 (by omega)]
  rw [show (⟨(trm (ps.getD i.toNat [])).toArray⟩:ByteArray)=mkS (trm (ps.getD i.toNat [])) from rfl,mkS_toList]
  by_cases he:trm (ps.getD i.toNat [])=[]
  ·rw [if_pos he,if_pos he,ih k out (i + 1) (by omega) (by omega) (by omega) (by omega)]
   rfl
  ·rw [if_neg he,if_neg he,if_pos (by omega),ih k _ (i + 1) (by omega) (by omega) (by omega) (by rw [List.length_append];simp;omega)]
   simp only [List.map_append,List.map_cons,List.map_nil,List.append_assoc]
theorem signSplit_f (s:ByteArray) (hs:s.size ≤ 4398046511103) (k:Nat) (hk:s.size + 3 ≤ k):sign_Split.f k s=some ((commaParts s.data.toList).map mkS):=by
 unfold sign_Split.f
 have hpl:=pcs_length (sp:=44) s.data.toList
 have hcl:=cntC_le (sp:=44) s.data.toList
 rw [data_length] at hcl
 rw [Split_fC s hs k hk]
 simp only [Option.bind_some,List.length_map]
 rw [split_l0 (pcs 44 s.data.toList) (fun p hp=>by have:=pcs_le _ p hp;rw [data_length] at this;omega) (by omega) (pcs 44 s.data.toList).length k [] 0 (by omega) (by omega) (by omega) (by simp)]
 rfl
theorem rdT_at (xs:List (S36)) (i:Nat) (h:i < xs.length):rd_T36 xs (i:Int)=xs[i]:=by
 unfold rd_T36
 rw [Int.toNat_natCast,List.getD_eq_getElem?_getD,List.getElem?_eq_getElem h];rfl
theorem rdB_at (xs:List ByteArray) (i:Nat) (h:i < xs.length):rdOf ByteArray.empty xs (i:Int)=xs[i]:=by
 unfold rdOf
 rw [Int.toNat_natCast,List.getD_eq_getElem?_getD,List.getElem?_eq_getElem h];rfl
/-- The same names. -/
def sameN (a b:ByteArray):Bool:=decide ((bytesOf a).map foldC=(bytesOf b).map foldC)
theorem same_f (a b:ByteArray) (ha:a.size ≤ 140737488355328) (hb:b.size ≤ 140737488355328):sign_Same.f a b=some (sameN a b):=same_tells a b ha hb
/-- Few fields,of short texts. -/
def FB (fs:List (S36)):Prop:=fs.length ≤ 1000 ∧ ∀ f ∈ fs,f.f0.size ≤ 1048576∧f.f1.size ≤ 1048576
/-- The values of a name. -/
def getS (name:ByteArray):List (S36) → List ByteArray
 | []=>[]
 | f :: r=>if sameN f.f0 name=true then f.f1 :: getS name r else getS name r
theorem getS_len (name:ByteArray) : ∀ fs,(getS name fs).length ≤ fs.length
 | []=>Nat.le_refl _
 | f :: r=>by rw [getS];have:=getS_len name r;split <;> simp only [List.length_cons] <;> omega
theorem getS_mem (name:ByteArray) : ∀ (fs:List (S36)) (v:ByteArray),v ∈ getS name fs → ∃ f ∈ fs,v=f.f1∧sameN f.f0 name=true
 | [],v,h=>by cases h
 | f :: r,v,h=>by
  rw [getS] at h
  by_cases hs:sameN f.f0 name=true
  ·rw [if_pos hs] at h
   rcases List.mem_cons.1 h with rfl|h
   ·exact ⟨f,List.mem_cons_self,rfl,hs⟩
   ·obtain ⟨g,hg,e⟩:=getS_mem name r v h;exact ⟨g,List.mem_cons_of_mem _ hg,e⟩
  ·rw [if_neg hs] at h
   obtain ⟨g,hg,e⟩:=getS_mem name r v h;exact ⟨g,List.mem_cons_of_mem _ hg,e⟩
theorem get_l0 (name:ByteArray) (hn:name.size ≤ 1048576) (fs:List (S36)) (hf:FB fs) (d:Nat) : ∀ (k i:Nat) (out:List ByteArray),i + d=fs.length → d < k → out.length ≤ i →
 field_Get.l0 k name out fs (fs.length:Int) (i:Int)=some (out ++ getS name (fs.drop i)):=by
 have hfl:=hf.1
 induction d with
 | zero =>
  intro k i out hi hk ho
  obtain ⟨k,rfl⟩ : ∃ m,k=m + 1:=⟨k - 1,by omega⟩
  rw [field_Get.l0,if_neg (by omega),List.drop_of_length_le (by omega),getS,List.append_nil]
 | succ d ih =>
  intro k i out hi hk ho
  obtain ⟨k,rfl⟩ : ∃ m,k=m + 1:=⟨k - 1,by omega⟩
  have hlt:i < fs.length:=by omega
  have hb:=hf.2 _ (List.getElem_mem hlt)
  have hw:wrap64 ((i:Int) + 1)=((i + 1:Nat):Int):=by unfold wrap64;omega
  rw [field_Get.l0,if_pos (by omega),if_pos (by omega),if_pos (by omega),rdT_at fs i hlt,same_f _ _ (by omega) (by omega),Option.bind_some,hw,List.drop_eq_getElem_cons hlt,getS]
  by_cases hs:sameN fs[i].f0 name=true
  ·rw [if_pos hs,if_pos hs,if_pos (by omega),ih k (i + 1) _ (by omega) (by omega) (by rw [List.length_append];simp;omega)]
   simp only [List.append_assoc,List.singleton_append]
  ·rw [if_neg hs,if_neg hs,ih k (i + 1) _ (by omega) (by omega) (by omega)]
theorem Get_f (fs:List (S36)) (name:ByteArray) (hf:FB fs) (hn:name.size ≤ 1048576) (k:Nat) (hk:fs.length < k):field_Get.f k fs name=some (getS name fs):=by
 have:=get_l0 name hn fs hf fs.length k 0 [] (by omega) hk (Nat.zero_le _)
 rw [List.drop_zero,List.nil_append] at this
 exact this
/-- A value's parts. -/
def partsS (v:ByteArray):List ByteArray:=(commaParts v.data.toList).map mkS
theorem comma_len (l:List UInt8):(commaParts l).length ≤ l.length + 1:=by
 unfold commaParts
 have h1:=List.length_filter_le (fun p => !p.isEmpty) ((pcs 44 l).map trm)
 rw [List.length_map,pcs_length] at h1
 have h2:=cntC_le (sp:=44) l
 omega
theorem parts_len (v:ByteArray):(partsS v).length ≤ v.size + 1:=by
 unfold partsS
 rw [List.length_map]
 have:=comma_len v.data.toList
 rw [data_length] at this
 exact this
theorem comma_size (l:List UInt8) : ∀ p ∈ commaParts l,p.length ≤ l.length:=by
 intro p hp
 unfold commaParts at hp
 obtain ⟨q,hq,rfl⟩:=List.mem_map.1 (List.mem_filter.1 hp).1
 exact Nat.le_trans (trm_length q) (pcs_le l q hq)
theorem parts_size (v:ByteArray) : ∀ p ∈ partsS v,p.size ≤ v.size:=by
 intro p hp
 obtain ⟨q,hq,rfl⟩:=List.mem_map.1 hp
 rw [mkS_size,← data_length]
 exact comma_size _ q hq
theorem list_l0 (vs:List ByteArray) (hl:vs.length ≤ 1000) (hv : ∀ v ∈ vs,v.size ≤ 1048576) (d:Nat) : ∀ (k i:Nat) (out:List ByteArray),i + d=vs.length → d + 1048580 ≤ k → out.length ≤ 1048577 * i →
 field_List.l0 k out vs (vs.length:Int) (i:Int)=some (out ++ (vs.drop i).flatMap partsS):=by
 induction d with
 | zero =>
  intro k i out hi hk ho
  obtain ⟨k,rfl⟩ : ∃ m,k=m + 1:=⟨k - 1,by omega⟩
  rw [field_List.l0,if_neg (by omega),List.drop_of_length_le (by omega),List.flatMap_nil,List.append_nil]
 | succ d ih =>
  intro k i out hi hk ho
  obtain ⟨k,rfl⟩ : ∃ m,k=m + 1:=⟨k - 1,by omega⟩
  have hlt:i < vs.length:=by omega
  have hb:=hv _ (List.getElem_mem hlt)
  have hp:=parts_len vs[i]
  have hw:wrap64 ((i:Int) + 1)=((i + 1:Nat):Int):=by unfold wrap64;omega
  rw [field_List.l0,if_pos (by omega),if_pos (by omega),if_pos (by omega),rdB_at vs i hlt,signSplit_f _ (by omega) k (by omega),Option.bind_some,hw,List.drop_eq_getElem_cons hlt,List.flatMap_cons]
  have e:(commaParts vs[i].data.toList).map mkS=partsS vs[i]:=rfl
  rw [e,if_pos (by omega),ih k (i + 1) _ (by omega) (by omega) (by rw [List.length_append];omega),List.append_assoc]
/-- All parts of a name's values. -/
def listS (name:ByteArray) (fs:List (S36)):List ByteArray:=(getS name fs).flatMap partsS
theorem get_bounds (fs:List (S36)) (name:ByteArray) (hf:FB fs):(getS name fs).length ≤ 1000 ∧ ∀ v ∈ getS name fs,v.size ≤ 1048576:=by
 refine ⟨Nat.le_trans (getS_len name fs) hf.1,fun v hv=>?_⟩
 obtain ⟨f,hm,rfl,_⟩:=getS_mem name fs v hv
 exact (hf.2 f hm).2
theorem List_f (fs:List (S36)) (name:ByteArray) (hf:FB fs) (hn:name.size ≤ 1048576) (k:Nat) (hk:1049600 ≤ k):field_List.f k fs name=some (listS name fs):=by
 obtain ⟨h1,h2⟩:=get_bounds fs name hf
 have hfl:=hf.1
 unfold field_List.f
 rw [Get_f fs name hf hn k (by omega),Option.bind_some]
 have:=list_l0 (getS name fs) h1 h2 (getS name fs).length k 0 [] (by omega) (by omega) (by simp)
 rw [List.drop_zero,List.nil_append] at this
 exact this
theorem flat_len (B:Nat) : ∀ vs:List ByteArray,(∀ v ∈ vs,v.size ≤ B) → (vs.flatMap partsS).length ≤ vs.length * (B + 1)
 | [],_=>by simp
 | v :: r,h=>by
  rw [List.flatMap_cons,List.length_append,List.length_cons,Nat.succ_mul]
  have h1:=flat_len B r (fun u hu=>h u (List.mem_cons_of_mem _ hu))
  have h2:=parts_len v
  have h3:=h v List.mem_cons_self
  omega
theorem list_bounds (fs:List (S36)) (name:ByteArray) (hf:FB fs):(listS name fs).length ≤ 1048577000 ∧ ∀ p ∈ listS name fs,p.size ≤ 1048576:=by
 obtain ⟨h1,h2⟩:=get_bounds fs name hf
 refine ⟨?_,fun p hp=>?_⟩
 ·have h3:=flat_len 1048576 (getS name fs) h2
  unfold listS
  have h4:(getS name fs).length * 1048577 ≤ 1000 * 1048577:=Nat.mul_le_mul_right _ h1
  omega
 ·unfold listS at hp
  obtain ⟨v,hv,hp⟩:=List.mem_flatMap.1 hp
  exact Nat.le_trans (parts_size v p hp) (h2 v hv)
theorem numL_nn (b:Int) (hb:0 ≤ b) : ∀ (l:List Int) (n v:Int),0 ≤ n → numL b l n=some v → 0 ≤ v
 | [],n,v,hn,h=>by simp only [numL,Option.some.injEq] at h;omega
 | c :: r,n,v,hn,h=>by
  rw [numL] at h
  split at h
  ·next hc=>exact numL_nn b hb r _ v (by have:=Int.mul_nonneg hn hb;omega) h
  ·cases h
theorem num_nn (s:ByteArray):0 ≤ (numSpec s 10 18).1:=by
 unfold numSpec
 split
 ·exact Int.le_refl _
 ·split
  ·next v hv=>exact numL_nn 10 (by decide) _ 0 v (Int.le_refl _) hv
  ·exact Int.le_refl _
def lenNm:ByteArray:=⟨#[99,111,110,116,101,110,116,45,108,101,110,103,116,104]⟩
def teNm:ByteArray:=⟨#[116,114,97,110,115,102,101,114,45,101,110,99,111,100,105,110,103]⟩
def lenNM:ByteArray:=⟨#[67,111,110,116,101,110,116,45,76,101,110,103,116,104]⟩
def teNM:ByteArray:=⟨#[84,114,97,110,115,102,101,114,45,69,110,99,111,100,105,110,103]⟩
theorem getS_nm (p q:ByteArray) (h:(bytesOf p).map foldC=(bytesOf q).map foldC) : ∀ fs,getS p fs=getS q fs
 | []=>rfl
 | f :: r=>by rw [getS,getS,getS_nm p q h r];unfold sameN;rw [h]
theorem listS_nm (p q:ByteArray) (h:(bytesOf p).map foldC=(bytesOf q).map foldC) (fs:List (S36)):listS p fs=listS q fs:=by unfold listS;rw [getS_nm p q h]
theorem len_nm:(bytesOf lenNM).map foldC=(bytesOf lenNm).map foldC:=by decide +kernel
theorem te_nm:(bytesOf teNM).map foldC=(bytesOf teNm).map foldC:=by decide +kernel
/-- Is a name there? -/
def thereS (name:ByteArray) (fs:List (S36)):Bool:=decide (((getS name fs).length:Int) > 0)
theorem there_f (fs:List (S36)) (name:ByteArray) (hf:FB fs) (hn:name.size ≤ 1048576) (k:Nat) (hk:fs.length < k):frame_there.f k fs name=some (thereS name fs):=by
 unfold frame_there.f
 rw [Get_f fs name hf hn k hk,Option.bind_some];rfl
theorem thereLen_f (fs:List (S36)) (hf:FB fs) (k:Nat) (hk:fs.length < k):frame_there.f k fs ⟨#[67,111,110,116,101,110,116,45,76,101,110,103,116,104]⟩=some (thereS lenNm fs):=by
 have h:=there_f fs lenNM hf (by decide) k hk
 have e:thereS lenNM fs=thereS lenNm fs:=by unfold thereS;rw [getS_nm _ _ len_nm]
 rw [e] at h
 exact h
theorem thereTe_f (fs:List (S36)) (hf:FB fs) (k:Nat) (hk:fs.length < k):frame_there.f k fs ⟨#[84,114,97,110,115,102,101,114,45,69,110,99,111,100,105,110,103]⟩=some (thereS teNm fs):=by
 have h:=there_f fs teNM hf (by decide) k hk
 have e:thereS teNM fs=thereS teNm fs:=by unfold thereS;rw [getS_nm _ _ te_nm]
 rw [e] at h
 exact h
/-- The length that parts tell. -/
def lenS:List ByteArray → Int × Bool
 | []=>(0,false)
 | p :: r=>if (numSpec p 10 18).2=true∧(r.all fun q=>decide (numSpec q 10 18=((numSpec p 10 18).1,true)))=true then ((numSpec p 10 18).1,true) else (0,false)
theorem len_rest (ps:List ByteArray) (hl:ps.length ≤ 1048577000) (hs : ∀ p ∈ ps,p.size ≤ 1048576) (n:Int) (hn:0 ≤ n) (d:Nat) : ∀ (k i:Nat),i + d=ps.length → d + 2100000 ≤ k →
 frame_length.l0 k n ps (ps.length:Int) (i:Int)=some (if ((ps.drop i).all fun q=>decide (numSpec q 10 18=(n,true)))=true then (n,true) else (0,false)):=by
 induction d with
 | zero =>
  intro k i hi hk
  obtain ⟨k,rfl⟩ : ∃ m,k=m + 1:=⟨k - 1,by omega⟩
  rw [frame_length.l0,if_neg (by omega),List.drop_of_length_le (by omega),List.all_nil,if_pos rfl,decide_eq_true hn]
 | succ d ih =>
  intro k i hi hk
  obtain ⟨k,rfl⟩ : ∃ m,k=m + 1:=⟨k - 1,by omega⟩
  have hlt:i < ps.length:=by omega
  have hb:=hs _ (List.getElem_mem hlt)
  have hw:wrap64 ((i:Int) + 1)=((i + 1:Nat):Int):=by unfold wrap64;omega
  rw [frame_length.l0,if_pos (by omega),if_pos (by omega),if_pos (by omega),rdB_at ps i hlt,Decimal_f _ (by omega) k (by omega),Option.bind_some,hw,List.drop_eq_getElem_cons hlt,List.all_cons]
  obtain ⟨z,hz⟩ : ∃ z,z=numSpec ps[i] 10 18:=⟨_,rfl⟩
  rw [← hz]
  by_cases h1:z.2=true
  ·rw [if_pos h1,if_pos hn]
   by_cases h2:z.1=n
   ·have e:z=(n,true):=Prod.ext h2 h1
    rw [if_pos h2,h2,ih k (i + 1) (by omega) (by omega),decide_eq_true e,Bool.true_and]
   ·have e : ¬ z=(n,true):=fun e=>h2 (by rw [e])
    rw [if_neg h2,decide_eq_false e,Bool.false_and,if_neg (by simp)]
  ·have e : ¬ z=(n,true):=fun e=>h1 (by rw [e])
   rw [if_neg h1,decide_eq_false e,Bool.false_and,if_neg (by simp)]
theorem length_fs (fs:List (S36)) (hf:FB fs) (k:Nat) (hk:1060000000 ≤ k):frame_length.f k fs=some (if listS lenNm fs=[] then (-1,false) else lenS (listS lenNm fs)):=by
 have hlb:=list_bounds fs lenNm hf
 obtain ⟨ps,hps⟩ : ∃ ps,ps=listS lenNm fs:=⟨_,rfl⟩
 have hL:field_List.f k fs (⟨#[67,111,110,116,101,110,116,45,76,101,110,103,116,104]⟩:ByteArray)=some ps:=by
  have h:=List_f fs lenNM hf (by decide) k (by omega)
  rw [listS_nm _ _ len_nm,← hps] at h
  exact h
 unfold frame_length.f
 rw [hL,Option.bind_some,← hps]
 rw [← hps] at hlb
 obtain ⟨k,rfl⟩ : ∃ m,k=m + 1:=⟨k - 1,by omega⟩
 cases ps with
 | nil =>
  rw [frame_length.l0,if_neg (by simp),if_pos rfl]
  rfl
 | cons p r =>
  have hb:=hlb.2 p List.mem_cons_self
  have hr0:rdOf ByteArray.empty (p :: r) 0=p:=rdB_at (p :: r) 0 (by simp)
  rw [frame_length.l0,if_pos (by simp only [List.length_cons];omega),if_pos (by omega),if_pos (by simp only [List.length_cons];omega),hr0,Decimal_f _ (by omega) k (by omega),Option.bind_some,show (if (p :: r)=[] then ((-1:Int),false) else lenS (p :: r))=lenS (p :: r) from if_neg (by simp),lenS]
  obtain ⟨z,hz⟩ : ∃ z,z=numSpec p 10 18:=⟨_,rfl⟩
  have hnn:=num_nn p
  rw [← hz] at hnn ⊢
  by_cases h1:z.2=true
  ·have h:=len_rest (p :: r) hlb.1 hlb.2 z.1 hnn r.length k 1 (by simp only [List.length_cons];omega) (by have:=hlb.1;simp only [List.length_cons] at this;omega)
   have h' : frame_length.l0 k z.1 (p :: r) ((p :: r).length:Int) 1=_:=h
   rw [if_pos h1,if_neg (by decide),show wrap64 (0 + 1)=1 by unfold wrap64;omega,h']
   simp only [List.drop_succ_cons,List.drop_zero]
   by_cases h2:(r.all fun q=>decide (numSpec q 10 18=(z.1,true)))=true
   ·rw [if_pos h2,if_pos ⟨h1,h2⟩]
   ·rw [if_neg h2,if_neg (fun h=>h2 h.2)]
  ·rw [if_neg h1,if_neg (fun h=>h1 h.1)]
def chunkedW:ByteArray:=⟨#[99,104,117,110,107,101,100]⟩
/-- Are they chunked? -/
def chunkedS (fs:List (S36)):Bool:=match listS teNm fs with|[p]=>sameN p chunkedW|_=>false
theorem chunked_f (fs:List (S36)) (hf:FB fs) (k:Nat) (hk:1049600 ≤ k):frame_chunked.f k fs=some (chunkedS fs):=by
 have hlb:=list_bounds fs teNm hf
 have hL:field_List.f k fs (⟨#[84,114,97,110,115,102,101,114,45,69,110,99,111,100,105,110,103]⟩:ByteArray)=some (listS teNm fs):=by
  have h:=List_f fs teNM hf (by decide) k (by omega)
  rw [listS_nm _ _ te_nm] at h
  exact h
 unfold frame_chunked.f chunkedS
 rw [hL,Option.bind_some]
 match hps:listS teNm fs with
 | []=>rw [if_neg (by simp)]
 | [p] =>
  rw [hps] at hlb
  have hb:=hlb.2 p List.mem_cons_self
  have hr0:rdOf ByteArray.empty [p] 0=p:=rdB_at [p] 0 (by simp)
  rw [if_pos (by simp),if_pos (by simp),hr0,same_f p _ (by omega) (by decide),Option.bind_some]
  rfl
 | p :: q :: r=>rw [if_neg (by simp only [List.length_cons];omega)]
/-- How long a request's body is. -/
def reqLen (fs:List (S36)) (minor:Int):Int × Bool × Int :=
 if thereS teNm fs=true then (if thereS lenNm fs=true ∨ minor=0 then (0,false,400) else if chunkedS fs=true then (0,true,0) else (0,false,501))
 else if thereS lenNm fs=true then (if (lenS (listS lenNm fs)).2=true then (if (lenS (listS lenNm fs)).1 > 4096 then (0,false,413) else ((lenS (listS lenNm fs)).1,false,0)) else (0,false,400)) else (0,false,0)
theorem lenS_if (ps:List ByteArray):(if ps=[] then ((-1:Int),false) else lenS ps).2=(lenS ps).2∧((lenS ps).2=true → (if ps=[] then ((-1:Int),false) else lenS ps).1=(lenS ps).1):=by
 by_cases h:ps=[]
 ·rw [if_pos h,h];exact ⟨rfl,fun h=>by cases h⟩
 ·rw [if_neg h];exact ⟨rfl,fun _=>rfl⟩
theorem frameReq_f (fs:List (S36)) (minor:Int) (hf:FB fs) (k:Nat) (hk:1060000010 ≤ k):frame_Request.f k fs minor=some (reqLen fs minor):=by
 have hfl:=hf.1
 obtain ⟨k,rfl⟩ : ∃ m,k=m + 2:=⟨k - 2,by omega⟩
 obtain ⟨hl1,hl2⟩:=lenS_if (listS lenNm fs)
 unfold frame_Request.f reqLen
 rw [thereLen_f fs hf _ (by omega),Option.bind_some,thereTe_f fs hf _ (by omega),Option.bind_some,length_fs fs hf _ (by omega),Option.bind_some]
 obtain ⟨z,hz⟩ : ∃ z,z=(if listS lenNm fs=[] then ((-1:Int),false) else lenS (listS lenNm fs)):=⟨_,rfl⟩
 rw [← hz] at hl1 hl2 ⊢
 obtain ⟨y,hy⟩ : ∃ y,y=lenS (listS lenNm fs):=⟨_,rfl⟩
 rw [← hy] at hl1 hl2 ⊢
 have hj1 : ∀ L T b,frame_Request.j1 (k + 1) L T z.1 z.2 b=some (if b=true then (0,false,501) else if T=true then (0,true,0) else if L=true then (if y.2=true then (if y.1 > 4096 then (0,false,413) else (y.1,false,0)) else (0,false,400)) else (0,false,0)):=by
  intro L T b
  rw [frame_Request.j1,hl1]
  cases b <;> cases T <;> cases L <;> try rfl
  cases h:y.2
  ·rfl
  ·rw [hl2 h]
   by_cases h9:y.1 > 4096
   ·simp [h9]
   ·simp [h9]
 have hj0 : ∀ L T x,frame_Request.j0 (k + 2) fs L T z.1 z.2 x=some (if x=true then (0,false,400) else if T=true then (if chunkedS fs=true then (0,true,0) else (0,false,501)) else if L=true then (if y.2=true then (if y.1 > 4096 then (0,false,413) else (y.1,false,0)) else (0,false,400)) else (0,false,0)):=by
  intro L T x
  rw [frame_Request.j0,chunked_f fs hf (k + 1) (by omega),Option.bind_some,hj1,hj1]
  cases x <;> cases T <;> cases chunkedS fs <;> rfl
 rw [hj0,hj0,hj0]
 by_cases hm:minor=0
 ·rw [beq_iff_eq.2 hm]
  cases thereS teNm fs <;> cases thereS lenNm fs <;> simp [hm]
 ·rw [beq_eq_false_iff_ne.2 hm]
  cases thereS teNm fs <;> cases thereS lenNm fs <;> simp [hm]
def bodyS (b:List Int) (size:Int) (coded:Bool):List Int × Int × Int :=
 if coded=true then (if (decS b (b.length + 1) 0 4096 []).2.2=2 then ([],-1,413) else if (decS b (b.length + 1) 0 4096 []).2.2=0 then (if (decS b (b.length + 1) 0 4096 []).2.1=0 then ([],-1,0) else ((decS b (b.length + 1) 0 4096 []).1,(decS b (b.length + 1) 0 4096 []).2.1,0)) else ([],-1,400))
 else if (b.length:Int) < size then ([],-1,0) else (b.take size.toNat,size,0)
theorem lenS_nn (ps:List ByteArray):0 ≤ (lenS ps).1:=by
 cases ps with
 | nil=>decide
 | cons p r =>
  rw [lenS]
  split
  ·exact num_nn p
  ·decide
theorem reqLen_size (fs:List (S36)) (m:Int):0 ≤ (reqLen fs m).1∧(reqLen fs m).1 ≤ 4096:=by
 have h0:0 ≤ (lenS (listS lenNm fs)).1:=lenS_nn _
 unfold reqLen
 repeat' split
 all_goals first|exact ⟨by decide,by decide⟩|(constructor <;> simp only [] <;> omega)
/-- The field that a line tells. -/
def fieldX (l:List UInt8):S36:=⟨mkS (l.takeWhile (· != 58)),mkS (trm ((l.dropWhile (· != 58)).drop 1))⟩
theorem field_ok (l:List UInt8) (hn:l.length ≤ 140737488355328) (hr:fieldOk l=true):field_Parse.f (mkS l)=some ((fieldX l).f0,(fieldX l).f1,0):=by
 unfold field_Parse.f
 rcases split_first 58 l with h|⟨a,b,rfl,h⟩
 ·rw [fieldOk_no l h] at hr;cases hr
 ·rw [fieldOk_yes a b h] at hr
  obtain ⟨e1,e2⟩:=take_first 58 a b h
  unfold fieldX
  rw [e1,e2,Cut_yes 58 a b h hn,Option.bind_some]
  simp only
  rw [Trim_mk _ (by rw [mkS_size];rw [List.length_append,List.length_cons] at hn;omega),Option.bind_some,if_pos trivial,field_right_f,Option.bind_some,mkS_data,hr]
  rfl
theorem field_no (l:List UInt8) (hn:l.length ≤ 140737488355328) (hr:fieldOk l=false) : ∃ x y,field_Parse.f (mkS l)=some (x,y,20):=by
 obtain ⟨x,y,h⟩:=field_f l hn
 rw [hr] at h
 exact ⟨x,y,h⟩
/-- The lines behind the first one;how many bytes the head has;a status. -/
def tailS (l:List Int) (e:Int):Nat → Nat → List ByteArray × Int × Int
 | 0,_=>([],0,0)
 | d + 1,p=>if (cutSpec (l.drop p) 2048).2.2=20 then ([],0,400)
  else if (cutSpec (l.drop p) 2048).2.1=0 then ([],0,e)
  else if (cutSpec (l.drop p) 2048).1.toList=[] then ([],(p:Int) + (cutSpec (l.drop p) 2048).2.1,0)
  else ((cutSpec (l.drop p) 2048).1 :: (tailS l e d (p + (cutSpec (l.drop p) 2048).2.1.toNat)).1,(tailS l e d (p + (cutSpec (l.drop p) 2048).2.1.toNat)).2)
/-- The lines of a head,without the empty one;how many bytes it has;a status. -/
def linesS (l:List Int) (e:Int):List ByteArray × Int × Int :=
 if (cutSpec l 2048).2.2=20 then ([],0,400)
 else if (cutSpec l 2048).2.1=0 then ([],0,e)
 else ((cutSpec l 2048).1 :: (tailS l e (l.length + 1) (cutSpec l 2048).2.1.toNat).1,(tailS l e (l.length + 1) (cutSpec l 2048).2.1.toNat).2)
/-- The fields that lines tell,n fields before them;a status. -/
def fieldsS:List ByteArray → Nat → List (S36) × Int
 | [],_=>([],0)
 | s :: ss,n=>if fieldOk s.data.toList=true then (if n=40 then ([],431) else if (fieldsS ss (n + 1)).2=0 then (fieldX s.data.toList :: (fieldsS ss (n + 1)).1,0) else ([],(fieldsS ss (n + 1)).2)) else ([],400)
def bdS (l:List Int):List Int:=l.take 2048
def extS (l:List Int):Int:=if 2048 ≤ (l.length:Int) then 431 else 0
theorem bdS_length (l:List Int):(bdS l).length ≤ 2048∧(bdS l).length ≤ l.length:=by unfold bdS;rw [List.length_take];omega
theorem mn_take (l:List Int):l.take (mn (l.length:Int) 2048).toNat=bdS l:=by
 unfold bdS mn
 split
 ·rfl
 ·rw [Int.toNat_natCast,List.take_of_length_le (Nat.le_refl _),List.take_of_length_le (by omega)]
theorem rightB_size {a t:ByteArray} (h:rightB a t=true):a.size ≤ 100∧t.size ≤ 1000:=by
 unfold rightB at h
 simp only [Bool.and_eq_true,decide_eq_true_eq] at h
 exact ⟨h.1,h.2.2.1⟩
theorem fieldX_right {l:List UInt8} (h:fieldOk l=true):rightB (fieldX l).f0 (fieldX l).f1=true:=by
 unfold fieldOk at h
 split at h
 ·exact h
 ·cases h
theorem fieldsS_FB (ss:List ByteArray) : ∀ n,n ≤ 40 → (fieldsS ss n).1.length + n ≤ 40 ∧ ∀ f ∈ (fieldsS ss n).1,rightB f.f0 f.f1=true:=by
 induction ss with
 | nil=>intro n hn;exact ⟨by simpa [fieldsS] using hn,fun f hf=>by cases hf⟩
 | cons s ss ih =>
  intro n hn
  rw [fieldsS]
  split
  ·rename_i h1
   split
   ·exact ⟨by simpa using hn,fun f hf=>by cases hf⟩
   ·rename_i h2
    have:=ih (n + 1) (by omega)
    split
    ·refine ⟨by simp only [List.length_cons];omega,fun f hf=>?_⟩
     rcases List.mem_cons.1 hf with rfl|hf
     ·exact fieldX_right h1
     ·exact this.2 f hf
    ·exact ⟨by simpa using hn,fun f hf=>by cases hf⟩
  ·exact ⟨by simpa using hn,fun f hf=>by cases hf⟩
theorem fields_FB (ss:List ByteArray):FB (fieldsS ss 0).1:=by
 have:=fieldsS_FB ss 0 (by omega)
 refine ⟨by omega,fun f hf=>?_⟩
 have:=rightB_size (this.2 f hf)
 omega
theorem tail_le (l:List Int) (e:Int) : ∀ (d p:Nat),p ≤ l.length → (tailS l e d p).2.1 ≤ (l.length:Int)∧0 ≤ (tailS l e d p).2.1∧((tailS l e d p).2.1 ≠ 0 → (tailS l e d p).2.2=0):=by
 intro d
 induction d with
 | zero=>intro p hp;exact ⟨by simp [tailS],by simp [tailS],fun _=>rfl⟩
 | succ d ih =>
  intro p hp
  have hsh:=cutS_shape (l.drop p) 2048
  have hdl:(l.drop p).length=l.length - p:=List.length_drop ..
  rw [tailS]
  split
  ·exact ⟨by simp,by simp,fun h=>absurd rfl h⟩
  ·split
   ·exact ⟨by simp,by simp,fun h=>absurd rfl h⟩
   ·rename_i h2
    have hz:(cutSpec (l.drop p) 2048).2.1 > 0∧(cutSpec (l.drop p) 2048).2.1 ≤ (l.length:Int) - p:=by rcases hsh with h|h <;> omega
    split
    ·exact ⟨by show (p:Int) + _ ≤ _;omega,by show 0 ≤ (p:Int) + _;omega,fun _=>rfl⟩
    ·exact ih _ (by omega)
theorem lines_le (l:List Int) (e:Int):(linesS l e).2.1 ≤ (l.length:Int)∧0 ≤ (linesS l e).2.1∧((linesS l e).2.1 ≠ 0 → (linesS l e).2.2=0)∧((linesS l e).1=[] → (linesS l e).2.1=0):=by
 have hsh:=cutS_shape l 2048
 unfold linesS
 split
 ·exact ⟨by simp,by simp,fun h=>absurd rfl h,fun _=>rfl⟩
 ·split
  ·exact ⟨by simp,by simp,fun h=>absurd rfl h,fun _=>rfl⟩
  ·rename_i h2
   have hz:(cutSpec l 2048).2.1 > 0∧(cutSpec l 2048).2.1 ≤ (l.length:Int):=by rcases hsh with h|h <;> omega
   have:=tail_le l e (l.length + 1) (cutSpec l 2048).2.1.toNat (by omega)
   exact ⟨this.1,this.2.1,this.2.2,fun h=>by cases h⟩
/-- A line's text has no 10,no 13: it is no longer than what it was cut from. -/
theorem cut_len (l:List Int) (h:l.length ≤ 2048):(cutSpec l 2048).1.size ≤ 2048:=by
 rcases cutS_shape l 2048 with h1|h1
 ·omega
 ·rw [h1.2];decide
theorem trail_le (l:List Int) : ∀ (d p:Nat),p ≤ l.length → (trailS l d p).1 ≤ (l.length:Int):=by
 intro d
 induction d with
 | zero=>intro p _;exact Int.natCast_nonneg _
 | succ d ih =>
  intro p hp
  have hsh:=cutS_shape (l.drop p) 256
  have hdl:(l.drop p).length=l.length - p:=List.length_drop ..
  rw [trailS]
  obtain ⟨c,hc⟩ : ∃ c,c=cutSpec (l.drop p) 256:=⟨_,rfl⟩
  rw [← hc] at hsh ⊢
  by_cases h1:c.2.2=0
  ·rw [if_pos h1]
   by_cases h2:c.2.1=0
   ·rw [if_pos h2];exact Int.natCast_nonneg _
   ·have hz2:c.2.1 > 0∧c.2.1 ≤ (l.length:Int) - p:=by rcases hsh with h|h <;> omega
    rw [if_neg h2]
    by_cases h3:c.1.toList=[]
    ·rw [if_pos h3];show (p:Int) + c.2.1 ≤ _;omega
    ·rw [if_neg h3]
     by_cases h4:fieldOk c.1.data.toList=true
     ·rw [if_pos h4];exact ih _ (by omega)
     ·rw [if_neg h4];exact Int.natCast_nonneg _
  ·rw [if_neg h1];exact Int.natCast_nonneg _
theorem dec_le (l:List Int) (hl:l.length ≤ 1000000) : ∀ (d p:Nat) (left:Int) (out:List Int),p ≤ l.length → (decS l d p left out).2.1 ≤ (l.length:Int):=by
 intro d
 induction d with
 | zero=>intro p left out _;exact Int.natCast_nonneg _
 | succ d ih =>
  intro p left out hp
  have hsh:=cutS_shape (l.drop p) 256
  have hdl:(l.drop p).length=l.length - p:=List.length_drop ..
  have hz0:(0:Int) ≤ (l.length:Int):=Int.natCast_nonneg _
  rw [decS]
  obtain ⟨c,hc⟩ : ∃ c,c=cutSpec (l.drop p) 256:=⟨_,rfl⟩
  rw [← hc] at hsh ⊢
  have hzb:=size_bound c.1.data.toList
  obtain ⟨z,hz⟩ : ∃ z,z=sizeS c.1.data.toList:=⟨_,rfl⟩
  obtain ⟨q,hq⟩ : ∃ q,q=p + c.2.1.toNat:=⟨_,rfl⟩
  rw [← hz] at hzb
  rw [← hz,← hq]
  by_cases h1:c.2.2=0
  ·rw [if_pos h1]
   by_cases h2:c.2.1=0
   ·rw [if_pos h2];exact hz0
   ·have hz2:c.2.1 > 0∧c.2.1 ≤ (l.length:Int) - p:=by rcases hsh with h|h <;> omega
    have hqd:(l.drop q).length=l.length - q:=List.length_drop ..
    rw [if_neg h2]
    by_cases h3:z.2=true
    ·rw [if_pos h3]
     by_cases h4:z.1=0
     ·rw [if_pos h4]
      by_cases h5:(trailS l 41 q).2=0
      ·rw [if_pos h5]
       by_cases h6:(trailS l 41 q).1=0
       ·rw [if_pos h6];exact hz0
       ·rw [if_neg h6];exact trail_le l 41 q (by omega)
      ·rw [if_neg h5];exact hz0
     ·rw [if_neg h4]
      by_cases h5:z.1 > left
      ·rw [if_pos h5];exact hz0
      ·rw [if_neg h5]
       by_cases h6:(dataOf (l.drop q) (q:Int) z.1 false).2.1=0
       ·rw [if_pos h6]
        by_cases h7:(dataOf (l.drop q) (q:Int) z.1 false).2.2.2=true
        ·rw [if_pos h7];exact hz0
        ·rw [if_neg h7]
         obtain ⟨_,_,e3,_,_⟩:=data_ok (l.drop q) q z.1 (by omega) (by omega) hzb.1 (by omega) h6 h7
         exact ih _ _ _ (by omega)
       ·rw [if_neg h6];exact hz0
    ·rw [if_neg h3];exact hz0
  ·rw [if_neg h1];exact hz0
theorem decS_size (l:List Int) (hb:l.length ≤ 1000000) : ∀ (d p:Nat) (left:Int) (out:List Int),p ≤ l.length → out.length ≤ l.length → l.length < p + d → out.length ≤ p → (decS l d p left out).1.length ≤ l.length:=by
 intro d
 induction d with
 | zero=>intro p left out h1 h2 h3;omega
 | succ d ih =>
  intro p left out hp ho hd hop
  have hsh:=cutS_shape (l.drop p) 256
  have hdl:(l.drop p).length=l.length - p:=List.length_drop ..
  rw [decS]
  obtain ⟨c,hc⟩ : ∃ c,c=cutSpec (l.drop p) 256:=⟨_,rfl⟩
  rw [← hc] at hsh ⊢
  by_cases h1:c.2.2=0
  ·rw [if_pos h1]
   by_cases h2:c.2.1=0
   ·rw [if_pos h2];simp
   ·have hz2:c.2.1 > 0∧c.2.1 ≤ (l.length:Int) - p:=by rcases hsh with h|h <;> omega
    have hzb:=size_bound c.1.data.toList
    have hdq:(l.drop (p + c.2.1.toNat)).length=l.length - (p + c.2.1.toNat):=List.length_drop ..
    rw [if_neg h2]
    split
    ·split
     ·split
      ·split
       ·simp
       ·exact ho
      ·simp
     ·split
      ·simp
      ·split
       ·split
        ·simp
        ·rename_i h6 h7
         obtain ⟨_,_,e3,_,_⟩:=data_ok (l.drop (p + c.2.1.toNat)) ((p + c.2.1.toNat:Nat):Int) (sizeS c.1.data.toList).1 (by omega) (by omega) hzb.1 (by omega) h6 h7
         have htk:((l.drop (p + c.2.1.toNat)).take (sizeS c.1.data.toList).1.toNat).length ≤ (sizeS c.1.data.toList).1.toNat:=List.length_take_le ..
         exact ih _ _ _ (by omega) (by rw [List.length_append];omega) (by omega) (by rw [List.length_append];omega)
       ·simp
    ·simp
  ·rw [if_neg h1];simp
theorem trail_pos (l:List Int) : ∀ (d p:Nat),0 ≤ (trailS l d p).1:=by
 intro d
 induction d with
 | zero=>intro p;exact Int.le_refl _
 | succ d ih =>
  intro p
  have hsh:=cutS_shape (l.drop p) 256
  rw [trailS]
  repeat' split
  ·exact Int.le_refl _
  ·show 0 ≤ (p:Int) + _
   rcases hsh with h|h <;> omega
  ·exact ih _
  ·exact Int.le_refl _
  ·exact Int.le_refl _
theorem dec_none' (l:List Int) : ∀ (d p:Nat) (left:Int) (out:List Int),¬ (decS l d p left out).2.1 > 0 → (decS l d p left out).2.2=0 → (decS l d p left out).1=[]∧(decS l d p left out).2.1=0:=by
 intro d
 induction d with
 | zero=>intro p left out _ _;exact ⟨rfl,rfl⟩
 | succ d ih =>
  intro p left out g1 g2
  rw [decS] at g1 g2 ⊢
  obtain ⟨c,hc⟩ : ∃ c,c=cutSpec (l.drop p) 256:=⟨_,rfl⟩
  rw [← hc] at g1 g2 ⊢
  obtain ⟨z,hz⟩ : ∃ z,z=sizeS c.1.data.toList:=⟨_,rfl⟩
  obtain ⟨q,hq⟩ : ∃ q,q=p + c.2.1.toNat:=⟨_,rfl⟩
  rw [← hz,← hq] at g1 g2 ⊢
  by_cases h1:c.2.2=0
  ·rw [if_pos h1] at g1 g2 ⊢
   by_cases h2:c.2.1=0
   ·rw [if_pos h2];exact ⟨rfl,rfl⟩
   ·rw [if_neg h2] at g1 g2 ⊢
    by_cases h3:z.2=true
    ·rw [if_pos h3] at g1 g2 ⊢
     by_cases h4:z.1=0
     ·rw [if_pos h4] at g1 g2 ⊢
      by_cases h5:(trailS l 41 q).2=0
      ·rw [if_pos h5] at g1 g2 ⊢
       by_cases h6:(trailS l 41 q).1=0
       ·rw [if_pos h6];exact ⟨rfl,rfl⟩
       ·rw [if_neg h6] at g1
        have:=trail_pos l 41 q
        exact absurd (show (trailS l 41 q).1 > 0 by omega) g1
      ·rw [if_neg h5];exact ⟨rfl,rfl⟩
     ·rw [if_neg h4] at g1 g2 ⊢
      by_cases h5:z.1 > left
      ·rw [if_pos h5];exact ⟨rfl,rfl⟩
      ·rw [if_neg h5] at g1 g2 ⊢
       by_cases h6:(dataOf (l.drop q) (q:Int) z.1 false).2.1=0
       ·rw [if_pos h6] at g1 g2 ⊢
        by_cases h7:(dataOf (l.drop q) (q:Int) z.1 false).2.2.2=true
        ·rw [if_pos h7];exact ⟨rfl,rfl⟩
        ·rw [if_neg h7] at g1 g2 ⊢
         exact ih _ _ _ g1 g2
       ·rw [if_neg h6];exact ⟨rfl,rfl⟩
    ·rw [if_neg h3];exact ⟨rfl,rfl⟩
  ·rw [if_neg h1];exact ⟨rfl,rfl⟩
theorem body_le (b:List Int) (hb:b.length ≤ 1000000) (size:Int) (hs:0 ≤ size) (coded:Bool):(bodyS b size coded).2.1 ≤ (b.length:Int)∧(-1 ≤ (bodyS b size coded).2.1)∧(bodyS b size coded).1.length ≤ b.length∧(0 ≤ (bodyS b size coded).2.1 → (bodyS b size coded).2.2=0):=by
 unfold bodyS
 cases coded
 ·rw [if_neg (show ¬ (false=true) by simp)]
  by_cases h:(b.length:Int) < size
  ·rw [if_pos h];exact ⟨by simp only [];omega,by decide,by simp,fun _=>rfl⟩
  ·rw [if_neg h];exact ⟨by simp only [];omega,by simp only [];omega,by simp only [List.length_take];omega,fun _=>rfl⟩
 ·rw [if_pos rfl]
  have hle:=dec_le b hb (b.length + 1) 0 4096 [] (by omega)
  have hsz:=decS_size b hb (b.length + 1) 0 4096 [] (by omega) (by simp) (by omega) (by simp)
  have hz:=dec_none' b (b.length + 1) 0 4096 []
  obtain ⟨r,hr⟩ : ∃ r,r=decS b (b.length + 1) 0 4096 []:=⟨_,rfl⟩
  rw [← hr] at hle hsz hz ⊢
  by_cases h1:r.2.2=2
  ·rw [if_pos h1];exact ⟨by simp only [];omega,by decide,by simp,fun h=>absurd h (by decide)⟩
  ·rw [if_neg h1]
   by_cases h2:r.2.2=0
   ·rw [if_pos h2]
    by_cases h3:r.2.1=0
    ·rw [if_pos h3];exact ⟨by simp only [];omega,by decide,by simp,fun _=>rfl⟩
    ·rw [if_neg h3]
     have:r.2.1 > 0:=by
      by_cases h4:r.2.1 > 0
      ·exact h4
      ·exact absurd (hz h4 h2).2 h3
     exact ⟨hle,by simp only [];omega,hsz,fun _=>rfl⟩
   ·rw [if_neg h2];exact ⟨by simp only [];omega,by decide,by simp,fun h=>absurd h (by decide)⟩
theorem body_f (b:List Int) (hb:b.length ≤ 1000000) (size:Int) (hs:0 ≤ size) (coded:Bool) (k:Nat) (hk:4000100 ≤ k):http_body.f k b size coded=some (bodyS b size coded):=by
 unfold http_body.f bodyS
 cases coded
 ·rw [if_neg (show ¬ (false=true) by simp),if_neg (show ¬ (false=true) by simp)]
  by_cases h:(b.length:Int) < size
  ·rw [if_pos h,if_pos h]
  ·unfold bytes_Clone.f
   rw [if_neg h,if_neg h,if_pos hs,if_pos (by omega),if_pos (by rw [List.length_take];omega),Option.bind_some]
 ·rw [if_pos rfl,if_pos rfl,Decode_f b 4096 hb (by decide) k (by omega),Option.bind_some,show mx 4096 0=4096 by decide]
  obtain ⟨r,hr⟩ : ∃ r,r=decS b (b.length + 1) 0 4096 []:=⟨_,rfl⟩
  rw [← hr]
  by_cases h1:r.2.2=2
  ·rw [if_pos h1,if_pos h1]
  ·rw [if_neg h1,if_neg h1]
   by_cases h2:r.2.2=0
   ·rw [if_pos h2,if_pos h2]
    by_cases h3:r.2.1=0
    ·rw [if_pos h3,if_pos h3]
    ·rw [if_neg h3,if_neg h3]
   ·rw [if_neg h2,if_neg h2]
def headEnd (t:List ByteArray × Int × Int) (g:List (S36) × Int) (fs:List (S36)) (st:Option ByteArray):List (S36) × Int × Int × Option ByteArray :=
 if g.2=0 then (if t.2.1=0 then ([],0,t.2.2,st) else (fs ++ g.1,t.2.1,0,st)) else ([],0,g.2,st)
theorem head_l (fst:Nat → ByteArray → Option Int) (l:List Int) (hl:l.length ≤ 4398046511104) (st:Option ByteArray) : ∀ (d p k:Nat) (fs:List (S36)),0 < p → p ≤ (bdS l).length → (bdS l).length < p + d → fs.length ≤ 40 → d + 6200 ≤ k →
 http_head.l fst k l fs (p:Int) st=some (headEnd (tailS (bdS l) (extS l) d p) (fieldsS (tailS (bdS l) (extS l) d p).1 fs.length) fs st):=by
 intro d
 induction d with
 | zero=>intro p k fs _ h1 h2;omega
 | succ d ih =>
  intro p k fs h0 hp hd hf hk
  obtain ⟨k,rfl⟩ : ∃ m,k=m + 1:=⟨k - 1,by omega⟩
  have hb:=bdS_length l
  have hsh:=cutS_shape ((bdS l).drop p) 2048
  have hdl:((bdS l).drop p).length=(bdS l).length - p:=List.length_drop ..
  have hcl:=cut_len ((bdS l).drop p) (by omega)
  rw [http_head.l,mn_take,if_pos (by omega),if_pos (by omega),Int.toNat_natCast,cut_f _ 2048 (by omega) k (by omega),Option.bind_some,tailS]
  obtain ⟨c,hc⟩ : ∃ c,c=cutSpec ((bdS l).drop p) 2048:=⟨_,rfl⟩
  rw [← hc] at hsh hcl ⊢
  by_cases h1:c.2.2=20
  ·rw [if_pos h1,if_pos h1];rfl
  ·rw [if_neg h1,if_neg h1]
   by_cases h2:c.2.1=0
   ·rw [if_pos h2,if_pos h2]
    unfold extS
    split <;> rfl
   ·have hz:c.2.1 > 0∧c.2.1 ≤ ((bdS l).length:Int) - p:=by rcases hsh with h|h <;> omega
    have hw:wrap64 ((p:Int) + c.2.1)=((p + c.2.1.toNat:Nat):Int):=by unfold wrap64;omega
    have hw2:(p:Int) + c.2.1=((p + c.2.1.toNat:Nat):Int):=by omega
    rw [if_neg h2,if_neg h2,if_neg (show ¬ (p:Int)=0 by omega),hw,hw2]
    by_cases h3:c.1.toList=[]
    ·rw [if_pos h3,if_pos h3]
     unfold headEnd
     rw [fieldsS,if_pos rfl,if_neg (show ¬ ((p + c.2.1.toNat:Nat):Int)=0 by omega),List.append_nil]
    ·rw [if_neg h3,if_neg h3]
     have hcn:c.1.data.toList.length ≤ 2048:=by rw [data_length];exact hcl
     simp only [fieldsS]
     cases hfo:fieldOk c.1.data.toList
     ·obtain ⟨x,y,hxy⟩:=field_no c.1.data.toList (by omega) hfo
      rw [mkS_self] at hxy
      rw [hxy,Option.bind_some,if_neg (show ¬ ((20:Int)=0) by decide),if_neg (by simp)]
      rfl
     ·have hxy:=field_ok c.1.data.toList (by omega) hfo
      rw [mkS_self] at hxy
      rw [hxy,Option.bind_some,if_pos rfl,if_pos rfl]
      by_cases h4:fs.length=40
      ·rw [if_pos (show (fs.length:Int)=40 by omega),if_pos h4];rfl
      ·rw [if_neg (show ¬ (fs.length:Int)=40 by omega),if_neg h4,if_pos (by omega)]
       have hlen:(fs ++ [fieldX c.1.data.toList]).length=fs.length + 1:=by simp
       have:=ih (p + c.2.1.toNat) k (fs ++ [fieldX c.1.data.toList]) (by omega) (by omega) (by omega) (by omega) (by omega)
       rw [hlen] at this
       refine this.trans ?_
       obtain ⟨t,ht⟩ : ∃ t,t=tailS (bdS l) (extS l) d (p + c.2.1.toNat):=⟨_,rfl⟩
       rw [← ht]
       obtain ⟨g,hg⟩ : ∃ g,g=fieldsS t.1 (fs.length + 1):=⟨_,rfl⟩
       rw [← hg]
       unfold headEnd
       by_cases h5:g.2=0
       ·rw [if_pos h5,if_pos h5,if_pos rfl]
        by_cases h6:t.2.1=0
        ·rw [if_pos h6,if_pos h6]
        ·rw [if_neg h6,if_neg h6,List.append_assoc];rfl
       ·rw [if_neg h5,if_neg h5,if_neg h5]
theorem head_nil (fst:Nat → ByteArray → Option Int) (l:List Int) (k:Nat) (hk:8300 ≤ k) (h:(linesS (bdS l) (extS l)).1=[]):http_head.f fst (k + 1) l=some ([],0,(linesS (bdS l) (extS l)).2.2,none):=by
 have hb:=bdS_length l
 unfold linesS at h ⊢
 rw [http_head.f,http_head.l,mn_take,if_pos (by omega),if_pos (by omega),show (0:Int).toNat=0 from rfl,List.drop_zero,cut_f _ 2048 (by omega) k (by omega),Option.bind_some]
 obtain ⟨c,hc⟩ : ∃ c,c=cutSpec (bdS l) 2048:=⟨_,rfl⟩
 rw [← hc] at h ⊢
 by_cases h1:c.2.2=20
 ·rw [if_pos h1,if_pos h1]
 ·rw [if_neg h1] at h ⊢
  rw [if_neg h1]
  by_cases h2:c.2.1=0
  ·rw [if_pos h2,if_pos h2]
   unfold extS
   split <;> rfl
  ·rw [if_neg h2] at h;cases h
theorem head_cons (fst:Nat → ByteArray → Option Int) (l:List Int) (hl:l.length ≤ 4398046511104) (k:Nat) (hk:8300 ≤ k) (s:ByteArray) (ss:List ByteArray) (h:(linesS (bdS l) (extS l)).1=s :: ss) :
 http_head.f fst (k + 1) l=(fst k s).bind fun code=>if code=0 then some (headEnd (ss,(linesS (bdS l) (extS l)).2) (fieldsS ss 0) [] (some s)) else some ([],0,code,some s):=by
 have hb:=bdS_length l
 have hsh:=cutS_shape (bdS l) 2048
 unfold linesS at h ⊢
 rw [http_head.f,http_head.l,mn_take,if_pos (by omega),if_pos (by omega),show (0:Int).toNat=0 from rfl,List.drop_zero,cut_f _ 2048 (by omega) k (by omega),Option.bind_some]
 obtain ⟨c,hc⟩ : ∃ c,c=cutSpec (bdS l) 2048:=⟨_,rfl⟩
 rw [← hc] at h hsh ⊢
 by_cases h1:c.2.2=20
 ·rw [if_pos h1] at h;cases h
 ·rw [if_neg h1] at h ⊢
  rw [if_neg h1]
  by_cases h2:c.2.1=0
  ·rw [if_pos h2] at h;cases h
  ·have hz:c.2.1 > 0∧c.2.1 ≤ ((bdS l).length:Int):=by rcases hsh with h|h <;> omega
   have hw:wrap64 ((0:Int) + c.2.1)=((c.2.1.toNat:Nat):Int):=by unfold wrap64;omega
   rw [if_neg h2] at h ⊢
   rw [if_neg h2,if_pos rfl,hw,head_l fst l hl (some c.1) ((bdS l).length + 1) c.2.1.toNat k [] (by omega) (by omega) (by omega) (by simp) (by omega)]
   simp only [List.cons.injEq] at h
   rw [← h.1,← h.2]
   rfl
theorem tail_sizes (l:List Int) (e:Int) (hl:l.length ≤ 2048) : ∀ (d p:Nat),∀ s ∈ (tailS l e d p).1,s.size ≤ 2048:=by
 intro d
 induction d with
 | zero=>intro p s hs;cases hs
 | succ d ih =>
  intro p s hs
  have hdl:(l.drop p).length=l.length - p:=List.length_drop ..
  have hc:=cut_len (l.drop p) (by omega)
  rw [tailS] at hs
  split at hs
  ·cases hs
  ·split at hs
   ·cases hs
   ·split at hs
    ·cases hs
    ·rcases List.mem_cons.1 hs with rfl|hs
     ·exact hc
     ·exact ih _ s hs
theorem lines_sizes (l:List Int) (e:Int) (hl:l.length ≤ 2048) : ∀ s ∈ (linesS l e).1,s.size ≤ 2048:=by
 intro s hs
 have hc:=cut_len l hl
 unfold linesS at hs
 split at hs
 ·cases hs
 ·split at hs
  ·cases hs
  ·rcases List.mem_cons.1 hs with rfl|hs
   ·exact hc
   ·exact tail_sizes l e hl _ _ s hs
theorem CutPrefix_f (s p:List UInt8):strings_CutPrefix.f (mkS s) (mkS p)=some (if s.take p.length=p then (mkS (s.drop p.length),true) else (mkS s,false)):=by
 unfold strings_CutPrefix.f stringslite_CutPrefix.f stringslite_HasPrefix.f
 rw [mkS_size,mkS_size]
 by_cases h:p.length ≤ s.length
 ·rw [if_pos (by omega),if_pos (by omega),if_pos (by omega),Option.bind_some,Int.toNat_natCast,mkS_extract,mkS_extract,mkS_toList,mkS_toList,List.drop_zero,Nat.sub_zero]
  by_cases e:s.take p.length=p
  ·rw [if_pos e,e,if_pos (by simp),if_pos (by omega),if_pos (by omega),Option.bind_some,List.take_of_length_le (by rw [List.length_drop];omega)]
  ·rw [if_neg e,if_neg (by simpa using e),Option.bind_some]
 ·rw [if_neg (by omega),Option.bind_some,if_neg (by decide),Option.bind_some,if_neg ?_]
  intro e
  have:=congrArg List.length e
  rw [List.length_take] at this
  omega
theorem CutPrefix_yes (s p:List UInt8) (h:s.take p.length=p):strings_CutPrefix.f (mkS s) (mkS p)=some (mkS (s.drop p.length),true):=by rw [CutPrefix_f,if_pos h]
theorem CutPrefix_no (s p:List UInt8) (h : ¬ s.take p.length=p):strings_CutPrefix.f (mkS s) (mkS p)=some (mkS s,false):=by rw [CutPrefix_f,if_neg h]
/-- The last digit of a version that is known. -/
def minL (l:List UInt8):Option Int:=if l=[72,84,84,80,47,49,46,48] then some 0 else if l=[72,84,84,80,47,49,46,49] then some 1 else none
theorem minor_f (l:List UInt8):line_minor.f (mkS l)=some (match minL l with|some n=>(n,true)|none=>(0,false)):=by
 unfold line_minor.f minL
 rw [mkS_toList]
 by_cases h1:l=[72,84,84,80,47,49,46,48]
 ·rw [if_pos h1,if_pos h1]
 ·rw [if_neg h1,if_neg h1]
  by_cases h2:l=[72,84,84,80,47,49,46,49]
  ·rw [if_pos h2,if_pos h2]
  ·rw [if_neg h2,if_neg h2]
/-- The digits of a version. -/
def verL (l:List UInt8):Option (Int × Int):=match l with
 | [a,b,c,d,e,f,g,h]=>if [a,b,c,d,e]=[72,84,84,80,47]∧(48 ≤ (f.toNat:Int)∧(f.toNat:Int) ≤ 57)∧g=46∧(48 ≤ (h.toNat:Int)∧(h.toNat:Int) ≤ 57) then some ((f.toNat:Int) - 48,(h.toNat:Int) - 48) else none
 | _=>none
theorem verL_8 (a b c d e f g h:UInt8):verL [a,b,c,d,e,f,g,h]=if [a,b,c,d,e]=[72,84,84,80,47]∧(48 ≤ (f.toNat:Int)∧(f.toNat:Int) ≤ 57)∧g=46∧(48 ≤ (h.toNat:Int)∧(h.toNat:Int) ≤ 57) then some ((f.toNat:Int) - 48,(h.toNat:Int) - 48) else none:=rfl
theorem verL_none {l:List UInt8} (h:l.length ≠ 8):verL l=none:=by
 unfold verL
 split
 ·simp at h
 ·rfl
theorem eight {l:List UInt8} (h:l.length=8) : ∃ a b c d e f g i,l=[a,b,c,d,e,f,g,i]:=by
 match l,h with
 | [a,b,c,d,e,f,g,i],_=>exact ⟨a,b,c,d,e,f,g,i,rfl⟩
theorem refDigit_f (c:Int):tollbarref02_Digit.f c=some (decide (48 ≤ c∧c ≤ 57)):=by
 unfold tollbarref02_Digit.f
 by_cases h:c ≥ 48
 ·rw [if_pos h];congr 1;rw [Bool.eq_iff_iff,decide_eq_true_eq,decide_eq_true_eq];omega
 ·rw [if_neg h,decide_eq_false (by omega)]
theorem digit_f (c:Int):line_digit.f c=some (decide (48 ≤ c∧c ≤ 57)):=refDigit_f c
theorem numbered_f (l : List UInt8) : line_numbered.f (mkS l) = some (verL l).isSome := by
  unfold line_numbered.f
  rw [show (⟨#[72, 84, 84, 80, 47]⟩ : ByteArray) = mkS [72, 84, 84, 80, 47] from rfl]
  by_cases c1 : l.take ([72, 84, 84, 80, 47] : List UInt8).length = [72, 84, 84, 80, 47]
  · rw [CutPrefix_yes _ _ c1, Option.bind_some, if_pos rfl, mkS_size]
    have hl : l.take 5 = [72, 84, 84, 80, 47] := c1
    by_cases h8 : l.length = 8
    · obtain ⟨a, b, c, d, e, f, g, i, rfl⟩ := eight h8
      have c1' : [a, b, c, d, e] = [72, 84, 84, 80, 47] := c1
      have hd : List.drop ([72, 84, 84, 80, 47] : List UInt8).length [a, b, c, d, e, f, g, i] = [f, g, i] := rfl
      have b0 : bt (mkS [f, g, i]) 0 = f.toNat := bt_mk [f, g, i] 0 (by simp)
      have b1 : bt (mkS [f, g, i]) 1 = g.toNat := bt_mk [f, g, i] 1 (by simp)
      have b2 : bt (mkS [f, g, i]) 2 = i.toNat := bt_mk [f, g, i] 2 (by simp)
      rw [hd, if_pos (by rfl), if_pos (by simp), b0, b1, b2, digit_f, digit_f, Option.bind_some, Option.bind_some]
      rw [verL_8]
      by_cases c2 : 48 ≤ (f.toNat : Int) ∧ (f.toNat : Int) ≤ 57
      · rw [decide_eq_true c2, if_pos rfl, if_pos (by simp)]
        by_cases c3 : g = 46
        · have g1 : ((g.toNat : Nat) : Int) = 46 := by rw [c3]; rfl
          rw [if_pos g1, if_pos (by simp)]
          by_cases c4 : 48 ≤ (i.toNat : Int) ∧ (i.toNat : Int) ≤ 57
          · rw [decide_eq_true c4, if_pos ⟨c1', c2, c3, c4⟩]; rfl
          · rw [decide_eq_false c4, if_neg (fun h => c4 h.2.2.2)]; rfl
        · have g1 : ¬ ((g.toNat : Nat) : Int) = 46 := fun h => c3 (UInt8.toNat_inj.1 (by show _ = 46; omega))
          rw [if_neg g1, if_neg (fun h => c3 h.2.2.1)]; rfl
      · rw [decide_eq_false c2, if_neg (by simp), if_neg (fun h => c2 h.2.1)]; rfl
    · rw [verL_none h8, List.length_drop, if_neg (by
        have := congrArg List.length hl
        rw [List.length_take] at this
        simp only [List.length_cons, List.length_nil] at this ⊢
        omega)]
      rfl
  · rw [CutPrefix_no _ _ c1, Option.bind_some, if_neg (by simp)]
    have : verL l = none := by
      unfold verL
      split
      · rw [if_neg (fun h => c1 h.1)]
      · rfl
    rw [this]
    rfl
theorem ver_min (l:List UInt8):minL l=match verL l with|some p=>if p.1=1∧p.2 ≤ 1 then some p.2 else none|none=>none:=by
 by_cases h8:l.length=8
 ·obtain ⟨a,b,c,d,e,f,g,i,rfl⟩:=eight h8
  have fr:=f.toNat_lt
  have ir:=i.toNat_lt
  rw [verL_8]
  unfold minL
  by_cases c0:[a,b,c,d,e]=[72,84,84,80,47]∧(48 ≤ (f.toNat:Int)∧(f.toNat:Int) ≤ 57)∧g=46∧(48 ≤ (i.toNat:Int)∧(i.toNat:Int) ≤ 57)
  ·rw [if_pos c0]
   obtain ⟨c1,c2,c3,c4⟩:=c0
   simp only [List.cons.injEq,and_true] at c1
   obtain ⟨rfl,rfl,rfl,rfl,rfl⟩:=c1
   subst c3
   simp only [List.cons.injEq,and_true,true_and]
   by_cases f1:f=49
   ·subst f1
    simp only [true_and]
    by_cases i0:i=48
    ·subst i0;simp
    ·rw [if_neg i0]
     by_cases i1:i=49
     ·subst i1;simp
     ·rw [if_neg i1,if_neg ?_]
      rintro ⟨_,h⟩
      have e0:i.toNat ≠ 48:=fun h=>i0 (UInt8.toNat_inj.1 h)
      have e1:i.toNat ≠ 49:=fun h=>i1 (UInt8.toNat_inj.1 h)
      omega
   ·rw [if_neg (fun h=>f1 h.1),if_neg (fun h=>f1 h.1),if_neg ?_]
    rintro ⟨h,_⟩
    exact f1 (UInt8.toNat_inj.1 (by show _=49;omega))
  ·rw [if_neg c0,if_neg,if_neg]
   ·intro h;simp only [List.cons.injEq,and_true] at h;obtain ⟨rfl,rfl,rfl,rfl,rfl,rfl,rfl,rfl⟩:=h;exact c0 (by decide)
   ·intro h;simp only [List.cons.injEq,and_true] at h;obtain ⟨rfl,rfl,rfl,rfl,rfl,rfl,rfl,rfl⟩:=h;exact c0 (by decide)
 ·rw [verL_none h8]
  unfold minL
  rw [if_neg (fun h=>h8 (by rw [h];rfl)),if_neg (fun h=>h8 (by rw [h];rfl))]
theorem Host_some (l:List UInt8) (hn:l.length ≤ 140737488355328) : ∃ u,line_Host.f (mkS l)=some (hostEnd (mkS u)):=by
 unfold line_Host.f
 rw [if_pos (by rw [mkS_size];exact hn)]
 exact ⟨(hostCut (strOfNums ((bytesOf (mkS l)).map foldC))).data.toList,by rw [mkS_self]⟩
def tgtB (c:Int):Bool:=(sign_Target_1.f c).getD false
theorem Target_f (s:ByteArray) (h:s.size ≤ 140737488355328):sign_Target.f s=some (!s.toList.isEmpty && (bytesOf s).all tgtB):=if_pos h
def tokOk (s:ByteArray):Bool := !s.toList.isEmpty && (bytesOf s).all tokB
def tgtOk (s:ByteArray):Bool := !s.toList.isEmpty && (bytesOf s).all tgtB
/-- A method and its target. -/
def aimOk (m t:ByteArray):Bool:=tgtOk t && (decide (bt t 0=47) || (decide (t.toList=[42]) && (m.toList == [79,80,84,73,79,78,83])))
def reqBad (c:Int):ByteArray × ByteArray × Int × (List (S36)) × List Int × Int:=((⟨#[]⟩:ByteArray),(⟨#[]⟩:ByteArray),0,[],[],c)
/-- What a request's three parts tell. -/
def reqP (m t v:List UInt8):ByteArray × ByteArray × Int × (List (S36)) × List Int × Int :=
 if (m.length ≤ 20∧tokOk (mkS m)=true)∧aimOk (mkS m) (mkS t)=true then
  if 512 < t.length then reqBad 414 else
  match verL v with
  | none=>reqBad 400
  | some p=>if p.1=1∧p.2 ≤ 1 then (mkS m,mkS t,p.2,[],[],0) else reqBad 505
 else reqBad 400
def reqSpec (l:List UInt8):ByteArray × ByteArray × Int × (List (S36)) × List Int × Int:=match pcs 32 l with|[m,t,v]=>reqP m t v|_=>reqBad 400
theorem three {α:Type} {l:List α} (h:l.length=3) : ∃ a b c,l=[a,b,c]:=by
 match l,h with
 | [a,b,c],_=>exact ⟨a,b,c,rfl⟩
theorem reqSpec_not {l:List UInt8} (h:(pcs 32 l).length ≠ 3):reqSpec l=reqBad 400:=by
 unfold reqSpec
 split
 ·rename_i e;rw [e] at h;simp at h
 ·rfl
theorem reqSpec_yes {l m t v:List UInt8} (h:pcs 32 l=[m,t,v]):reqSpec l=reqP m t v:=by
 unfold reqSpec
 rw [h]
theorem tgt_ne {s:ByteArray} (h:tgtOk s=true):0 < s.size:=by
 unfold tgtOk at h
 rw [isEmpty_size] at h
 rcases Nat.eq_zero_or_pos s.size with e|e
 ·rw [e] at h;simp at h
 ·exact e
theorem target_f (m t:ByteArray) (h:t.size ≤ 140737488355328):line_target.f m t=some (aimOk m t):=by
 unfold line_target.f aimOk
 rw [Target_f t h,Option.bind_some]
 change (if tgtOk t=true then _ else _)=_
 cases ht:tgtOk t
 ·rfl
 ·have hp:=tgt_ne ht
  rw [if_pos rfl,if_pos (by omega),Bool.true_and]
  by_cases c1:bt t 0=47
  ·rw [if_pos c1,decide_eq_true c1];rfl
  ·rw [if_neg c1,decide_eq_false c1,Bool.false_or]
   by_cases c2:t.toList=[42]
   ·rw [if_pos c2,decide_eq_true c2];rfl
   ·rw [if_neg c2,decide_eq_false c2];rfl
theorem Request_f (l:List UInt8) (hn:l.length ≤ 4398046511100) (k:Nat) (hk:l.length + 4 ≤ k):line_Request.f k (mkS l)=some (reqSpec l):=by
 obtain ⟨k,rfl⟩ : ∃ m,k=m + 1:=⟨k - 1,by omega⟩
 unfold line_Request.f
 rw [Split_fC (sp:=32) (mkS l) (by rw [mkS_size];omega) (k + 1) (by rw [mkS_size];omega),Option.bind_some,mkS_data,List.length_map]
 have hle:=pcs_le (sp:=32) l
 by_cases h3:(pcs 32 l).length=3
 ·obtain ⟨m,t,v,hp⟩:=three h3
  rw [reqSpec_yes hp]
  rw [hp] at hle ⊢
  have hm:=hle m (by simp)
  have ht:=hle t (by simp)
  have e0:rdOf ByteArray.empty ([m,t,v].map mkS) 0=mkS m:=rfl
  have e1:rdOf ByteArray.empty ([m,t,v].map mkS) 1=mkS t:=rfl
  have e2:rdOf ByteArray.empty ([m,t,v].map mkS) 2=mkS v:=rfl
  have hl:(([m,t,v].map mkS).length:Int)=3:=rfl
  have hbad:line_Request.j0 (k + 1) ([m,t,v].map mkS) true=some (reqBad 400):=by simp only [line_Request.j0];rfl
  rw [hbad,e0,e1,if_pos (by simp),if_pos (by simp),mkS_size,Token_f _ (by rw [mkS_size];omega),Option.bind_some]
  unfold reqP
  change (if (m.length:Int) > 20 then _ else if tokOk (mkS m)=true then _ else _)=_
  by_cases c1:(m.length:Int) > 20
  ·rw [if_pos c1,if_neg (fun h=>by omega)]
  ·rw [if_neg c1]
   cases c2:tokOk (mkS m)
   ·rw [if_neg (by simp),if_neg (by simp)]
   ·rw [if_pos rfl,if_pos (by simp),target_f _ _ (by rw [mkS_size];omega),Option.bind_some]
    cases c3:aimOk (mkS m) (mkS t)
    ·rw [if_neg (by simp),Bool.not_false,hbad]
    ·rw [if_pos ⟨⟨by omega,rfl⟩,rfl⟩,Bool.not_true]
     simp only [line_Request.j0]
     rw [if_neg (by simp),hl,e0,e1,e2,if_pos (by omega),minor_f,Option.bind_some,if_pos (by omega),mkS_size]
     by_cases c4:512 < t.length
     ·rw [if_pos (by omega),if_pos c4];rfl
     ·rw [if_neg (by omega),if_neg c4,numbered_f,Option.bind_some,ver_min]
      cases hv:verL v with
      | none=>rfl
      | some p =>
       simp only [Option.isSome_some,if_true]
       by_cases c5:p.1=1∧p.2 ≤ 1
       ·rw [if_pos c5,if_pos c5];rfl
       ·rw [if_neg c5,if_neg c5];rfl
 ·rw [reqSpec_not h3,if_neg (by omega)]
  simp only [line_Request.j0]
  rfl
def hostNm:ByteArray:=⟨#[104,111,115,116]⟩
def hostNM:ByteArray:=⟨#[72,111,115,116]⟩
theorem host_nm:(bytesOf hostNM).map foldC=(bytesOf hostNm).map foldC:=by decide +kernel
def hostT (h:ByteArray):ByteArray × Bool:=(line_Host.f h).getD (⟨#[]⟩,false)
theorem hostT_f (h:ByteArray) (hs:h.size ≤ 140737488355328):line_Host.f h=some (hostT h):=by
 obtain ⟨u,hu⟩:=Host_some h.data.toList (by rw [data_length];omega)
 rw [mkS_self] at hu
 unfold hostT
 rw [hu]
 rfl
/-- Are a request's hosts right? -/
def hostsOk:List ByteArray → Int → Bool
 | [],minor=>minor == 0
 | [h],_=>(hostT h).2
 | _ :: _ :: _,_=>false
def openBad (c:Int):ByteArray × ByteArray × Int × List (S36) × List Int × Int × Int × Bool × Int:=(⟨#[]⟩,⟨#[]⟩,0,[],[],0,0,false,c)
def openF (q:ByteArray × ByteArray × Int × List (S36) × List Int × Int) (g:List (S36)) (n:Int):ByteArray × ByteArray × Int × List (S36) × List Int × Int × Int × Bool × Int :=
 if hostsOk (getS hostNm g) q.2.2.1=true then (if (reqLen g q.2.2.1).2.2=0 then (q.1,q.2.1,q.2.2.1,g,[],n,(reqLen g q.2.2.1).1,(reqLen g q.2.2.1).2.1,0) else openBad (reqLen g q.2.2.1).2.2) else openBad 400
def openL:List ByteArray × Int × Int → ByteArray × ByteArray × Int × List (S36) × List Int × Int × Int × Bool × Int
 | ([],_,c)=>openBad c
 | (s :: ss,n,c)=>if (reqSpec s.data.toList).2.2.2.2.2=0 then (if (fieldsS ss 0).2=0 then (if n=0 then openBad c else openF (reqSpec s.data.toList) (fieldsS ss 0).1 n) else openBad (fieldsS ss 0).2) else openBad (reqSpec s.data.toList).2.2.2.2.2
/-- What a request's beginning tells. -/
def openS (l:List Int):ByteArray × ByteArray × Int × List (S36) × List Int × Int × Int × Bool × Int:=openL (linesS (bdS l) (extS l))
/-- The request with which bytes begin. -/
def reqS (l:List Int):ByteArray × ByteArray × Int × List (S36) × List Int × Int × Int :=
 if (openS l).2.2.2.2.2.1=0 then (⟨#[]⟩,⟨#[]⟩,0,[],[],0,(openS l).2.2.2.2.2.2.2.2)
 else if (bodyS (l.drop (openS l).2.2.2.2.2.1.toNat) (openS l).2.2.2.2.2.2.1 (openS l).2.2.2.2.2.2.2.1).2.1 < 0 then (⟨#[]⟩,⟨#[]⟩,0,[],[],0,(bodyS (l.drop (openS l).2.2.2.2.2.1.toNat) (openS l).2.2.2.2.2.2.1 (openS l).2.2.2.2.2.2.2.1).2.2)
 else ((openS l).1,(openS l).2.1,(openS l).2.2.1,(openS l).2.2.2.1,(bodyS (l.drop (openS l).2.2.2.2.2.1.toNat) (openS l).2.2.2.2.2.2.1 (openS l).2.2.2.2.2.2.2.1).1,(openS l).2.2.2.2.2.1 + (bodyS (l.drop (openS l).2.2.2.2.2.1.toNat) (openS l).2.2.2.2.2.2.1 (openS l).2.2.2.2.2.2.2.1).2.1,0)
theorem reqSpec_minor (l:List UInt8):(reqSpec l).2.2.1=0 ∨ (reqSpec l).2.2.1=1:=by
 have hv : ∀ v p,verL v=some p → 0 ≤ p.2:=by
  intro v p h
  unfold verL at h
  split at h
  ·split at h
   ·rename_i c
    injection h with h
    subst h
    show (0:Int) ≤ _ - 48
    omega
   ·cases h
  ·cases h
 unfold reqSpec
 split
 ·unfold reqP
  split
  ·split
   ·exact Or.inl rfl
   ·split
    ·exact Or.inl rfl
    ·rename_i p hp
     have:=hv _ _ hp
     split
     ·rename_i h
      show p.2=0 ∨ p.2=1
      omega
     ·exact Or.inl rfl
  ·exact Or.inl rfl
 ·exact Or.inl rfl
/-- What is known of a request's beginning that is whole. -/
structure OpenOk (l:List Int) (o:ByteArray × ByteArray × Int × List (S36) × List Int × Int × Int × Bool × Int):Prop where
 pos:0 < o.2.2.2.2.2.1
 le:o.2.2.2.2.2.1 ≤ (l.length:Int)∧o.2.2.2.2.2.1 ≤ 2048
 code:o.2.2.2.2.2.2.2.2=0
 size:0 ≤ o.2.2.2.2.2.2.1∧o.2.2.2.2.2.2.1 ≤ 4096
 minor:o.2.2.1=0 ∨ o.2.2.1=1
 fields:o.2.2.2.1.length ≤ 40 ∧ ∀ f ∈ o.2.2.2.1,rightB f.f0 f.f1=true
 body:o.2.2.2.2.1=[]
theorem open_cases (l:List Int):(∃ c,openS l=openBad c) ∨ OpenOk l (openS l):=by
 have hb:=bdS_length l
 have hle:=lines_le (bdS l) (extS l)
 unfold openS
 obtain ⟨L,hL⟩ : ∃ L,L=linesS (bdS l) (extS l):=⟨_,rfl⟩
 rw [← hL] at hle ⊢
 obtain ⟨ss,n,c⟩:=L
 simp only at hle
 cases ss with
 | nil=>exact Or.inl ⟨c,rfl⟩
 | cons s ss =>
  rw [openL]
  split
  ·split
   ·split
    ·exact Or.inl ⟨c,rfl⟩
    ·rename_i h3
     unfold openF
     split
     ·split
      ·have hf:=fieldsS_FB ss 0 (by omega)
       exact Or.inr ⟨by show 0 < n;omega,by show n ≤ _∧n ≤ 2048;omega,rfl,reqLen_size _ _,reqSpec_minor _,⟨by show (fieldsS ss 0).1.length ≤ 40;omega,hf.2⟩,rfl⟩
      ·exact Or.inl ⟨_,rfl⟩
     ·exact Or.inl ⟨_,rfl⟩
   ·exact Or.inl ⟨_,rfl⟩
  ·exact Or.inl ⟨_,rfl⟩
theorem hosts_f (m t:ByteArray) (mi:Int) (fs:List (S36)) (b:List Int) (hf:FB fs) (k:Nat) (hk:1001 ≤ k):http_hosts.f k m t mi fs b=some (hostsOk (getS hostNm fs) mi):=by
 have hfl:=hf.1
 have hg:=Get_f fs hostNM hf (by decide) k (by omega)
 rw [getS_nm hostNM hostNm host_nm] at hg
 have hb:=get_bounds fs hostNm hf
 unfold http_hosts.f
 rw [show (⟨#[72,111,115,116]⟩:ByteArray)=hostNM from rfl,hg,Option.bind_some]
 cases hs:getS hostNm fs with
 | nil=>rfl
 | cons p r =>
  rw [hs] at hb
  have hp:=hb.2 p (List.mem_cons_self ..)
  have hr0:rdOf ByteArray.empty (p :: r) 0=p:=rfl
  rw [if_neg (by simp only [List.length_cons];omega),if_pos (by simp only [List.length_cons];omega),hr0,hostT_f p (by omega),Option.bind_some]
  cases r with
  | nil =>
   rw [hostsOk]
   cases (hostT p).2
   ·rw [if_neg (by simp)]
   ·rw [if_pos rfl];rfl
  | cons q s =>
   rw [hostsOk]
   have:(((p :: q :: s).length:Int) == 1)=false:=beq_eq_false_iff_ne.2 (by simp only [List.length_cons];omega)
   rw [this]
   split <;> rfl
theorem http_open_f (l:List Int) (hl:l.length ≤ 1000000) (k:Nat) (hk:1070000000 ≤ k) : ∃ o,http_open.f (k + 1) l=some o∧(o=openS l ∨ (o.2.2.2.2.2.2.2.2 ≠ 0∧openS l=openBad o.2.2.2.2.2.2.2.2)):=by
 have hb:=bdS_length l
 have hsz:=lines_sizes (bdS l) (extS l) hb.1
 have hn1:=head_nil reqFst l k (by omega)
 have hn2:=head_cons reqFst l (by omega) k (by omega)
 unfold openS http_open.f
 obtain ⟨L,hL⟩ : ∃ L,L=linesS (bdS l) (extS l):=⟨_,rfl⟩
 rw [← hL] at hsz hn1 hn2 ⊢
 obtain ⟨ss,n,c⟩:=L
 cases ss with
 | nil =>
  rw [hn1 rfl,Option.bind_some]
  exact ⟨_,rfl,Or.inl rfl⟩
 | cons s ss =>
  have hs:=hsz s (List.mem_cons_self ..)
  have hq : ∀ k,1000000 ≤ k → line_Request.f k s=some (reqSpec s.data.toList):=fun k hk=>by
   have:=Request_f s.data.toList (by rw [data_length];omega) k (by rw [data_length];omega)
   rw [mkS_self] at this
   exact this
  have hr:reqFst k s=some (reqSpec s.data.toList).2.2.2.2.2:=by unfold reqFst;rw [hq k (by omega),Option.bind_some]
  rw [hn2 s ss rfl,hr,Option.bind_some,openL]
  obtain ⟨q,hqq⟩ : ∃ q,q=reqSpec s.data.toList:=⟨_,rfl⟩
  have hFB:=fields_FB ss
  rw [← hqq] at hq ⊢
  obtain ⟨g,hg⟩ : ∃ g,g=fieldsS ss 0:=⟨_,rfl⟩
  rw [← hg] at hFB ⊢
  by_cases h1:q.2.2.2.2.2=0
  ·rw [if_pos h1,if_pos h1]
   unfold headEnd
   by_cases h2:g.2=0
   ·rw [if_pos h2,if_pos h2]
    simp only
    by_cases h3:n=0
    ·rw [if_pos h3,if_pos h3,Option.bind_some]
     exact ⟨_,rfl,Or.inl rfl⟩
    ·rw [if_neg h3,if_neg h3,Option.bind_some,if_neg h3,Option.bind_some,hq _ (by omega),Option.bind_some,List.nil_append]
     rw [hosts_f q.1 q.2.1 q.2.2.1 g.1 [] hFB _ (by omega),Option.bind_some]
     unfold openF
     by_cases h4:hostsOk (getS hostNm g.1) q.2.2.1=true
     ·rw [if_pos h4,if_pos h4,frameReq_f g.1 q.2.2.1 hFB _ (by omega),Option.bind_some]
      refine ⟨_,rfl,?_⟩
      by_cases h5:(reqLen g.1 q.2.2.1).2.2=0
      ·rw [if_pos h5]
       exact Or.inl (by rw [h5])
      ·rw [if_neg h5]
       exact Or.inr ⟨h5,rfl⟩
     ·rw [if_neg h4,if_neg h4]
      exact ⟨_,rfl,Or.inl rfl⟩
   ·rw [if_neg h2,if_neg h2,Option.bind_some]
    exact ⟨_,rfl,Or.inl rfl⟩
  ·rw [if_neg h1,if_neg h1,Option.bind_some]
   exact ⟨_,rfl,Or.inl rfl⟩
theorem http_Request_f (l:List Int) (hl:l.length ≤ 1000000) (k:Nat) (hk:1070000010 ≤ k):http_Request.f k l=some (reqS l):=by
 obtain ⟨k,rfl⟩ : ∃ m,k=m + 1:=⟨k - 1,by omega⟩
 obtain ⟨o,ho,hs⟩:=http_open_f l hl k (by omega)
 unfold http_Request.f reqS
 rw [ho,Option.bind_some]
 have hbad : ∀ x6 x7 x8 x9 a b c d e,http_Request.j0 (k + 1) l x6 x7 x8 x9 true a b c d e=some (⟨#[]⟩,⟨#[]⟩,0,[],[],0,x9):=by
  intros
  rw [http_Request.j0,if_pos rfl]
 rcases hs with hs|⟨h1,hs⟩
 ·rw [← hs]
  rcases open_cases l with ⟨c,hc⟩|hok
  ·rw [hc] at hs
   subst hs
   rw [if_pos (show (openBad c).2.2.2.2.2.1=0 from rfl),if_pos (show (openBad c).2.2.2.2.2.1=0 from rfl),hbad]
  ·rw [← hs] at hok
   have p1:=hok.pos
   have hne : ¬ o.2.2.2.2.2.1=0:=by omega
   have p2:=hok.le
   have hdl:(l.drop o.2.2.2.2.2.1.toNat).length=l.length - o.2.2.2.2.2.1.toNat:=List.length_drop ..
   have hbl:=body_le (l.drop o.2.2.2.2.2.1.toNat) (by omega) o.2.2.2.2.2.2.1 hok.size.1 o.2.2.2.2.2.2.2.1
   rw [if_neg hne,if_neg hne,hok.code,show ((0:Int) != 0)=false from rfl,http_Request.j0,if_neg (by simp),if_pos (by omega),if_pos (by omega),body_f _ (by omega) _ hok.size.1 _ k (by omega),Option.bind_some]
   by_cases h3:(bodyS (l.drop o.2.2.2.2.2.1.toNat) o.2.2.2.2.2.2.1 o.2.2.2.2.2.2.2.1).2.1 < 0
   ·rw [if_pos h3,if_pos h3]
   ·rw [if_neg h3,if_neg h3]
    have hw:wrap64 (o.2.2.2.2.2.1 + (bodyS (l.drop o.2.2.2.2.2.1.toNat) o.2.2.2.2.2.2.1 o.2.2.2.2.2.2.2.1).2.1)=o.2.2.2.2.2.1 + (bodyS (l.drop o.2.2.2.2.2.1.toNat) o.2.2.2.2.2.2.1 o.2.2.2.2.2.2.2.1).2.1:=by unfold wrap64;omega
    rw [hw]
 ·rw [hs,if_pos (show (openBad o.2.2.2.2.2.2.2.2).2.2.2.2.2.1=0 from rfl)]
  by_cases h2:o.2.2.2.2.2.1=0
  ·rw [if_pos h2,hbad];rfl
  ·rw [if_neg h2,bne_iff_ne.2 h1,hbad];rfl
def Cln (xs:List Int):Prop := ∀ x ∈ xs,x ≠ 13∧x ≠ 10
theorem cln_nil:Cln []:=fun x hx=>by cases hx
theorem cutT_line (xs:List Int) (hs:Cln xs) (r:List Int) (m:Int) (hm:(xs.length:Int) ≤ m) (d:Nat) : ∀ (j e:Nat),j + d=xs.length → e=d + 2 + r.length →
 cutAt (xs ++ ([13,10] ++ r)) m e j=(strOfNums xs,(xs.length:Int) + 2,0):=by
 induction d with
 | zero =>
  intro j e hj he
  subst he
  obtain rfl:j=xs.length:=by omega
  have e1:rd (xs ++ ([13,10] ++ r)) (xs.length:Int)=13:=by rw [rd_append_right _ _ _ (by omega),Int.sub_self];rfl
  have e2:rd (xs ++ ([13,10] ++ r)) ((xs.length:Int) + 1)=10:=by rw [rd_append_right _ _ _ (by omega),show (xs.length:Int) + 1 - xs.length=1 by omega];rfl
  rw [show 0 + 2 + r.length=(r.length + 1) + 1 by omega]
  simp only [cutAt]
  rw [e1,if_neg (by decide),if_pos rfl,if_pos (by rw [List.length_append];simp;omega),e2,if_pos rfl,Int.toNat_natCast,List.take_left]
 | succ d ih =>
  intro j e hj he
  subst he
  have hlt:j < xs.length:=by omega
  have e1:rd (xs ++ ([13,10] ++ r)) (j:Int)=xs[j]:=by
   rw [rd_append_left _ _ _ (by omega) (by omega)]
   simp [rd,List.getD_eq_getElem?_getD,List.getElem?_eq_getElem hlt]
  obtain ⟨h13,h10⟩:=hs _ (List.getElem_mem hlt)
  rw [show d + 1 + 2 + r.length=(d + 2 + r.length) + 1 by omega]
  simp only [cutAt]
  rw [e1,if_neg h10,if_neg h13,if_neg (by omega)]
  have:=ih (j + 1) (d + 2 + r.length) (by omega) rfl
  rw [show ((j + 1:Nat):Int)=(j:Int) + 1 by omega] at this
  exact this
theorem cutT (xs:List Int) (hs:Cln xs) (r:List Int) (m:Int) (hm:(xs.length:Int) ≤ m):cutSpec (xs ++ ([13,10] ++ r)) m=(strOfNums xs,(xs.length:Int) + 2,0):=by
 have e1:mx m 0=m:=by unfold mx;split <;> omega
 unfold cutSpec
 rw [e1]
 exact cutT_line xs hs r m hm xs.length 0 _ (by omega) (by rw [List.length_append,List.length_append];simp;omega)
/-- Lines,one behind the other. -/
def flatL:List (List Int) → List Int
 | []=>[]
 | s :: ss=>s ++ ([13,10] ++ flatL ss)
theorem str_nil (xs:List Int):(strOfNums xs).toList=[] ↔ xs=[]:=by
 have h:=str_size xs
 constructor
 ·intro e
  have:(strOfNums xs).size=0:=by rw [← data_length,← toList_data,e];rfl
  exact List.eq_nil_of_length_eq_zero (by omega)
 ·rintro rfl;rw [toList_data];rfl
def LinesOk (ss:List (List Int)):Prop := ∀ s ∈ ss,Cln s∧s ≠ []∧s.length ≤ 2048
theorem tail_text (L:List Int) (e:Int) (r:List Int) : ∀ (ss:List (List Int)) (p d:Nat),L.drop p=flatL ss ++ ([13,10] ++ r) → LinesOk ss → ss.length < d →
 tailS L e d p=(ss.map strOfNums,(p:Int) + ((flatL ss).length:Int) + 2,0):=by
 intro ss
 induction ss with
 | nil =>
  intro p d h hs hd
  obtain ⟨d,rfl⟩ : ∃ m,d=m + 1:=⟨d - 1,by simp only [List.length_nil] at hd;omega⟩
  have hc:=cutT [] cln_nil r 2048 (by decide)
  rw [List.nil_append] at hc
  rw [tailS,h,flatL,List.nil_append,hc,if_neg (by decide),if_neg (by decide),if_pos ((str_nil []).2 rfl)]
  simp
 | cons s ss ih =>
  intro p d h hs hd
  obtain ⟨d,rfl⟩ : ∃ m,d=m + 1:=⟨d - 1,by simp only [List.length_cons] at hd;omega⟩
  obtain ⟨h1,h2,h3⟩:=hs s (List.mem_cons_self ..)
  have hfl:flatL (s :: ss) ++ ([13,10] ++ r)=s ++ ([13,10] ++ (flatL ss ++ ([13,10] ++ r))):=by rw [flatL,List.append_assoc,List.append_assoc]
  rw [hfl] at h
  have hc:=cutT s h1 (flatL ss ++ ([13,10] ++ r)) 2048 (by omega)
  have hd2:L.drop (p + (s.length + 2))=flatL ss ++ ([13,10] ++ r):=by
   rw [← List.drop_drop,h,← List.append_assoc,List.drop_append_of_le_length (by simp),List.drop_of_length_le (by simp),List.nil_append]
  rw [tailS,h,hc]
  simp only
  rw [if_neg (by decide),if_neg (by omega),if_neg (fun he=>h2 ((str_nil s).1 he)),show ((s.length:Int) + 2).toNat=s.length + 2 by omega,
   ih (p + (s.length + 2)) d hd2 (fun t ht=>hs t (List.mem_cons_of_mem _ ht)) (by simp only [List.length_cons] at hd;omega)]
  simp only [List.map_cons,flatL,List.length_append,List.length_cons,List.length_nil,Prod.mk.injEq,true_and,and_true]
  omega
theorem flatL_len (ss:List (List Int)):ss.length ≤ (flatL ss).length:=by
 induction ss with
 | nil=>exact Nat.le_refl _
 | cons s ss ih=>simp only [flatL,List.length_append,List.length_cons,List.length_nil];omega
theorem lines_text (l:List Int) (e:Int) (s:List Int) (ss:List (List Int)) (r:List Int) (h:l=s ++ ([13,10] ++ (flatL ss ++ ([13,10] ++ r)))) (hs:Cln s) (hn:s.length ≤ 2048) (hss:LinesOk ss) :
 linesS l e=(strOfNums s :: ss.map strOfNums,(s.length:Int) + ((flatL ss).length:Int) + 4,0):=by
 have hc:=cutT s hs (flatL ss ++ ([13,10] ++ r)) 2048 (by omega)
 rw [← h] at hc
 have hd2:l.drop (s.length + 2)=flatL ss ++ ([13,10] ++ r):=by
  rw [h,← List.append_assoc,List.drop_append_of_le_length (by simp),List.drop_of_length_le (by simp),List.nil_append]
 have hf:=flatL_len ss
 have hl:l.length=s.length + 2 + (flatL ss).length + 2 + r.length:=by rw [h];simp only [List.length_append,List.length_cons,List.length_nil];omega
 unfold linesS
 rw [hc]
 simp only
 rw [if_neg (by decide),if_neg (by omega),show ((s.length:Int) + 2).toNat=s.length + 2 by omega,tail_text l e r ss (s.length + 2) (l.length + 1) hd2 hss (by omega)]
 simp only [Prod.mk.injEq,true_and,and_true]
 omega
theorem flat_app (ss tt:List (List Int)):flatL (ss ++ tt)=flatL ss ++ flatL tt:=by
 induction ss with
 | nil=>rfl
 | cons s ss ih=>rw [List.cons_append,flatL,flatL,ih];simp only [List.append_assoc]
/-- Where no line ends there is none yet. -/
theorem cutE_go (Y:List Int) (m:Int) (hm:(Y.length:Int) ≤ m) (h : ∀ (i:Nat) (hi:i < Y.length),Y[i] ≠ 10∧(Y[i]=13 → i + 1=Y.length)) (d:Nat) : ∀ j:Nat,j + d=Y.length → cutAt Y m d j=((⟨#[]⟩:ByteArray),0,0):=by
 induction d with
 | zero=>intro j _;rfl
 | succ d ih =>
  intro j hj
  have hlt:j < Y.length:=by omega
  have e1:rd Y (j:Int)=Y[j]:=by simp [rd,List.getD_eq_getElem?_getD,List.getElem?_eq_getElem hlt]
  obtain ⟨h1,h2⟩:=h j hlt
  rw [cutAt,e1,if_neg h1]
  by_cases h3:Y[j]=13
  ·rw [if_pos h3,if_neg (by have:=h2 h3;omega)]
  ·rw [if_neg h3,if_neg (by omega)]
   have:=ih (j + 1) (by omega)
   rw [show ((j + 1:Nat):Int)=(j:Int) + 1 by omega] at this
   exact this
theorem cutE (Y:List Int) (hm:Y.length ≤ 2048) (h : ∀ (i:Nat) (hi:i < Y.length),Y[i] ≠ 10∧(Y[i]=13 → i + 1=Y.length)):cutSpec Y 2048=((⟨#[]⟩:ByteArray),0,0) :=
 cutE_go Y (mx 2048 0) (by rw [show mx 2048 0=2048 from rfl];omega) h Y.length 0 (by omega)
theorem cutE_cln (Y:List Int) (hm:Y.length ≤ 2048) (h:Cln Y):cutSpec Y 2048=((⟨#[]⟩:ByteArray),0,0) :=
 cutE Y hm fun i hi=>⟨(h _ (List.getElem_mem hi)).2,fun e=>absurd e (h _ (List.getElem_mem hi)).1⟩
theorem cutE_13 (Y:List Int) (hm:Y.length < 2048) (h:Cln Y):cutSpec (Y ++ [13]) 2048=((⟨#[]⟩:ByteArray),0,0):=by
 refine cutE _ (by simp only [List.length_append,List.length_cons,List.length_nil];omega) fun i hi=>?_
 have hl:(Y ++ [13]).length=Y.length + 1:=by simp
 by_cases c:i < Y.length
 ·rw [List.getElem_append_left c]
  exact ⟨(h _ (List.getElem_mem c)).2,fun e=>absurd e (h _ (List.getElem_mem c)).1⟩
 ·exact ⟨by rw [List.getElem_append_right (by omega)];simp,fun _=>by omega⟩
theorem take_past (s Z:List Int) (t:Nat):(s ++ ([13,10] ++ Z)).take (s.length + 2 + t)=s ++ ([13,10] ++ Z.take t):=by
 have hl2:(s ++ [13,10]).length=s.length + 2:=by simp
 rw [← List.append_assoc,List.take_append,hl2,List.take_of_length_le (by omega),show s.length + 2 + t - (s.length + 2)=t by omega,List.append_assoc]
theorem take_13 (s Z:List Int):(s ++ ([13,10] ++ Z)).take (s.length + 1)=s ++ [13]:=by
 rw [List.take_append,List.take_of_length_le (by omega),show s.length + 1 - s.length=1 by omega]
 rfl
/-- Lines whose end is cut away: a beginning of them is read,and it isn't whole. -/
theorem tail_cut (T:List Int) (e:Int) (hT:T.length ≤ 2048) : ∀ (ss:List (List Int)) (t p d:Nat),T.drop p=(flatL ss ++ [13,10]).take t → t < (flatL ss ++ [13,10]).length → p ≤ T.length → LinesOk ss → T.length < p + d →
 ∃ us vs,ss=us ++ vs∧tailS T e d p=(us.map strOfNums,0,e):=by
 intro ss
 induction ss with
 | nil =>
  intro t p d h ht hp hs hd
  obtain ⟨d,rfl⟩ : ∃ m,d=m + 1:=⟨d - 1,by omega⟩
  refine ⟨[],[],rfl,?_⟩
  have ht' : t=0 ∨ t=1:=by simp only [flatL,List.nil_append,List.length_cons,List.length_nil] at ht;omega
  have hc:cutSpec (T.drop p) 2048=((⟨#[]⟩:ByteArray),0,0):=by
   rw [h]
   rcases ht' with rfl|rfl
   ·exact cutE_cln _ (by simp) (by simp [Cln])
   ·exact cutE_13 [] (by simp) cln_nil
  rw [tailS,hc,if_neg (by decide),if_pos rfl]
  rfl
 | cons s ss ih =>
  intro t p d h ht hp hs hd
  obtain ⟨d,rfl⟩ : ∃ m,d=m + 1:=⟨d - 1,by omega⟩
  obtain ⟨h1,h2,h3⟩:=hs s (List.mem_cons_self ..)
  have hfl:flatL (s :: ss) ++ [13,10]=s ++ ([13,10] ++ (flatL ss ++ [13,10])):=by rw [flatL];simp only [List.append_assoc]
  rw [hfl] at h ht
  have hdl:(T.drop p).length=T.length - p:=List.length_drop ..
  have hll:(s ++ ([13,10] ++ (flatL ss ++ [13,10]))).length=s.length + 2 + (flatL ss ++ [13,10]).length:=by simp only [List.length_append,List.length_cons,List.length_nil];omega
  by_cases c1:t ≤ s.length
  ·refine ⟨[],s :: ss,rfl,?_⟩
   have hc:cutSpec (T.drop p) 2048=((⟨#[]⟩:ByteArray),0,0):=by
    refine cutE_cln _ (by omega) ?_
    rw [h,List.take_append_of_le_length c1]
    exact fun x hx=>h1 x (List.mem_of_mem_take hx)
   rw [tailS,hc,if_neg (by decide),if_pos rfl]
   rfl
  ·by_cases c2:t=s.length + 1
   ·refine ⟨[],s :: ss,rfl,?_⟩
    subst c2
    rw [take_13] at h
    have hc:cutSpec (T.drop p) 2048=((⟨#[]⟩:ByteArray),0,0):=by
     rw [h]
     refine cutE_13 s ?_ h1
     have:(T.drop p).length=s.length + 1:=by rw [h];simp
     omega
    rw [tailS,hc,if_neg (by decide),if_pos rfl]
    rfl
   ·obtain ⟨u,rfl⟩ : ∃ u,t=s.length + 2 + u:=⟨t - (s.length + 2),by omega⟩
    rw [take_past] at h
    have hlen:(T.drop p).length=s.length + 2 + ((flatL ss ++ [13,10]).take u).length:=by rw [h];simp only [List.length_append,List.length_cons,List.length_nil];omega
    have hc:=cutT s h1 ((flatL ss ++ [13,10]).take u) 2048 (by omega)
    have hd2:T.drop (p + (s.length + 2))=(flatL ss ++ [13,10]).take u:=by
     rw [← List.drop_drop,h,← List.append_assoc,List.drop_append_of_le_length (by simp),List.drop_of_length_le (by simp),List.nil_append]
    obtain ⟨us,vs,f1,f2⟩:=ih u (p + (s.length + 2)) d hd2 (by omega) (by omega) (fun x hx=>hs x (List.mem_cons_of_mem _ hx)) (by omega)
    refine ⟨s :: us,vs,by rw [f1];rfl,?_⟩
    rw [tailS,h,hc]
    simp only
    rw [if_neg (by decide),if_neg (by omega),if_neg (fun he=>h2 ((str_nil s).1 he)),show ((s.length:Int) + 2).toNat=s.length + 2 by omega,f2]
    rfl
theorem lines_cut (l:List Int) (e:Int) (s:List Int) (ss:List (List Int)) (h:l=s ++ ([13,10] ++ (flatL ss ++ [13,10]))) (hs:Cln s) (hn:s.length + 2 ≤ 2048) (hss:LinesOk ss) (hl:2048 < l.length) :
 ∃ us vs,ss=us ++ vs∧linesS (l.take 2048) e=(strOfNums s :: us.map strOfNums,0,e):=by
 obtain ⟨u,hu⟩ : ∃ u,2048=s.length + 2 + u:=⟨2048 - (s.length + 2),by omega⟩
 have hll:l.length=s.length + 2 + (flatL ss ++ [13,10]).length:=by rw [h];simp only [List.length_append,List.length_cons,List.length_nil];omega
 have hT:l.take 2048=s ++ ([13,10] ++ (flatL ss ++ [13,10]).take u):=by rw [hu,h,take_past]
 have hTl:(l.take 2048).length=2048:=by rw [List.length_take];omega
 have hc:=cutT s hs ((flatL ss ++ [13,10]).take u) 2048 (by omega)
 rw [← hT] at hc
 have hd2:(l.take 2048).drop (s.length + 2)=(flatL ss ++ [13,10]).take u:=by
  rw [hT,← List.append_assoc,List.drop_append_of_le_length (by simp),List.drop_of_length_le (by simp),List.nil_append]
 obtain ⟨us,vs,f1,f2⟩:=tail_cut (l.take 2048) e (by omega) ss u (s.length + 2) ((l.take 2048).length + 1) hd2 (by omega) (by omega) hss (by omega)
 refine ⟨us,vs,f1,?_⟩
 unfold linesS
 rw [hc]
 simp only
 rw [if_neg (by decide),if_neg (by omega),show ((s.length:Int) + 2).toNat=s.length + 2 by omega,f2]
theorem fields_good : ∀ (ss:List ByteArray) (n:Nat),(∀ s ∈ ss,fieldOk s.data.toList=true) → n ≤ 40 → fieldsS ss n=if n + ss.length ≤ 40 then (ss.map fun s=>fieldX s.data.toList,0) else ([],431):=by
 intro ss
 induction ss with
 | nil=>intro n _ hn;rw [if_pos (by simpa using hn)];rfl
 | cons s ss ih =>
  intro n hs hn
  rw [fieldsS,if_pos (hs s (List.mem_cons_self ..))]
  by_cases c:n=40
  ·rw [if_pos c,if_neg (by simp only [List.length_cons];omega)]
  ·rw [if_neg c,ih (n + 1) (fun x hx=>hs x (List.mem_cons_of_mem _ hx)) (by omega)]
   by_cases c2:n + 1 + ss.length ≤ 40
   ·rw [if_pos c2,if_pos rfl,if_pos (by simp only [List.length_cons];omega)]
    rfl
   ·rw [if_neg c2,if_neg (by simp),if_neg (by simp only [List.length_cons];omega)]
theorem getS_none (p:ByteArray) : ∀ (fs:List (S36)),(∀ f ∈ fs,sameN f.f0 p=false) → getS p fs=[]:=by
 intro fs
 induction fs with
 | nil=>intro _;rfl
 | cons f fs ih =>
  intro h
  rw [getS,if_neg (by simp [h f (List.mem_cons_self ..)]),ih (fun x hx=>h x (List.mem_cons_of_mem _ hx))]
def limA_:List Int:=[72,111,115,116,58,32,97]
def limV:List Int:=[102,58,32,118]
def limXs (n:Nat):List Int:=[88,58,32] ++ List.replicate n 120
def limG:List Int:=[71,69,84,32,47,32,72,84,84,80,47,49,46,49]
def xN:ByteArray:=⟨#[88]⟩
theorem limX_ok (n:Nat) (hn:n ≤ 900):Cln (limXs n)∧limXs n ≠ []∧(limXs n).length=3 + n:=by
 refine ⟨fun x hx=>?_,(fun e=>by cases e),by unfold limXs;simp only [List.length_append,List.length_replicate,List.length_cons,List.length_nil]⟩
 unfold limXs at hx
 rcases List.mem_append.1 hx with h1|h1
 ·have:x=88 ∨ x=58 ∨ x=32:=by simpa using h1
  omega
 ·have:=(List.mem_replicate.1 h1).2
  omega
theorem limX_data (n:Nat):(strOfNums (limXs n)).data.toList=[88] ++ 58 :: (32 :: List.replicate n 120):=by
 unfold limXs strOfNums
 simp
theorem trm_x (n:Nat):trm (32 :: List.replicate n 120)=List.replicate n 120:=by
 have h:=trm_around [32] (List.replicate n 120) [] ⟨fun a ha=>?_,fun a ha=>?_⟩ (by decide) (by simp)
 ·rw [List.append_nil] at h;exact h
 ·have:=List.mem_of_mem_head? ha
  rw [(List.mem_replicate.1 this).2];decide
 ·have:=List.mem_of_getLast? ha
  rw [(List.mem_replicate.1 this).2];decide
theorem x_val:valB 120=true:=by decide +kernel
theorem x_tok:(!xN.toList.isEmpty && (bytesOf xN).all tokB)=true:=by decide +kernel
theorem limX_field (n:Nat) (hn:n ≤ 900):fieldOk (strOfNums (limXs n)).data.toList=true∧(fieldX (strOfNums (limXs n)).data.toList).f0=xN:=by
 have h58:(58:UInt8) ∉ ([88]:List UInt8):=by decide
 rw [limX_data]
 obtain ⟨e1,e2⟩:=take_first 58 [88] (32 :: List.replicate n 120) h58
 refine ⟨?_,?_⟩
 ·rw [fieldOk_yes _ _ h58,trm_x]
  unfold rightB
  have hv:(bytesOf (mkS (List.replicate n 120))).all valB=true:=by
   refine List.all_eq_true.2 fun x hx=>?_
   have:bytesOf (mkS (List.replicate n 120))=(mkS (List.replicate n 120)).data.toList.map fun b=>(b.toNat:Int):=rfl
   rw [this,mkS_data] at hx
   obtain ⟨b,hb,rfl⟩:=List.mem_map.1 hx
   rw [(List.mem_replicate.1 hb).2]
   exact x_val
  have hc:trm (List.replicate n 120)=List.replicate n (120:UInt8):=by
   refine trm_self ⟨fun a ha=>?_,fun a ha=>?_⟩
   ·rw [(List.mem_replicate.1 (List.mem_of_mem_head? ha)).2];decide
   ·rw [(List.mem_replicate.1 (List.mem_of_getLast? ha)).2];decide
  rw [show mkS [88]=xN from rfl,x_tok,hv,mkS_data,hc,decide_eq_true (show xN.size ≤ 100 by decide),decide_eq_true (show (mkS (List.replicate n (120:UInt8))).size ≤ 1000 by rw [mkS_size,List.length_replicate];omega),beq_self_eq_true]
  rfl
 ·unfold fieldX
  rw [e1]
  rfl
/-- A line of the head that is put together. -/
def LimLn (s:List Int):Prop:=s=limV ∨ ∃ n,n ≤ 900∧s=limXs n
theorem limLn_ok {s:List Int} (h:LimLn s):Cln s∧s ≠ []∧s.length ≤ 2048:=by
 rcases h with rfl|⟨n,hn,rfl⟩
 ·exact ⟨fun x hx=>by revert x;decide,by decide,by decide⟩
 ·obtain ⟨h1,h2,h3⟩:=limX_ok n hn
  exact ⟨h1,h2,by omega⟩
theorem limLn_field {s:List Int} (h:LimLn s):fieldOk (strOfNums s).data.toList=true∧sameN (fieldX (strOfNums s).data.toList).f0 hostNm=false∧sameN (fieldX (strOfNums s).data.toList).f0 teNm=false∧sameN (fieldX (strOfNums s).data.toList).f0 lenNm=false:=by
 rcases h with rfl|⟨n,hn,rfl⟩
 ·exact ⟨by decide +kernel,by decide +kernel,by decide +kernel,by decide +kernel⟩
 ·obtain ⟨h1,h2⟩:=limX_field n hn
  rw [h2]
  exact ⟨h1,by decide +kernel,by decide +kernel,by decide +kernel⟩
theorem limA_field:fieldOk (strOfNums limA_).data.toList=true∧sameN (fieldX (strOfNums limA_).data.toList).f0 hostNm=true∧sameN (fieldX (strOfNums limA_).data.toList).f0 teNm=false∧sameN (fieldX (strOfNums limA_).data.toList).f0 lenNm=false∧(hostT (fieldX (strOfNums limA_).data.toList).f1).2=true :=
 ⟨by decide +kernel,by decide +kernel,by decide +kernel,by decide +kernel,by decide +kernel⟩
theorem limG_req:reqSpec (strOfNums limG).data.toList=(⟨#[71,69,84]⟩,⟨#[47]⟩,1,[],[],0):=by kernel_rfl
theorem lim_all (ss:List (List Int)) (h : ∀ s ∈ ss,LimLn s):LinesOk (limA_ :: ss) ∧ ∀ s ∈ (limA_ :: ss).map strOfNums,fieldOk s.data.toList=true:=by
 refine ⟨fun t ht=>?_,fun t ht=>?_⟩
 ·rcases List.mem_cons.1 ht with rfl|ht
  ·exact ⟨fun x hx=>by revert x;decide,by decide,by decide⟩
  ·exact limLn_ok (h t ht)
 ·obtain ⟨s,hs,rfl⟩:=List.mem_map.1 ht
  rcases List.mem_cons.1 hs with rfl|hs
  ·exact limA_field.1
  ·exact (limLn_field (h s hs)).1
theorem lim_get (ss:List (List Int)) (h : ∀ s ∈ ss,LimLn s) (p:ByteArray) (hp:p=hostNm ∨ p=teNm ∨ p=lenNm):getS p ((ss.map strOfNums).map fun s=>fieldX s.data.toList)=[]:=by
 refine getS_none p _ fun f hf=>?_
 obtain ⟨t,ht,rfl⟩:=List.mem_map.1 hf
 obtain ⟨s,hs,rfl⟩:=List.mem_map.1 ht
 have:=limLn_field (h s hs)
 rcases hp with rfl|rfl|rfl
 ·exact this.2.1
 ·exact this.2.2.1
 ·exact this.2.2.2
theorem lim_req (ss:List (List Int)) (h : ∀ s ∈ ss,LimLn s) (b:List Int) (hb:b=limG ++ ([13,10] ++ (flatL (limA_ :: ss) ++ [13,10]))) :
 if 40 < ss.length + 1 ∨ 2048 < b.length then (reqS b).2.2.2.2.2.1=0∧(reqS b).2.2.2.2.2.2=431
 else (reqS b).2.2.2.2.2.1=(b.length:Int)∧(reqS b).2.2.2.2.2.2=0∧(reqS b).2.2.2.1.length=ss.length + 1:=by
 obtain ⟨hok,hfo⟩:=lim_all ss h
 have hcl:Cln limG:=fun x hx=>by revert x;decide
 have hgl:limG.length=14:=rfl
 have hbl:b.length=14 + (flatL (limA_ :: ss)).length + 4:=by rw [hb];simp only [List.length_append,List.length_cons,List.length_nil,hgl];omega
 by_cases c1:2048 < b.length
 ·rw [if_pos (Or.inr c1)]
  obtain ⟨us,vs,f1,f2⟩:=lines_cut b (extS b) limG (limA_ :: ss) hb hcl (by omega) hok c1
  have he:extS b=431:=by unfold extS;rw [if_pos (by omega)]
  have ho:openS b=openBad 431:=by
   unfold openS bdS
   rw [f2,he,openL,limG_req,if_pos rfl]
   have hg:=fields_good (us.map strOfNums) 0 (fun s hs=>hfo s (by rw [f1,List.map_append];exact List.mem_append_left _ hs)) (by omega)
   rw [hg]
   split
   ·rw [if_pos rfl,if_pos rfl]
   ·rw [if_neg (by decide)]
  unfold reqS
  rw [ho,if_pos (by rfl)]
  exact ⟨rfl,rfl⟩
 ·have eb:bdS b=b:=by unfold bdS;rw [List.take_of_length_le (by omega)]
  have hl:=lines_text b (extS b) limG (limA_ :: ss) [] (by rw [hb,List.append_nil]) hcl (by omega) hok
  have hg:=fields_good ((limA_ :: ss).map strOfNums) 0 hfo (by omega)
  by_cases c2:40 < ss.length + 1
  ·rw [if_pos (Or.inl c2)]
   have ho:openS b=openBad 431:=by
    have hg2:fieldsS ((limA_ :: ss).map strOfNums) 0=([],431):=by rw [hg,if_neg (by rw [List.length_map,List.length_cons];omega)]
    unfold openS
    rw [eb,hl,openL,limG_req,if_pos rfl,hg2,if_neg (by decide)]
   unfold reqS
   rw [ho,if_pos (by rfl)]
   exact ⟨rfl,rfl⟩
  ·rw [if_neg (by omega)]
   obtain ⟨a1,a2,a3,a4,a5⟩:=limA_field
   have g1:getS hostNm (((limA_ :: ss).map strOfNums).map fun s=>fieldX s.data.toList)=[(fieldX (strOfNums limA_).data.toList).f1]:=by
    rw [List.map_cons,List.map_cons,getS,if_pos a2,lim_get ss h hostNm (Or.inl rfl)]
   have g2:getS teNm (((limA_ :: ss).map strOfNums).map fun s=>fieldX s.data.toList)=[]:=by
    rw [List.map_cons,List.map_cons,getS,if_neg (by rw [a3];simp),lim_get ss h teNm (Or.inr (Or.inl rfl))]
   have g3:getS lenNm (((limA_ :: ss).map strOfNums).map fun s=>fieldX s.data.toList)=[]:=by
    rw [List.map_cons,List.map_cons,getS,if_neg (by rw [a4];simp),lim_get ss h lenNm (Or.inr (Or.inr rfl))]
   have gl:reqLen (((limA_ :: ss).map strOfNums).map fun s=>fieldX s.data.toList) 1=(0,false,0):=by
    unfold reqLen thereS
    rw [g2,g3]
    rfl
   have ho:openS b=(⟨#[71,69,84]⟩,⟨#[47]⟩,1,((limA_ :: ss).map strOfNums).map fun s=>fieldX s.data.toList,[],(b.length:Int),0,false,0):=by
    have hg2:fieldsS ((limA_ :: ss).map strOfNums) 0=(((limA_ :: ss).map strOfNums).map fun s=>fieldX s.data.toList,0):=by rw [hg,if_pos (by rw [List.length_map,List.length_cons];omega)]
    unfold openS
    rw [eb,hl,openL,limG_req,if_pos rfl,hg2,if_pos rfl,if_neg (by omega)]
    unfold openF
    rw [g1,hostsOk]
    simp only
    rw [if_pos a5,gl,if_pos rfl,show ((limG.length:Int) + ((flatL (limA_ :: ss)).length:Int) + 4)=(b.length:Int) by omega]
   unfold reqS
   rw [ho]
   simp only
   rw [if_neg (show ¬ (b.length:Int)=0 by omega)]
   have hbody:bodyS (b.drop (b.length:Int).toNat) 0 false=([],0,0):=by
    unfold bodyS
    rw [if_neg (show ¬ (false=true) by simp),if_neg (by omega)]
    rfl
   rw [hbody,if_neg (by decide)]
   exact ⟨by simp,rfl,by simp⟩
/-- A row,so often. -/
def repS (y:List Int):Nat → List Int
 | 0=>[]
 | d + 1=>y ++ repS y d
theorem repS_lines (y:List Int) (d:Nat):repS (y ++ [13,10]) d=flatL (List.replicate d y):=by
 induction d with
 | zero=>rfl
 | succ d ih=>rw [repS,ih,List.replicate_succ,flatL,List.append_assoc]
theorem repS_one (c:Int) (d:Nat):repS [c] d=List.replicate d c:=by
 induction d with
 | zero=>rfl
 | succ d ih=>rw [repS,ih,List.replicate_succ];rfl
theorem limA_run (x:ByteArray) (hx:x.size ≤ 10) (n:Nat) (hn:n ≤ 1000) : ∀ (d i k:Nat) (s:ByteArray),i + d=n → d < k → s.size + 10 * d ≤ 1000000 → ∃ t,limA k x (n:Int) (i:Int) s=some t∧bytesOf t=bytesOf s ++ repS (bytesOf x) d:=by
 intro d
 induction d with
 | zero =>
  intro i k s hi hk hs
  obtain ⟨k,rfl⟩ : ∃ m,k=m + 1:=⟨k - 1,by omega⟩
  exact ⟨s,by rw [limA,if_pos (by omega),if_neg (by omega)],(List.append_nil _).symm⟩
 | succ d ih =>
  intro i k s hi hk hs
  obtain ⟨k,rfl⟩ : ∃ m,k=m + 1:=⟨k - 1,by omega⟩
  have hz:(s ++ x).size=s.size + x.size:=ByteArray.size_append ..
  obtain ⟨t,h1,h2⟩:=ih (i + 1) k (s ++ x) (by omega) (by omega) (by omega)
  refine ⟨t,?_,by rw [h2,bytes_app,repS,List.append_assoc]⟩
  rw [limA,if_pos (by omega),if_pos (by omega),show wrap64 ((i:Int) + 1)=((i + 1:Nat):Int) by unfold wrap64;omega]
  exact h1
theorem limEnd_run (s:ByteArray) (ss:List (List Int)) (hs:bytesOf s=limG ++ ([13,10] ++ flatL (limA_ :: ss))) (h : ∀ t ∈ ss,LimLn t) (hz:s.size ≤ 3000) (k:Nat) (hk:1070000020 ≤ k):limEnd k ((ss.length:Int) + 1) s=some true:=by
 have hb:bytesOf (s ++ (⟨#[13,10]⟩:ByteArray))=limG ++ ([13,10] ++ (flatL (limA_ :: ss) ++ [13,10])):=by
  rw [bytes_app,hs]
  simp only [List.append_assoc]
  rfl
 have hlen:(bytesOf (s ++ (⟨#[13,10]⟩:ByteArray))).length=s.size + 2:=by rw [bytesOf_length];exact ByteArray.size_append ..
 have hr:=lim_req ss h _ hb
 rw [hlen] at hr
 unfold limEnd
 rw [http_Request_f _ (by omega) k (by omega),Option.bind_some]
 by_cases c1:(ss.length:Int) + 1 > 40
 ·rw [if_pos (Or.inl (by omega))] at hr
  rw [if_pos c1,if_pos ⟨hr.2,hr.1⟩]
 ·rw [if_neg c1]
  by_cases c2:2048 < s.size + 2
  ·rw [if_pos (Or.inr c2)] at hr
   rw [if_pos c2,if_pos ⟨hr.2,hr.1⟩]
  ·rw [if_neg (by omega)] at hr
   rw [if_neg c2,if_pos ⟨hr.2.1,by rw [hr.1];omega,by rw [hr.2.2];omega⟩]
theorem limO_run (sz:Nat) (h0:1900 ≤ sz) (h1:sz ≤ 2155) : ∀ (d k:Nat) (s:ByteArray) (ss:List (List Int)),bytesOf s=limG ++ ([13,10] ++ flatL (limA_ :: ss)) → (∀ t ∈ ss,LimLn t) → s.size ≤ 2200 → sz ≤ s.size + d → 1070000100 + d ≤ k →
 limO k (sz:Int) ((ss.length:Int) + 1) s=some true:=by
 intro d
 induction d with
 | zero =>
  intro k s ss hs h hz hd hk
  obtain ⟨k,rfl⟩ : ∃ m,k=m + 1:=⟨k - 1,by omega⟩
  rw [limO,if_pos (by omega),if_neg (by omega)]
  exact limEnd_run s ss hs h (by omega) k (by omega)
 | succ d ih =>
  intro k s ss hs h hz hd hk
  obtain ⟨k,rfl⟩ : ∃ m,k=m + 1:=⟨k - 1,by omega⟩
  rw [limO,if_pos (by omega)]
  by_cases c:(s.size:Int) + 7 ≤ (sz:Int)
  ·rw [if_pos c]
   obtain ⟨n,hn⟩ : ∃ n:Nat,n=(if sz - s.size - 7 < 900 then sz - s.size - 7 else 900):=⟨_,rfl⟩
   have hn1:n ≤ 900∧n ≤ sz - s.size - 7:=by rw [hn];split <;> omega
   have e1:(if (sz:Int) - (s.size:Int) - 7 < 900 then (sz:Int) - (s.size:Int) - 7 else 900)=(n:Int):=by rw [hn];split <;> split <;> omega
   have hz2:(s ++ (⟨#[88,58,32]⟩:ByteArray)).size=s.size + 3:=ByteArray.size_append ..
   obtain ⟨t,g1,g2⟩:=limA_run (⟨#[120]⟩:ByteArray) (by decide) n (by omega) n 0 k (s ++ (⟨#[88,58,32]⟩:ByteArray)) (by omega) (by omega) (by omega)
   rw [show ((0:Nat):Int)=0 from rfl] at g1
   have e2:bytesOf t=limG ++ ([13,10] ++ (flatL (limA_ :: ss) ++ limXs n)):=by
    rw [g2,bytes_app,hs,show bytesOf (⟨#[120]⟩:ByteArray)=[120] from rfl,repS_one,show bytesOf (⟨#[88,58,32]⟩:ByteArray)=[88,58,32] from rfl]
    unfold limXs
    simp only [List.append_assoc]
   have hfl:(flatL (limA_ :: ss)).length + 16=s.size:=by
    have:=congrArg List.length hs
    rw [bytesOf_length] at this
    simp only [List.length_append,List.length_cons,List.length_nil,show limG.length=14 from rfl] at this
    omega
   have hts:t.size=s.size + 3 + n:=by
    rw [← bytesOf_length,e2]
    simp only [List.length_append,List.length_cons,List.length_nil,show limG.length=14 from rfl,(limX_ok n hn1.1).2.2]
    omega
   have hcs:(t ++ (⟨#[13,10]⟩:ByteArray)).size=t.size + 2:=ByteArray.size_append ..
   have e3:bytesOf (t ++ (⟨#[13,10]⟩:ByteArray))=limG ++ ([13,10] ++ flatL (limA_ :: (ss ++ [limXs n]))):=by
    rw [bytes_app,e2,show limA_ :: (ss ++ [limXs n])=(limA_ :: ss) ++ [limXs n] from rfl,flat_app,show bytesOf (⟨#[13,10]⟩:ByteArray)=[13,10] from rfl]
    simp only [flatL,List.append_assoc,List.append_nil]
   have hsl:ss.length ≤ 3000:=by
    have:=flatL_len (limA_ :: ss)
    simp only [List.length_cons] at this
    omega
   rw [e1,g1,Option.bind_some,if_pos (by omega),show wrap64 ((ss.length:Int) + 1 + 1)=((ss ++ [limXs n]).length:Int) + 1 by rw [List.length_append];simp only [List.length_cons,List.length_nil];unfold wrap64;omega]
   refine ih k _ (ss ++ [limXs n]) e3 ?_ (by omega) (by omega) (by omega)
   intro t ht
   rcases List.mem_append.1 ht with ht|ht
   ·exact h t ht
   ·rw [List.mem_singleton.1 ht]
    exact Or.inr ⟨n,hn1.1,rfl⟩
  ·rw [if_neg c]
   exact limEnd_run s ss hs h (by omega) k (by omega)
theorem HttpLimits : ∀ (a0 a1:Int),(Lit.int .i64 a0).wf=true → (Lit.int .i64 a1).wf=true → ∃ k,tollbarlaw08_HttpLimits.f k a0 a1=some true:=by
 intro a0 a1 _ _
 refine ⟨1080000000,?_⟩
 have e1:Go.bits .and .i64 a0 63=a0 % 64:=and_63 a0
 have e2:Go.bits .and .i64 a1 255=a1 % 256:=and_mask a1 8 (by decide)
 obtain ⟨n,hn⟩ : ∃ n:Nat,(n:Int)=a0 % 64:=⟨(a0 % 64).toNat,by omega⟩
 obtain ⟨m,hm⟩ : ∃ m:Nat,(m:Int)=a1 % 256:=⟨(a1 % 256).toNat,by omega⟩
 have hs0:bytesOf (⟨#[71,69,84,32,47,32,72,84,84,80,47,49,46,49,13,10,72,111,115,116,58,32,97,13,10]⟩:ByteArray)=limG ++ ([13,10] ++ (limA_ ++ [13,10])):=rfl
 obtain ⟨t,g1,g2⟩:=limA_run (⟨#[102,58,32,118,13,10]⟩:ByteArray) (by decide) n (by omega) n 0 1080000000 _ (by omega) (by omega) (show (⟨#[71,69,84,32,47,32,72,84,84,80,47,49,46,49,13,10,72,111,115,116,58,32,97,13,10]⟩:ByteArray).size + 10 * n ≤ 1000000 by show 25 + 10 * n ≤ _;omega)
 rw [show ((0:Nat):Int)=0 from rfl] at g1
 have e3:bytesOf t=limG ++ ([13,10] ++ flatL (limA_ :: List.replicate n limV)):=by
  rw [g2,hs0,show bytesOf (⟨#[102,58,32,118,13,10]⟩:ByteArray)=limV ++ [13,10] from rfl,repS_lines,flatL]
  simp only [List.append_assoc]
 have hfl:(flatL (List.replicate n limV)).length=6 * n:=by
  rw [← repS_lines]
  clear g1 g2 e3 hn
  induction n with
  | zero=>rfl
  | succ n ih=>rw [repS,List.length_append,ih];simp only [show (limV ++ [13,10]:List Int).length=6 from rfl];omega
 have hts:t.size=25 + 6 * n:=by
  rw [← bytesOf_length,e3,flatL]
  simp only [List.length_append,List.length_cons,List.length_nil,hfl,show limG.length=14 from rfl,show limA_.length=7 from rfl]
  omega
 unfold tollbarlaw08_HttpLimits.f
 rw [e1,e2,← hn,← hm,g1,Option.bind_some,show wrap64 (1900 + (m:Int))=((1900 + m:Nat):Int) by unfold wrap64;omega,show wrap64 ((n:Int) + 1)=((List.replicate n limV).length:Int) + 1 by rw [List.length_replicate];unfold wrap64;omega]
 exact limO_run (1900 + m) (by omega) (by omega) 3000 1080000000 t _ e3 (fun s hs=>Or.inl (List.mem_replicate.1 hs).2) (by omega) (by omega) (by omega)
end Go.Proofs.YtagffbblalldiaaGreatDoor.Pure
