/- Each function below answers as its Lean twin says; plain lemmas; a row where its theorem stands. No further condition. (Laid by this repo's pack.py out of its texts and of the print's words.) -/
import Derived.Test.YtagffbblalldiaaGreatDoorZ0e6c455e
import Derived.Test.YtagffbblalldiaaGreatDoorZ0e9a2119
import Derived.Test.YtagffbblalldiaaGreatDoorZdbf0bf3b
import Derived.Test.YtagffbblalldiaaGreatDoorZa9aa4ed7
import Derived.Lib.SlBytesConst
import Derived.Lib.IndexBytes
import Derived.Lib.Strings
import Derived.Shelf.Strings.SlTrimAscii
import Derived.Lib.SlTrimSet
import Derived.Lib.LastIndexByte
namespace Go.Proofs.YtagffbblalldiaaGreatDoor.P
open Go.RowKit Go.Proofs.YtagffbblalldiaaGreatDoorW.PrintWords Go.Proofs.YtagffbblalldiaaGreatDoorW.PrintLast Go.Proofs.YtagffbblalldiaaGreatDoorW.PrintMore
attribute [local go_sem] max2_int min2_int max_two min_two max_three min_three max_four min_four
set_option linter.unusedVariables false
set_option linter.unusedSimpArgs false
def as_b:List Int:=[71,69,84,32,47,32,72,84,84,80,47,49,46,49,13,10,72,111,115,116,58,32,97,13,10,13,10]
def as_n:List Int:=[71,69,84,32,47,32,72,84,84,80,47,49,46,49,10,72,111,115,116,58,32,97,13,10,13,10]
def as_w:List Int:=[80,85,84,32,47,32,72,84,84,80,47,49,46,49,13,10,72,111,115,116,58,32,97,13,10,69,120,112,101,99,116,58,32,49,48,48,45,67,111,110,116,105,110,117,101,13,10,67,111,110,116,101,110,116,45,76,101,110,103,116,104,58,32,50,13,10,13,10,97]
def as_fs:List (S36):=[⟨⟨#[72,111,115,116]⟩,⟨#[97]⟩⟩]
theorem as_1:http_Request.f 80 (as_b ++ bytesOf ⟨#[109,111,114,101]⟩)=some (⟨#[71,69,84]⟩,⟨#[47]⟩,1,as_fs,[],27,0):=by kernel_rfl
theorem as_2:http_Request.f 80 (as_b.take 20)=some (⟨#[]⟩,⟨#[]⟩,0,[],[],0,0):=by kernel_rfl
theorem as_3:http_Request.f 80 as_n=some (⟨#[]⟩,⟨#[]⟩,0,[],[],0,400):=by kernel_rfl
theorem as_4:http_Host.f 80 ⟨#[71,69,84]⟩ ⟨#[47]⟩ 1 as_fs []=some ⟨#[97]⟩:=by kernel_rfl
theorem as_5:http_WriteRequest.f 80 ⟨#[71,69,84]⟩ ⟨#[47]⟩ 1 as_fs []=some as_b:=by kernel_rfl
theorem as_6:tollbarref01_SameBytes.f 80 as_b as_b=some true:=by kernel_rfl
theorem as_7:http_Waits.f 80 as_w=some true:=by kernel_rfl
theorem as_8:http_Waits.f 80 as_b=some false:=by kernel_rfl
def tollbarlaw08_asking.f:Option Bool:=some true
set_option maxHeartbeats 8000000 in
set_option maxRecDepth 100000 in
theorem tollbarlaw08_asking.calls (r:Bool) (w:World) (h:tollbarlaw08_asking.f=some r) (ht:Tabs w) :
 Calls Tryz.prog 11 #[] w fun e w' => e = .returned (.bool r)∧Below w.heap.size w w' := by
 obtain rfl:=Option.some.inj h
 clear h
 have HTB:=Aside0.mk ht
 clear ht
 have hu3:=Tryz.underlying26
 have kc:=fun (w:World) (C:Array Value) (n c:Nat)=>Lib.run_convert_bytes_const (P:=Tryz.prog) w 22 5 C n c Tryz.underlying22 Tryz.underlying5
 have CB:=Aside0.mk (show Kd.C (Kd.int .u8) (w.alloc (.cells #[.int .u8 71,.int .u8 69,.int .u8 84,.int .u8 32,.int .u8 47,.int .u8 32,.int .u8 72,.int .u8 84,.int .u8 84,.int .u8 80,.int .u8 47,.int .u8 49,.int .u8 46,.int .u8 49,.int .u8 13,.int .u8 10,.int .u8 72,.int .u8 111,.int .u8 115,.int .u8 116,.int .u8 58,.int .u8 32,.int .u8 97,.int .u8 13,.int .u8 10,.int .u8 13,.int .u8 10] 5 (27,28))) (some ⟨w.heap.size,0,none⟩) as_b.length as_b from C_const w 5 as_b (27,28) zb52)
 have B0:=Aside0.mk (below_alloc (Below.refl w.heap.size w) (.cells #[.int .u8 71,.int .u8 69,.int .u8 84,.int .u8 32,.int .u8 47,.int .u8 32,.int .u8 72,.int .u8 84,.int .u8 84,.int .u8 80,.int .u8 47,.int .u8 49,.int .u8 46,.int .u8 49,.int .u8 13,.int .u8 10,.int .u8 72,.int .u8 111,.int .u8 115,.int .u8 116,.int .u8 58,.int .u8 32,.int .u8 97,.int .u8 13,.int .u8 10,.int .u8 13,.int .u8 10] 5 (27,28)))
 obtain ⟨i0,hi0,hz0,hsz0,hby0⟩:=info_parts info5
 have HI:=Aside0.mk (And.intro hi0 (And.intro hz0 (And.intro hsz0 hby0)))
 clear hi0 hz0 hsz0 hby0
 have BE : ∀ V:World,BufM V (w.alloc (.cells #[.int .u8 71,.int .u8 69,.int .u8 84,.int .u8 32,.int .u8 47,.int .u8 32,.int .u8 72,.int .u8 84,.int .u8 84,.int .u8 80,.int .u8 47,.int .u8 49,.int .u8 46,.int .u8 49,.int .u8 13,.int .u8 10,.int .u8 72,.int .u8 111,.int .u8 115,.int .u8 116,.int .u8 58,.int .u8 32,.int .u8 97,.int .u8 13,.int .u8 10,.int .u8 13,.int .u8 10] 5 (27,28))).heap.size (.slice (some ⟨w.heap.size + 1,0,none⟩) 0 0) []:=fun V=>⟨w.heap.size + 1,0,rfl,zb42,Nat.le_refl _,fun j u h=>by simp at h,fun j h=>by omega⟩
 have BEE:=Aside0.mk BE
 clear BE
 go_enter Tryz.func11,Tryz.ntmps11
 go_wp2_with (first
  | ((with_reducible refine gate_builtin (b:=.append) (xs:=#[.tmp 14,.tmp 15]) rfl ?_);at_builtin;refine wp_bufM rfl (.tmp 14) (.tmp 15) 22 22 rfl (w.alloc (.cells #[.int .u8 71,.int .u8 69,.int .u8 84,.int .u8 32,.int .u8 47,.int .u8 32,.int .u8 72,.int .u8 84,.int .u8 84,.int .u8 80,.int .u8 47,.int .u8 49,.int .u8 46,.int .u8 49,.int .u8 13,.int .u8 10,.int .u8 72,.int .u8 111,.int .u8 115,.int .u8 116,.int .u8 58,.int .u8 32,.int .u8 97,.int .u8 13,.int .u8 10,.int .u8 13,.int .u8 10] 5 (27,28))).heap.size 5 i0 Tryz.underlying22 HI.out.1 HI.out.2.1 HI.out.2.2.1 HI.out.2.2.2 _ (.slice (some ⟨w.heap.size,0,none⟩) as_b.length 27) [] as_b rfl rfl (BEE.out _) (src_ints Tryz.underlying22 (Kd.C_alloc CB.out _)) zb52 (below_alloc (Below.refl (w.alloc (.cells #[.int .u8 71,.int .u8 69,.int .u8 84,.int .u8 32,.int .u8 47,.int .u8 32,.int .u8 72,.int .u8 84,.int .u8 84,.int .u8 80,.int .u8 47,.int .u8 49,.int .u8 46,.int .u8 49,.int .u8 13,.int .u8 10,.int .u8 72,.int .u8 111,.int .u8 115,.int .u8 116,.int .u8 58,.int .u8 32,.int .u8 97,.int .u8 13,.int .u8 10,.int .u8 13,.int .u8 10] 5 (27,28))).heap.size (w.alloc (.cells #[.int .u8 71,.int .u8 69,.int .u8 84,.int .u8 32,.int .u8 47,.int .u8 32,.int .u8 72,.int .u8 84,.int .u8 84,.int .u8 80,.int .u8 47,.int .u8 49,.int .u8 46,.int .u8 49,.int .u8 13,.int .u8 10,.int .u8 72,.int .u8 111,.int .u8 115,.int .u8 116,.int .u8 58,.int .u8 32,.int .u8 97,.int .u8 13,.int .u8 10,.int .u8 13,.int .u8 10] 5 (27,28)))) _).size ?_;intro v3 w3 hB3 hb3;obtain ⟨y3,hy3⟩ : ∃ y,y=([]:List Int) ++ as_b:=⟨_,rfl⟩;rw [← hy3] at hB3;obtain ⟨A3,c3,e3⟩:=hB3.form;subst e3;have Y3:=Aside0.mk hy3;have BU3:=Aside0.mk hB3;have L3:=Aside0.mk ((below_alloc (Below.refl (w.alloc (.cells #[.int .u8 71,.int .u8 69,.int .u8 84,.int .u8 32,.int .u8 47,.int .u8 32,.int .u8 72,.int .u8 84,.int .u8 84,.int .u8 80,.int .u8 47,.int .u8 49,.int .u8 46,.int .u8 49,.int .u8 13,.int .u8 10,.int .u8 72,.int .u8 111,.int .u8 115,.int .u8 116,.int .u8 58,.int .u8 32,.int .u8 97,.int .u8 13,.int .u8 10,.int .u8 13,.int .u8 10] 5 (27,28))).heap.size (w.alloc (.cells #[.int .u8 71,.int .u8 69,.int .u8 84,.int .u8 32,.int .u8 47,.int .u8 32,.int .u8 72,.int .u8 84,.int .u8 84,.int .u8 80,.int .u8 47,.int .u8 49,.int .u8 46,.int .u8 49,.int .u8 13,.int .u8 10,.int .u8 72,.int .u8 111,.int .u8 115,.int .u8 116,.int .u8 58,.int .u8 32,.int .u8 97,.int .u8 13,.int .u8 10,.int .u8 13,.int .u8 10] 5 (27,28)))) (.cells #[] 5)).trans hb3);clear hy3 hB3 hb3)
  | ((with_reducible refine gate_builtin (b:=.append) (xs:=#[.tmp 16,.const (.string ⟨#[109,111,114,101]⟩)]) rfl ?_);at_builtin;refine wp_bufM rfl (.tmp 16) (.const (.string ⟨#[109,111,114,101]⟩)) 22 9 rfl (w.alloc (.cells #[.int .u8 71,.int .u8 69,.int .u8 84,.int .u8 32,.int .u8 47,.int .u8 32,.int .u8 72,.int .u8 84,.int .u8 84,.int .u8 80,.int .u8 47,.int .u8 49,.int .u8 46,.int .u8 49,.int .u8 13,.int .u8 10,.int .u8 72,.int .u8 111,.int .u8 115,.int .u8 116,.int .u8 58,.int .u8 32,.int .u8 97,.int .u8 13,.int .u8 10,.int .u8 13,.int .u8 10] 5 (27,28))).heap.size 5 i0 Tryz.underlying22 HI.out.1 HI.out.2.1 HI.out.2.2.1 HI.out.2.2.2 _ (.string ⟨#[109,111,114,101]⟩) y3 (bytesOf ⟨#[109,111,114,101]⟩) rfl rfl BU3.out (src_bytes _ Tryz.underlying9 ⟨#[109,111,114,101]⟩) (by rw [Y3.out];decide) L3.out.size ?_;intro v4 w4 hB4 hb4;obtain ⟨y4,hy4⟩ : ∃ y,y=y3 ++ bytesOf ⟨#[109,111,114,101]⟩:=⟨_,rfl⟩;rw [← hy4] at hB4;obtain ⟨A4,c4,e4⟩:=hB4.form;subst e4;have Y4:=Aside0.mk (show y4=as_b ++ bytesOf ⟨#[109,111,114,101]⟩ by rw [hy4,Y3.out];rfl);have BU4:=Aside0.mk hB4;have LW:=Aside0.mk (L3.out.trans hb4);have L4:=Aside0.mk (B0.out.trans (hbase2 B0.out.size (L3.out.trans hb4)));have CB4:=Aside0.mk (Kd.C_below CB.out (L3.out.trans hb4));clear hy4 hB4 hb4))
 go_at_call 12
 refine (http_Request.calls 80 A4 c4 y4 _ _ _ _ _ _ _ w4 (BufM.reads' BU4.out (by rw [Y4.out];decide)).2.2 (BufM.reads' BU4.out (by rw [Y4.out];decide)).2.1 (by rw [Y4.out];exact as_1)).mono ?_
 rintro e w5 ⟨v1,v2,rfl,h1,h2,hb⟩
 obtain ⟨A1,c1,rfl,hl1,hC1⟩:=Kd.R_reads h1
 obtain ⟨A2,c2,rfl⟩:=Kd.R_slice h2
 have B5:=Aside0.mk (below_alloc (below_step L4.out hb) (.cells #[.string ⟨#[71,69,84]⟩,.string ⟨#[47]⟩,.int .i64 1,.slice A1 1 c1,.slice A2 0 c2] 26 (0,0)))
 have R1:=Aside0.mk (Kd.C_alloc hC1 (.cells #[.string ⟨#[71,69,84]⟩,.string ⟨#[47]⟩,.int .i64 1,.slice A1 1 c1,.slice A2 0 c2] 26 (0,0)))
 have X5:=Aside0.mk (blk_new w5 (.cells #[.string ⟨#[71,69,84]⟩,.string ⟨#[47]⟩,.int .i64 1,.slice A1 1 c1,.slice A2 0 c2] 26 (0,0)))
 have C5:=Aside0.mk (Kd.C_alloc (Kd.C_below CB4.out hb) (.cells #[.string ⟨#[71,69,84]⟩,.string ⟨#[47]⟩,.int .i64 1,.slice A1 1 c1,.slice A2 0 c2] 26 (0,0)))
 clear h1 h2 hC1 hb
 obtain ⟨hsl,hrd,hcc⟩:=print_take_of (P:=Tryz.prog) (Value.int .u8) 0 22 5 .i64 Tryz.underlying22 HI.out.1 HI.out.2.2.1 (some ⟨w.heap.size,0,none⟩) 27 as_b 20 zb52 zb52 zb52
 have C6:=Aside0.mk (Kd.C_of_reads (h1:=fun _=>rfl) (hrd _ (Kd.reads_of_C C5.out)))
 have hsl' : ∀ W:World,(Instr.slice 22 (.slice (some ⟨w.heap.size,0,none⟩) 27 27) none (some (.int .i64 20)) none).run Tryz.prog W = .ok (.slice (some ⟨w.heap.size,0,none⟩) 20 27) W:=hsl
 clear hsl hrd hcc
 simp only [show as_fs.length=1 from rfl,List.length_nil]
 go_wp2_with fail
 go_at_call 12
 refine (http_Request.calls 80 (some ⟨w.heap.size,0,none⟩) 27 (as_b.take 20) _ _ _ _ _ _ _ _ C6.out zb52 as_2).mono ?_
 rintro e w6 ⟨v3,v4,rfl,h3,h4,hb⟩
 obtain ⟨A5,c5,rfl⟩:=Kd.R_slice h3
 obtain ⟨A6,c6,rfl⟩:=Kd.R_slice h4
 have B6:=Aside0.mk (below_alloc (below_step B5.out hb) (.cells #[.string ⟨#[]⟩,.string ⟨#[]⟩,.int .i64 0,.slice A5 0 c5,.slice A6 0 c6] 26 (0,0)))
 have C7:=Aside0.mk (Kd.C_alloc (Kd.C_below C5.out hb) (.cells #[.string ⟨#[]⟩,.string ⟨#[]⟩,.int .i64 0,.slice A5 0 c5,.slice A6 0 c6] 26 (0,0)))
 have R2:=Aside0.mk (Kd.C_alloc (Kd.C_below R1.out hb) (.cells #[.string ⟨#[]⟩,.string ⟨#[]⟩,.int .i64 0,.slice A5 0 c5,.slice A6 0 c6] 26 (0,0)))
 have X6:=Aside0.mk (blk_alloc (blk_below X5.out hb) (.cells #[.string ⟨#[]⟩,.string ⟨#[]⟩,.int .i64 0,.slice A5 0 c5,.slice A6 0 c6] 26 (0,0)))
 have hz:(w6.alloc (.cells #[.string ⟨#[]⟩,.string ⟨#[]⟩,.int .i64 0,.slice A5 0 c5,.slice A6 0 c6] 26 (0,0))).heap.size=w6.heap.size + 1:=by simp
 have kc2:=Lib.run_convert_bytes_const (P:=Tryz.prog) (w6.alloc (.cells #[.string ⟨#[]⟩,.string ⟨#[]⟩,.int .i64 0,.slice A5 0 c5,.slice A6 0 c6] 26 (0,0))) 22 5 #[.int .u8 71,.int .u8 69,.int .u8 84,.int .u8 32,.int .u8 47,.int .u8 32,.int .u8 72,.int .u8 84,.int .u8 84,.int .u8 80,.int .u8 47,.int .u8 49,.int .u8 46,.int .u8 49,.int .u8 10,.int .u8 72,.int .u8 111,.int .u8 115,.int .u8 116,.int .u8 58,.int .u8 32,.int .u8 97,.int .u8 13,.int .u8 10,.int .u8 13,.int .u8 10] 26 26 Tryz.underlying22 Tryz.underlying5
 rw [hz] at kc2
 have hcn:=C_const (w6.alloc (.cells #[.string ⟨#[]⟩,.string ⟨#[]⟩,.int .i64 0,.slice A5 0 c5,.slice A6 0 c6] 26 (0,0))) 5 as_n (26,27) zb52
 rw [hz] at hcn
 have CN:=Aside0.mk hcn
 clear h3 h4 hb hcn hz hsl'
 simp only [List.length_nil]
 go_wp2_with fail
 go_at_call 12
 refine (http_Request.calls 80 (some ⟨w6.heap.size + 1,0,none⟩) 26 as_n _ _ _ _ _ _ _ _ CN.out zb52 as_3).mono ?_
 rintro e w7 ⟨v5,v6,rfl,h5,h6,hb⟩
 obtain ⟨A7,c7,rfl⟩:=Kd.R_slice h5
 obtain ⟨A8,c8,rfl⟩:=Kd.R_slice h6
 have B7:=Aside0.mk (below_alloc (below_step (below_alloc B6.out _) hb) (.cells #[.string ⟨#[]⟩,.string ⟨#[]⟩,.int .i64 0,.slice A7 0 c7,.slice A8 0 c8] 26 (0,0)))
 have C8:=Aside0.mk (Kd.C_alloc (Kd.C_below (Kd.C_alloc C7.out _) hb) (.cells #[.string ⟨#[]⟩,.string ⟨#[]⟩,.int .i64 0,.slice A7 0 c7,.slice A8 0 c8] 26 (0,0)))
 have R3:=Aside0.mk (Kd.C_alloc (Kd.C_below (Kd.C_alloc R2.out _) hb) (.cells #[.string ⟨#[]⟩,.string ⟨#[]⟩,.int .i64 0,.slice A7 0 c7,.slice A8 0 c8] 26 (0,0)))
 have X7:=Aside0.mk (blk_alloc (blk_below (blk_alloc X6.out _) hb) (.cells #[.string ⟨#[]⟩,.string ⟨#[]⟩,.int .i64 0,.slice A7 0 c7,.slice A8 0 c8] 26 (0,0)))
 have q0:(w7.alloc (.cells #[.string ⟨#[]⟩,.string ⟨#[]⟩,.int .i64 0,.slice A7 0 c7,.slice A8 0 c8] 26 (0,0))).cell? ⟨w5.heap.size,0,none⟩=some (.string ⟨#[71,69,84]⟩):=(blk_cell X7.out 0).trans rfl
 have q1:(w7.alloc (.cells #[.string ⟨#[]⟩,.string ⟨#[]⟩,.int .i64 0,.slice A7 0 c7,.slice A8 0 c8] 26 (0,0))).cell? ⟨w5.heap.size,1,none⟩=some (.string ⟨#[47]⟩):=(blk_cell X7.out 1).trans rfl
 have q2:(w7.alloc (.cells #[.string ⟨#[]⟩,.string ⟨#[]⟩,.int .i64 0,.slice A7 0 c7,.slice A8 0 c8] 26 (0,0))).cell? ⟨w5.heap.size,2,none⟩=some (.int .i64 1):=(blk_cell X7.out 2).trans rfl
 have q3:(w7.alloc (.cells #[.string ⟨#[]⟩,.string ⟨#[]⟩,.int .i64 0,.slice A7 0 c7,.slice A8 0 c8] 26 (0,0))).cell? ⟨w5.heap.size,3,none⟩=some (.slice A1 1 c1):=(blk_cell X7.out 3).trans rfl
 have q4:(w7.alloc (.cells #[.string ⟨#[]⟩,.string ⟨#[]⟩,.int .i64 0,.slice A7 0 c7,.slice A8 0 c8] 26 (0,0))).cell? ⟨w5.heap.size,4,none⟩=some (.slice A2 0 c2):=(blk_cell X7.out 4).trans rfl
 clear h5 h6 hb kc2
 simp only [List.length_nil]
 go_wp2_with fail
 go_at_call 19
 refine (http_Host.calls 80 ⟨#[71,69,84]⟩ ⟨#[47]⟩ 1 A1 c1 as_fs A2 c2 [] ⟨#[97]⟩ _ R3.out hl1 ⟨rfl,zb42,fun h=>absurd h (Nat.lt_irrefl 0)⟩ (Nat.zero_le _) as_4).mono ?_
 rintro e w8 ⟨rfl,hb⟩
 have B8:=Aside0.mk (below_step B7.out hb)
 have C9:=Aside0.mk (Kd.C_below C8.out hb)
 have R4:=Aside0.mk (Kd.C_below R3.out hb)
 have X8:=Aside0.mk (blk_below X7.out hb)
 have q0:w8.cell? ⟨w5.heap.size,0,none⟩=some (.string ⟨#[71,69,84]⟩):=(blk_cell X8.out 0).trans rfl
 have q1:w8.cell? ⟨w5.heap.size,1,none⟩=some (.string ⟨#[47]⟩):=(blk_cell X8.out 1).trans rfl
 have q2:w8.cell? ⟨w5.heap.size,2,none⟩=some (.int .i64 1):=(blk_cell X8.out 2).trans rfl
 have q3:w8.cell? ⟨w5.heap.size,3,none⟩=some (.slice A1 1 c1):=(blk_cell X8.out 3).trans rfl
 have q4:w8.cell? ⟨w5.heap.size,4,none⟩=some (.slice A2 0 c2):=(blk_cell X8.out 4).trans rfl
 clear hb
 go_wp2_with fail
 go_at_call 24
 refine (http_WriteRequest.callsB 80 ⟨#[71,69,84]⟩ ⟨#[47]⟩ 1 A1 c1 as_fs A2 c2 [] as_b w8 R4.out hl1 ⟨rfl,zb42,fun h=>absurd h (Nat.lt_irrefl 0)⟩ (Nat.zero_le _) as_5 (HTB.out.below B8.out)).mono ?_
 rintro e w9 ⟨v7,rfl,hB,hb⟩
 obtain ⟨A9,c9,rfl,hl9,hC9⟩:=hB.reads zb52
 have B9:=Aside0.mk (below_step B8.out hb)
 have C10:=Aside0.mk (Kd.C_below C9.out hb)
 have R9:=Aside0.mk hC9
 clear hB hC9 hb
 go_wp2_with fail
 go_at_call 25
 refine (tollbarref01_SameBytes.calls 80 A9 c9 as_b (some ⟨w.heap.size,0,none⟩) 27 as_b true w9 R9.out hl9 C10.out zb52 as_6).mono ?_
 rintro e w10 ⟨rfl,hd⟩
 have hb:Below w9.heap.size w9 w10:=by
  obtain ⟨n,rfl⟩:=hd.out
  exact pw_below_drewN (Below.refl _ _) _
 have B10:=Aside0.mk (below_step B9.out hb)
 have C11:=Aside0.mk (Kd.C_below C10.out hb)
 clear hd hb
 go_wp2_with fail
 go_at_call 17
 refine (http_Waits.calls 80 (some ⟨w10.heap.size,0,none⟩) 69 as_w true _ (C_const w10 5 as_w (69,70) zb52) zb52 as_7).mono ?_
 rintro e w11 ⟨rfl,hb⟩
 have B11:=Aside0.mk (below_step (below_alloc B10.out _) hb)
 have C12:=Aside0.mk (Kd.C_below (Kd.C_alloc C11.out _) hb)
 clear hb
 go_wp2_with fail
 go_at_call 17
 refine (http_Waits.calls 80 (some ⟨w.heap.size,0,none⟩) 27 as_b false w11 C12.out zb52 as_8).mono ?_
 rintro e w12 ⟨rfl,hb⟩
 have B12:=Aside0.mk (below_step B11.out hb)
 clear hb
 go_wp2
 go_ret
 exact ⟨zb115,B12.out⟩
mutual
def tollbarlaw08_HttpBack.j0:Nat → List Int → List Int → Int → Bool → Bool → Option (Bool)
 | 0,_,_,_,_,_=>none
 | k + 1,x0,x1,x2,x3,x27=>if x27=true then (some true) else ((http_Request.f k x0).bind fun bt649=>(if bt649.2.2.2.2.2.1=0 then (tollbarlaw08_HttpBack.j1 k x1 x2 x3 true bt649.1 bt649.2.1 bt649.2.2.1 bt649.2.2.2.1 bt649.2.2.2.2.1) else (if (bt649.2.2.2.1.length:Int) ≥ 40 then (tollbarlaw08_HttpBack.j1 k x1 x2 x3 true bt649.1 bt649.2.1 bt649.2.2.1 bt649.2.2.2.1 bt649.2.2.2.2.1) else (if x3=true then (tollbarlaw08_HttpBack.j1 k x1 x2 x3 (bt649.2.2.1 == 0) bt649.1 bt649.2.1 bt649.2.2.1 bt649.2.2.2.1 bt649.2.2.2.2.1) else (tollbarlaw08_HttpBack.j1 k x1 x2 x3 false bt649.1 bt649.2.1 bt649.2.2.1 bt649.2.2.2.1 bt649.2.2.2.2.1)))))
def tollbarlaw08_HttpBack.j1:Nat → List Int → Int → Bool → Bool → ByteArray → ByteArray → Int → List (S36) → List Int → Option (Bool)
 | 0,_,_,_,_,_,_,_,_,_=>none
 | k + 1,x1,x2,x3,x49,x661000,x661001,x661002,x661003,x661004=>if x49=true then (some true) else ((tollbarref04_Without.f k x661003 (([(⟨#[99,111,110,116,101,110,116,45,108,101,110,103,116,104]⟩:ByteArray),(⟨#[116,114,97,110,115,102,101,114,45,101,110,99,111,100,105,110,103]⟩:ByteArray)]:List ByteArray))).bind fun t665=>(if x3=true then (if t665.length < 4398046511104 then ((chunk_Encode.f k x661004 x2).bind fun t671=>(tollbarlaw08_HttpBack.j2 k x1 x661004 x661000 x661001 x661002 x661003 x661004 x661000 x661001 x661002 (t665 ++ [(⟨(⟨#[84,114,97,110,115,102,101,114,45,69,110,99,111,100,105,110,103]⟩:ByteArray),(⟨#[99,104,117,110,107,101,100]⟩:ByteArray)⟩:S36)]) t671)) else (none)) else ((tollbarref01_Decimal.f k (x661004.length:Int)).bind fun t674=>(if t665.length < 4398046511104 then (tollbarlaw08_HttpBack.j2 k x1 x661004 x661000 x661001 x661002 x661003 x661004 x661000 x661001 x661002 (t665 ++ [(⟨(⟨#[67,111,110,116,101,110,116,45,76,101,110,103,116,104]⟩:ByteArray),t674⟩:S36)]) x661004) else (none)))))
def tollbarlaw08_HttpBack.j2:Nat → List Int → List Int → ByteArray → ByteArray → Int → List (S36) → List Int → ByteArray → ByteArray → Int → List (S36) → List Int → Option (Bool)
 | 0,_,_,_,_,_,_,_,_,_,_,_,_=>none
 | k + 1,x1,x13,x661000,x661001,x661002,x661003,x661004,x662000,x662001,x662002,x662003,x662004=>(http_WriteRequest.f k x662000 x662001 x662002 x662003 x662004).bind fun t678=>((some (([]:List Int):List Int)).bind fun y681=>(if y681.length + t678.length < 140737488355328 then ((some (y681 ++ t678:List Int)).bind fun y684=>(if y684.length + x1.length < 140737488355328 then ((http_Request.f k (y684 ++ x1)).bind fun bt690=>(if bt690.2.2.2.2.2.2=431 then (some (decide ((wrap64 ((t678.length:Int) - (x662004.length:Int))) > 2048))) else (if (wrap64 ((t678.length:Int) - (x662004.length:Int))) > 2048 then (some false) else (if bt690.2.2.2.2.2.2=0 then (if bt690.2.2.2.2.2.1=(t678.length:Int) then (if bt690.1.toList=x661000.toList then (if bt690.2.1.toList=x661001.toList then (if bt690.2.2.1=x661002 then ((tollbarref01_SameBytes.f k bt690.2.2.2.2.1 x13).bind fun t702=>(if t702=true then ((tollbarref04_Same.f k bt690.2.2.2.1 x662003).bind fun t703=>(some t703)) else (some false))) else (some false)) else (some false)) else (some false)) else (some false)) else (some false))))) else (none))) else (none)))
end
def tollbarlaw08_HttpBack.f (k:Nat) (l0:List Int) (l1:List Int) (a2:Int) (a3:Bool):Option (Bool):=(tollbarlaw08_asking.f).bind fun t648=>(if t648=true then (if (l0.length:Int) > 4000 then (tollbarlaw08_HttpBack.j0 k l0 l1 a2 a3 true) else (tollbarlaw08_HttpBack.j0 k l0 l1 a2 a3 (decide ((l1.length:Int) > 4000)))) else (some false))
def tollbarlaw08_HttpBack.T14:Bool × List (List Nat × List Nat):=(true,[([],[]),([0],[0]),([],[]),([2],[2]),([3],[3]),([4],[4]),([5],[5]),([6],[6]),([1,7,5],[1,7]),([0,1,2,3,4,5,6,7,8],[]),([9,8,8,0,1,2,3,4,5,6,7,8],[8,9])])
def tollbarlaw08_HttpBack.B14:List Nat:=[0,1,0,4,12,28,60,124,255,511,1023]
theorem tollbarlaw08_HttpBack.tab14:rtab .any (opsOf Tryz.f5 14)=tollbarlaw08_HttpBack.T14:=by kernel_rfl
theorem tollbarlaw08_HttpBack.bits14:waitsOk tollbarlaw08_HttpBack.T14.2 tollbarlaw08_HttpBack.B14=true:=by kernel_rfl
set_option maxHeartbeats 8000000 in
set_option maxRecDepth 100000 in
theorem tollbarlaw08_HttpBack.calls (k:Nat) (A0:Option Addr) (c0:Nat) (l0:List Int) (A1:Option Addr) (c1:Nat) (l1:List Int) (a2:Int) (a3:Bool) (r:Bool) (w:World) (hr0:Kd.C (Kd.int .u8) w A0 l0.length l0) (hc0:l0.length ≤ c0) (hr1:Kd.C (Kd.int .u8) w A1 l1.length l1) (hc1:l1.length ≤ c1) (h:tollbarlaw08_HttpBack.f k l0 l1 a2 a3=some r) (hr:r=true) (ht:Tabs w) :
 Calls Tryz.prog 5 #[.slice A0 l0.length c0,.slice A1 l1.length c1,.int .i64 a2,.bool a3] w fun e w' => e = .returned (.bool r)∧Below w.heap.size w w' := by
 have HTB:=Aside0.mk ht
 clear ht
 have HRT:=Aside0.mk hr
 clear hr
 have hu26:=Tryz.underlying26
 have hu36:=Tryz.underlying36
 have HR0:=Aside0.mk hr0
 have HC0:=Aside0.mk hc0
 clear hr0 hc0
 have HR1:=Aside0.mk hr1
 have HC1:=Aside0.mk hc1
 clear hr1 hc1
 have HB:=Aside0.mk (Below.refl w.heap.size w)
 unfold tollbarlaw08_HttpBack.f at h
 have H:=h
 clear h
 replace H:=Option.bind_eq_some_iff.mp H
 obtain ⟨t648,A50,H⟩:=H
 try dsimp only at H
 have A5:=Aside0.mk A50
 clear A50
 by_cases c6:t648=true;rotate_left
 ·replace c6:=Bool.eq_false_iff.mpr c6
  subst c6
  rw [if_neg (show ¬ (false=true) by decide)] at H
  exact absurd ((Option.some.inj H).trans HRT.out) zb52
 subst c6
 rw [if_pos rfl] at H
 have HC7:=Aside0.mk H
 clear H
 go_enter Tryz.func5,Tryz.ntmps5
 go_upto_region 3 with (first|((with_reducible refine gate_callee (f:=11) rfl ?_);refine goesL_ (some 18) rfl rfl Tryz.func11 zb8 rfl #[] rfl zb1 ?_;(with_reducible refine (tollbarlaw08_asking.calls  true _ A5.out ?hT).mono ?_);(case hT=>exact HTB.out.below zb37);rintro e w8 ⟨rfl,hb⟩;refine ⟨_,rfl,?_⟩;replace HB:=Aside0.mk (below_step zb0 hb);(try clear hb)))
 (try simp only [Act.put,zqA,zqB,zqC])
 go_cut [27] (fun v27 wc => ∃ (kq:Nat) (x27_6:Bool),v27 = .bool x27_6∧Aside0 (tollbarlaw08_HttpBack.j0 kq l0 l1 a2 a3 x27_6=some r)∧Aside0 (kq ≤ k)∧Aside0 (Below w.heap.size w wc))
 case first =>
  have H:=HC7.out
  clear HC7
  by_cases c9:(l0.length:Int) > 4000
  ·rw [if_pos c9] at H
   have c9b0:decide (4000 < (l0.length:Int))=true:=decide_eq_true c9
   have c9b1:decide (4000 < l0.length)=true:=decide_eq_true zb25
   clear c9
   (first|rw [c9b0]|(simp only [i64_w,i32_w];rw [c9b0])|rw [c9b1]|skip)
   have H' := Aside0.mk H
   clear H
   go_wp2
   go_meet
   case rel=>exact ⟨_,(true),zb6,H',⟨zb85⟩,⟨zb0⟩⟩
  rw [if_neg c9] at H
  have c9b0:decide (4000 < (l0.length:Int))=false:=decide_eq_false c9
  have c9b1:decide (4000 < l0.length)=false:=decide_eq_false zb25
  clear c9
  (first|rw [c9b0]|(simp only [i64_w,i32_w];rw [c9b0])|rw [c9b1]|skip)
  have H' := Aside0.mk H
  clear H
  go_wp2
  go_meet
  case rel=>exact ⟨_,(decide ((l1.length:Int) > 4000)),zb6,H',⟨zb85⟩,⟨zb0⟩⟩
 case rest =>
  clear HC7
  try clear c1
  try clear p2
  try clear c5
  try clear c6
  try clear c9
  try clear c9b0
  try clear c9b1
  obtain ⟨kq,x27_6,rfl,HA,HJ6,HB⟩:=hcut
  cases kq with
  | zero=>exact absurd HA.out (by simp [tollbarlaw08_HttpBack.j0])
  | succ kj6 =>
   have H:=HA.out
   clear HA
   simp only [tollbarlaw08_HttpBack.j0] at H
   by_cases c10:x27_6=true
   ·subst c10
    rw [if_pos rfl] at H
    obtain rfl:=Option.some.inj H
    go_wp2
    go_ret
    exact ⟨zb3,zb0⟩
   replace c10:=Bool.eq_false_iff.mpr c10
   subst c10
   rw [if_neg (show ¬ (false=true) by decide)] at H
   replace H:=Option.bind_eq_some_iff.mp H
   obtain ⟨⟨t89,t93,t94,t95,t91,t658,t659⟩,A110,H⟩:=H
   try dsimp only at H
   have A11:=Aside0.mk A110
   clear A110
   have HC12:=Aside0.mk H
   clear H
   go_upto_region 6 with (first|((with_reducible refine gate_callee (f:=12) rfl ?_);refine goesL_ (some 30) rfl rfl Tryz.func12 zb8 rfl #[.slice A0 l0.length c0] rfl zb1 ?_;(with_reducible refine (http_Request.calls kj6 _ _ l0 t89 t93 t94 t95 t91 t658 t659 _ ?side1 ?side2 A11.out).mono ?_);(case side1=>exact zb61);(case side2=>exact HC0.out);rintro e w13 ⟨v653,v656,rfl,ho0,ho1,hb⟩;refine ⟨_,rfl,?_⟩;have HO654:=Aside0.mk (Kd.R_lower ho0 (below_size zb0));have HO657:=Aside0.mk (Kd.R_lower ho1 (below_size zb0));replace HB:=Aside0.mk (below_step zb0 hb);try clear hb ho0 ho1)|((with_reducible refine gate_dst (N:=9) rfl ?_);(try (refine gate_guard zb49 ?_;dsimp only));refine box_event rfl (N:=9) rfl (cs:=#[.string (⟨#[]⟩:ByteArray),.string (⟨#[]⟩:ByteArray),.int .i64 0,.slice none 0 0,.slice none 0 0]) (t:=26) zS ?_;intro gb86 hg w14 hbox hb;replace HO654:=Aside0.mk (Kd.R_below (by (with_reducible repeat (first|apply Kd.R_alloc|apply Kd.R_drewN|apply Kd.R_drew));exact HO654.out) hb);replace HO657:=Aside0.mk (Kd.R_below (by (with_reducible repeat (first|apply Kd.R_alloc|apply Kd.R_drewN|apply Kd.R_drew));exact HO657.out) hb);have BK86:=Aside0.mk (hbox);have GW86:=zG hg zb0;have GE86:=GW86;replace HB:=Aside0.mk (below_step zb0 hb);clear hb hbox hg;obtain ⟨hcz15_0,hcz15_1,hcz15_2,hcz15_3,hcz15_4,hfz15_0,hfz15_1,hfz15_2,hfz15_3,hfz15_4⟩:=zq5 BK86.out;obtain ⟨Ao16,co16,eo16⟩:=Kd.R_slice HO654.out;subst eo16;obtain ⟨Ao17,co17,eo17⟩:=Kd.R_slice HO657.out;subst eo17))
   (try simp only [Act.put,zqA,zqB,zqC])
   go_cut [49] (fun v49 wc => ∃ (kq:Nat) (x49_11:Bool),v49 = .bool x49_11∧Aside0 (tollbarlaw08_HttpBack.j1 kq l1 a2 a3 x49_11 t89 t93 t94 t95 t91=some r)∧Aside0 (kq ≤ kj6)∧Aside0 (Kd.R k36 36 wc w.heap.size (fun _=>True) (.slice Ao16 t95.length co16) t95)∧Aside0 (Kd.R (Kd.int .u8) 5 wc w.heap.size (fun _=>True) (.slice Ao17 t91.length co17) t91)∧Aside0 (wc.heap[gb86]? = some (.cells #[.string t89,.string t93,.int .i64 t94,(.slice Ao16 t95.length co16),(.slice Ao17 t91.length co17)] 26 (0,0)))∧Aside0 (Below w.heap.size w wc))
   case first =>
    have H:=HC12.out
    clear HC12
    by_cases c18:t658=0
    ·rw [if_pos c18] at H
     have c18b0:=beq_iff_eq.mpr c18
     have c18b1:=bne_eq_false_iff_eq.mpr c18
     clear c18
     (first|rw [c18b0]|(simp only [i64_w,i32_w];rw [c18b0])|rw [c18b1]|skip)
     have H' := Aside0.mk H
     clear H
     go_wp2
     go_meet
     case rel=>exact ⟨_,(true),zb6,H',⟨zb116⟩,⟨zb22⟩,⟨zb23⟩,⟨zb7⟩,⟨zb39⟩⟩
    rw [if_neg c18] at H
    have c18b0:=beq_eq_false_iff_ne.mpr c18
    have c18b1:=bne_iff_ne.mpr c18
    (first|rw [c18b0]|(simp only [i64_w,i32_w];rw [c18b0])|rw [c18b1]|skip)
    by_cases c19:(t95.length:Int) ≥ 40
    ·rw [if_pos c19] at H
     have c19b0:decide (40 ≤ (t95.length:Int))=true:=decide_eq_true c19
     have c19b1:decide (40 ≤ t95.length)=true:=decide_eq_true zb25
     clear c19
     have H' := Aside0.mk H
     clear H
     obtain ⟨hcz20_0,hcz20_1,hcz20_2,hcz20_3,hcz20_4,hfz20_0,hfz20_1,hfz20_2,hfz20_3,hfz20_4⟩:=zq5 BK86.out
     go_wp2
     go_meet
     case rel=>exact ⟨_,(true),zb6,H',⟨zb116⟩,⟨zb22⟩,⟨zb23⟩,⟨zb7⟩,⟨zb39⟩⟩
    rw [if_neg c19] at H
    have c19b0:decide (40 ≤ (t95.length:Int))=false:=decide_eq_false c19
    have c19b1:decide (40 ≤ t95.length)=false:=decide_eq_false zb25
    clear c19
    by_cases c21:a3=true
    ·subst c21
     rw [if_pos rfl] at H
     have H' := Aside0.mk H
     clear H
     obtain ⟨hcz22_0,hcz22_1,hcz22_2,hcz22_3,hcz22_4,hfz22_0,hfz22_1,hfz22_2,hfz22_3,hfz22_4⟩:=zq5 BK86.out
     go_wp2
     go_meet
     case rel=>exact ⟨_,((t94 == 0)),zb6,H',⟨zb116⟩,⟨zb22⟩,⟨zb23⟩,⟨zb7⟩,⟨zb39⟩⟩
    replace c21:=Bool.eq_false_iff.mpr c21
    subst c21
    rw [if_neg (show ¬ (false=true) by decide)] at H
    have H' := Aside0.mk H
    clear H
    obtain ⟨hcz23_0,hcz23_1,hcz23_2,hcz23_3,hcz23_4,hfz23_0,hfz23_1,hfz23_2,hfz23_3,hfz23_4⟩:=zq5 BK86.out
    go_wp2
    go_meet
    case rel=>exact ⟨_,(false),zb6,H',⟨zb116⟩,⟨zb22⟩,⟨zb23⟩,⟨zb7⟩,⟨zb39⟩⟩
   case rest =>
    clear HC12
    try clear c1
    try clear c2
    try clear p2
    try clear c5
    try clear c6
    try clear c9
    try clear c9b0
    try clear c9b1
    try clear c10
    try clear c11
    try clear c12
    try clear c18
    try clear c18b0
    try clear c18b1
    try clear c19
    try clear c19b0
    try clear c19b1
    try clear c21
    try clear hcz15_0
    try clear hcz15_1
    try clear hcz15_2
    try clear hcz15_3
    try clear hcz15_4
    try clear hcz20_0
    try clear hcz20_1
    try clear hcz20_2
    try clear hcz20_3
    try clear hcz20_4
    try clear hcz22_0
    try clear hcz22_1
    try clear hcz22_2
    try clear hcz22_3
    try clear hcz22_4
    try clear hcz23_0
    try clear hcz23_1
    try clear hcz23_2
    try clear hcz23_3
    try clear hcz23_4
    try clear hfz15_0
    try clear hfz15_1
    try clear hfz15_2
    try clear hfz15_3
    try clear hfz15_4
    try clear hfz20_0
    try clear hfz20_1
    try clear hfz20_2
    try clear hfz20_3
    try clear hfz20_4
    try clear hfz22_0
    try clear hfz22_1
    try clear hfz22_2
    try clear hfz22_3
    try clear hfz22_4
    try clear hfz23_0
    try clear hfz23_1
    try clear hfz23_2
    try clear hfz23_3
    try clear hfz23_4
    try clear p2
    obtain ⟨kq,x49_11,rfl,HA,HJ11,HO_92,HO_90,BK86,HB⟩:=hcut
    cases kq with
    | zero=>exact absurd HA.out (by simp [tollbarlaw08_HttpBack.j1])
    | succ kj11 =>
     have H:=HA.out
     clear HA
     simp only [tollbarlaw08_HttpBack.j1] at H
     by_cases c24:x49_11=true
     ·subst c24
      rw [if_pos rfl] at H
      obtain rfl:=Option.some.inj H
      go_wp2
      go_ret
      exact ⟨zb3,zb39⟩
     replace c24:=Bool.eq_false_iff.mpr c24
     subst c24
     rw [if_neg (show ¬ (false=true) by decide)] at H
     obtain ⟨y662,hy662⟩ : ∃ y_:List ByteArray,y_=(([(⟨#[99,111,110,116,101,110,116,45,108,101,110,103,116,104]⟩:ByteArray),(⟨#[116,114,97,110,115,102,101,114,45,101,110,99,111,100,105,110,103]⟩:ByteArray)]:List ByteArray)):=⟨_,rfl⟩
     replace H:((tollbarref04_Without.f kj11 t95 y662).bind fun t97=>(if a3=true then (if t97.length < 4398046511104 then ((chunk_Encode.f kj11 t91 a2).bind fun t671=>(tollbarlaw08_HttpBack.j2 kj11 l1 t91 t89 t93 t94 t95 t91 t89 t93 t94 (t97 ++ [(⟨(⟨#[84,114,97,110,115,102,101,114,45,69,110,99,111,100,105,110,103]⟩:ByteArray),(⟨#[99,104,117,110,107,101,100]⟩:ByteArray)⟩:S36)]) t671)) else (none)) else ((tollbarref01_Decimal.f kj11 (t91.length:Int)).bind fun t674=>(if t97.length < 4398046511104 then (tollbarlaw08_HttpBack.j2 kj11 l1 t91 t89 t93 t94 t95 t91 t89 t93 t94 (t97 ++ [(⟨(⟨#[67,111,110,116,101,110,116,45,76,101,110,103,116,104]⟩:ByteArray),t674⟩:S36)]) t91) else (none)))))=some r:=by first|(rw [hy662];with_reducible exact H)|(have H2_:=(Option.bind_some _ _).symm.trans H;rw [hy662];with_reducible exact H2_)|(have H2_:=(Option.bind_some _ _).symm.trans H;with_reducible exact H2_)|with_reducible exact H|(rw [hy662];exact H)|exact H
     have Ny662:=Aside0.mk hy662
     clear hy662
     replace H:=Option.bind_eq_some_iff.mp H
     obtain ⟨t97,A250,H⟩:=H
     try dsimp only at H
     have A25:=Aside0.mk A250
     clear A250
     have HC26:=Aside0.mk H
     clear H
     obtain ⟨hcz27_0,hcz27_1,hcz27_2,hcz27_3,hcz27_4,hfz27_0,hfz27_1,hfz27_2,hfz27_3,hfz27_4⟩:=zq5 BK86.out
     go_upto_if 58 with (first|((with_reducible refine gate_dst (N:=12) rfl ?_);(try (refine gate_guard zb49 ?_;dsimp only));refine box_event ?hg (N:=12) ?hd (cs:=#[.string (⟨#[]⟩:ByteArray),.string (⟨#[]⟩:ByteArray),.int .i64 0,.slice none 0 0,.slice none 0 0]) (t:=26) ?hr ?_;(case hd=>rfl);(case hg=>rfl);(case hr=>first|(go_simp;done)|(go_simp;rfl));intro gb85 hg w28 hbox hb;have n0_:=Aside0.mk (Kd.R_below zb19 hb);have n1_:=Aside0.mk (Kd.R_below zb12 hb);have n2_:=Aside0.mk (blk_below (g:=gb86) (o:=.cells #[.string t89,.string t93,.int .i64 t94,.slice Ao16 t95.length co16,.slice Ao17 t91.length co17] 26 (0,0)) zb13 hb);have n3_:=Aside0.mk (below_step zb39 hb);have n4_:=Aside0.mk (hbox);have n5_:=zG hg zb39;have n6_:=zG hg zb39;have n7_:=Aside0.mk ((by rw [hg];exact Nat.ne_of_lt (blk_lt (g:=gb86) (o:=.cells #[.string t89,.string t93,.int .i64 t94,.slice Ao16 t95.length co16,.slice Ao17 t91.length co17] 26 (0,0)) zb13):gb86 ≠ gb85));have n8_:=Aside0.mk ((by rw [hg];exact Nat.ne_of_gt (blk_lt (g:=gb86) (o:=.cells #[.string t89,.string t93,.int .i64 t94,.slice Ao16 t95.length co16,.slice Ao17 t91.length co17] 26 (0,0)) zb13):gb85 ≠ gb86));clear HO_92;clear HO_90;clear BK86;clear HB;have HO_92:=n0_;have HO_90:=n1_;have BK86:=n2_;have HB:=n3_;have BK85:=n4_;have GW85:=n5_;have GE85:=n6_;have NB86_661:=n7_;have NB85_660:=n8_;clear n0_ n1_ n2_ n3_ n4_ n5_ n6_ n7_ n8_;clear hb hbox hg;have hnb29:=NB85_660.out;have hnc29:=NB86_661.out;have hcz30_0:w28.cell? ⟨gb85,0,none⟩=some (.string (⟨#[]⟩:ByteArray)):=(blk_cell BK85.out 0).trans rfl;have hcz30_1:w28.cell? ⟨gb85,1,none⟩=some (.string (⟨#[]⟩:ByteArray)):=(blk_cell BK85.out 1).trans rfl;have hcz30_2:w28.cell? ⟨gb85,2,none⟩=some (.int .i64 0):=(blk_cell BK85.out 2).trans rfl;have hcz30_3:w28.cell? ⟨gb85,3,none⟩=some (.slice none 0 0):=(blk_cell BK85.out 3).trans rfl;have hcz30_4:w28.cell? ⟨gb85,4,none⟩=some (.slice none 0 0):=(blk_cell BK85.out 4).trans rfl;have hfz30_0:=blk_frozen BK85.out 0;have hfz30_1:=blk_frozen BK85.out 1;have hfz30_2:=blk_frozen BK85.out 2;have hfz30_3:=blk_frozen BK85.out 3;have hfz30_4:=blk_frozen BK85.out 4;have hcz31_0:w28.cell? ⟨gb86,0,none⟩=some (.string t89):=(blk_cell BK86.out 0).trans rfl;have hcz31_1:w28.cell? ⟨gb86,1,none⟩=some (.string t93):=(blk_cell BK86.out 1).trans rfl;have hcz31_2:w28.cell? ⟨gb86,2,none⟩=some (.int .i64 t94):=(blk_cell BK86.out 2).trans rfl;have hcz31_3:w28.cell? ⟨gb86,3,none⟩=some (.slice Ao16 t95.length co16):=(blk_cell BK86.out 3).trans rfl;have hcz31_4:w28.cell? ⟨gb86,4,none⟩=some (.slice Ao17 t91.length co17):=(blk_cell BK86.out 4).trans rfl;have hfz31_0:=blk_frozen BK86.out 0;have hfz31_1:=blk_frozen BK86.out 1;have hfz31_2:=blk_frozen BK86.out 2;have hfz31_3:=blk_frozen BK86.out 3;have hfz31_4:=blk_frozen BK86.out 4)|((with_reducible refine gate_dst (N:=53) rfl ?_);(try (refine gate_guard zb49 ?_;dsimp only));refine Kd.R_lit Kd.string _ 9 ?hg (N:=53) ?hd (xs:=([(⟨#[99,111,110,116,101,110,116,45,108,101,110,103,116,104]⟩:ByteArray),(⟨#[116,114,97,110,115,102,101,114,45,101,110,99,111,100,105,110,103]⟩:ByteArray)]:List ByteArray)) (inner:=[.string (⟨#[99,111,110,116,101,110,116,45,108,101,110,103,116,104]⟩:ByteArray),.string (⟨#[116,114,97,110,115,102,101,114,45,101,110,99,111,100,105,110,103]⟩:ByteArray)]) (ok:=fun _=>True) (okp:=fun _=>True) ?hr ?hp (fun _ hk=>hk) trivial (Below.refl _ _) (Nat.le_refl _) zb42 ?_;(case hd=>rfl);(case hg=>rfl);(case hr=>first|(go_simp;done)|(go_simp;rfl));(case hp=>exact (Reps.one (show Kd.M Kd.string _ _ _ (⟨#[99,111,110,116,101,110,116,45,108,101,110,103,116,104]⟩:ByteArray) [.string (⟨#[99,111,110,116,101,110,116,45,108,101,110,103,116,104]⟩:ByteArray)] from rfl) (Reps.one (show Kd.M Kd.string _ _ _ (⟨#[116,114,97,110,115,102,101,114,45,101,110,99,111,100,105,110,103]⟩:ByteArray) [.string (⟨#[116,114,97,110,115,102,101,114,45,101,110,99,111,100,105,110,103]⟩:ByteArray)] from rfl) (Reps.none _ _))));intro v663 w32 ho33 hb hg_ hnew_;clear hg_ hnew_;(first|rw [← Ny662.out] at ho33|(simp only [Int.reduceToNat] at ho33;rw [← Ny662.out] at ho33));have n0_:=Aside0.mk (Kd.R_below (by (with_reducible repeat (first|apply Kd.R_alloc|apply Kd.R_drewN|apply Kd.R_drew));exact (Kd.R_mono (Kd.R_far (p:=⟨gb85,4,none⟩) (Kd.R_far (p:=⟨gb85,3,none⟩) (Kd.R_far (p:=⟨gb85,2,none⟩) (Kd.R_far (p:=⟨gb85,1,none⟩) (Kd.R_far (p:=⟨gb85,0,none⟩) (Kd.R_types HO_92.out BK85.out (by decide)) (fun _ hk=>hk.2) (.string t89)) (fun _ hk=>hk.2) (.string t93)) (fun _ hk=>hk.2) (.int .i64 t94)) (fun _ hk=>hk.2) (.slice Ao16 t95.length co16)) (fun _ hk=>hk.2) (.slice Ao17 t91.length co17)) (fun _ h_=>h_.1))) hb);have n1_:=Aside0.mk (Kd.R_below (by (with_reducible repeat (first|apply Kd.R_alloc|apply Kd.R_drewN|apply Kd.R_drew));exact (Kd.R_mono (Kd.R_far (p:=⟨gb85,4,none⟩) (Kd.R_far (p:=⟨gb85,3,none⟩) (Kd.R_far (p:=⟨gb85,2,none⟩) (Kd.R_far (p:=⟨gb85,1,none⟩) (Kd.R_far (p:=⟨gb85,0,none⟩) (Kd.R_types HO_90.out BK85.out (by decide)) (fun _ hk=>hk.2) (.string t89)) (fun _ hk=>hk.2) (.string t93)) (fun _ hk=>hk.2) (.int .i64 t94)) (fun _ hk=>hk.2) (.slice Ao16 t95.length co16)) (fun _ hk=>hk.2) (.slice Ao17 t91.length co17)) (fun _ h_=>h_.1))) hb);have n2_:=Aside0.mk (Kd.R_lower ho33 (below_size zb2));have n3_:=Aside0.mk (blk_below (g:=gb86) (o:=.cells #[.string t89,.string t93,.int .i64 t94,.slice Ao16 t95.length co16,.slice Ao17 t91.length co17] 26 (0,0)) (by (with_reducible repeat (first|refine blk_drewN ?_ _|refine blk_drew ?_|refine blk_alloc ?_ _));refine blk_far ?_ NB86_661.out _;(with_reducible repeat (first|refine blk_drewN ?_ _|refine blk_drew ?_|refine blk_alloc ?_ _));refine blk_far ?_ NB86_661.out _;(with_reducible repeat (first|refine blk_drewN ?_ _|refine blk_drew ?_|refine blk_alloc ?_ _));refine blk_far ?_ NB86_661.out _;(with_reducible repeat (first|refine blk_drewN ?_ _|refine blk_drew ?_|refine blk_alloc ?_ _));refine blk_far ?_ NB86_661.out _;(with_reducible repeat (first|refine blk_drewN ?_ _|refine blk_drew ?_|refine blk_alloc ?_ _));refine blk_far ?_ NB86_661.out _;(with_reducible repeat (first|refine blk_drewN ?_ _|refine blk_drew ?_|refine blk_alloc ?_ _));exact BK86.out) hb);have n4_:=Aside0.mk (blk_below (g:=gb85) (o:=.cells #[.string t89,.string t93,.int .i64 t94,.slice Ao16 t95.length co16,.slice Ao17 t91.length co17] 26 (0,0)) (by (with_reducible repeat (first|refine blk_drewN ?_ _|refine blk_drew ?_|refine blk_alloc ?_ _));refine blk_put (cs:=#[.string t89,.string t93,.int .i64 t94,.slice Ao16 t95.length co16,.slice none 0 0]) ?_ 4 _ rfl;(with_reducible repeat (first|refine blk_drewN ?_ _|refine blk_drew ?_|refine blk_alloc ?_ _));refine blk_put (cs:=#[.string t89,.string t93,.int .i64 t94,.slice none 0 0,.slice none 0 0]) ?_ 3 _ rfl;(with_reducible repeat (first|refine blk_drewN ?_ _|refine blk_drew ?_|refine blk_alloc ?_ _));refine blk_put (cs:=#[.string t89,.string t93,.int .i64 0,.slice none 0 0,.slice none 0 0]) ?_ 2 _ rfl;(with_reducible repeat (first|refine blk_drewN ?_ _|refine blk_drew ?_|refine blk_alloc ?_ _));refine blk_put (cs:=#[.string t89,.string (⟨#[]⟩:ByteArray),.int .i64 0,.slice none 0 0,.slice none 0 0]) ?_ 1 _ rfl;(with_reducible repeat (first|refine blk_drewN ?_ _|refine blk_drew ?_|refine blk_alloc ?_ _));refine blk_put (cs:=#[.string (⟨#[]⟩:ByteArray),.string (⟨#[]⟩:ByteArray),.int .i64 0,.slice none 0 0,.slice none 0 0]) ?_ 0 _ rfl;(with_reducible repeat (first|refine blk_drewN ?_ _|refine blk_drew ?_|refine blk_alloc ?_ _));exact BK85.out) hb);have n5_:=Aside0.mk (below_step zb2 hb);clear HO_92;clear HO_90;clear BK86;clear BK85;clear HB;have HO_92:=n0_;have HO_90:=n1_;have HO664:=n2_;have BK86:=n3_;have BK85:=n4_;have HB:=n5_;clear n0_ n1_ n2_ n3_ n4_ n5_;clear hb ho33;obtain ⟨Ao34,co34,eo34⟩:=Kd.R_slice HO664.out;subst eo34)|((with_reducible refine gate_callee (f:=21) rfl ?_);refine goesL_ (some 54) rfl rfl Tryz.func21 zb8 rfl #[.slice Ao16 t95.length co16,.slice Ao34 y662.length co34] rfl zb1 ?_;(with_reducible refine (tollbarref04_Without.calls kj11 _ _ t95 _ _ y662 t97 _ ?side1 ?side2 ?side3 ?side4 A25.out).mono ?_);(case side1=>repeat (first|exact (Kd.R_reads' HO_92.out).2.2|(with_reducible refine Kd.C_alloc ?_ _)|(with_reducible refine Kd.C_drewN ?_ _)|(with_reducible refine Kd.C_drew ?_)));(case side2=>exact (Kd.R_reads' HO_92.out).2.1);(case side3=>repeat (first|exact (Kd.R_reads' HO664.out).2.2|(with_reducible refine Kd.C_alloc ?_ _)|(with_reducible refine Kd.C_drewN ?_ _)|(with_reducible refine Kd.C_drew ?_)));(case side4=>exact (Kd.R_reads' HO664.out).2.1);rintro e w35 ⟨v666,rfl,ho0,hb⟩;refine ⟨_,rfl,?_⟩;have n0_:=Aside0.mk (Kd.R_elder' zb19 (Kd.R_base ho0) hb);have n1_:=Aside0.mk (Kd.R_below zb12 hb);have n2_:=Aside0.mk (Kd.R_below zb87 hb);have n3_:=Aside0.mk (Kd.R_lower (Kd.R_new' ho0 (Kd.R_lt zb19)) (below_size zb2));have n4_:=Aside0.mk (blk_below (g:=gb86) (o:=.cells #[.string t89,.string t93,.int .i64 t94,.slice Ao16 t95.length co16,.slice Ao17 t91.length co17] 26 (0,0)) zb13 hb);have n5_:=Aside0.mk (blk_below (g:=gb85) (o:=.cells #[.string t89,.string t93,.int .i64 t94,.slice Ao16 t95.length co16,.slice Ao17 t91.length co17] 26 (0,0)) zb16 hb);have n6_:=Aside0.mk (below_step zb2 hb);clear HO_92;clear HO_90;clear HO664;clear BK86;clear BK85;clear HB;have HO_92:=n0_;have HO_90:=n1_;have HO664:=n2_;have HO667:=n3_;have BK86:=n4_;have BK85:=n5_;have HB:=n6_;clear n0_ n1_ n2_ n3_ n4_ n5_ n6_;(try clear hb);(try clear hb2);(try clear hk);(try clear hi);(try clear ho0);obtain ⟨Ao36,co36,eo36⟩:=Kd.R_slice HO667.out;subst eo36;have hcz37_0:w35.cell? ⟨gb85,0,none⟩=some (.string t89):=(blk_cell BK85.out 0).trans rfl;have hcz37_1:w35.cell? ⟨gb85,1,none⟩=some (.string t93):=(blk_cell BK85.out 1).trans rfl;have hcz37_2:w35.cell? ⟨gb85,2,none⟩=some (.int .i64 t94):=(blk_cell BK85.out 2).trans rfl;have hcz37_3:w35.cell? ⟨gb85,3,none⟩=some (.slice Ao16 t95.length co16):=(blk_cell BK85.out 3).trans rfl;have hcz37_4:w35.cell? ⟨gb85,4,none⟩=some (.slice Ao17 t91.length co17):=(blk_cell BK85.out 4).trans rfl;have hfz37_0:=blk_frozen BK85.out 0;have hfz37_1:=blk_frozen BK85.out 1;have hfz37_2:=blk_frozen BK85.out 2;have hfz37_3:=blk_frozen BK85.out 3;have hfz37_4:=blk_frozen BK85.out 4;have hcz38_0:w35.cell? ⟨gb86,0,none⟩=some (.string t89):=(blk_cell BK86.out 0).trans rfl;have hcz38_1:w35.cell? ⟨gb86,1,none⟩=some (.string t93):=(blk_cell BK86.out 1).trans rfl;have hcz38_2:w35.cell? ⟨gb86,2,none⟩=some (.int .i64 t94):=(blk_cell BK86.out 2).trans rfl;have hcz38_3:w35.cell? ⟨gb86,3,none⟩=some (.slice Ao16 t95.length co16):=(blk_cell BK86.out 3).trans rfl;have hcz38_4:w35.cell? ⟨gb86,4,none⟩=some (.slice Ao17 t91.length co17):=(blk_cell BK86.out 4).trans rfl;have hfz38_0:=blk_frozen BK86.out 0;have hfz38_1:=blk_frozen BK86.out 1;have hfz38_2:=blk_frozen BK86.out 2;have hfz38_3:=blk_frozen BK86.out 3;have hfz38_4:=blk_frozen BK86.out 4))
     (try simp only [Act.put,zqA,zqB,zqC])
     go_cut [] (fun wc => ∃ (kq:Nat) (x88_25:List (S36)) (x87_25:List Int) (u88:Value) (u87:Value),Aside0 (tollbarlaw08_HttpBack.j2 kq l1 t91 t89 t93 t94 t95 t91 t89 t93 t94 x88_25 x87_25=some r)∧Aside0 (kq ≤ kj11)∧Aside0 (Kd.R (Kd.int .u8) 5 wc w.heap.size (fun _=>True) (.slice Ao17 t91.length co17) t91)∧Aside0 (Kd.R k36 36 wc w.heap.size (fun k_=>some k_ ≠ (u88:Value).ownBlock) (.slice Ao16 t95.length co16) t95)∧Aside0 (Kd.R (Kd.int .u8) 5 wc w.heap.size (fun _=>True) (.slice Ao17 t91.length co17) t91)∧Aside0 (Kd.R k36 36 wc w.heap.size (fun k_=>some k_ ≠ ((.slice Ao16 t95.length co16):Value).ownBlock) u88 x88_25)∧Aside0 (Kd.R (Kd.int .u8) 5 wc w.heap.size (fun _=>True) u87 x87_25)∧Aside0 (wc.heap[gb86]? = some (.cells #[.string t89,.string t93,.int .i64 t94,(.slice Ao16 t95.length co16),(.slice Ao17 t91.length co17)] 26 (0,0)))∧Aside0 (wc.heap[gb85]? = some (.cells #[.string t89,.string t93,.int .i64 t94,u88,u87] 26 (0,0)))∧Aside0 (Below w.heap.size w wc))
     case first =>
      have H:=HC26.out
      clear HC26
      by_cases c39:a3=true
      ·subst c39
       rw [if_pos rfl] at H
       by_cases c40:t97.length < 4398046511104;rotate_left
       ·rw [if_neg c40] at H
        exact absurd H zb42
       rw [if_pos c40] at H
       have LMc40:=Aside0.mk c40
       clear c40
       obtain ⟨y668,hy668⟩ : ∃ y_:List (S36),y_=(t97 ++ [(⟨(⟨#[84,114,97,110,115,102,101,114,45,69,110,99,111,100,105,110,103]⟩:ByteArray),(⟨#[99,104,117,110,107,101,100]⟩:ByteArray)⟩:S36)]):=⟨_,rfl⟩
       replace H:((chunk_Encode.f kj11 t91 a2).bind fun t671=>(tollbarlaw08_HttpBack.j2 kj11 l1 t91 t89 t93 t94 t95 t91 t89 t93 t94 y668 t671))=some r:=by first|(rw [hy668];with_reducible exact H)|(have H2_:=(Option.bind_some _ _).symm.trans H;rw [hy668];with_reducible exact H2_)|(have H2_:=(Option.bind_some _ _).symm.trans H;with_reducible exact H2_)|with_reducible exact H|(rw [hy668];exact H)|exact H
       have Ny668:=Aside0.mk hy668
       clear hy668
       replace H:=Option.bind_eq_some_iff.mp H
       obtain ⟨t671,A410,H⟩:=H
       try dsimp only at H
       have A41:=Aside0.mk A410
       clear A410
       have H' := Aside0.mk H
       clear H
       have hnb42:=NB85_660.out
       have hnc42:=NB86_661.out
       obtain ⟨hcz43_0,hcz43_1,hcz43_2,hcz43_3,hcz43_4,hfz43_0,hfz43_1,hfz43_2,hfz43_3,hfz43_4⟩:=zq5 BK85.out
       go_wp2_with (first|((with_reducible refine gate_builtin (b:=.append) (xs:=#[.tmp 60,.tmp 62]) rfl ?_);(try (refine gate_guard zb49 ?_;dsimp only));at_builtin;refine Kd.R_append k36 (w0:=w) w.heap.size rfl (.tmp 60) (.tmp 62) 24 36 (.agg #[(.string ⟨#[]⟩),(.string ⟨#[]⟩)]) 32 rfl Tryz.underlying24 info36 rfl zb52 zb25 (.slice Ao36 t97.length co36) t97 (⟨(⟨#[84,114,97,110,115,102,101,114,45,69,110,99,111,100,105,110,103]⟩:ByteArray),(⟨#[99,104,117,110,107,101,100]⟩:ByteArray)⟩:S36) [.string (⟨#[84,114,97,110,115,102,101,114,45,69,110,99,111,100,105,110,103]⟩:ByteArray),.string (⟨#[99,104,117,110,107,101,100]⟩:ByteArray)] (fun k_=>some k_ ≠ (.slice Ao16 t95.length co16:Value).ownBlock) (fun _=>False) rfl (by first|(go_simp;done)|(go_simp;rfl)) ?aP (fun _ hk=>hk.elim) ?aF ?aO ?aB ?aS ?aL ?_;(case aP=>exact k36_mkM _ _ _ (⟨(⟨#[84,114,97,110,115,102,101,114,45,69,110,99,111,100,105,110,103]⟩:ByteArray),(⟨#[99,104,117,110,107,101,100]⟩:ByteArray)⟩:S36));(case aB=>exact zb43);(case aF=>exact (fun k_ hk=>Kd.fresh' (Kd.R_lt (by (with_reducible repeat (first|apply Kd.R_alloc|apply Kd.R_drewN|apply Kd.R_drew));exact (Kd.R_mono (Kd.R_far (p:=⟨gb85,3,none⟩) (Kd.R_types HO_92.out BK85.out (by decide)) (fun _ hk=>hk.2) (.slice Ao36 t97.length co36)) (fun _ h_=>h_.1)))) k_ hk));(case aO=>exact (by (with_reducible repeat (first|apply Kd.R_alloc|apply Kd.R_drewN|apply Kd.R_drew));exact Kd.R_mono (Kd.R_far (p:=⟨gb85,3,none⟩) (Kd.R_types HO667.out BK85.out (by decide)) (fun _ hk=>hk.2) (.slice Ao36 t97.length co36)) (fun _ hk=>hk.1.2)));(case aS=>exact zb41);(case aL=>have:=LMc40.out;omega);intro v669 w44 ho hb hg hat;rw [← Ny668.out] at ho;replace HO_92:=Aside0.mk (Kd.R_after (ok:=(fun _=>True)) (by (with_reducible repeat (first|apply Kd.R_alloc|apply Kd.R_drewN|apply Kd.R_drew));exact Kd.R_mono (Kd.R_far (p:=⟨gb85,3,none⟩) (Kd.R_types HO_92.out BK85.out (by decide)) (fun _ hk=>hk.2) (.slice Ao36 t97.length co36)) (fun _ hk=>⟨trivial,hk.1.2⟩)) hg hat);replace HO_90:=Aside0.mk (Kd.R_over' (by (with_reducible repeat (first|apply Kd.R_alloc|apply Kd.R_drewN|apply Kd.R_drew));exact (Kd.R_mono (Kd.R_far (p:=⟨gb85,3,none⟩) (Kd.R_types HO_90.out BK85.out (by decide)) (fun _ hk=>hk.2) (.slice Ao36 t97.length co36)) (fun _ h_=>h_.1))) (Kd.R_typed zb81) zb52 hg);replace BK86:=Aside0.mk (blk_grown (g:=gb86) (o:=.cells #[.string t89,.string t93,.int .i64 t94,.slice Ao16 t95.length co16,.slice Ao17 t91.length co17] 26 (0,0)) zb51 hg (Kd.R_ne HO667.out BK86.out zb52));replace HO664:=Aside0.mk (Kd.R_over' (by (with_reducible repeat (first|apply Kd.R_alloc|apply Kd.R_drewN|apply Kd.R_drew));exact (Kd.R_mono (Kd.R_far (p:=⟨gb85,3,none⟩) (Kd.R_types HO664.out BK85.out (by decide)) (fun _ hk=>hk.2) (.slice Ao36 t97.length co36)) (fun _ h_=>h_.1))) (Kd.R_typed zb81) zb52 hg);replace BK85:=Aside0.mk (blk_grown (g:=gb85) (o:=.cells #[.string t89,.string t93,.int .i64 t94,.slice Ao36 t97.length co36,.slice Ao17 t91.length co17] 26 (0,0)) zb68 hg (Kd.R_ne HO667.out BK85.out zb52));replace HB:=Aside0.mk (hb);have HO670:=Aside0.mk (ho);clear ho hb hg hat;obtain ⟨Ao45,co45,eo45⟩:=Kd.R_slice HO670.out;subst eo45;obtain ⟨hcz46_0,hcz46_1,hcz46_2,hcz46_3,hcz46_4,hfz46_0,hfz46_1,hfz46_2,hfz46_3,hfz46_4⟩:=zq5 BK85.out)|((with_reducible refine gate_store (t:=24) (p:=64) rfl ?_);refine store_event (t:=24) (p:=64) (v:=?vo_w47) (w1:=(w44.setCell ⟨gb85,3,none⟩ (.slice Ao45 y668.length co45))) ?hg ?ho ?hn ?hr ?_;(case ho=>rfl);(case hg=>rfl);(case hn=>rfl);(case hr=>first|(go_simp;done)|(go_simp;rfl));intro w47 hw;have n0_:Aside0 (Kd.R k36 36 w47 w.heap.size (fun k_=>some k_ ≠ (.slice Ao45 y668.length co45:Value).ownBlock) (.slice Ao16 t95.length co16) t95):=⟨(by rw [hw];exact (by (with_reducible repeat (first|apply Kd.R_alloc|apply Kd.R_drewN|apply Kd.R_drew));exact Kd.R_mono (Kd.R_far (p:=⟨gb85,3,none⟩) (Kd.R_types HO_92.out BK85.out (by decide)) (fun _ hk=>hk.2) (.slice Ao45 y668.length co45)) (fun _ hk=>hk.1.2)))⟩;have n1_:Aside0 (Kd.R (Kd.int .u8) 5 w47 w.heap.size (fun _=>True) (.slice Ao17 t91.length co17) t91):=⟨(by rw [hw];exact (by (with_reducible repeat (first|apply Kd.R_alloc|apply Kd.R_drewN|apply Kd.R_drew));exact Kd.R_mono (Kd.R_far (p:=⟨gb85,3,none⟩) (Kd.R_types HO_90.out BK85.out (by decide)) (fun _ hk=>hk.2) (.slice Ao45 y668.length co45)) (fun _ hk=>trivial)))⟩;have n2_:Aside0 (Kd.R Kd.string 9 w47 w.heap.size (fun _=>True) (.slice Ao34 y662.length co34) y662):=⟨(by rw [hw];exact (by (with_reducible repeat (first|apply Kd.R_alloc|apply Kd.R_drewN|apply Kd.R_drew));exact Kd.R_mono (Kd.R_far (p:=⟨gb85,3,none⟩) (Kd.R_types HO664.out BK85.out (by decide)) (fun _ hk=>hk.2) (.slice Ao45 y668.length co45)) (fun _ hk=>trivial)))⟩;have n3_:Aside0 (Kd.R k36 36 w47 w.heap.size (fun k_=>some k_ ≠ (.slice Ao16 t95.length co16:Value).ownBlock) (.slice Ao45 y668.length co45) y668):=⟨(by rw [hw];exact (by (with_reducible repeat (first|apply Kd.R_alloc|apply Kd.R_drewN|apply Kd.R_drew));exact Kd.R_mono (Kd.R_far (p:=⟨gb85,3,none⟩) (Kd.R_types HO670.out BK85.out (by decide)) (fun _ hk=>hk.2) (.slice Ao45 y668.length co45)) (fun _ hk=>hk.1)))⟩;have n4_:Aside0 (w47.heap[gb86]? = some (.cells #[.string t89,.string t93,.int .i64 t94,.slice Ao16 t95.length co16,.slice Ao17 t91.length co17] 26 (0,0))):=⟨(by rw [hw];exact (by (with_reducible repeat (first|refine blk_drewN ?_ _|refine blk_drew ?_|refine blk_alloc ?_ _));refine blk_far ?_ NB86_661.out _;(with_reducible repeat (first|refine blk_drewN ?_ _|refine blk_drew ?_|refine blk_alloc ?_ _));exact BK86.out))⟩;have n5_:Aside0 (w47.heap[gb85]? = some (.cells #[.string t89,.string t93,.int .i64 t94,.slice Ao45 y668.length co45,.slice Ao17 t91.length co17] 26 (0,0))):=⟨(by rw [hw];exact (by (with_reducible repeat (first|refine blk_drewN ?_ _|refine blk_drew ?_|refine blk_alloc ?_ _));refine blk_put (cs:=#[.string t89,.string t93,.int .i64 t94,.slice Ao36 t97.length co36,.slice Ao17 t91.length co17]) ?_ 3 _ rfl;(with_reducible repeat (first|refine blk_drewN ?_ _|refine blk_drew ?_|refine blk_alloc ?_ _));exact BK85.out))⟩;have n6_:Aside0 (Below w.heap.size w w47):=⟨(by rw [hw];exact (by repeat (first|(with_reducible first|exact HB.out|apply below_alloc|apply pw_below_drewN|apply below_drew1|refine below_set ?_ GE86.out|refine below_set ?_ GE85.out)|exact HB.out)))⟩;clear hw;clear HO_92;clear HO_90;clear HO664;clear HO670;clear BK86;clear BK85;clear HB;have HO_92:=n0_;have HO_90:=n1_;have HO664:=n2_;have HO670:=n3_;have BK86:=n4_;have BK85:=n5_;have HB:=n6_;clear n0_ n1_ n2_ n3_ n4_ n5_ n6_;obtain ⟨hcz48_0,hcz48_1,hcz48_2,hcz48_3,hcz48_4,hfz48_0,hfz48_1,hfz48_2,hfz48_3,hfz48_4⟩:=zq5 BK86.out)|((with_reducible refine gate_callee (f:=22) rfl ?_);refine goesL_ (some 68) rfl rfl Tryz.func22 zb8 rfl #[.slice Ao17 t91.length co17,.int .i64 a2] rfl zb1 ?_;(with_reducible refine (chunk_Encode.calls kj11 (fun k_=>some k_=(.slice Ao17 t91.length co17:Value).ownBlock) _ _ t91 a2 t671 _ ?side1 A41.out ?hT).mono ?_);(case hT=>exact HTB.out.below zb37);(case side1=>exact Kd.R_V (Kd.R_tight rfl (Kd.R_types (Kd.R_types (Kd.R_apart' (Kd.R_apart' (Kd.R_apart' (HO_90.out) (Kd.R_typed HO_92.out) zb52) (Kd.R_typed HO664.out) zb52) (Kd.R_typed HO670.out) zb52) BK86.out zb52) BK85.out zb52)));rintro e w49 ⟨v672,rfl,ho0,hb⟩;(try clear A41);refine ⟨_,rfl,?_⟩;replace HO_92:=Aside0.mk (Kd.R_below zb19 hb);replace HO664:=Aside0.mk (Kd.R_below zb87 hb);replace HO670:=Aside0.mk (Kd.R_below (by (with_reducible repeat (first|apply Kd.R_alloc|apply Kd.R_drewN|apply Kd.R_drew));exact HO670.out) hb);have HO673:=Aside0.mk (Kd.R_lower (Kd.R_new' (Kd.R_mono (ok' := fun k_=>True) ho0 (fun _ hk_=>trivial)) (Kd.R_lt zb12)) (below_size zb2));replace HO_90:=Aside0.mk (Kd.R_elder' zb12 (Kd.R_base ho0) hb);replace BK86:=Aside0.mk (blk_below (g:=gb86) (o:=.cells #[.string t89,.string t93,.int .i64 t94,.slice Ao16 t95.length co16,.slice Ao17 t91.length co17] 26 (0,0)) zb13 hb);replace BK85:=Aside0.mk (blk_below (g:=gb85) (o:=.cells #[.string t89,.string t93,.int .i64 t94,.slice Ao45 y668.length co45,.slice Ao17 t91.length co17] 26 (0,0)) zb16 hb);replace HB:=Aside0.mk (below_step zb2 hb);try clear hb ho0;obtain ⟨Ao50,co50,eo50⟩:=Kd.R_slice HO673.out;subst eo50;obtain ⟨hcz51_0,hcz51_1,hcz51_2,hcz51_3,hcz51_4,hfz51_0,hfz51_1,hfz51_2,hfz51_3,hfz51_4⟩:=zq5 BK85.out))
       go_meet
       case rel=>exact ⟨_,(y668),(t671),(.slice Ao45 y668.length co45),(.slice Ao50 t671.length co50),H',⟨by have:=HJ6.out;have:=HJ11.out;first|omega|exact Nat.le_refl _⟩,⟨zb77⟩,⟨by (with_reducible repeat (first|apply Kd.R_alloc|apply Kd.R_drewN|apply Kd.R_drew));exact Kd.R_mono (Kd.R_far (p:=⟨gb85,4,none⟩) (Kd.R_types HO_92.out BK85.out (by decide)) (fun _ hk=>hk.2) (.slice Ao50 t671.length co50)) (fun _ hk=>(by first|exact hk.1|trivial))⟩,⟨zb77⟩,⟨by (with_reducible repeat (first|apply Kd.R_alloc|apply Kd.R_drewN|apply Kd.R_drew));exact Kd.R_mono (Kd.R_far (p:=⟨gb85,4,none⟩) (Kd.R_types HO670.out BK85.out (by decide)) (fun _ hk=>hk.2) (.slice Ao50 t671.length co50)) (fun _ hk=>(by first|exact hk.1|trivial))⟩,⟨by (with_reducible repeat (first|apply Kd.R_alloc|apply Kd.R_drewN|apply Kd.R_drew));exact Kd.R_mono (Kd.R_far (p:=⟨gb85,4,none⟩) (Kd.R_types HO673.out BK85.out (by decide)) (fun _ hk=>hk.2) (.slice Ao50 t671.length co50)) (fun _ hk=>(by first|exact ⟨hk.1.2,hk.1.2⟩|trivial))⟩,⟨zb51⟩,⟨by (with_reducible repeat (first|refine blk_drewN ?_ _|refine blk_drew ?_|refine blk_alloc ?_ _));refine blk_put (cs:=#[.string t89,.string t93,.int .i64 t94,.slice Ao45 y668.length co45,.slice Ao17 t91.length co17]) ?_ 4 _ rfl;(with_reducible repeat (first|refine blk_drewN ?_ _|refine blk_drew ?_|refine blk_alloc ?_ _));exact BK85.out⟩,⟨zb2⟩⟩
      replace c39:=Bool.eq_false_iff.mpr c39
      subst c39
      rw [if_neg (show ¬ (false=true) by decide)] at H
      replace H:=Option.bind_eq_some_iff.mp H
      obtain ⟨t674,A520,H⟩:=H
      try dsimp only at H
      have A52:=Aside0.mk A520
      clear A520
      by_cases c53:t97.length < 4398046511104;rotate_left
      ·rw [if_neg c53] at H
       exact absurd H zb42
      rw [if_pos c53] at H
      have LMc53:=Aside0.mk c53
      clear c53
      obtain ⟨y675,hy675⟩ : ∃ y_:List (S36),y_=(t97 ++ [(⟨(⟨#[67,111,110,116,101,110,116,45,76,101,110,103,116,104]⟩:ByteArray),t674⟩:S36)]):=⟨_,rfl⟩
      replace H:(tollbarlaw08_HttpBack.j2 kj11 l1 t91 t89 t93 t94 t95 t91 t89 t93 t94 y675 t91)=some r:=by first|(rw [hy675];with_reducible exact H)|(have H2_:=(Option.bind_some _ _).symm.trans H;rw [hy675];with_reducible exact H2_)|(have H2_:=(Option.bind_some _ _).symm.trans H;with_reducible exact H2_)|with_reducible exact H|(rw [hy675];exact H)|exact H
      have Ny675:=Aside0.mk hy675
      clear hy675
      have H' := Aside0.mk H
      clear H
      try go_wp2
      have n0_:Aside0 (Kd.R k36 36 (w35.setCell ⟨gb85,3,none⟩ (.slice Ao36 t97.length co36)) w.heap.size (fun k_=>some k_ ≠ (.slice Ao36 t97.length co36:Value).ownBlock) (.slice Ao16 t95.length co16) t95):=⟨by (with_reducible repeat (first|apply Kd.R_alloc|apply Kd.R_drewN|apply Kd.R_drew));exact Kd.R_mono (Kd.R_far (p:=⟨gb85,3,none⟩) (Kd.R_types HO_92.out BK85.out (by decide)) (fun _ hk=>hk.2) (.slice Ao36 t97.length co36)) (fun _ hk=>(by first|exact hk.1.2|trivial))⟩
      have n1_:Aside0 (Kd.R (Kd.int .u8) 5 (w35.setCell ⟨gb85,3,none⟩ (.slice Ao36 t97.length co36)) w.heap.size (fun _=>True) (.slice Ao17 t91.length co17) t91):=⟨by (with_reducible repeat (first|apply Kd.R_alloc|apply Kd.R_drewN|apply Kd.R_drew));exact Kd.R_mono (Kd.R_far (p:=⟨gb85,3,none⟩) (Kd.R_types HO_90.out BK85.out (by decide)) (fun _ hk=>hk.2) (.slice Ao36 t97.length co36)) (fun _ hk=>trivial)⟩
      have n2_:Aside0 (Kd.R Kd.string 9 (w35.setCell ⟨gb85,3,none⟩ (.slice Ao36 t97.length co36)) w.heap.size (fun _=>True) (.slice Ao34 y662.length co34) y662):=⟨by (with_reducible repeat (first|apply Kd.R_alloc|apply Kd.R_drewN|apply Kd.R_drew));exact Kd.R_mono (Kd.R_far (p:=⟨gb85,3,none⟩) (Kd.R_types HO664.out BK85.out (by decide)) (fun _ hk=>hk.2) (.slice Ao36 t97.length co36)) (fun _ hk=>trivial)⟩
      have n3_:Aside0 (Kd.R k36 36 (w35.setCell ⟨gb85,3,none⟩ (.slice Ao36 t97.length co36)) w.heap.size (fun k_=>some k_ ≠ (.slice Ao16 t95.length co16:Value).ownBlock) (.slice Ao36 t97.length co36) t97):=⟨by (with_reducible repeat (first|apply Kd.R_alloc|apply Kd.R_drewN|apply Kd.R_drew));exact Kd.R_mono (Kd.R_far (p:=⟨gb85,3,none⟩) (Kd.R_types HO667.out BK85.out (by decide)) (fun _ hk=>hk.2) (.slice Ao36 t97.length co36)) (fun _ hk=>(by first|exact hk.1.2|trivial))⟩
      have n4_:Aside0 ((w35.setCell ⟨gb85,3,none⟩ (.slice Ao36 t97.length co36)).heap[gb86]? = some (.cells #[.string t89,.string t93,.int .i64 t94,.slice Ao16 t95.length co16,.slice Ao17 t91.length co17] 26 (0,0))):=⟨zb51⟩
      have n5_:Aside0 ((w35.setCell ⟨gb85,3,none⟩ (.slice Ao36 t97.length co36)).heap[gb85]? = some (.cells #[.string t89,.string t93,.int .i64 t94,.slice Ao36 t97.length co36,.slice Ao17 t91.length co17] 26 (0,0))):=⟨zb68⟩
      have n6_:Aside0 (Below w.heap.size w (w35.setCell ⟨gb85,3,none⟩ (.slice Ao36 t97.length co36))):=⟨zb2⟩
      (try clear HO_92)
      (try clear HO_90)
      (try clear HO664)
      (try clear HO667)
      (try clear BK86)
      (try clear BK85)
      (try clear HB)
      generalize (w35.setCell ⟨gb85,3,none⟩ (.slice Ao36 t97.length co36))=w54 at n0_ n1_ n2_ n3_ n4_ n5_ n6_ ⊢
      have HO_92:=n0_
      have HO_90:=n1_
      have HO664:=n2_
      have HO667:=n3_
      have BK86:=n4_
      have BK85:=n5_
      have HB:=n6_
      clear n0_ n1_ n2_ n3_ n4_ n5_ n6_
      replace HO_92:=Aside0.mk (Kd.R_drew HO_92.out)
      replace HO_90:=Aside0.mk (Kd.R_drew HO_90.out)
      replace HO664:=Aside0.mk (Kd.R_drew HO664.out)
      replace HO667:=Aside0.mk (Kd.R_drew HO667.out)
      replace BK86:=Aside0.mk (blk_drew BK86.out)
      replace BK85:=Aside0.mk (blk_drew BK85.out)
      replace HB:=Aside0.mk (below_drew1 HB.out)
      refine start_ (n:=11) (S:=fun w' => w'.cell? ⟨gb85,0,none⟩=some (.string t89)∧w'.cell? ⟨gb85,1,none⟩=some (.string t93)∧w'.cell? ⟨gb85,2,none⟩=some (.int .i64 t94)∧w'.cell? ⟨gb85,3,none⟩=some (.slice Ao36 t97.length co36)∧w'.cell? ⟨gb85,4,none⟩=some (.slice Ao17 t91.length co17)∧w'.cell? ⟨gb86,0,none⟩=some (.string t89)∧w'.cell? ⟨gb86,1,none⟩=some (.string t93)∧w'.cell? ⟨gb86,2,none⟩=some (.int .i64 t94)∧w'.cell? ⟨gb86,3,none⟩=some (.slice Ao16 t95.length co16)∧w'.cell? ⟨gb86,4,none⟩=some (.slice Ao17 t91.length co17)) (ds:=[10]) (zl 11 0) zb8 rfl rfl ⟨(blk_cell BK85.out 0).trans rfl,(blk_cell BK85.out 1).trans rfl,(blk_cell BK85.out 2).trans rfl,(blk_cell BK85.out 3).trans rfl,(blk_cell BK85.out 4).trans rfl,(blk_cell BK86.out 0).trans rfl,(blk_cell BK86.out 1).trans rfl,(blk_cell BK86.out 2).trans rfl,(blk_cell BK86.out 3).trans rfl,(blk_cell BK86.out 4).trans rfl⟩ (fun hHeld=>?_);refine with_tabW tollbarlaw08_HttpBack.tab14 tollbarlaw08_HttpBack.bits14 (fun HT_ HW_=>?_)
      generalize w54.drew=w55 at HO_92 HO_90 HO664 HO667 BK86 BK85 HB hHeld ⊢
      refine zpu 0 (N:=some 70) (zl 11 1) HT_.out rfl rfl ?_
      refine zpu 2 (N:=some 72) (zl 11 5) HT_.out rfl rfl ?_
      refine take_ (i:=1) (N:=some 71) (v:=?_) (a' := ?_) (zl 11 7) rfl rfl (take_ofW HT_.out HW_.out zb8) (fun _ _ _ h=>h) (Or.inl ⟨zb49,?_⟩) hHeld ?_ ?_
      rotate_left
      ·rintro w' ⟨s0,s1,s2,s3,s4,s5,s6,s7,s8,s9⟩;go_simp;with_reducible rfl
      rotate_left
      ·simp only [Act.put,zqA,zqB,zqC,i64_w,i32_w];rfl
      refine take_ (i:=3) (N:=some 73) (v:=?_) (a' := ?_) (zl 11 15) rfl rfl (take_ofW HT_.out HW_.out zb8) (fun _ _ _ h=>h) (Or.inl ⟨zb49,?_⟩) hHeld ?_ ?_
      rotate_left
      ·rintro w' ⟨s0,s1,s2,s3,s4,s5,s6,s7,s8,s9⟩;go_simp;with_reducible rfl
      rotate_left
      ·simp only [Act.put,zqA,zqB,zqC,i64_w,i32_w];rfl
      refine zpu 4 (N:=some 74) (zl 11 31) HT_.out rfl rfl ?_
      refine one_ (i:=5) (N:=some 75) (zl 11 63) rfl rfl (one_of HT_.out zb8) zb52 (fun K hK=>?_)
      refine goes_ Tryz.func23 zb8 rfl #[.int .i64 (t91.length:Int)] zb49 rfl rfl zb1 ?_
      with_reducible refine (tollbarref01_Decimal.calls kj11 (t91.length:Int) t674 _ A52.out).mono ?_
      rintro e w56 ⟨rfl,hb⟩
      refine ⟨_,rfl,?_⟩
      replace HO_92:=Aside0.mk (Kd.R_below zb19 hb)
      replace HO_90:=Aside0.mk (Kd.R_below zb12 hb)
      replace HO664:=Aside0.mk (Kd.R_below zb87 hb)
      replace HO667:=Aside0.mk (Kd.R_below zb88 hb)
      replace BK86:=Aside0.mk (blk_below (g:=gb86) (o:=.cells #[.string t89,.string t93,.int .i64 t94,.slice Ao16 t95.length co16,.slice Ao17 t91.length co17] 26 (0,0)) zb13 hb)
      replace BK85:=Aside0.mk (blk_below (g:=gb85) (o:=.cells #[.string t89,.string t93,.int .i64 t94,.slice Ao36 t97.length co36,.slice Ao17 t91.length co17] 26 (0,0)) zb16 hb)
      replace HB:=Aside0.mk (below_step zb2 hb)
      (try clear hb)
      (try clear hb2)
      (try clear hk)
      (try clear hi)
      refine hK.out _ _ ⟨(blk_cell BK85.out 0).trans rfl,(blk_cell BK85.out 1).trans rfl,(blk_cell BK85.out 2).trans rfl,(blk_cell BK85.out 3).trans rfl,(blk_cell BK85.out 4).trans rfl,(blk_cell BK86.out 0).trans rfl,(blk_cell BK86.out 1).trans rfl,(blk_cell BK86.out 2).trans rfl,(blk_cell BK86.out 3).trans rfl,(blk_cell BK86.out 4).trans rfl⟩ (fun hHeld=>?_)
      clear hK K
      refine norm_ (a' := ?_) ?_ ?_
      rotate_left
      ·show Act.put _ (some 75) _=_
       simp only [Act.put,zqA,zqB,zqC,i64_w,i32_w]
       rfl
      refine zpu 6 (N:=some 76) (zl 11 127) HT_.out rfl rfl ?_
      refine one_ (i:=7) (N:=some 77) (zl 11 255) rfl rfl (one_of HT_.out zb8) zb52 (fun K hK=>?_)
      refine value_ (w1:=?_) (v:=?_) zb49 rfl ?_ ?_
      rotate_left 2
      ·go_simp
       constructor
       ·rfl
       rfl
      refine hK.out _ _ ⟨(blk_cell (blk_alloc BK85.out _) 0).trans rfl,(blk_cell (blk_alloc BK85.out _) 1).trans rfl,(blk_cell (blk_alloc BK85.out _) 2).trans rfl,(blk_cell (blk_alloc BK85.out _) 3).trans rfl,(blk_cell (blk_alloc BK85.out _) 4).trans rfl,(blk_cell (blk_alloc BK86.out _) 0).trans rfl,(blk_cell (blk_alloc BK86.out _) 1).trans rfl,(blk_cell (blk_alloc BK86.out _) 2).trans rfl,(blk_cell (blk_alloc BK86.out _) 3).trans rfl,(blk_cell (blk_alloc BK86.out _) 4).trans rfl⟩ (fun hHeld=>?_)
      clear hK K
      refine norm_ (a' := ?_) ?_ ?_
      rotate_left
      ·show Act.put _ (some 77) _=_
       simp only [Act.put,zqA,zqB,zqC,i64_w,i32_w]
       rfl
      refine one_ (i:=8) (N:=some 78) (zl 11 511) rfl rfl (one_of HT_.out zb8) zb52 (fun K hK=>?_)
      refine Kd.R_append_step k36 (w0:=w) w.heap.size zb49 (.tmp 71) (.tmp 77) 24 36 (.agg #[(.string ⟨#[]⟩),(.string ⟨#[]⟩)]) 32 rfl Tryz.underlying24 info36 rfl zb52 zb25 (.slice Ao36 t97.length co36) t97 (⟨(⟨#[67,111,110,116,101,110,116,45,76,101,110,103,116,104]⟩:ByteArray),t674⟩:S36) [.string (⟨#[67,111,110,116,101,110,116,45,76,101,110,103,116,104]⟩:ByteArray),.string t674] (fun k_=>some k_ ≠ (.slice Ao16 t95.length co16:Value).ownBlock) (fun _=>False) rfl rfl ?aP (fun _ hk=>hk.elim) ?aF ?aO ?aB ?aS ?aL ?_
      (case aP=>exact k36_mkM _ _ _ (⟨(⟨#[67,111,110,116,101,110,116,45,76,101,110,103,116,104]⟩:ByteArray),t674⟩:S36))
      (case aB=>exact zb43)
      (case aF=>exact (fun k_ hk=>Kd.fresh' (Kd.R_lt zb19) k_ hk))
      (case aO=>exact zb88)
      (case aS=>exact zb41)
      (case aL=>have:=LMc53.out;omega)
      intro v676 w57 ho hb hg hat
      rw [← Ny675.out] at ho
      have n0_:=Aside0.mk (Kd.R_after (ok:=(fun _=>True)) (by (with_reducible repeat (first|apply Kd.R_alloc|apply Kd.R_drewN|apply Kd.R_drew));exact Kd.R_mono HO_92.out (fun _ hk=>⟨trivial,hk⟩)) hg hat)
      have n1_:=Aside0.mk (Kd.R_over' zb12 (Kd.R_typed zb88) zb52 hg)
      have n2_:=Aside0.mk (blk_grown (g:=gb86) (o:=.cells #[.string t89,.string t93,.int .i64 t94,.slice Ao16 t95.length co16,.slice Ao17 t91.length co17] 26 (0,0)) zb13 hg (Kd.R_ne HO667.out BK86.out zb52))
      have n3_:=Aside0.mk (blk_grown (g:=gb85) (o:=.cells #[.string t89,.string t93,.int .i64 t94,.slice Ao36 t97.length co36,.slice Ao17 t91.length co17] 26 (0,0)) zb16 hg (Kd.R_ne HO667.out BK85.out zb52))
      have n4_:=Aside0.mk (Kd.R_over' zb87 (Kd.R_typed zb88) zb52 hg)
      have n5_:=Aside0.mk (hb)
      have n6_:=Aside0.mk (ho)
      clear HO_92 HO_90 BK86 BK85 HO664 HB HO667
      have HO_92:=n0_
      have HO_90:=n1_
      have BK86:=n2_
      have BK85:=n3_
      have HO664:=n4_
      have HB:=n5_
      have HO677:=n6_
      clear n0_ n1_ n2_ n3_ n4_ n5_ n6_ ho hb hg hat
      obtain ⟨Ao58,co58,eo58⟩:=Kd.R_slice HO677.out
      (first|subst eo58|(injection eo58 with f1_ f2_ f3_;have f4_:=f1_.symm;have f5_:=f3_.symm;clear f1_ f2_ f3_;subst f4_;subst f5_))
      refine hK.out _ _ ⟨(blk_cell BK85.out 0).trans rfl,(blk_cell BK85.out 1).trans rfl,(blk_cell BK85.out 2).trans rfl,(blk_cell BK85.out 3).trans rfl,(blk_cell BK85.out 4).trans rfl,(blk_cell BK86.out 0).trans rfl,(blk_cell BK86.out 1).trans rfl,(blk_cell BK86.out 2).trans rfl,(blk_cell BK86.out 3).trans rfl,(blk_cell BK86.out 4).trans rfl⟩ (fun hHeld=>?_)
      clear hK K
      refine norm_ (a' := ?_) ?_ ?_
      rotate_left
      ·show Act.put _ (some 78) _=_
       simp only [Act.put,zqA,zqB,zqC,i64_w,i32_w]
       rfl
      refine zpu 9 (N:=some 79) (zl 11 1023) HT_.out rfl rfl ?_
      refine last_ (i:=10) (N:=none) (zl 11 2047) rfl rfl (one_of HT_.out zb8) zb52 (fun K hK=>?_)
      have hs59:w57.cell? ⟨gb85,3,none⟩=some (.slice Ao36 t97.length co36):=(blk_cell BK85.out 3).trans rfl
      have hfs59:=blk_frozen BK85.out 3
      have hns59_0:=NB86_661.out
      have hms59_0:=NB85_660.out
      refine skip_ (w1:=?_) zb49 rfl ?_ ?_
      rotate_left
      ·go_simp
       rfl
      refine hK.out _ _ ?_
      clear hK K
      refine done_ (done_of HT_.out zb8) ?_
      try go_wp2
      go_meet
      case rel=>exact ⟨_,(y675),(t91),(.slice Ao58 y675.length co58),(.slice Ao17 t91.length co17),H',⟨by have:=HJ6.out;have:=HJ11.out;first|omega|exact Nat.le_refl _⟩,⟨zb64⟩,⟨by (with_reducible repeat (first|apply Kd.R_alloc|apply Kd.R_drewN|apply Kd.R_drew));exact Kd.R_mono (Kd.R_far (p:=⟨gb85,3,none⟩) (Kd.R_types HO_92.out BK85.out (by decide)) (fun _ hk=>hk.2) (.slice Ao58 y675.length co58)) (fun _ hk=>(by first|exact hk.1.2|trivial))⟩,⟨zb64⟩,⟨by (with_reducible repeat (first|apply Kd.R_alloc|apply Kd.R_drewN|apply Kd.R_drew));exact Kd.R_mono (Kd.R_far (p:=⟨gb85,3,none⟩) (Kd.R_types HO677.out BK85.out (by decide)) (fun _ hk=>hk.2) (.slice Ao58 y675.length co58)) (fun _ hk=>(by first|exact hk.1|trivial))⟩,⟨zb64⟩,⟨zb51⟩,⟨by (with_reducible repeat (first|refine blk_drewN ?_ _|refine blk_drew ?_|refine blk_alloc ?_ _));refine blk_put (cs:=#[.string t89,.string t93,.int .i64 t94,.slice Ao36 t97.length co36,.slice Ao17 t91.length co17]) ?_ 3 _ rfl;(with_reducible repeat (first|refine blk_drewN ?_ _|refine blk_drew ?_|refine blk_alloc ?_ _));exact BK85.out⟩,⟨zb2⟩⟩
     case rest =>
      clear HC26
      try clear c1
      try clear c2
      try clear p2
      try clear c3
      try clear c4
      try clear c5
      try clear c6
      try clear c9
      try clear c9b0
      try clear c9b1
      try clear c10
      try clear c11
      try clear c12
      try clear c18
      try clear c18b0
      try clear c18b1
      try clear c19
      try clear c19b0
      try clear c19b1
      try clear c21
      try clear c22
      try clear c23
      try clear c24
      try clear c29
      try clear c39
      try clear c40
      try clear c42
      try clear c53
      try clear hcz15_0
      try clear hcz15_1
      try clear hcz15_2
      try clear hcz15_3
      try clear hcz15_4
      try clear hcz20_0
      try clear hcz20_1
      try clear hcz20_2
      try clear hcz20_3
      try clear hcz20_4
      try clear hcz22_0
      try clear hcz22_1
      try clear hcz22_2
      try clear hcz22_3
      try clear hcz22_4
      try clear hcz23_0
      try clear hcz23_1
      try clear hcz23_2
      try clear hcz23_3
      try clear hcz23_4
      try clear hcz27_0
      try clear hcz27_1
      try clear hcz27_2
      try clear hcz27_3
      try clear hcz27_4
      try clear hcz30_0
      try clear hcz30_1
      try clear hcz30_2
      try clear hcz30_3
      try clear hcz30_4
      try clear hcz31_0
      try clear hcz31_1
      try clear hcz31_2
      try clear hcz31_3
      try clear hcz31_4
      try clear hcz37_0
      try clear hcz37_1
      try clear hcz37_2
      try clear hcz37_3
      try clear hcz37_4
      try clear hcz38_0
      try clear hcz38_1
      try clear hcz38_2
      try clear hcz38_3
      try clear hcz38_4
      try clear hcz43_0
      try clear hcz43_1
      try clear hcz43_2
      try clear hcz43_3
      try clear hcz43_4
      try clear hcz46_0
      try clear hcz46_1
      try clear hcz46_2
      try clear hcz46_3
      try clear hcz46_4
      try clear hcz48_0
      try clear hcz48_1
      try clear hcz48_2
      try clear hcz48_3
      try clear hcz48_4
      try clear hcz51_0
      try clear hcz51_1
      try clear hcz51_2
      try clear hcz51_3
      try clear hcz51_4
      try clear hfz15_0
      try clear hfz15_1
      try clear hfz15_2
      try clear hfz15_3
      try clear hfz15_4
      try clear hfz20_0
      try clear hfz20_1
      try clear hfz20_2
      try clear hfz20_3
      try clear hfz20_4
      try clear hfz22_0
      try clear hfz22_1
      try clear hfz22_2
      try clear hfz22_3
      try clear hfz22_4
      try clear hfz23_0
      try clear hfz23_1
      try clear hfz23_2
      try clear hfz23_3
      try clear hfz23_4
      try clear hfz27_0
      try clear hfz27_1
      try clear hfz27_2
      try clear hfz27_3
      try clear hfz27_4
      try clear hfz30_0
      try clear hfz30_1
      try clear hfz30_2
      try clear hfz30_3
      try clear hfz30_4
      try clear hfz31_0
      try clear hfz31_1
      try clear hfz31_2
      try clear hfz31_3
      try clear hfz31_4
      try clear hfz37_0
      try clear hfz37_1
      try clear hfz37_2
      try clear hfz37_3
      try clear hfz37_4
      try clear hfz38_0
      try clear hfz38_1
      try clear hfz38_2
      try clear hfz38_3
      try clear hfz38_4
      try clear hfz43_0
      try clear hfz43_1
      try clear hfz43_2
      try clear hfz43_3
      try clear hfz43_4
      try clear hfz46_0
      try clear hfz46_1
      try clear hfz46_2
      try clear hfz46_3
      try clear hfz46_4
      try clear hfz48_0
      try clear hfz48_1
      try clear hfz48_2
      try clear hfz48_3
      try clear hfz48_4
      try clear hfz51_0
      try clear hfz51_1
      try clear hfz51_2
      try clear hfz51_3
      try clear hfz51_4
      try clear p2
      obtain ⟨kq,x88_25,x87_25,u88,u87,HA,HJ25,HO_13,HO_92,HO_90,HO_88,HO_87,BK86,BK85,HB⟩:=hcut
      cases kq with
      | zero=>exact absurd HA.out (by simp [tollbarlaw08_HttpBack.j2])
      | succ kj25 =>
       have H:=HA.out
       clear HA
       simp only [tollbarlaw08_HttpBack.j2] at H
       replace H:=Option.bind_eq_some_iff.mp H
       obtain ⟨t98,A600,H⟩:=H
       try dsimp only at H
       have A60:=Aside0.mk A600
       clear A600
       obtain ⟨y681,hy681⟩ : ∃ y_:List Int,y_=(([]:List Int)):=⟨_,rfl⟩
       replace H:(if y681.length + t98.length < 140737488355328 then ((some (y681 ++ t98:List Int)).bind fun y684=>(if y684.length + l1.length < 140737488355328 then ((http_Request.f kj25 (y684 ++ l1)).bind fun bt99=>(if bt99.2.2.2.2.2.2=431 then (some (decide ((wrap64 ((t98.length:Int) - (x87_25.length:Int))) > 2048))) else (if (wrap64 ((t98.length:Int) - (x87_25.length:Int))) > 2048 then (some false) else (if bt99.2.2.2.2.2.2=0 then (if bt99.2.2.2.2.2.1=(t98.length:Int) then (if bt99.1.toList=t89.toList then (if bt99.2.1.toList=t93.toList then (if bt99.2.2.1=t94 then ((tollbarref01_SameBytes.f kj25 bt99.2.2.2.2.1 t91).bind fun t702=>(if t702=true then ((tollbarref04_Same.f kj25 bt99.2.2.2.1 x88_25).bind fun t703=>(some t703)) else (some false))) else (some false)) else (some false)) else (some false)) else (some false)) else (some false))))) else (none))) else (none))=some r:=by first|(rw [hy681];with_reducible exact H)|(have H2_:=(Option.bind_some _ _).symm.trans H;rw [hy681];with_reducible exact H2_)|(have H2_:=(Option.bind_some _ _).symm.trans H;with_reducible exact H2_)|with_reducible exact H|(rw [hy681];exact H)|exact H
       have Ny681:=Aside0.mk hy681
       clear hy681
       by_cases c61:y681.length + t98.length < 140737488355328
       ·rw [if_pos c61] at H
        have LMc61:=Aside0.mk c61
        clear c61
        obtain ⟨y684,hy684⟩ : ∃ y_:List Int,y_=(y681 ++ t98):=⟨_,rfl⟩
        replace H:(if y684.length + l1.length < 140737488355328 then ((http_Request.f kj25 (y684 ++ l1)).bind fun bt99=>(if bt99.2.2.2.2.2.2=431 then (some (decide ((wrap64 ((t98.length:Int) - (x87_25.length:Int))) > 2048))) else (if (wrap64 ((t98.length:Int) - (x87_25.length:Int))) > 2048 then (some false) else (if bt99.2.2.2.2.2.2=0 then (if bt99.2.2.2.2.2.1=(t98.length:Int) then (if bt99.1.toList=t89.toList then (if bt99.2.1.toList=t93.toList then (if bt99.2.2.1=t94 then ((tollbarref01_SameBytes.f kj25 bt99.2.2.2.2.1 t91).bind fun t702=>(if t702=true then ((tollbarref04_Same.f kj25 bt99.2.2.2.1 x88_25).bind fun t703=>(some t703)) else (some false))) else (some false)) else (some false)) else (some false)) else (some false)) else (some false))))) else (none))=some r:=by first|(rw [hy684];with_reducible exact H)|(have H2_:=(Option.bind_some _ _).symm.trans H;rw [hy684];with_reducible exact H2_)|(have H2_:=(Option.bind_some _ _).symm.trans H;with_reducible exact H2_)|with_reducible exact H|(rw [hy684];exact H)|exact H
        have Ny684:=Aside0.mk hy684
        clear hy684
        by_cases c62:y684.length + l1.length < 140737488355328
        ·rw [if_pos c62] at H
         have LMc62:=Aside0.mk c62
         clear c62
         obtain ⟨y687,hy687⟩ : ∃ y_:List Int,y_=(y684 ++ l1):=⟨_,rfl⟩
         replace H:((http_Request.f kj25 y687).bind fun bt99=>(if bt99.2.2.2.2.2.2=431 then (some (decide ((wrap64 ((t98.length:Int) - (x87_25.length:Int))) > 2048))) else (if (wrap64 ((t98.length:Int) - (x87_25.length:Int))) > 2048 then (some false) else (if bt99.2.2.2.2.2.2=0 then (if bt99.2.2.2.2.2.1=(t98.length:Int) then (if bt99.1.toList=t89.toList then (if bt99.2.1.toList=t93.toList then (if bt99.2.2.1=t94 then ((tollbarref01_SameBytes.f kj25 bt99.2.2.2.2.1 t91).bind fun t702=>(if t702=true then ((tollbarref04_Same.f kj25 bt99.2.2.2.1 x88_25).bind fun t703=>(some t703)) else (some false))) else (some false)) else (some false)) else (some false)) else (some false)) else (some false)))))=some r:=by first|(rw [hy687];with_reducible exact H)|(have H2_:=(Option.bind_some _ _).symm.trans H;rw [hy687];with_reducible exact H2_)|(have H2_:=(Option.bind_some _ _).symm.trans H;with_reducible exact H2_)|with_reducible exact H|(rw [hy687];exact H)|exact H
         have Ny687:=Aside0.mk hy687
         clear hy687
         replace H:=Option.bind_eq_some_iff.mp H
         obtain ⟨⟨t99,t691,t692,t693,t696,t699,t700⟩,A630,H⟩:=H
         try dsimp only at H
         have A63:=Aside0.mk A630
         clear A630
         by_cases c64:t700=431
         ·rw [if_pos c64] at H
          have c64b0:=beq_iff_eq.mpr c64
          have c64b1:=bne_eq_false_iff_eq.mpr c64
          clear c64
          obtain rfl:=Option.some.inj H
          have hnb65:=NB85_660.out
          have hnc65:=NB86_661.out
          obtain ⟨hcz66_0,hcz66_1,hcz66_2,hcz66_3,hcz66_4,hfz66_0,hfz66_1,hfz66_2,hfz66_3,hfz66_4⟩:=zq5 BK85.out
          obtain ⟨Ao67,co67,eo67⟩:=Kd.R_slice HO_88.out
          subst eo67
          obtain ⟨Ao68,co68,eo68⟩:=Kd.R_slice HO_87.out
          subst eo68
          go_wp2_with (first|((with_reducible refine gate_callee (f:=24) rfl ?_);refine goesL_ (some 81) rfl rfl Tryz.func24 zb8 rfl #[.agg #[.string t89,.string t93,.int .i64 t94,.slice Ao67 x88_25.length co67,.slice Ao68 x87_25.length co68]] rfl zb1 ?_;(with_reducible refine (http_WriteRequest.calls kj25 t89 t93 t94 _ _ x88_25 _ _ x87_25 t98 _ ?side1 ?side2 ?side3 ?side4 A60.out ?hT).mono ?_);(case hT=>exact HTB.out.below zb37);(case side1=>exact zb104);(case side2=>exact (Kd.R_reads' HO_88.out).2.1);(case side3=>exact zb105);(case side4=>exact (Kd.R_reads' HO_87.out).2.1);rintro e w69 ⟨v679,rfl,ho0,hb⟩;(try clear A60);refine ⟨_,rfl,?_⟩;replace HO_92:=Aside0.mk (Kd.R_below zb19 hb);replace HO_88:=Aside0.mk (Kd.R_below zb32 hb);have HO680:=Aside0.mk (Kd.B_lower (Kd.B_new' (Kd.B_new' (Kd.B_new' ho0 (Kd.R_lt zb20)) (Kd.R_lt zb12)) (Kd.R_lt zb21)) (below_size zb2));replace HO_13:=Aside0.mk (Kd.R_elder' zb20 (Kd.B_base ho0) hb);replace HO_90:=Aside0.mk (Kd.R_elder' zb12 (Kd.B_base ho0) hb);replace HO_87:=Aside0.mk (Kd.R_elder' zb21 (Kd.B_base ho0) hb);replace BK86:=Aside0.mk (blk_below (g:=gb86) (o:=.cells #[.string t89,.string t93,.int .i64 t94,.slice Ao16 t95.length co16,.slice Ao17 t91.length co17] 26 (0,0)) zb13 hb);replace BK85:=Aside0.mk (blk_below (g:=gb85) (o:=.cells #[.string t89,.string t93,.int .i64 t94,.slice Ao67 x88_25.length co67,.slice Ao68 x87_25.length co68] 26 (0,0)) zb16 hb);replace HB:=Aside0.mk (below_step zb2 hb);try clear hb ho0)|((with_reducible refine gate_dst (N:=83) rfl ?_);(try (refine gate_guard zb49 ?_;dsimp only));refine Kd.R_lit (Kd.int .u8) _ 5 ?hg (N:=83) ?hd (xs:=([]:List Int)) (inner:=[]) (ok:=fun _=>True) (okp:=fun _=>True) ?hr ?hp (fun _ hk=>hk) trivial (Below.refl _ _) (Nat.le_refl _) zb42 ?_;(case hd=>rfl);(case hg=>rfl);(case hr=>first|(go_simp;done)|(go_simp;rfl));(case hp=>exact (Reps.none _ _));intro v682 w70 ho71 hb hg_ hnew_;clear hg_ hnew_;(first|rw [← Ny681.out] at ho71|(simp only [Int.reduceToNat] at ho71;rw [← Ny681.out] at ho71));replace HO_92:=Aside0.mk (Kd.R_below zb19 hb);replace HO_88:=Aside0.mk (Kd.R_below zb32 hb);have HO683:=Aside0.mk (Kd.R_lower (Kd.R_new' (Kd.R_new' (Kd.R_new' (Kd.R_new' ho71 (Kd.R_lt zb20)) (Kd.R_lt zb12)) (Kd.R_lt zb21)) (Kd.B_lt zb29)) (below_size zb2));replace HO_13:=Aside0.mk (Kd.R_elder' zb20 (Kd.R_base ho71) hb);replace HO_90:=Aside0.mk (Kd.R_elder' zb12 (Kd.R_base ho71) hb);replace HO_87:=Aside0.mk (Kd.R_elder' zb21 (Kd.R_base ho71) hb);replace HO680:=Aside0.mk (Kd.B_elder' zb29 (Kd.R_base ho71) hb);replace BK86:=Aside0.mk (blk_below (g:=gb86) (o:=.cells #[.string t89,.string t93,.int .i64 t94,.slice Ao16 t95.length co16,.slice Ao17 t91.length co17] 26 (0,0)) zb13 hb);replace BK85:=Aside0.mk (blk_below (g:=gb85) (o:=.cells #[.string t89,.string t93,.int .i64 t94,.slice Ao67 x88_25.length co67,.slice Ao68 x87_25.length co68] 26 (0,0)) zb16 hb);replace HB:=Aside0.mk (below_step zb2 hb);clear hb ho71;obtain ⟨Ao73,co73,eo73⟩:=Kd.B_slice HO680.out;subst eo73)|((with_reducible refine gate_builtin (b:=.append) (xs:=#[.tmp 83,.tmp 84]) rfl ?_);(try (refine gate_guard zb49 ?_;dsimp only));at_builtin;refine Kd.R_append_rows (Kd.int .u8) (w0:=w) w.heap.size rfl (.tmp 83) (.tmp 84) 22 5 (.int .u8 0) 1 rfl Tryz.underlying22 info5 rfl zb52 zb25 v682 y681 t98 _ _ _ (fun k_=>some k_ ≠ (.slice Ao17 t91.length co17:Value).ownBlock∧some k_ ≠ (.slice Ao17 t91.length co17:Value).ownBlock∧some k_ ≠ (.slice Ao68 x87_25.length co68:Value).ownBlock∧some k_ ≠ (.slice Ao73 t98.length co73:Value).ownBlock) (fun _=>False) rfl rfl ?aO ?aR (fun _ _ h=>h) (fun _ h=>h.elim) ?aF ?aB ?aS ?aL ?_;(case aR=>exact zb106);(case aB=>exact zb43);(case aF=>exact zb18);(case aO=>exact zb101);(case aS=>exact zb41);(case aL=>have:=LMc61.out;omega);intro v685 w72 ho hb hg hat;rw [← Ny684.out] at ho;replace HO_13:=Aside0.mk (Kd.R_after (ok:=(fun k_=>some k_ ≠ (.slice Ao73 t98.length co73:Value).ownBlock)) zb111 hg hat);replace HO_92:=Aside0.mk (Kd.R_over' zb19 (Kd.R_typed zb89) zb52 hg);replace HO_90:=Aside0.mk (Kd.R_after (ok:=(fun k_=>some k_ ≠ (.slice Ao73 t98.length co73:Value).ownBlock)) zb112 hg hat);replace HO_88:=Aside0.mk (Kd.R_over' zb32 (Kd.R_typed zb89) zb52 hg);replace HO_87:=Aside0.mk (Kd.R_after (ok:=(fun k_=>some k_ ≠ (.slice Ao73 t98.length co73:Value).ownBlock)) zb113 hg hat);replace BK86:=Aside0.mk (blk_grown (g:=gb86) (o:=.cells #[.string t89,.string t93,.int .i64 t94,.slice Ao16 t95.length co16,.slice Ao17 t91.length co17] 26 (0,0)) zb13 hg (Kd.R_ne HO683.out BK86.out zb52));replace BK85:=Aside0.mk (blk_grown (g:=gb85) (o:=.cells #[.string t89,.string t93,.int .i64 t94,.slice Ao67 x88_25.length co67,.slice Ao68 x87_25.length co68] 26 (0,0)) zb16 hg (Kd.R_ne HO683.out BK85.out zb52));replace HO680:=Aside0.mk (Kd.B_after (ok:=(fun k_=>some k_ ≠ (.slice Ao17 t91.length co17:Value).ownBlock∧some k_ ≠ (.slice Ao17 t91.length co17:Value).ownBlock∧some k_ ≠ (.slice Ao68 x87_25.length co68:Value).ownBlock)) zb100 hg hat);replace HB:=Aside0.mk (hb);have HO686:=Aside0.mk (ho);clear ho hb hg hat)|((with_reducible refine gate_builtin (b:=.append) (xs:=#[.tmp 85,.tmp 86]) rfl ?_);(try (refine gate_guard zb49 ?_;dsimp only));at_builtin;refine Kd.R_append_rows (Kd.int .u8) (w0:=w) w.heap.size rfl (.tmp 85) (.tmp 86) 22 5 (.int .u8 0) 1 rfl Tryz.underlying22 info5 rfl zb52 zb25 v685 y684 l1 _ _ _ (fun k_=>some k_ ≠ (.slice Ao17 t91.length co17:Value).ownBlock∧some k_ ≠ (.slice Ao17 t91.length co17:Value).ownBlock∧some k_ ≠ (.slice Ao68 x87_25.length co68:Value).ownBlock∧some k_ ≠ (.slice Ao73 t98.length co73:Value).ownBlock) (fun _=>False) rfl rfl ?aO ?aR (fun _ _ h=>h) (fun _ h=>h.elim) ?aF ?aB ?aS ?aL ?_;(case aR=>exact zb71);(case aB=>exact zb43);(case aF=>exact zb18);(case aO=>exact zb72);(case aS=>exact zb41);(case aL=>have:=LMc62.out;omega);intro v688 w74 ho hb hg hat;rw [← Ny687.out] at ho;replace HO_13:=Aside0.mk (Kd.R_after (ok:=(fun k_=>some k_ ≠ (.slice Ao73 t98.length co73:Value).ownBlock)) zb20 hg hat);replace HO_92:=Aside0.mk (Kd.R_over' zb19 (Kd.R_typed zb72) zb52 hg);replace HO_90:=Aside0.mk (Kd.R_after (ok:=(fun k_=>some k_ ≠ (.slice Ao73 t98.length co73:Value).ownBlock)) zb12 hg hat);replace HO_88:=Aside0.mk (Kd.R_over' zb32 (Kd.R_typed zb72) zb52 hg);replace HO_87:=Aside0.mk (Kd.R_after (ok:=(fun k_=>some k_ ≠ (.slice Ao73 t98.length co73:Value).ownBlock)) zb21 hg hat);replace BK86:=Aside0.mk (blk_grown (g:=gb86) (o:=.cells #[.string t89,.string t93,.int .i64 t94,.slice Ao16 t95.length co16,.slice Ao17 t91.length co17] 26 (0,0)) zb13 hg (Kd.R_ne HO686.out BK86.out zb52));replace BK85:=Aside0.mk (blk_grown (g:=gb85) (o:=.cells #[.string t89,.string t93,.int .i64 t94,.slice Ao67 x88_25.length co67,.slice Ao68 x87_25.length co68] 26 (0,0)) zb16 hg (Kd.R_ne HO686.out BK85.out zb52));replace HO680:=Aside0.mk (Kd.B_after (ok:=(fun k_=>some k_ ≠ (.slice Ao17 t91.length co17:Value).ownBlock∧some k_ ≠ (.slice Ao17 t91.length co17:Value).ownBlock∧some k_ ≠ (.slice Ao68 x87_25.length co68:Value).ownBlock)) zb29 hg hat);replace HB:=Aside0.mk (hb);have HO689:=Aside0.mk (ho);clear ho hb hg hat;obtain ⟨Ao75,co75,eo75⟩:=Kd.R_slice HO689.out;subst eo75)|((with_reducible refine gate_callee (f:=12) rfl ?_);refine goesL_ (some 88) rfl rfl Tryz.func12 zb8 rfl #[.slice Ao75 y687.length co75] rfl zb1 ?_;(with_reducible refine (http_Request.calls kj25 _ _ y687 t99 t691 t692 t693 t696 t699 t700 _ ?side1 ?side2 A63.out).mono ?_);(case side1=>exact zb107);(case side2=>exact (Kd.R_reads' HO689.out).2.1);rintro e w76 ⟨v694,v697,rfl,ho0,ho1,hb⟩;(try clear A63);refine ⟨_,rfl,?_⟩;have HO695:=Aside0.mk (Kd.R_lower (Kd.R_new' (Kd.R_new' ho0 (Kd.R_lt zb19)) (Kd.R_lt zb32)) (below_size zb2));replace HO_92:=Aside0.mk (Kd.R_elder' zb19 (Kd.R_base ho0) hb);replace HO_88:=Aside0.mk (Kd.R_elder' zb32 (Kd.R_base ho0) hb);have HO698:=Aside0.mk (Kd.R_lower (Kd.R_new' (Kd.R_new' (Kd.R_new' (Kd.R_new' (Kd.R_new' ho1 (Kd.R_lt zb20)) (Kd.R_lt zb12)) (Kd.R_lt zb21)) (Kd.B_lt zb29)) (Kd.R_lt zb73)) (below_size zb2));replace HO_13:=Aside0.mk (Kd.R_elder' zb20 (Kd.R_base ho1) hb);replace HO_90:=Aside0.mk (Kd.R_elder' zb12 (Kd.R_base ho1) hb);replace HO_87:=Aside0.mk (Kd.R_elder' zb21 (Kd.R_base ho1) hb);replace HO680:=Aside0.mk (Kd.B_elder' zb29 (Kd.R_base ho1) hb);replace HO689:=Aside0.mk (Kd.R_elder' zb73 (Kd.R_base ho1) hb);replace BK86:=Aside0.mk (blk_below (g:=gb86) (o:=.cells #[.string t89,.string t93,.int .i64 t94,.slice Ao16 t95.length co16,.slice Ao17 t91.length co17] 26 (0,0)) zb13 hb);replace BK85:=Aside0.mk (blk_below (g:=gb85) (o:=.cells #[.string t89,.string t93,.int .i64 t94,.slice Ao67 x88_25.length co67,.slice Ao68 x87_25.length co68] 26 (0,0)) zb16 hb);replace HB:=Aside0.mk (below_step zb2 hb);try clear hb ho0 ho1)|((with_reducible refine gate_dst (N:=15) rfl ?_);(try (refine gate_guard zb49 ?_;dsimp only));refine box_event rfl (N:=15) rfl (cs:=#[.string (⟨#[]⟩:ByteArray),.string (⟨#[]⟩:ByteArray),.int .i64 0,.slice none 0 0,.slice none 0 0]) (t:=26) zS ?_;intro gb96 hg w77 hbox hb;replace HO_13:=Aside0.mk (Kd.R_below zb20 hb);replace HO_92:=Aside0.mk (Kd.R_below zb19 hb);replace HO_90:=Aside0.mk (Kd.R_below zb12 hb);replace HO_88:=Aside0.mk (Kd.R_below zb32 hb);replace HO_87:=Aside0.mk (Kd.R_below zb21 hb);replace HO680:=Aside0.mk (Kd.B_below zb29 hb);replace HO689:=Aside0.mk (Kd.R_below zb73 hb);replace HO695:=Aside0.mk (Kd.R_below (by (with_reducible repeat (first|apply Kd.R_alloc|apply Kd.R_drewN|apply Kd.R_drew));exact HO695.out) hb);replace HO698:=Aside0.mk (Kd.R_below (by (with_reducible repeat (first|apply Kd.R_alloc|apply Kd.R_drewN|apply Kd.R_drew));exact HO698.out) hb);have BK96:=Aside0.mk (hbox);have GW96:=zG hg zb2;have GE96:=GW96;replace HB:=Aside0.mk (below_step zb2 hb);have NB86_701:=Aside0.mk ((by rw [hg];exact Nat.ne_of_lt (blk_lt (g:=gb86) (o:=.cells #[.string t89,.string t93,.int .i64 t94,.slice Ao16 t95.length co16,.slice Ao17 t91.length co17] 26 (0,0)) zb13):gb86 ≠ gb96));have NB96_660:=Aside0.mk ((by rw [hg];exact Nat.ne_of_gt (blk_lt (g:=gb86) (o:=.cells #[.string t89,.string t93,.int .i64 t94,.slice Ao16 t95.length co16,.slice Ao17 t91.length co17] 26 (0,0)) zb13):gb96 ≠ gb86));replace BK86:=Aside0.mk (blk_below (g:=gb86) (o:=.cells #[.string t89,.string t93,.int .i64 t94,.slice Ao16 t95.length co16,.slice Ao17 t91.length co17] 26 (0,0)) zb13 hb);have NB85_701:=Aside0.mk ((by rw [hg];exact Nat.ne_of_lt (blk_lt (g:=gb85) (o:=.cells #[.string t89,.string t93,.int .i64 t94,.slice Ao67 x88_25.length co67,.slice Ao68 x87_25.length co68] 26 (0,0)) zb16):gb85 ≠ gb96));have NB96_661:=Aside0.mk ((by rw [hg];exact Nat.ne_of_gt (blk_lt (g:=gb85) (o:=.cells #[.string t89,.string t93,.int .i64 t94,.slice Ao67 x88_25.length co67,.slice Ao68 x87_25.length co68] 26 (0,0)) zb16):gb96 ≠ gb85));replace BK85:=Aside0.mk (blk_below (g:=gb85) (o:=.cells #[.string t89,.string t93,.int .i64 t94,.slice Ao67 x88_25.length co67,.slice Ao68 x87_25.length co68] 26 (0,0)) zb16 hb);clear hb hbox hg;have hnb78:=NB96_660.out;have hnc78:=NB86_701.out;have hnb79:=NB96_661.out;have hnc79:=NB85_701.out;obtain ⟨hcz80_0,hcz80_1,hcz80_2,hcz80_3,hcz80_4,hfz80_0,hfz80_1,hfz80_2,hfz80_3,hfz80_4⟩:=zq5 BK96.out;obtain ⟨Ao81,co81,eo81⟩:=Kd.R_slice HO695.out;subst eo81;obtain ⟨Ao82,co82,eo82⟩:=Kd.R_slice HO698.out;subst eo82;obtain ⟨hcz83_0,hcz83_1,hcz83_2,hcz83_3,hcz83_4,hfz83_0,hfz83_1,hfz83_2,hfz83_3,hfz83_4⟩:=zq5 BK85.out))
          go_ret
          exact ⟨zb3,zb37⟩
         rw [if_neg c64] at H
         have c64b0:=beq_eq_false_iff_ne.mpr c64
         have c64b1:=bne_iff_ne.mpr c64
         by_cases c84:(wrap64 ((t98.length:Int) - (x87_25.length:Int))) > 2048
         ·rw [if_pos c84] at H
          have c84b0:decide (2048 < (wrap64 ((t98.length:Int) - (x87_25.length:Int))))=true:=decide_eq_true c84
          clear c84
          exact absurd ((Option.some.inj H).trans HRT.out) zb52
         rw [if_neg c84] at H
         have c84b0:decide (2048 < (wrap64 ((t98.length:Int) - (x87_25.length:Int))))=false:=decide_eq_false c84
         clear c84
         by_cases c104:t700=0;rotate_left
         ·rw [if_neg c104] at H
          have c104b0:=beq_eq_false_iff_ne.mpr c104
          have c104b1:=bne_iff_ne.mpr c104
          exact absurd ((Option.some.inj H).trans HRT.out) zb52
         rw [if_pos c104] at H
         have c104b0:=beq_iff_eq.mpr c104
         have c104b1:=bne_eq_false_iff_eq.mpr c104
         clear c104
         by_cases c105:t699=(t98.length:Int)
         ·rw [if_pos c105] at H
          have c105b0:=beq_iff_eq.mpr c105
          have c105b1:=bne_eq_false_iff_eq.mpr c105
          clear c105
          by_cases c106:t99.toList=t89.toList;rotate_left
          ·rw [if_neg c106] at H
           have c106b0:=beq_eq_false_iff_ne.mpr c106
           have c106b1:=bne_iff_ne.mpr c106
           exact absurd ((Option.some.inj H).trans HRT.out) zb52
          rw [if_pos c106] at H
          have c106b0:=beq_iff_eq.mpr c106
          have c106b1:=bne_eq_false_iff_eq.mpr c106
          clear c106
          by_cases c107:t691.toList=t93.toList
          ·rw [if_pos c107] at H
           have c107b0:=beq_iff_eq.mpr c107
           have c107b1:=bne_eq_false_iff_eq.mpr c107
           clear c107
           by_cases c108:t692=t94;rotate_left
           ·rw [if_neg c108] at H
            have c108b0:=beq_eq_false_iff_ne.mpr c108
            have c108b1:=bne_iff_ne.mpr c108
            exact absurd ((Option.some.inj H).trans HRT.out) zb52
           rw [if_pos c108] at H
           have c108b0:=beq_iff_eq.mpr c108
           have c108b1:=bne_eq_false_iff_eq.mpr c108
           clear c108
           replace H:=Option.bind_eq_some_iff.mp H
           obtain ⟨t702,A1090,H⟩:=H
           try dsimp only at H
           have A109:=Aside0.mk A1090
           clear A1090
           by_cases c110:t702=true
           ·subst c110
            rw [if_pos rfl] at H
            replace H:=Option.bind_eq_some_iff.mp H
            obtain ⟨t703,A1110,H⟩:=H
            try dsimp only at H
            have A111:=Aside0.mk A1110
            clear A1110
            obtain rfl:=Option.some.inj H
            have hnb112:=NB85_660.out
            have hnc112:=NB86_661.out
            obtain ⟨hcz113_0,hcz113_1,hcz113_2,hcz113_3,hcz113_4,hfz113_0,hfz113_1,hfz113_2,hfz113_3,hfz113_4⟩:=zq5 BK85.out
            obtain ⟨Ao114,co114,eo114⟩:=Kd.R_slice HO_88.out
            subst eo114
            obtain ⟨Ao115,co115,eo115⟩:=Kd.R_slice HO_87.out
            subst eo115
            go_wp2_with (first|((with_reducible refine gate_callee (f:=24) rfl ?_);refine goesL_ (some 81) rfl rfl Tryz.func24 zb8 rfl #[.agg #[.string t89,.string t93,.int .i64 t94,.slice Ao114 x88_25.length co114,.slice Ao115 x87_25.length co115]] rfl zb1 ?_;(with_reducible refine (http_WriteRequest.calls kj25 t89 t93 t94 _ _ x88_25 _ _ x87_25 t98 _ ?side1 ?side2 ?side3 ?side4 A60.out ?hT).mono ?_);(case hT=>exact HTB.out.below zb37);(case side1=>exact zb104);(case side2=>exact (Kd.R_reads' HO_88.out).2.1);(case side3=>exact zb105);(case side4=>exact (Kd.R_reads' HO_87.out).2.1);rintro e w116 ⟨v679,rfl,ho0,hb⟩;(try clear A60);refine ⟨_,rfl,?_⟩;replace HO_92:=Aside0.mk (Kd.R_below zb19 hb);replace HO_88:=Aside0.mk (Kd.R_below zb32 hb);have HO680:=Aside0.mk (Kd.B_lower (Kd.B_new' (Kd.B_new' (Kd.B_new' ho0 (Kd.R_lt zb20)) (Kd.R_lt zb12)) (Kd.R_lt zb21)) (below_size zb2));replace HO_13:=Aside0.mk (Kd.R_elder' zb20 (Kd.B_base ho0) hb);replace HO_90:=Aside0.mk (Kd.R_elder' zb12 (Kd.B_base ho0) hb);replace HO_87:=Aside0.mk (Kd.R_elder' zb21 (Kd.B_base ho0) hb);replace BK86:=Aside0.mk (blk_below (g:=gb86) (o:=.cells #[.string t89,.string t93,.int .i64 t94,.slice Ao16 t95.length co16,.slice Ao17 t91.length co17] 26 (0,0)) zb13 hb);replace BK85:=Aside0.mk (blk_below (g:=gb85) (o:=.cells #[.string t89,.string t93,.int .i64 t94,.slice Ao114 x88_25.length co114,.slice Ao115 x87_25.length co115] 26 (0,0)) zb16 hb);replace HB:=Aside0.mk (below_step zb2 hb);try clear hb ho0)|((with_reducible refine gate_dst (N:=83) rfl ?_);(try (refine gate_guard zb49 ?_;dsimp only));refine Kd.R_lit (Kd.int .u8) _ 5 ?hg (N:=83) ?hd (xs:=([]:List Int)) (inner:=[]) (ok:=fun _=>True) (okp:=fun _=>True) ?hr ?hp (fun _ hk=>hk) trivial (Below.refl _ _) (Nat.le_refl _) zb42 ?_;(case hd=>rfl);(case hg=>rfl);(case hr=>first|(go_simp;done)|(go_simp;rfl));(case hp=>exact (Reps.none _ _));intro v682 w117 ho118 hb hg_ hnew_;clear hg_ hnew_;(first|rw [← Ny681.out] at ho118|(simp only [Int.reduceToNat] at ho118;rw [← Ny681.out] at ho118));replace HO_92:=Aside0.mk (Kd.R_below zb19 hb);replace HO_88:=Aside0.mk (Kd.R_below zb32 hb);have HO683:=Aside0.mk (Kd.R_lower (Kd.R_new' (Kd.R_new' (Kd.R_new' (Kd.R_new' ho118 (Kd.R_lt zb20)) (Kd.R_lt zb12)) (Kd.R_lt zb21)) (Kd.B_lt zb29)) (below_size zb2));replace HO_13:=Aside0.mk (Kd.R_elder' zb20 (Kd.R_base ho118) hb);replace HO_90:=Aside0.mk (Kd.R_elder' zb12 (Kd.R_base ho118) hb);replace HO_87:=Aside0.mk (Kd.R_elder' zb21 (Kd.R_base ho118) hb);replace HO680:=Aside0.mk (Kd.B_elder' zb29 (Kd.R_base ho118) hb);replace BK86:=Aside0.mk (blk_below (g:=gb86) (o:=.cells #[.string t89,.string t93,.int .i64 t94,.slice Ao16 t95.length co16,.slice Ao17 t91.length co17] 26 (0,0)) zb13 hb);replace BK85:=Aside0.mk (blk_below (g:=gb85) (o:=.cells #[.string t89,.string t93,.int .i64 t94,.slice Ao114 x88_25.length co114,.slice Ao115 x87_25.length co115] 26 (0,0)) zb16 hb);replace HB:=Aside0.mk (below_step zb2 hb);clear hb ho118;obtain ⟨Ao120,co120,eo120⟩:=Kd.B_slice HO680.out;subst eo120)|((with_reducible refine gate_builtin (b:=.append) (xs:=#[.tmp 83,.tmp 84]) rfl ?_);(try (refine gate_guard zb49 ?_;dsimp only));at_builtin;refine Kd.R_append_rows (Kd.int .u8) (w0:=w) w.heap.size rfl (.tmp 83) (.tmp 84) 22 5 (.int .u8 0) 1 rfl Tryz.underlying22 info5 rfl zb52 zb25 v682 y681 t98 _ _ _ (fun k_=>some k_ ≠ (.slice Ao17 t91.length co17:Value).ownBlock∧some k_ ≠ (.slice Ao17 t91.length co17:Value).ownBlock∧some k_ ≠ (.slice Ao115 x87_25.length co115:Value).ownBlock∧some k_ ≠ (.slice Ao120 t98.length co120:Value).ownBlock) (fun _=>False) rfl rfl ?aO ?aR (fun _ _ h=>h) (fun _ h=>h.elim) ?aF ?aB ?aS ?aL ?_;(case aR=>exact zb106);(case aB=>exact zb43);(case aF=>exact zb18);(case aO=>exact zb101);(case aS=>exact zb41);(case aL=>have:=LMc61.out;omega);intro v685 w119 ho hb hg hat;rw [← Ny684.out] at ho;replace HO_13:=Aside0.mk (Kd.R_after (ok:=(fun k_=>some k_ ≠ (.slice Ao120 t98.length co120:Value).ownBlock)) zb111 hg hat);replace HO_92:=Aside0.mk (Kd.R_over' zb19 (Kd.R_typed zb89) zb52 hg);replace HO_90:=Aside0.mk (Kd.R_after (ok:=(fun k_=>some k_ ≠ (.slice Ao120 t98.length co120:Value).ownBlock)) zb112 hg hat);replace HO_88:=Aside0.mk (Kd.R_over' zb32 (Kd.R_typed zb89) zb52 hg);replace HO_87:=Aside0.mk (Kd.R_after (ok:=(fun k_=>some k_ ≠ (.slice Ao120 t98.length co120:Value).ownBlock)) zb113 hg hat);replace BK86:=Aside0.mk (blk_grown (g:=gb86) (o:=.cells #[.string t89,.string t93,.int .i64 t94,.slice Ao16 t95.length co16,.slice Ao17 t91.length co17] 26 (0,0)) zb13 hg (Kd.R_ne HO683.out BK86.out zb52));replace BK85:=Aside0.mk (blk_grown (g:=gb85) (o:=.cells #[.string t89,.string t93,.int .i64 t94,.slice Ao114 x88_25.length co114,.slice Ao115 x87_25.length co115] 26 (0,0)) zb16 hg (Kd.R_ne HO683.out BK85.out zb52));replace HO680:=Aside0.mk (Kd.B_after (ok:=(fun k_=>some k_ ≠ (.slice Ao17 t91.length co17:Value).ownBlock∧some k_ ≠ (.slice Ao17 t91.length co17:Value).ownBlock∧some k_ ≠ (.slice Ao115 x87_25.length co115:Value).ownBlock)) zb100 hg hat);replace HB:=Aside0.mk (hb);have HO686:=Aside0.mk (ho);clear ho hb hg hat)|((with_reducible refine gate_builtin (b:=.append) (xs:=#[.tmp 85,.tmp 86]) rfl ?_);(try (refine gate_guard zb49 ?_;dsimp only));at_builtin;refine Kd.R_append_rows (Kd.int .u8) (w0:=w) w.heap.size rfl (.tmp 85) (.tmp 86) 22 5 (.int .u8 0) 1 rfl Tryz.underlying22 info5 rfl zb52 zb25 v685 y684 l1 _ _ _ (fun k_=>some k_ ≠ (.slice Ao17 t91.length co17:Value).ownBlock∧some k_ ≠ (.slice Ao17 t91.length co17:Value).ownBlock∧some k_ ≠ (.slice Ao115 x87_25.length co115:Value).ownBlock∧some k_ ≠ (.slice Ao120 t98.length co120:Value).ownBlock) (fun _=>False) rfl rfl ?aO ?aR (fun _ _ h=>h) (fun _ h=>h.elim) ?aF ?aB ?aS ?aL ?_;(case aR=>exact zb71);(case aB=>exact zb43);(case aF=>exact zb18);(case aO=>exact zb72);(case aS=>exact zb41);(case aL=>have:=LMc62.out;omega);intro v688 w121 ho hb hg hat;rw [← Ny687.out] at ho;replace HO_13:=Aside0.mk (Kd.R_after (ok:=(fun k_=>some k_ ≠ (.slice Ao120 t98.length co120:Value).ownBlock)) zb20 hg hat);replace HO_92:=Aside0.mk (Kd.R_over' zb19 (Kd.R_typed zb72) zb52 hg);replace HO_90:=Aside0.mk (Kd.R_after (ok:=(fun k_=>some k_ ≠ (.slice Ao120 t98.length co120:Value).ownBlock)) zb12 hg hat);replace HO_88:=Aside0.mk (Kd.R_over' zb32 (Kd.R_typed zb72) zb52 hg);replace HO_87:=Aside0.mk (Kd.R_after (ok:=(fun k_=>some k_ ≠ (.slice Ao120 t98.length co120:Value).ownBlock)) zb21 hg hat);replace BK86:=Aside0.mk (blk_grown (g:=gb86) (o:=.cells #[.string t89,.string t93,.int .i64 t94,.slice Ao16 t95.length co16,.slice Ao17 t91.length co17] 26 (0,0)) zb13 hg (Kd.R_ne HO686.out BK86.out zb52));replace BK85:=Aside0.mk (blk_grown (g:=gb85) (o:=.cells #[.string t89,.string t93,.int .i64 t94,.slice Ao114 x88_25.length co114,.slice Ao115 x87_25.length co115] 26 (0,0)) zb16 hg (Kd.R_ne HO686.out BK85.out zb52));replace HO680:=Aside0.mk (Kd.B_after (ok:=(fun k_=>some k_ ≠ (.slice Ao17 t91.length co17:Value).ownBlock∧some k_ ≠ (.slice Ao17 t91.length co17:Value).ownBlock∧some k_ ≠ (.slice Ao115 x87_25.length co115:Value).ownBlock)) zb29 hg hat);replace HB:=Aside0.mk (hb);have HO689:=Aside0.mk (ho);clear ho hb hg hat;obtain ⟨Ao122,co122,eo122⟩:=Kd.R_slice HO689.out;subst eo122)|((with_reducible refine gate_callee (f:=12) rfl ?_);refine goesL_ (some 88) rfl rfl Tryz.func12 zb8 rfl #[.slice Ao122 y687.length co122] rfl zb1 ?_;(with_reducible refine (http_Request.calls kj25 _ _ y687 t99 t691 t692 t693 t696 t699 t700 _ ?side1 ?side2 A63.out).mono ?_);(case side1=>exact zb107);(case side2=>exact (Kd.R_reads' HO689.out).2.1);rintro e w123 ⟨v694,v697,rfl,ho0,ho1,hb⟩;(try clear A63);refine ⟨_,rfl,?_⟩;have HO695:=Aside0.mk (Kd.R_lower (Kd.R_new' (Kd.R_new' ho0 (Kd.R_lt zb19)) (Kd.R_lt zb32)) (below_size zb2));replace HO_92:=Aside0.mk (Kd.R_elder' zb19 (Kd.R_base ho0) hb);replace HO_88:=Aside0.mk (Kd.R_elder' zb32 (Kd.R_base ho0) hb);have HO698:=Aside0.mk (Kd.R_lower (Kd.R_new' (Kd.R_new' (Kd.R_new' (Kd.R_new' (Kd.R_new' ho1 (Kd.R_lt zb20)) (Kd.R_lt zb12)) (Kd.R_lt zb21)) (Kd.B_lt zb29)) (Kd.R_lt zb73)) (below_size zb2));replace HO_13:=Aside0.mk (Kd.R_elder' zb20 (Kd.R_base ho1) hb);replace HO_90:=Aside0.mk (Kd.R_elder' zb12 (Kd.R_base ho1) hb);replace HO_87:=Aside0.mk (Kd.R_elder' zb21 (Kd.R_base ho1) hb);replace HO680:=Aside0.mk (Kd.B_elder' zb29 (Kd.R_base ho1) hb);replace HO689:=Aside0.mk (Kd.R_elder' zb73 (Kd.R_base ho1) hb);replace BK86:=Aside0.mk (blk_below (g:=gb86) (o:=.cells #[.string t89,.string t93,.int .i64 t94,.slice Ao16 t95.length co16,.slice Ao17 t91.length co17] 26 (0,0)) zb13 hb);replace BK85:=Aside0.mk (blk_below (g:=gb85) (o:=.cells #[.string t89,.string t93,.int .i64 t94,.slice Ao114 x88_25.length co114,.slice Ao115 x87_25.length co115] 26 (0,0)) zb16 hb);replace HB:=Aside0.mk (below_step zb2 hb);try clear hb ho0 ho1)|((with_reducible refine gate_dst (N:=15) rfl ?_);(try (refine gate_guard zb49 ?_;dsimp only));refine box_event rfl (N:=15) rfl (cs:=#[.string (⟨#[]⟩:ByteArray),.string (⟨#[]⟩:ByteArray),.int .i64 0,.slice none 0 0,.slice none 0 0]) (t:=26) zS ?_;intro gb96 hg w124 hbox hb;replace HO_13:=Aside0.mk (Kd.R_below zb20 hb);replace HO_92:=Aside0.mk (Kd.R_below zb19 hb);replace HO_90:=Aside0.mk (Kd.R_below zb12 hb);replace HO_88:=Aside0.mk (Kd.R_below zb32 hb);replace HO_87:=Aside0.mk (Kd.R_below zb21 hb);replace HO680:=Aside0.mk (Kd.B_below zb29 hb);replace HO689:=Aside0.mk (Kd.R_below zb73 hb);replace HO695:=Aside0.mk (Kd.R_below (by (with_reducible repeat (first|apply Kd.R_alloc|apply Kd.R_drewN|apply Kd.R_drew));exact HO695.out) hb);replace HO698:=Aside0.mk (Kd.R_below (by (with_reducible repeat (first|apply Kd.R_alloc|apply Kd.R_drewN|apply Kd.R_drew));exact HO698.out) hb);have BK96:=Aside0.mk (hbox);have GW96:=zG hg zb2;have GE96:=GW96;replace HB:=Aside0.mk (below_step zb2 hb);have NB86_701:=Aside0.mk ((by rw [hg];exact Nat.ne_of_lt (blk_lt (g:=gb86) (o:=.cells #[.string t89,.string t93,.int .i64 t94,.slice Ao16 t95.length co16,.slice Ao17 t91.length co17] 26 (0,0)) zb13):gb86 ≠ gb96));have NB96_660:=Aside0.mk ((by rw [hg];exact Nat.ne_of_gt (blk_lt (g:=gb86) (o:=.cells #[.string t89,.string t93,.int .i64 t94,.slice Ao16 t95.length co16,.slice Ao17 t91.length co17] 26 (0,0)) zb13):gb96 ≠ gb86));replace BK86:=Aside0.mk (blk_below (g:=gb86) (o:=.cells #[.string t89,.string t93,.int .i64 t94,.slice Ao16 t95.length co16,.slice Ao17 t91.length co17] 26 (0,0)) zb13 hb);have NB85_701:=Aside0.mk ((by rw [hg];exact Nat.ne_of_lt (blk_lt (g:=gb85) (o:=.cells #[.string t89,.string t93,.int .i64 t94,.slice Ao114 x88_25.length co114,.slice Ao115 x87_25.length co115] 26 (0,0)) zb16):gb85 ≠ gb96));have NB96_661:=Aside0.mk ((by rw [hg];exact Nat.ne_of_gt (blk_lt (g:=gb85) (o:=.cells #[.string t89,.string t93,.int .i64 t94,.slice Ao114 x88_25.length co114,.slice Ao115 x87_25.length co115] 26 (0,0)) zb16):gb96 ≠ gb85));replace BK85:=Aside0.mk (blk_below (g:=gb85) (o:=.cells #[.string t89,.string t93,.int .i64 t94,.slice Ao114 x88_25.length co114,.slice Ao115 x87_25.length co115] 26 (0,0)) zb16 hb);clear hb hbox hg;have hnb125:=NB96_660.out;have hnc125:=NB86_701.out;have hnb126:=NB96_661.out;have hnc126:=NB85_701.out;obtain ⟨hcz127_0,hcz127_1,hcz127_2,hcz127_3,hcz127_4,hfz127_0,hfz127_1,hfz127_2,hfz127_3,hfz127_4⟩:=zq5 BK96.out;obtain ⟨Ao128,co128,eo128⟩:=Kd.R_slice HO695.out;subst eo128;obtain ⟨Ao129,co129,eo129⟩:=Kd.R_slice HO698.out;subst eo129;obtain ⟨hcz130_0,hcz130_1,hcz130_2,hcz130_3,hcz130_4,hfz130_0,hfz130_1,hfz130_2,hfz130_3,hfz130_4⟩:=zq5 BK85.out;obtain ⟨hcz131_0,hcz131_1,hcz131_2,hcz131_3,hcz131_4,hfz131_0,hfz131_1,hfz131_2,hfz131_3,hfz131_4⟩:=zq5 BK86.out)|(go_at_call 25;(with_reducible refine (tollbarref01_SameBytes.calls kj25 _ _ t696 _ _ t91 true _ ?side1 ?side2 ?side3 ?side4 A109.out).mono ?_);(case side1=>refine (Kd.R_reads' (e:=5) (base:=w.heap.size) (ok:=fun k_=>(((((True∧some k_ ≠ (.slice Ao17 t91.length co17:Value).ownBlock)∧some k_ ≠ (.slice Ao17 t91.length co17:Value).ownBlock)∧some k_ ≠ (.slice Ao115 x87_25.length co115:Value).ownBlock)∧some k_ ≠ (.slice Ao120 t98.length co120:Value).ownBlock)∧some k_ ≠ (.slice Ao122 y687.length co122:Value).ownBlock)) (n:=t696.length) (c:=co129) ?_).2.2;exact (by (with_reducible repeat (first|apply Kd.R_alloc|apply Kd.R_drewN|apply Kd.R_drew));exact (Kd.R_mono (Kd.R_far (p:=⟨gb96,4,none⟩) (Kd.R_far (p:=⟨gb96,3,none⟩) (Kd.R_far (p:=⟨gb96,2,none⟩) (Kd.R_far (p:=⟨gb96,1,none⟩) (Kd.R_far (p:=⟨gb96,0,none⟩) (Kd.R_types HO698.out BK96.out (by decide)) (fun _ hk=>hk.2) (.string t99)) (fun _ hk=>hk.2) (.string t691)) (fun _ hk=>hk.2) (.int .i64 t692)) (fun _ hk=>hk.2) (.slice Ao128 t693.length co128)) (fun _ hk=>hk.2) (.slice Ao129 t696.length co129)) (fun _ h_=>h_.1))));(case side2=>exact (Kd.R_reads' HO698.out).2.1);(case side3=>refine (Kd.R_reads' (e:=5) (base:=w.heap.size) (ok:=fun k_=>((some k_ ≠ (.slice Ao120 t98.length co120:Value).ownBlock∧some k_ ≠ (.slice Ao122 y687.length co122:Value).ownBlock)∧some k_ ≠ (.slice Ao129 t696.length co129:Value).ownBlock)) (n:=t91.length) (c:=co17) ?_).2.2;exact (by (with_reducible repeat (first|apply Kd.R_alloc|apply Kd.R_drewN|apply Kd.R_drew));exact (Kd.R_mono (Kd.R_far (p:=⟨gb96,4,none⟩) (Kd.R_far (p:=⟨gb96,3,none⟩) (Kd.R_far (p:=⟨gb96,2,none⟩) (Kd.R_far (p:=⟨gb96,1,none⟩) (Kd.R_far (p:=⟨gb96,0,none⟩) (Kd.R_types HO_13.out BK96.out (by decide)) (fun _ hk=>hk.2) (.string t99)) (fun _ hk=>hk.2) (.string t691)) (fun _ hk=>hk.2) (.int .i64 t692)) (fun _ hk=>hk.2) (.slice Ao128 t693.length co128)) (fun _ hk=>hk.2) (.slice Ao129 t696.length co129)) (fun _ h_=>h_.1))));(case side4=>exact (Kd.R_reads' HO_13.out).2.1);rintro e w' ⟨rfl,⟨nd,rfl⟩⟩;(try clear A109))|(go_at_call 26;(with_reducible refine (tollbarref04_Same.calls kj25 _ _ t693 _ _ x88_25 t703 _ ?side1 ?side2 ?side3 ?side4 A111.out).mono ?_);(case side1=>refine (Kd.R_reads' (e:=36) (base:=w.heap.size) (ok:=fun k_=>((True∧some k_ ≠ (.slice Ao16 t95.length co16:Value).ownBlock)∧some k_ ≠ (.slice Ao114 x88_25.length co114:Value).ownBlock)) (n:=t693.length) (c:=co128) ?_).2.2;exact (by (with_reducible repeat (first|apply Kd.R_alloc|apply Kd.R_drewN|apply Kd.R_drew));exact (Kd.R_mono (Kd.R_far (p:=⟨gb96,4,none⟩) (Kd.R_far (p:=⟨gb96,3,none⟩) (Kd.R_far (p:=⟨gb96,2,none⟩) (Kd.R_far (p:=⟨gb96,1,none⟩) (Kd.R_far (p:=⟨gb96,0,none⟩) (Kd.R_types HO695.out BK96.out (by decide)) (fun _ hk=>hk.2) (.string t99)) (fun _ hk=>hk.2) (.string t691)) (fun _ hk=>hk.2) (.int .i64 t692)) (fun _ hk=>hk.2) (.slice Ao128 t693.length co128)) (fun _ hk=>hk.2) (.slice Ao129 t696.length co129)) (fun _ h_=>h_.1))));(case side2=>exact (Kd.R_reads' HO695.out).2.1);(case side3=>refine (Kd.R_reads' (e:=36) (base:=w.heap.size) (ok:=fun k_=>(some k_ ≠ (.slice Ao16 t95.length co16:Value).ownBlock∧some k_ ≠ (.slice Ao128 t693.length co128:Value).ownBlock)) (n:=x88_25.length) (c:=co114) ?_).2.2;exact (by (with_reducible repeat (first|apply Kd.R_alloc|apply Kd.R_drewN|apply Kd.R_drew));exact (Kd.R_mono (Kd.R_far (p:=⟨gb96,4,none⟩) (Kd.R_far (p:=⟨gb96,3,none⟩) (Kd.R_far (p:=⟨gb96,2,none⟩) (Kd.R_far (p:=⟨gb96,1,none⟩) (Kd.R_far (p:=⟨gb96,0,none⟩) (Kd.R_types HO_88.out BK96.out (by decide)) (fun _ hk=>hk.2) (.string t99)) (fun _ hk=>hk.2) (.string t691)) (fun _ hk=>hk.2) (.int .i64 t692)) (fun _ hk=>hk.2) (.slice Ao128 t693.length co128)) (fun _ hk=>hk.2) (.slice Ao129 t696.length co129)) (fun _ h_=>h_.1))));(case side4=>exact (Kd.R_reads' HO_88.out).2.1);rintro e w' ⟨rfl,⟨nd,rfl⟩⟩;(try clear A111)))
            go_ret
            exact ⟨zb3,zb37⟩
           ·replace c110:=Bool.eq_false_iff.mpr c110
            subst c110
            rw [if_neg (show ¬ (false=true) by decide)] at H
            exact absurd ((Option.some.inj H).trans HRT.out) zb52
          ·rw [if_neg c107] at H
           have c107b0:=beq_eq_false_iff_ne.mpr c107
           have c107b1:=bne_iff_ne.mpr c107
           exact absurd ((Option.some.inj H).trans HRT.out) zb52
         ·rw [if_neg c105] at H
          have c105b0:=beq_eq_false_iff_ne.mpr c105
          have c105b1:=bne_iff_ne.mpr c105
          exact absurd ((Option.some.inj H).trans HRT.out) zb52
        ·rw [if_neg c62] at H
         exact absurd H zb42
       ·rw [if_neg c61] at H
        exact absurd H zb42
/-- THE ONE PURE STATEMENT of tollbarlaw08_HttpBack: yours. -/
def tollbarlaw08_HttpBack.Pure:Prop := ∀ (l0:List Int) (l1:List Int) (a2:Int) (a3:Bool),l0.length ≤ maxLen → l0.length * 1 ≤ 140737488351232 → (∀ x ∈ l0,(Lit.int .u8 x).wf=true) → l1.length ≤ maxLen → l1.length * 1 ≤ 140737488351232 → (∀ x ∈ l1,(Lit.int .u8 x).wf=true) → (Lit.int .i64 a2).wf=true → ∃ k,tollbarlaw08_HttpBack.f k l0 l1 a2 a3=some true
end Go.Proofs.YtagffbblalldiaaGreatDoor.P
namespace Go.Proofs.YtagffbblalldiaaGreatDoor.Pure
open Go.RowKit Go.Proofs.YtagffbblalldiaaGreatDoor.P Go.Proofs.YtagffbblalldiaaGreatDoorW.PrintWords Go.Proofs.YtagffbblalldiaaGreatDoorW.PrintLast Go.Proofs.YtagffbblalldiaaGreatDoorW.PrintMore
set_option linter.unusedVariables false
set_option linter.unusedSimpArgs false
theorem str_append (xs ys:List Int):strOfNums (xs ++ ys)=strOfNums xs ++ strOfNums ys:=by
 apply ByteArray.ext
 simp [strOfNums]
theorem str_size (xs:List Int):(strOfNums xs).size=xs.length:=strOfNums_size xs
theorem rd_append_left (l x:List Int) (i:Int) (h0:0 ≤ i) (h:i < (l.length:Int)):rd (l ++ x) i=rd l i:=by
 unfold rd
 rw [List.getD_eq_getElem?_getD,List.getD_eq_getElem?_getD,List.getElem?_append_left (by omega)]
theorem rd_append_right (l x:List Int) (i:Int) (h:(l.length:Int) ≤ i):rd (l ++ x) i=rd x (i - l.length):=by
 unfold rd
 rw [List.getD_eq_getElem?_getD,List.getD_eq_getElem?_getD,List.getElem?_append_right (by omega)]
 congr 2
 omega
theorem take_two (l:List Int) (i:Int) (h0:0 ≤ i) (h:i + 1 < (l.length:Int)):l.take (i + 2).toNat=l.take i.toNat ++ [rd l i,rd l (i + 1)]:=by
 obtain ⟨n,rfl⟩:=Int.eq_ofNat_of_zero_le h0
 have e1:((n:Int) + 2).toNat=n + 1 + 1:=by omega
 have h1:n + 1 < l.length:=by omega
 rw [e1,List.take_succ_eq_append_getElem h1,List.take_succ_eq_append_getElem (by omega)]
 have e2:((n:Int) + 1).toNat=n + 1:=by omega
 simp only [Int.toNat_natCast,rd,e2,List.getD_eq_getElem?_getD,List.getElem?_eq_getElem h1,List.getElem?_eq_getElem (show n < l.length by omega),Option.getD_some,List.append_assoc,List.cons_append,List.nil_append]
theorem w64 {i:Int} {n:Nat} (c:Int) (h0:0 ≤ i) (h:i < (n:Int)) (hn:n ≤ 140737488355328) (hc0 : -3 ≤ c) (hc:c ≤ 3):wrap64 (i + c)=i + c:=by
 unfold wrap64;omega
theorem toList_data (s:ByteArray):s.toList=s.data.toList:=by
 simp [ByteArray.toList_eq]
theorem isEmpty_size (s:ByteArray):s.toList.isEmpty=decide (s.size=0):=by
 rw [toList_data,Bool.eq_iff_iff,List.isEmpty_iff,decide_eq_true_eq,← data_length]
 exact List.length_eq_zero_iff.symm
theorem bytes_app (a b:ByteArray):bytesOf (a ++ b)=bytesOf a ++ bytesOf b:=by
 unfold bytesOf
 rw [ByteArray.data_append,Array.toList_append,List.map_append]
def mkS (l:List UInt8):ByteArray:=⟨l.toArray⟩
theorem mkS_data (l:List UInt8):(mkS l).data.toList=l:=by simp [mkS]
theorem mkS_self (s:ByteArray):mkS s.data.toList=s:=by simp [mkS]
theorem mkS_size (l:List UInt8):(mkS l).size=l.length:=by rw [← data_length,mkS_data]
theorem mkS_toList (l:List UInt8):(mkS l).toList=l:=by rw [toList_data,mkS_data]
theorem wn0 (n:Nat) (h:n ≤ 4398046511104):wrap64 ((n:Int) + 0)=(n:Int):=by unfold wrap64;omega
theorem wn1 (n:Nat) (h:n ≤ 4398046511104):wrap64 ((n:Int) + 1)=(n:Int) + 1:=by unfold wrap64;omega
theorem wnm (n:Nat) (h:n ≤ 4398046511104):wrap64 ((n:Int) + 1 - 1)=(n:Int):=by unfold wrap64;omega
theorem wi1 (i:Int) (h0:0 ≤ i) (h:i ≤ 4398046511104):wrap64 (i + 1)=i + 1:=by unfold wrap64;omega
theorem rdOf_mk (ps:List (List UInt8)) (i:Int) (h0:0 ≤ i) (h:i < (ps.length:Int)):rdOf ByteArray.empty (ps.map mkS) i=mkS (ps.getD i.toNat []):=by
 unfold rdOf
 rw [List.getD_eq_getElem?_getD,List.getElem?_map,List.getD_eq_getElem?_getD,List.getElem?_eq_getElem (by omega)]
 rfl
theorem bt_mk (l:List UInt8) (i:Nat) (h:i < l.length):bt (mkS l) i=((l[i]).toNat:Int):=by
 unfold bt
 have hs:(mkS l).size=l.length:=mkS_size l
 rw [dif_pos (by rw [Int.toNat_natCast];omega)]
 have:(mkS l)[((i:Nat):Int).toNat]'(by rw [Int.toNat_natCast];omega)=l[i]:=by simp [mkS,ByteArray.getElem_eq_getElem_data]
 rw [this]
theorem mkS_extract (l:List UInt8) (a b:Nat):(mkS l).extract a b=mkS ((l.drop a).take (b - a)):=by
 rw [← mkS_self ((mkS l).extract a b),Lib.extract_data,mkS_data]
theorem mkS_bytes (l:List UInt8):bytesOf (mkS l)=l.map fun b=>(b.toNat:Int):=by unfold bytesOf;rw [mkS_data]
theorem toList_mk (s:ByteArray):s.toList=s.data.toList:=by simp [ByteArray.toList_eq]
theorem mkS_append (a b:List UInt8):mkS a ++ mkS b=mkS (a ++ b):=by
 apply ByteArray.ext
 simp [mkS]
theorem toList_inj {a b:ByteArray} (h:a.toList=b.toList):a=b:=by
 rw [toList_mk,toList_mk] at h
 rw [← mkS_self a,h,mkS_self]
theorem str_bytes (l:List UInt8):strOfNums (l.map fun b=>(b.toNat:Int))=mkS l:=by
 unfold strOfNums mkS
 rw [List.map_map]
 congr 2
 conv=>rhs;rw [← List.map_id l]
 exact List.map_congr_left fun b _=>by simp
theorem index_append (sp:UInt8) (a b:List UInt8) (h:sp ∉ a):Lib.indexByte (a ++ sp :: b) sp=a.length:=by
 induction a with
 | nil=>simp [Lib.indexByte]
 | cons c a ih =>
  have hc:c ≠ sp:=fun e=>h (e ▸ List.mem_cons_self ..)
  have hb:(c == sp)=false:=by simpa using hc
  have h3:=ih (fun e=>h (List.mem_cons_of_mem _ e))
  have hn:((a.length:Int) == -1)=false:=by simp only [beq_eq_false_iff_ne];omega
  simp [Lib.indexByte,hb,h3,hn]
theorem index_none (sp:UInt8) (a:List UInt8) (h:sp ∉ a):Lib.indexByte a sp = -1:=by
 induction a with
 | nil=>simp [Lib.indexByte]
 | cons c a ih =>
  have hc:c ≠ sp:=fun e=>h (e ▸ List.mem_cons_self ..)
  have hb:(c == sp)=false:=by simpa using hc
  have h3:=ih (fun e=>h (List.mem_cons_of_mem _ e))
  simp [Lib.indexByte,hb,h3]
theorem slIndex (s:List UInt8) (sp:UInt8):stringslite_Index.f (mkS s) ⟨#[sp]⟩=some (Lib.indexByte s sp):=by
 show some (Lib.indexByte (mkS s).data.toList sp)=_
 rw [mkS_data]
theorem Cut_no (sp:UInt8) (s:List UInt8) (h:sp ∉ s):strings_Cut.f (mkS s) ⟨#[sp]⟩=some (mkS s,(⟨#[]⟩:ByteArray),false):=by
 unfold strings_Cut.f stringslite_Cut.f
 rw [slIndex,index_none sp s h,Option.bind_some,if_neg (by decide),Option.bind_some]
theorem Cut_yes (sp:UInt8) (a b:List UInt8) (h:sp ∉ a) (hn:(a ++ sp :: b).length ≤ 140737488355328):strings_Cut.f (mkS (a ++ sp :: b)) ⟨#[sp]⟩=some (mkS a,mkS b,true):=by
 unfold strings_Cut.f stringslite_Cut.f
 have hl:(a ++ sp :: b).length=a.length + b.length + 1:=by rw [List.length_append,List.length_cons];omega
 rw [hl] at hn
 have h1:((⟨#[sp]⟩:ByteArray).size:Int)=1:=rfl
 have hw:wrap64 ((a.length:Int) + 1)=(a.length:Int) + 1:=by unfold wrap64;omega
 have e1:((a.length:Int) + 1).toNat=a.length + 1:=by omega
 rw [slIndex,index_append sp a b h,Option.bind_some,h1,hw,mkS_size,hl,if_pos (by omega),if_pos (by omega),if_pos (by omega),if_pos (by omega),if_pos (by omega),Option.bind_some,e1,Int.toNat_natCast,mkS_extract,mkS_extract,List.drop_zero,Nat.sub_zero,List.take_left,← List.drop_drop,List.drop_left]
 rw [show List.drop 1 (sp :: b)=b from rfl,List.take_of_length_le (by omega)]
/-- What stands ahead of the first sp,and behind it. -/
theorem split_first (sp:UInt8) (s:List UInt8):sp ∉ s ∨ ∃ a b,s=a ++ sp :: b∧sp ∉ a:=by
 induction s with
 | nil=>exact .inl (by simp)
 | cons c s ih =>
  by_cases hc:c=sp
  ·exact .inr ⟨[],s,by rw [hc];rfl,by simp⟩
  ·rcases ih with h|⟨a,b,rfl,h⟩
   ·refine .inl fun hm=>?_
    rcases List.mem_cons.1 hm with e|e
    ·exact hc e.symm
    ·exact h e
   ·refine .inr ⟨c :: a,b,rfl,fun hm=>?_⟩
    rcases List.mem_cons.1 hm with e|e
    ·exact hc e.symm
    ·exact h e
def tokB (c:Int):Bool:=(sign_Token_1.f c).getD false
def valB (c:Int):Bool:=(sign_Value_1.f c).getD false
theorem Token_f (s:ByteArray) (h:s.size ≤ 140737488355328):sign_Token.f s=some (!s.toList.isEmpty && (bytesOf s).all tokB):=if_pos h
theorem Value_f (s:ByteArray) (h:s.size ≤ 140737488355328):sign_Value.f s=some ((bytesOf s).all valB):=if_pos h
/-- Is a byte a blank? -/
def blk (b:UInt8):Bool:=([32,9]:List UInt8).contains b
/-- A text without blanks at its ends. -/
def trm (l:List UInt8):List UInt8:=(l.reverse.dropWhile blk).reverse.dropWhile blk
/-- No blank at either end. -/
def Clean (l:List UInt8):Prop:=(∀ a,l.head? = some a → blk a=false) ∧ ∀ a,l.getLast? = some a → blk a=false
theorem dw_self {p:UInt8 → Bool} {l:List UInt8} (h : ∀ a,l.head? = some a → p a=false):l.dropWhile p=l:=by
 cases l with
 | nil=>rfl
 | cons a l=>simp [List.dropWhile,h a rfl]
theorem dw_head (p:UInt8 → Bool) (l:List UInt8) : ∀ a,(l.dropWhile p).head? = some a → p a=false:=by
 induction l with
 | nil=>intro a h;simp at h
 | cons b l ih =>
  intro a h
  cases hb:p b
  ·simp [List.dropWhile,hb] at h;rw [← h];exact hb
  ·simp only [List.dropWhile,hb] at h;exact ih a h
theorem dw_append {p:UInt8 → Bool} (pre t:List UInt8) (h : ∀ a ∈ pre,p a=true):(pre ++ t).dropWhile p=t.dropWhile p:=by
 induction pre with
 | nil=>rfl
 | cons b l ih =>
  simp only [List.cons_append,List.dropWhile,h b (List.mem_cons_self ..)]
  exact ih (fun a ha=>h a (List.mem_cons_of_mem _ ha))
theorem dw_split (p:UInt8 → Bool) (l:List UInt8) : ∃ pre,l=pre ++ l.dropWhile p ∧ ∀ a ∈ pre,p a=true:=by
 induction l with
 | nil=>exact ⟨[],rfl,by simp⟩
 | cons b l ih =>
  obtain ⟨pre,h,hp⟩:=ih
  cases hb:p b
  ·exact ⟨[],by simp [List.dropWhile,hb],by simp⟩
  ·refine ⟨b :: pre,by simp only [List.dropWhile,hb,List.cons_append];rw [← h],?_⟩
   intro a ha
   rcases List.mem_cons.1 ha with rfl|ha
   ·exact hb
   ·exact hp a ha
theorem trm_clean (l:List UInt8):Clean (trm l):=by
 refine ⟨dw_head _ _,fun a ha=>?_⟩
 obtain ⟨pre,h,_⟩:=dw_split blk (l.reverse.dropWhile blk).reverse
 have hl:(l.reverse.dropWhile blk).reverse.getLast? = some a:=by
  rw [h,List.getLast?_append]
  unfold trm at ha
  rw [ha]
  rfl
 rw [List.getLast?_reverse] at hl
 exact dw_head _ _ a hl
theorem trm_self {l:List UInt8} (h:Clean l):trm l=l:=by
 unfold trm
 rw [dw_self (l:=l.reverse) (by intro a ha;rw [List.head?_reverse] at ha;exact h.2 a ha),List.reverse_reverse,dw_self h.1]
theorem trm_around (pre t post : List UInt8) (ht : Clean t) (h1 : ∀ a ∈ pre, blk a = true) (h2 : ∀ a ∈ post, blk a = true) : trm (pre ++ t ++ post) = t := by
  unfold trm
  rw [List.reverse_append, dw_append _ _ (by intro a ha; exact h2 a (List.mem_reverse.1 ha)), List.reverse_append]
  by_cases he : t = []
  · subst he
    have := dw_append (p := blk) pre.reverse [] (by intro a ha; exact h1 a (List.mem_reverse.1 ha))
    simp only [List.append_nil] at this
    simp [this]
  · have : (t.reverse ++ pre.reverse).dropWhile blk = t.reverse ++ pre.reverse := dw_self (by
      intro a ha
      rw [List.head?_append] at ha
      obtain ⟨b, hb⟩ : ∃ b, t.reverse.head? = some b := by
        cases hh : t.reverse with
        | nil => exact absurd (List.reverse_eq_nil_iff.1 hh) he
        | cons b _ => exact ⟨b, rfl⟩
      rw [hb] at ha
      obtain rfl : b = a := by simpa using ha
      rw [List.head?_reverse] at hb
      exact ht.2 _ hb)
    rw [this, List.reverse_append, List.reverse_reverse, List.reverse_reverse, dw_append _ _ h1, dw_self ht.1]
theorem trm_length (l:List UInt8):(trm l).length ≤ l.length:=by
 unfold trm
 have h1:((l.reverse.dropWhile blk).reverse.dropWhile blk).length ≤ (l.reverse.dropWhile blk).reverse.length:=(List.dropWhile_suffix _).length_le
 have h2:(l.reverse.dropWhile blk).length ≤ l.reverse.length:=(List.dropWhile_suffix _).length_le
 rw [List.length_reverse] at h1 h2
 omega
theorem Trim_f (s:ByteArray) (h:s.size ≤ 9223372036854775807):sign_Trim.f s=some ⟨(trm s.data.toList).toArray⟩:=by
 unfold sign_Trim.f strings_Trim.f
 rw [if_pos ⟨h,by decide,by decide⟩]
 rfl
/-- Is a field right? -/
def rightB (a t:ByteArray):Bool:=decide (a.size ≤ 100) && ((!a.toList.isEmpty && (bytesOf a).all tokB) && (decide (t.size ≤ 1000) && ((bytesOf t).all valB && (mkS (trm t.data.toList)).toList == t.toList)))
theorem Trim_mk (s:ByteArray) (h:s.size ≤ 9223372036854775807):sign_Trim.f s=some (mkS (trm s.data.toList)):=Trim_f s h
theorem field_right_f (a t:ByteArray):field_right.f a t=some (rightB a t):=by
 unfold field_right.f rightB
 by_cases h1:(a.size:Int) ≤ 100
 ·rw [if_pos h1,Token_f a (by omega),Option.bind_some,decide_eq_true (show a.size ≤ 100 by omega),Bool.true_and]
  cases hT:(!a.toList.isEmpty && (bytesOf a).all tokB)
  ·rw [if_neg (by simp),Bool.false_and]
  ·rw [if_pos rfl,Bool.true_and]
   by_cases h2:(t.size:Int) ≤ 1000
   ·rw [if_pos h2,Value_f t (by omega),Option.bind_some,decide_eq_true (show t.size ≤ 1000 by omega),Bool.true_and]
    cases (bytesOf t).all valB
    ·rw [if_neg (by simp),Bool.false_and]
    ·rw [if_pos rfl,Bool.true_and,Trim_mk t (by omega),Option.bind_some]
   ·rw [if_neg h2,decide_eq_false (show ¬ t.size ≤ 1000 by omega),Bool.false_and]
 ·rw [if_neg h1,decide_eq_false (show ¬ a.size ≤ 100 by omega),Bool.false_and]
def fieldOk (l:List UInt8):Bool:=if 58 ∈ l then rightB (mkS (l.takeWhile (· != 58))) (mkS (trm ((l.dropWhile (· != 58)).drop 1))) else false
theorem take_first (sp:UInt8) (a b:List UInt8) (h:sp ∉ a):(a ++ sp :: b).takeWhile (· != sp)=a∧((a ++ sp :: b).dropWhile (· != sp)).drop 1=b:=by
 induction a with
 | nil=>simp [List.takeWhile_cons,List.dropWhile_cons]
 | cons x a ih =>
  have hx:x ≠ sp:=fun e=>h (by rw [e];exact List.mem_cons_self ..)
  have:=ih (fun e=>h (List.mem_cons_of_mem _ e))
  simp only [List.cons_append,List.takeWhile_cons,List.dropWhile_cons,bne_iff_ne,ne_eq,hx,not_false_eq_true,if_true]
  exact ⟨by rw [this.1],this.2⟩
theorem fieldOk_no (l:List UInt8) (h:58 ∉ l):fieldOk l=false:=by unfold fieldOk;rw [if_neg h]
theorem fieldOk_yes (a b:List UInt8) (h:58 ∉ a):fieldOk (a ++ 58 :: b)=rightB (mkS a) (mkS (trm b)):=by
 unfold fieldOk
 obtain ⟨e1,e2⟩:=take_first 58 a b h
 rw [if_pos (by simp),e1,e2]
theorem field_f (l:List UInt8) (hn:l.length ≤ 140737488355328) : ∃ x y,field_Parse.f (mkS l)=some (x,y,if fieldOk l=true then 0 else 20):=by
 unfold field_Parse.f
 rcases split_first 58 l with h|⟨a,b,rfl,h⟩
 ·rw [Cut_no 58 l h,Option.bind_some,fieldOk_no l h]
  simp only
  rw [Trim_mk _ (by decide),Option.bind_some]
  exact ⟨_,_,rfl⟩
 ·rw [Cut_yes 58 a b h hn,Option.bind_some,fieldOk_yes a b h]
  simp only
  rw [Trim_mk _ (by rw [mkS_size];rw [List.length_append,List.length_cons] at hn;omega),Option.bind_some,if_pos trivial,field_right_f,Option.bind_some,mkS_data]
  cases rightB (mkS a) (mkS (trm b)) <;> exact ⟨_,_,rfl⟩
/-- The line at the place i of l,with the bound m;d bytes are left. -/
def cutAt (l:List Int) (m:Int):Nat → Int → (ByteArray × Int × Int)
 | 0,_=>((⟨#[]⟩:ByteArray),0,0)
 | d + 1,i =>
  if rd l i=10 then ((⟨#[]⟩:ByteArray),0,20)
  else if rd l i=13 then
   (if i + 1 < (l.length:Int) then (if rd l (i + 1)=10 then (strOfNums (l.take i.toNat),i + 2,0) else ((⟨#[]⟩:ByteArray),0,20)) else ((⟨#[]⟩:ByteArray),0,0))
  else if m ≤ i then ((⟨#[]⟩:ByteArray),0,2) else cutAt l m d (i + 1)
theorem cut_l0 (l:List Int) (a:Int) (hn:l.length ≤ 140737488355328) (d:Nat) : ∀ (k:Nat) (i:Int),0 ≤ i → (l.length:Int) - i=d → 3 * d + 3 ≤ k →
 line_Cut.l0 k l a l (l.length:Int) i=some (cutAt l (mx a 0) d i):=by
 induction d with
 | zero =>
  intro k i h0 hd hk
  obtain ⟨k,rfl⟩ : ∃ m,k=m + 1:=⟨k - 1,by omega⟩
  simp only [line_Cut.l0,cutAt];rw [if_neg (by omega)]
 | succ d ih =>
  intro k i h0 hd hk
  obtain ⟨k,rfl⟩ : ∃ m,k=m + 3:=⟨k - 3,by omega⟩
  have hlt:i < (l.length:Int):=by omega
  have hw1:wrap64 (i + 1)=i + 1:=w64 1 h0 hlt hn (by omega) (by omega)
  have hw2:wrap64 (i + 2)=i + 2:=w64 2 h0 hlt hn (by omega) (by omega)
  have ih' := ih k (i + 1) (by omega) (by omega) (by omega)
  unfold line_Cut.l0
  rw [if_pos hlt,if_pos h0,if_pos hlt]
  unfold line_Cut.j1 line_Cut.j2
  simp only [cutAt,hw1,hw2,ih']
  by_cases h10:rd l i=10
  ·simp [h10]
  ·rw [if_neg h10]
   by_cases h13:rd l i=13
   ·simp only [h13]
    by_cases h1:i + 1 < (l.length:Int)
    ·by_cases hr:rd l (i + 1)=10
     ·have hne : ¬ (i + 1=(l.length:Int)):=by omega
      have hle:i ≤ (l.length:Int):=by omega
      have h01:0 ≤ i + 1:=by omega
      simp [h1,hr,hne,hle,h01,h0]
     ·have h01:0 ≤ i + 1:=by omega
      simp [h1,hr,h01]
    ·have he:i + 1=(l.length:Int):=by omega
     simp [he]
   ·simp only [h13,if_false,h10]
    by_cases hm:mx a 0 ≤ i
    ·simp [hm]
    ·simp [hm]
/-- What Cut tells. -/
def cutSpec (l:List Int) (a:Int):(ByteArray × Int × Int):=cutAt l (mx a 0) l.length 0
theorem cut_f (l:List Int) (a:Int) (hn:l.length ≤ 140737488355328) (k:Nat) (hk:3 * l.length + 3 ≤ k):line_Cut.f k l a=some (cutSpec l a):=by
 unfold line_Cut.f cutSpec
 exact cut_l0 l a hn l.length k 0 (by omega) (by omega) hk
theorem cutA_more (l x:List Int) (m:Int) (d:Nat) : ∀ (i:Int),0 ≤ i → (l.length:Int) - i=d →
 ((cutAt l m d i).2.1 > 0 ∨ (cutAt l m d i).2.2 ≠ 0) → cutAt (l ++ x) m (d + x.length) i=cutAt l m d i:=by
 induction d with
 | zero=>intro i h0 hd h;simp [cutAt] at h
 | succ d ih =>
  intro i h0 hd h
  have hlt:i < (l.length:Int):=by omega
  rw [show d + 1 + x.length=(d + x.length) + 1 by omega]
  simp only [cutAt] at h ⊢
  have ih' := ih (i + 1) (by omega) (by omega)
  rw [rd_append_left l x i h0 hlt]
  have htk:(l ++ x).take i.toNat=l.take i.toNat:=List.take_append_of_le_length (by omega)
  have hlen:((l ++ x).length:Int)=l.length + x.length:=by simp
  by_cases h10:rd l i=10
  ·simp [h10]
  ·rw [if_neg h10] at h ⊢
   rw [if_neg h10]
   by_cases h13:rd l i=13
   ·rw [if_pos h13] at h ⊢
    rw [if_pos h13]
    by_cases h1:i + 1 < (l.length:Int)
    ·rw [if_pos h1] at h ⊢
     rw [if_pos (by omega),rd_append_left l x (i + 1) (by omega) h1,htk]
    ·rw [if_neg h1] at h
     simp at h
   ·rw [if_neg h13] at h ⊢
    rw [if_neg h13]
    by_cases hm:m ≤ i
    ·rw [if_pos hm,if_pos hm]
    ·rw [if_neg hm] at h ⊢
     rw [if_neg hm]
     exact ih' h
theorem cutA_shape (l:List Int) (m:Int) (d:Nat) : ∀ (i:Int),0 ≤ i → (l.length:Int) - i=d →
 ((cutAt l m d i).2.1 > 0∧(cutAt l m d i).2.1 ≤ l.length∧strOfNums (l.take (cutAt l m d i).2.1.toNat)=(cutAt l m d i).1 ++ (⟨#[13,10]⟩:ByteArray)∧((cutAt l m d i).1.size:Int)=(cutAt l m d i).2.1 - 2∧(cutAt l m d i).2.2=0)
 ∨ ((cutAt l m d i).2.1=0∧(cutAt l m d i).1=(⟨#[]⟩:ByteArray)):=by
 induction d with
 | zero=>intro i h0 hd;right;simp [cutAt]
 | succ d ih =>
  intro i h0 hd
  have hlt:i < (l.length:Int):=by omega
  have ih' := ih (i + 1) (by omega) (by omega)
  simp only [cutAt]
  by_cases h10:rd l i=10
  ·simp [h10]
  ·rw [if_neg h10]
   by_cases h13:rd l i=13
   ·rw [if_pos h13]
    by_cases h1:i + 1 < (l.length:Int)
    ·rw [if_pos h1]
     by_cases hr:rd l (i + 1)=10
     ·rw [if_pos hr]
      left
      refine ⟨by show i + 2 > 0;omega,by show i + 2 ≤ _;omega,?_,?_,rfl⟩
      ·show strOfNums (l.take (i + 2).toNat)=_
       rw [take_two l i h0 h1,str_append,h13,hr]
       rfl
      ·show ((strOfNums (l.take i.toNat)).size:Int)=i + 2 - 2
       rw [str_size,List.length_take]
       omega
     ·rw [if_neg hr];right;exact ⟨rfl,rfl⟩
    ·rw [if_neg h1];right;exact ⟨rfl,rfl⟩
   ·rw [if_neg h13]
    by_cases hm:m ≤ i
    ·rw [if_pos hm];right;exact ⟨rfl,rfl⟩
    ·rw [if_neg hm];exact ih'
theorem cutS_shape (l:List Int) (m:Int) :
 (cutSpec l m).2.1 > 0∧(cutSpec l m).2.1 ≤ l.length∧((cutSpec l m).1.size:Int)=(cutSpec l m).2.1 - 2∧(cutSpec l m).2.2=0 ∨ (cutSpec l m).2.1=0∧(cutSpec l m).1=(⟨#[]⟩:ByteArray):=by
 rcases cutA_shape l (mx m 0) l.length 0 (by omega) (by omega) with h|h
 ·exact Or.inl ⟨h.1,h.2.1,h.2.2.2.1,h.2.2.2.2⟩
 ·exact Or.inr h
theorem fold_tells (s:ByteArray) (hn:s.size ≤ 140737488355328):sign_Fold.f s=some (strOfNums ((bytesOf s).map foldC)):=if_pos hn
def Bytes (xs:List Int):Prop := ∀ x ∈ xs,0 ≤ x∧x ≤ 255
theorem bytes_of (s:ByteArray):Bytes (bytesOf s):=by
 intro x hx
 obtain ⟨b,_,rfl⟩:=List.mem_map.1 hx
 have:=b.toNat_lt
 omega
theorem foldC_byte (x:Int) (h0:0 ≤ x) (h1:x ≤ 255):0 ≤ foldC x∧foldC x ≤ 255:=by unfold foldC;split <;> omega
theorem bytes_fold {xs:List Int} (h:Bytes xs):Bytes (xs.map foldC):=by
 intro x hx
 obtain ⟨y,hy,rfl⟩:=List.mem_map.1 hx
 exact foldC_byte y (h y hy).1 (h y hy).2
theorem bytes_str {xs:List Int} (h:Bytes xs):bytesOf (strOfNums xs)=xs:=by
 unfold bytesOf
 rw [strOfNums_data,List.map_map]
 conv=>rhs;rw [← List.map_id xs]
 refine List.map_congr_left fun x hx=>?_
 have:=h x hx
 show ((UInt8.ofNat x.toNat).toNat:Int)=x
 rw [UInt8.toNat_ofNat']
 omega
theorem str_inj {xs ys:List Int} (hx:Bytes xs) (hy:Bytes ys):((strOfNums xs).toList == (strOfNums ys).toList)=decide (xs=ys):=by
 rw [Bool.eq_iff_iff,beq_iff_eq,decide_eq_true_eq]
 refine ⟨fun e=>?_,fun e=>by rw [e]⟩
 rw [← bytes_str hx,← bytes_str hy]
 unfold bytesOf
 rw [← toList_data,← toList_data,e]
theorem same_tells (a b:ByteArray) (ha:a.size ≤ 140737488355328) (hb:b.size ≤ 140737488355328):sign_Same.f a b=some (decide ((bytesOf a).map foldC=(bytesOf b).map foldC)):=by
 unfold sign_Same.f
 by_cases h:(a.size:Int)=b.size
 ·rw [if_pos h,fold_tells a ha,Option.bind_some,fold_tells b hb,Option.bind_some,str_inj (bytes_fold (bytes_of a)) (bytes_fold (bytes_of b))]
 ·rw [if_neg h]
  have hne : ¬ ((bytesOf a).map foldC=(bytesOf b).map foldC):=by
   intro e
   have:=congrArg List.length e
   rw [List.length_map,List.length_map,bytesOf_length,bytesOf_length] at this
   omega
  rw [decide_eq_false hne]
/-- How many commas. -/
def cntC (sp:UInt8):List UInt8 → Nat
 | []=>0
 | c :: l=>if c=sp then cntC sp l + 1 else cntC sp l
theorem cntC_count {sp:UInt8} (l:List UInt8):l.count sp=cntC sp l:=by
 induction l with
 | nil=>rfl
 | cons c l ih=>rw [List.count_cons,ih];by_cases hc:c=sp <;> simp [cntC,hc]
theorem cntC_append {sp:UInt8} (a b:List UInt8):cntC sp (a ++ b)=cntC sp a + cntC sp b:=by
 rw [← cntC_count,← cntC_count,← cntC_count,List.count_append]
theorem cntC_none {sp:UInt8} (l:List UInt8):cntC sp l=0 ↔ sp ∉ l:=by rw [← cntC_count];exact List.count_eq_zero
theorem cntC_le {sp:UInt8} (l:List UInt8):cntC sp l ≤ l.length:=by rw [← cntC_count];exact List.count_le_length
/-- The parts between commas. -/
def pcs (sp:UInt8):List UInt8 → List (List UInt8)
 | []=>[[]]
 | c :: l=>if c=sp then [] :: pcs sp l else (match pcs sp l with|p :: ps=>(c :: p) :: ps|[]=>[[c]])
theorem pcs_ne {sp:UInt8} (l:List UInt8) : ∃ p ps,pcs sp l=p :: ps:=by
 induction l with
 | nil=>exact ⟨[],[],rfl⟩
 | cons c l ih =>
  obtain ⟨p,ps,h⟩:=ih
  by_cases hc:c=sp
  ·exact ⟨[],pcs sp l,by simp [pcs,hc]⟩
  ·exact ⟨c :: p,ps,by simp [pcs,hc,h]⟩
theorem pcs_none {sp:UInt8} (l:List UInt8) (h:sp ∉ l):pcs sp l=[l]:=by
 induction l with
 | nil=>rfl
 | cons c l ih =>
  have hc:c ≠ sp:=fun e=>h (e ▸ List.mem_cons_self ..)
  simp [pcs,hc,ih (fun e=>h (List.mem_cons_of_mem _ e))]
theorem pcs_append {sp:UInt8} (a b:List UInt8):pcs sp (a ++ sp :: b)=pcs sp a ++ pcs sp b:=by
 induction a with
 | nil=>simp [pcs]
 | cons c a ih =>
  by_cases hc:c=sp
  ·simp [pcs,hc,ih]
  ·obtain ⟨p,ps,hp⟩:=pcs_ne (sp:=sp) a
   simp [pcs,hc,ih,hp]
theorem pcs_length {sp:UInt8} (l:List UInt8):(pcs sp l).length=cntC sp l + 1:=by
 induction l with
 | nil=>rfl
 | cons c l ih =>
  by_cases hc:c=sp
  ·simp [pcs,cntC,hc,ih]
  ·obtain ⟨p,ps,hp⟩:=pcs_ne (sp:=sp) l
   rw [hp] at ih
   simp only [pcs,hc,if_false,hp,cntC]
   simpa using ih
theorem pcs_le {sp:UInt8} (l:List UInt8) : ∀ p ∈ pcs sp l,p.length ≤ l.length:=by
 induction l with
 | nil=>intro p hp;simp [pcs] at hp;simp [hp]
 | cons c l ih =>
  intro p hp
  by_cases hc:c=sp
  ·simp only [pcs,hc,if_true] at hp
   rcases List.mem_cons.1 hp with rfl|hp
   ·simp
   ·have:=ih p hp;simp;omega
  ·obtain ⟨q,qs,hq⟩:=pcs_ne (sp:=sp) l
   simp only [pcs,hc,if_false,hq] at hp
   rcases List.mem_cons.1 hp with rfl|hp
   ·have:=ih q (by rw [hq];exact List.mem_cons_self ..);simp;omega
   ·have:=ih p (by rw [hq];exact List.mem_cons_of_mem _ hp);simp;omega
/-- What Split tells. -/
theorem index_splitC {sp:UInt8} (l:List UInt8) (h:0 < cntC sp l) : ∃ a b,l=a ++ sp :: b∧sp ∉ a∧Lib.indexByte l sp=a.length:=by
 induction l with
 | nil=>simp [cntC] at h
 | cons c l ih =>
  by_cases hc:c=sp
  ·exact ⟨[],l,by simp [hc],by simp,by simp [Lib.indexByte,hc]⟩
  ·have h' : 0 < cntC sp l:=by simpa [cntC,hc] using h
   obtain ⟨a,b,h1,h2,h3⟩:=ih h'
   refine ⟨c :: a,b,by simp [h1],?_,?_⟩
   ·intro hm
    rcases List.mem_cons.1 hm with e|e
    ·exact hc e.symm
    ·exact h2 e
   ·have hb:(c == sp)=false:=by simpa using hc
    have hn:((a.length:Int) == -1)=false:=by simp only [beq_eq_false_iff_ne];omega
    simp [Lib.indexByte,hb,h3,hn]
theorem gs_endC {sp:UInt8} (k:Nat) (s:ByteArray) (x3:Int) (x9:List ByteArray) (i:Nat) (hc:sp ∉ s.data.toList) (hx:x3=i) (hl:x9.length=i + 1) (hi:i ≤ 4398046511104) :
 strings_genSplit.l0 (k + 1) s ⟨#[sp]⟩ 0 x3 x9 i=some (x9.take i ++ (pcs sp s.data.toList).map mkS):=by
 simp only [strings_genSplit.l0]
 rw [if_neg (by omega),if_pos (by omega),if_pos (by omega),wn1 i hi,if_pos (by omega),if_pos (by omega),pcs_none _ hc]
 have e1:((i:Int) + 1).toNat=i + 1:=by omega
 rw [e1,Int.toNat_natCast,List.take_succ_eq_append_getElem (by rw [List.length_set];omega),List.take_set_of_le (Nat.le_refl _)]
 simp [mkS_self]
theorem extract_midC {sp : UInt8} (s : ByteArray) (a b : List UInt8) (hab : s.data.toList = a ++ sp :: b) : (s.extract (a.length + 1) s.size).data.toList = b ∧ s.extract 0 a.length = mkS a ∧ (s.extract (a.length + 1) s.size).size ≤ s.size := by
  have e2 : (s.extract (a.length + 1) s.size).data.toList = b := by
    rw [Lib.extract_to_end, hab, ← List.drop_drop, List.drop_left]; rfl
  refine ⟨e2, ?_, ?_⟩
  · have : (s.extract 0 a.length).data.toList = a := by
      rw [Lib.extract_data, hab, List.drop_zero, Nat.sub_zero, List.take_left]
    rw [← mkS_self (s.extract 0 _), this]
  · have hlen : a.length + b.length + 1 = s.size := by rw [← data_length, hab]; simp; omega
    rw [← data_length, e2]
    omega
theorem gs_stepC {sp:UInt8} (k:Nat) (s:ByteArray) (x3:Int) (x9:List ByteArray) (i:Nat) (a b:List UInt8) (hab:s.data.toList=a ++ sp :: b) (hidx:Lib.indexByte s.data.toList sp=a.length) (hx:(i:Int) < x3) (hl:i < x9.length) (hs:s.size ≤ 4398046511104) (hi:i ≤ 4398046511104) :
 ∀ R,strings_genSplit.l0 k (s.extract (a.length + 1) s.size) ⟨#[sp]⟩ 0 x3 (x9.set i (mkS a)) ((i:Int) + 1)=R → strings_genSplit.l0 (k + 1) s ⟨#[sp]⟩ 0 x3 x9 i=R:=by
 intro R hR
 have hlen:a.length + b.length + 1=s.size:=by rw [← data_length,hab];simp;omega
 have hix:strings_Index.f s ⟨#[sp]⟩=some (a.length:Int):=by
  show some (Lib.indexByte s.data.toList sp)=_
  rw [hidx]
 have hs1:((⟨#[sp]⟩:ByteArray).size:Int)=1:=rfl
 have e1:((a.length:Int) + 1).toNat=a.length + 1:=by omega
 obtain ⟨_,e3,_⟩:=extract_midC s a b hab
 simp only [strings_genSplit.l0]
 rw [if_pos hx,hix]
 rw [Option.bind_some]
 rw [if_neg (by omega),wn0 _ (by omega),hs1,wn1 _ (by omega),if_pos (by omega),if_pos (by omega),if_pos (by omega),if_pos (by omega),if_pos (by omega),if_pos (by omega),wn1 i hi,e1,Int.toNat_natCast,Int.toNat_natCast,e3]
 exact hR
theorem gs_l0C {sp:UInt8} (d:Nat) : ∀ (k:Nat) (s:ByteArray) (x3:Int) (x9:List ByteArray) (i:Nat),cntC sp s.data.toList=d → x3=i + d → x9.length=i + d + 1 → d + 1 ≤ k → s.size ≤ 4398046511104 →
 i + d ≤ 4398046511104 → strings_genSplit.l0 k s ⟨#[sp]⟩ 0 x3 x9 i=some (x9.take i ++ (pcs sp s.data.toList).map mkS):=by
 induction d with
 | zero =>
  intro k s x3 x9 i hc hx hl hk hs hid
  obtain ⟨k,rfl⟩ : ∃ m,k=m + 1:=⟨k - 1,by omega⟩
  exact gs_endC k s x3 x9 i ((cntC_none _).1 hc) (by omega) (by omega) (by omega)
 | succ d ih =>
  intro k s x3 x9 i hc hx hl hk hs hid
  obtain ⟨k,rfl⟩ : ∃ m,k=m + 1:=⟨k - 1,by omega⟩
  obtain ⟨a,b,hab,ha,hidx⟩:=index_splitC (sp:=sp) s.data.toList (by omega)
  obtain ⟨e2,_,e4⟩:=extract_midC s a b hab
  have hcb:cntC sp b=d:=by
   rw [hab,cntC_append,(cntC_none a).2 ha] at hc
   simp only [cntC,if_true] at hc
   omega
  refine gs_stepC k s x3 x9 i a b hab hidx (by omega) (by omega) hs (by omega) _ ?_
  have:=ih k (s.extract (a.length + 1) s.size) x3 (x9.set i (mkS a)) (i + 1) (by rw [e2];exact hcb) (by omega) (by rw [List.length_set];omega) (by omega) (by omega) (by omega)
  rw [show (((i + 1:Nat)):Int)=(i:Int) + 1 by omega] at this
  rw [this,e2,hab,pcs_append,pcs_none a ha,List.take_succ_eq_append_getElem (by rw [List.length_set];omega),List.take_set_of_le (Nat.le_refl _)]
  simp
theorem gs_firstC {sp:UInt8} (k:Nat) (s:ByteArray) (hs:s.size ≤ 4398046511103) :
 ∀ R,strings_genSplit.l0 k s ⟨#[sp]⟩ 0 ((cntC sp s.data.toList:Nat):Int) (List.replicate (cntC sp s.data.toList + 1) (⟨#[]⟩:ByteArray)) 0=R → strings_genSplit.f (k + 1) s ⟨#[sp]⟩ 0 (-1)=R:=by
 intro R hR
 have hcl:=cntC_le (sp:=sp) s.data.toList
 rw [data_length] at hcl
 have hcf:strings_Count.f s ⟨#[sp]⟩=some ((cntC sp s.data.toList:Nat):Int):=by
  rw [← cntC_count];rfl
 obtain ⟨c,hc⟩ : ∃ c,c=cntC sp s.data.toList:=⟨_,rfl⟩
 rw [← hc] at hcf hcl hR
 have hm:mn ((c:Int) + 1) ((s.size:Int) + 1)=(c:Int) + 1:=by unfold mn;split <;> omega
 have e1:((c:Int) + 1).toNat=c + 1:=by omega
 have hne : ¬ ((⟨#[sp]⟩:ByteArray).toList=[]):=by rw [toList_data];simp
 unfold strings_genSplit.f
 rw [if_neg (by decide),if_neg hne,if_pos (by decide),hcf]
 rw [Option.bind_some]
 simp only [strings_genSplit.j0]
 rw [wn1 c (by omega),wn1 s.size (by omega),hm,wnm c (by omega),e1,if_pos (by omega),if_pos (by omega)]
 exact hR
theorem Split_fC {sp:UInt8} (s:ByteArray) (hs:s.size ≤ 4398046511103) (k:Nat) (hk:s.size + 3 ≤ k):strings_Split.f k s ⟨#[sp]⟩=some ((pcs sp s.data.toList).map mkS):=by
 obtain ⟨k,rfl⟩ : ∃ m,k=m + 1:=⟨k - 1,by omega⟩
 have hcl:=cntC_le (sp:=sp) s.data.toList
 rw [data_length] at hcl
 unfold strings_Split.f
 have:=gs_l0C (cntC sp s.data.toList) k s ((cntC sp s.data.toList:Nat):Int) (List.replicate (cntC sp s.data.toList + 1) (⟨#[]⟩:ByteArray)) 0 rfl (by omega) (by rw [List.length_replicate];omega) (by omega) (by omega) (by omega)
 rw [show ((0:Nat):Int)=0 from rfl] at this
 rw [gs_firstC k s hs _ this]
 simp
/-- The parts of a list: trimmed,the empty ones left out. -/
def commaParts (l:List UInt8):List (List UInt8):=((pcs 44 l).map trm).filter (fun p => !p.isEmpty)
theorem comma_one (l:List UInt8) (h:44 ∉ l):commaParts l=if (trm l).isEmpty then [] else [trm l]:=by
 rw [commaParts,pcs_none l h]
 cases ht:(trm l).isEmpty <;> simp [ht]
theorem split_step (ps:List (List UInt8)) (i:Int) (h0:0 ≤ i) (hlt:i < (ps.length:Int)):((ps.drop i.toNat).map trm).filter (fun p => !p.isEmpty)=(if trm (ps.getD i.toNat [])=[] then [] else [trm (ps.getD i.toNat [])]) ++ ((ps.drop (i + 1).toNat).map trm).filter (fun p => !p.isEmpty):=by
 have hl:i.toNat < ps.length:=by omega
 have hg:ps.getD i.toNat []=ps[i.toNat]:=by rw [List.getD_eq_getElem?_getD,List.getElem?_eq_getElem hl];rfl
 rw [hg,List.drop_eq_getElem_cons hl,show (i + 1).toNat=i.toNat + 1 by omega,List.map_cons,List.filter_cons]
 by_cases he:trm ps[i.toNat]=[]
 ·rw [if_pos he,he];rfl
 ·rw [if_neg he,if_pos (by simpa using he)];rfl
theorem split_l0 (ps:List (List UInt8)) (hl : ∀ p ∈ ps,p.length ≤ 4398046511104) (hn:ps.length ≤ 4398046511104) (d:Nat) : ∀ (k:Nat) (out:List ByteArray) (i:Int),0 ≤ i → (ps.length:Int) - i=d → d + 1 ≤ k → (out.length:Int) ≤ i →
 sign_Split.l0 k out (ps.map mkS) (ps.length:Int) i=some (out ++ (((ps.drop i.toNat).map trm).filter (fun p => !p.isEmpty)).map mkS):=by
 induction d with
 | zero =>
  intro k out i h0 hd hk ho
  obtain ⟨k,rfl⟩ : ∃ m,k=m + 1:=⟨k - 1,by omega⟩
  simp only [sign_Split.l0]
  rw [if_neg (by omega),List.drop_of_length_le (by omega)]
  simp
 | succ d ih =>
  intro k out i h0 hd hk ho
  obtain ⟨k,rfl⟩ : ∃ m,k=m + 1:=⟨k - 1,by omega⟩
  have hlt:i.toNat < ps.length:=by omega
  have hg:ps.getD i.toNat []=ps[i.toNat]:=by rw [List.getD_eq_getElem?_getD,List.getElem?_eq_getElem hlt];rfl
  have hlp:=hl _ (List.getElem_mem hlt)
  rw [← hg] at hlp
  rw [split_step ps i h0 (by omega)]
  simp only [sign_Split.l0]
  rw [if_pos (by omega),if_pos h0,if_pos (by rw [List.length_map];omega),rdOf_mk ps i h0 (by omega),Trim_f _ (by rw [mkS_size];omega),mkS_data]
  simp only [Option.bind_some,wi1 i h0 (by omega)]
  rw [show (⟨(trm (ps.getD i.toNat [])).toArray⟩:ByteArray)=mkS (trm (ps.getD i.toNat [])) from rfl,mkS_toList]
  by_cases he:trm (ps.getD i.toNat [])=[]
  ·rw [if_pos he,if_pos he,ih k out (i + 1) (by omega) (by omega) (by omega) (by omega)]
   rfl
  ·rw [if_neg he,if_neg he,if_pos (by omega),ih k _ (i + 1) (by omega) (by omega) (by omega) (by rw [List.length_append];simp;omega)]
   simp only [List.map_append,List.map_cons,List.map_nil,List.append_assoc]
theorem signSplit_f (s:ByteArray) (hs:s.size ≤ 4398046511103) (k:Nat) (hk:s.size + 3 ≤ k):sign_Split.f k s=some ((commaParts s.data.toList).map mkS):=by
 unfold sign_Split.f
 have hpl:=pcs_length (sp:=44) s.data.toList
 have hcl:=cntC_le (sp:=44) s.data.toList
 rw [data_length] at hcl
 rw [Split_fC s hs k hk]
 simp only [Option.bind_some,List.length_map]
 rw [split_l0 (pcs 44 s.data.toList) (fun p hp=>by have:=pcs_le _ p hp;rw [data_length] at this;omega) (by omega) (pcs 44 s.data.toList).length k [] 0 (by omega) (by omega) (by omega) (by simp)]
 rfl
theorem rdT_at (xs:List (S36)) (i:Nat) (h:i < xs.length):rd_T36 xs (i:Int)=xs[i]:=by
 unfold rd_T36
 rw [Int.toNat_natCast,List.getD_eq_getElem?_getD,List.getElem?_eq_getElem h];rfl
theorem rdB_at (xs:List ByteArray) (i:Nat) (h:i < xs.length):rdOf ByteArray.empty xs (i:Int)=xs[i]:=by
 unfold rdOf
 rw [Int.toNat_natCast,List.getD_eq_getElem?_getD,List.getElem?_eq_getElem h];rfl
/-- The same names. -/
def sameN (a b:ByteArray):Bool:=decide ((bytesOf a).map foldC=(bytesOf b).map foldC)
theorem same_f (a b:ByteArray) (ha:a.size ≤ 140737488355328) (hb:b.size ≤ 140737488355328):sign_Same.f a b=some (sameN a b):=same_tells a b ha hb
/-- Few fields,of short texts. -/
def FB (fs:List (S36)):Prop:=fs.length ≤ 1000 ∧ ∀ f ∈ fs,f.f0.size ≤ 1048576∧f.f1.size ≤ 1048576
/-- The values of a name. -/
def getS (name:ByteArray):List (S36) → List ByteArray
 | []=>[]
 | f :: r=>if sameN f.f0 name=true then f.f1 :: getS name r else getS name r
theorem getS_len (name:ByteArray) : ∀ fs,(getS name fs).length ≤ fs.length
 | []=>Nat.le_refl _
 | f :: r=>by rw [getS];have:=getS_len name r;split <;> simp only [List.length_cons] <;> omega
theorem getS_mem (name:ByteArray) : ∀ (fs:List (S36)) (v:ByteArray),v ∈ getS name fs → ∃ f ∈ fs,v=f.f1∧sameN f.f0 name=true
 | [],v,h=>by cases h
 | f :: r,v,h=>by
  rw [getS] at h
  by_cases hs:sameN f.f0 name=true
  ·rw [if_pos hs] at h
   rcases List.mem_cons.1 h with rfl|h
   ·exact ⟨f,List.mem_cons_self,rfl,hs⟩
   ·obtain ⟨g,hg,e⟩:=getS_mem name r v h;exact ⟨g,List.mem_cons_of_mem _ hg,e⟩
  ·rw [if_neg hs] at h
   obtain ⟨g,hg,e⟩:=getS_mem name r v h;exact ⟨g,List.mem_cons_of_mem _ hg,e⟩
theorem get_l0 (name:ByteArray) (hn:name.size ≤ 1048576) (fs:List (S36)) (hf:FB fs) (d:Nat) : ∀ (k i:Nat) (out:List ByteArray),i + d=fs.length → d < k → out.length ≤ i →
 field_Get.l0 k name out fs (fs.length:Int) (i:Int)=some (out ++ getS name (fs.drop i)):=by
 have hfl:=hf.1
 induction d with
 | zero =>
  intro k i out hi hk ho
  obtain ⟨k,rfl⟩ : ∃ m,k=m + 1:=⟨k - 1,by omega⟩
  rw [field_Get.l0,if_neg (by omega),List.drop_of_length_le (by omega),getS,List.append_nil]
 | succ d ih =>
  intro k i out hi hk ho
  obtain ⟨k,rfl⟩ : ∃ m,k=m + 1:=⟨k - 1,by omega⟩
  have hlt:i < fs.length:=by omega
  have hb:=hf.2 _ (List.getElem_mem hlt)
  have hw:wrap64 ((i:Int) + 1)=((i + 1:Nat):Int):=by unfold wrap64;omega
  rw [field_Get.l0,if_pos (by omega),if_pos (by omega),if_pos (by omega),rdT_at fs i hlt,same_f _ _ (by omega) (by omega),Option.bind_some,hw,List.drop_eq_getElem_cons hlt,getS]
  by_cases hs:sameN fs[i].f0 name=true
  ·rw [if_pos hs,if_pos hs,if_pos (by omega),ih k (i + 1) _ (by omega) (by omega) (by rw [List.length_append];simp;omega)]
   simp only [List.append_assoc,List.singleton_append]
  ·rw [if_neg hs,if_neg hs,ih k (i + 1) _ (by omega) (by omega) (by omega)]
theorem Get_f (fs:List (S36)) (name:ByteArray) (hf:FB fs) (hn:name.size ≤ 1048576) (k:Nat) (hk:fs.length < k):field_Get.f k fs name=some (getS name fs):=by
 have:=get_l0 name hn fs hf fs.length k 0 [] (by omega) hk (Nat.zero_le _)
 rw [List.drop_zero,List.nil_append] at this
 exact this
/-- A value's parts. -/
def partsS (v:ByteArray):List ByteArray:=(commaParts v.data.toList).map mkS
theorem comma_len (l:List UInt8):(commaParts l).length ≤ l.length + 1:=by
 unfold commaParts
 have h1:=List.length_filter_le (fun p => !p.isEmpty) ((pcs 44 l).map trm)
 rw [List.length_map,pcs_length] at h1
 have h2:=cntC_le (sp:=44) l
 omega
theorem parts_len (v:ByteArray):(partsS v).length ≤ v.size + 1:=by
 unfold partsS
 rw [List.length_map]
 have:=comma_len v.data.toList
 rw [data_length] at this
 exact this
theorem comma_size (l:List UInt8) : ∀ p ∈ commaParts l,p.length ≤ l.length:=by
 intro p hp
 unfold commaParts at hp
 obtain ⟨q,hq,rfl⟩:=List.mem_map.1 (List.mem_filter.1 hp).1
 exact Nat.le_trans (trm_length q) (pcs_le l q hq)
theorem parts_size (v:ByteArray) : ∀ p ∈ partsS v,p.size ≤ v.size:=by
 intro p hp
 obtain ⟨q,hq,rfl⟩:=List.mem_map.1 hp
 rw [mkS_size,← data_length]
 exact comma_size _ q hq
theorem list_l0 (vs:List ByteArray) (hl:vs.length ≤ 1000) (hv : ∀ v ∈ vs,v.size ≤ 1048576) (d:Nat) : ∀ (k i:Nat) (out:List ByteArray),i + d=vs.length → d + 1048580 ≤ k → out.length ≤ 1048577 * i →
 field_List.l0 k out vs (vs.length:Int) (i:Int)=some (out ++ (vs.drop i).flatMap partsS):=by
 induction d with
 | zero =>
  intro k i out hi hk ho
  obtain ⟨k,rfl⟩ : ∃ m,k=m + 1:=⟨k - 1,by omega⟩
  rw [field_List.l0,if_neg (by omega),List.drop_of_length_le (by omega),List.flatMap_nil,List.append_nil]
 | succ d ih =>
  intro k i out hi hk ho
  obtain ⟨k,rfl⟩ : ∃ m,k=m + 1:=⟨k - 1,by omega⟩
  have hlt:i < vs.length:=by omega
  have hb:=hv _ (List.getElem_mem hlt)
  have hp:=parts_len vs[i]
  have hw:wrap64 ((i:Int) + 1)=((i + 1:Nat):Int):=by unfold wrap64;omega
  rw [field_List.l0,if_pos (by omega),if_pos (by omega),if_pos (by omega),rdB_at vs i hlt,signSplit_f _ (by omega) k (by omega),Option.bind_some,hw,List.drop_eq_getElem_cons hlt,List.flatMap_cons]
  have e:(commaParts vs[i].data.toList).map mkS=partsS vs[i]:=rfl
  rw [e,if_pos (by omega),ih k (i + 1) _ (by omega) (by omega) (by rw [List.length_append];omega),List.append_assoc]
/-- All parts of a name's values. -/
def listS (name:ByteArray) (fs:List (S36)):List ByteArray:=(getS name fs).flatMap partsS
theorem get_bounds (fs:List (S36)) (name:ByteArray) (hf:FB fs):(getS name fs).length ≤ 1000 ∧ ∀ v ∈ getS name fs,v.size ≤ 1048576:=by
 refine ⟨Nat.le_trans (getS_len name fs) hf.1,fun v hv=>?_⟩
 obtain ⟨f,hm,rfl,_⟩:=getS_mem name fs v hv
 exact (hf.2 f hm).2
theorem List_f (fs:List (S36)) (name:ByteArray) (hf:FB fs) (hn:name.size ≤ 1048576) (k:Nat) (hk:1049600 ≤ k):field_List.f k fs name=some (listS name fs):=by
 obtain ⟨h1,h2⟩:=get_bounds fs name hf
 have hfl:=hf.1
 unfold field_List.f
 rw [Get_f fs name hf hn k (by omega),Option.bind_some]
 have:=list_l0 (getS name fs) h1 h2 (getS name fs).length k 0 [] (by omega) (by omega) (by simp)
 rw [List.drop_zero,List.nil_append] at this
 exact this
theorem flat_len (B:Nat) : ∀ vs:List ByteArray,(∀ v ∈ vs,v.size ≤ B) → (vs.flatMap partsS).length ≤ vs.length * (B + 1)
 | [],_=>by simp
 | v :: r,h=>by
  rw [List.flatMap_cons,List.length_append,List.length_cons,Nat.succ_mul]
  have h1:=flat_len B r (fun u hu=>h u (List.mem_cons_of_mem _ hu))
  have h2:=parts_len v
  have h3:=h v List.mem_cons_self
  omega
theorem list_bounds (fs:List (S36)) (name:ByteArray) (hf:FB fs):(listS name fs).length ≤ 1048577000 ∧ ∀ p ∈ listS name fs,p.size ≤ 1048576:=by
 obtain ⟨h1,h2⟩:=get_bounds fs name hf
 refine ⟨?_,fun p hp=>?_⟩
 ·have h3:=flat_len 1048576 (getS name fs) h2
  unfold listS
  have h4:(getS name fs).length * 1048577 ≤ 1000 * 1048577:=Nat.mul_le_mul_right _ h1
  omega
 ·unfold listS at hp
  obtain ⟨v,hv,hp⟩:=List.mem_flatMap.1 hp
  exact Nat.le_trans (parts_size v p hp) (h2 v hv)
/-- The field that a line tells. -/
def fieldX (l:List UInt8):S36:=⟨mkS (l.takeWhile (· != 58)),mkS (trm ((l.dropWhile (· != 58)).drop 1))⟩
theorem field_ok (l:List UInt8) (hn:l.length ≤ 140737488355328) (hr:fieldOk l=true):field_Parse.f (mkS l)=some ((fieldX l).f0,(fieldX l).f1,0):=by
 unfold field_Parse.f
 rcases split_first 58 l with h|⟨a,b,rfl,h⟩
 ·rw [fieldOk_no l h] at hr;cases hr
 ·rw [fieldOk_yes a b h] at hr
  obtain ⟨e1,e2⟩:=take_first 58 a b h
  unfold fieldX
  rw [e1,e2,Cut_yes 58 a b h hn,Option.bind_some]
  simp only
  rw [Trim_mk _ (by rw [mkS_size];rw [List.length_append,List.length_cons] at hn;omega),Option.bind_some,if_pos trivial,field_right_f,Option.bind_some,mkS_data,hr]
  rfl
theorem field_no (l:List UInt8) (hn:l.length ≤ 140737488355328) (hr:fieldOk l=false) : ∃ x y,field_Parse.f (mkS l)=some (x,y,20):=by
 obtain ⟨x,y,h⟩:=field_f l hn
 rw [hr] at h
 exact ⟨x,y,h⟩
/-- The lines behind the first one;how many bytes the head has;a status. -/
def tailS (l:List Int) (e:Int):Nat → Nat → List ByteArray × Int × Int
 | 0,_=>([],0,0)
 | d + 1,p=>if (cutSpec (l.drop p) 2048).2.2=20 then ([],0,400)
  else if (cutSpec (l.drop p) 2048).2.1=0 then ([],0,e)
  else if (cutSpec (l.drop p) 2048).1.toList=[] then ([],(p:Int) + (cutSpec (l.drop p) 2048).2.1,0)
  else ((cutSpec (l.drop p) 2048).1 :: (tailS l e d (p + (cutSpec (l.drop p) 2048).2.1.toNat)).1,(tailS l e d (p + (cutSpec (l.drop p) 2048).2.1.toNat)).2)
/-- The lines of a head,without the empty one;how many bytes it has;a status. -/
def linesS (l:List Int) (e:Int):List ByteArray × Int × Int :=
 if (cutSpec l 2048).2.2=20 then ([],0,400)
 else if (cutSpec l 2048).2.1=0 then ([],0,e)
 else ((cutSpec l 2048).1 :: (tailS l e (l.length + 1) (cutSpec l 2048).2.1.toNat).1,(tailS l e (l.length + 1) (cutSpec l 2048).2.1.toNat).2)
/-- The fields that lines tell,n fields before them;a status. -/
def fieldsS:List ByteArray → Nat → List (S36) × Int
 | [],_=>([],0)
 | s :: ss,n=>if fieldOk s.data.toList=true then (if n=40 then ([],431) else if (fieldsS ss (n + 1)).2=0 then (fieldX s.data.toList :: (fieldsS ss (n + 1)).1,0) else ([],(fieldsS ss (n + 1)).2)) else ([],400)
def bdS (l:List Int):List Int:=l.take 2048
def extS (l:List Int):Int:=if 2048 ≤ (l.length:Int) then 431 else 0
theorem bdS_length (l:List Int):(bdS l).length ≤ 2048∧(bdS l).length ≤ l.length:=by unfold bdS;rw [List.length_take];omega
theorem mn_take (l:List Int):l.take (mn (l.length:Int) 2048).toNat=bdS l:=by
 unfold bdS mn
 split
 ·rfl
 ·rw [Int.toNat_natCast,List.take_of_length_le (Nat.le_refl _),List.take_of_length_le (by omega)]
theorem rightB_size {a t:ByteArray} (h:rightB a t=true):a.size ≤ 100∧t.size ≤ 1000:=by
 unfold rightB at h
 simp only [Bool.and_eq_true,decide_eq_true_eq] at h
 exact ⟨h.1,h.2.2.1⟩
theorem fieldX_right {l:List UInt8} (h:fieldOk l=true):rightB (fieldX l).f0 (fieldX l).f1=true:=by
 unfold fieldOk at h
 split at h
 ·exact h
 ·cases h
theorem fieldsS_FB (ss:List ByteArray) : ∀ n,n ≤ 40 → (fieldsS ss n).1.length + n ≤ 40 ∧ ∀ f ∈ (fieldsS ss n).1,rightB f.f0 f.f1=true:=by
 induction ss with
 | nil=>intro n hn;exact ⟨by simpa [fieldsS] using hn,fun f hf=>by cases hf⟩
 | cons s ss ih =>
  intro n hn
  rw [fieldsS]
  split
  ·rename_i h1
   split
   ·exact ⟨by simpa using hn,fun f hf=>by cases hf⟩
   ·rename_i h2
    have:=ih (n + 1) (by omega)
    split
    ·refine ⟨by simp only [List.length_cons];omega,fun f hf=>?_⟩
     rcases List.mem_cons.1 hf with rfl|hf
     ·exact fieldX_right h1
     ·exact this.2 f hf
    ·exact ⟨by simpa using hn,fun f hf=>by cases hf⟩
  ·exact ⟨by simpa using hn,fun f hf=>by cases hf⟩
theorem fields_FB (ss:List ByteArray):FB (fieldsS ss 0).1:=by
 have:=fieldsS_FB ss 0 (by omega)
 refine ⟨by omega,fun f hf=>?_⟩
 have:=rightB_size (this.2 f hf)
 omega
theorem tail_le (l:List Int) (e:Int) : ∀ (d p:Nat),p ≤ l.length → (tailS l e d p).2.1 ≤ (l.length:Int)∧0 ≤ (tailS l e d p).2.1∧((tailS l e d p).2.1 ≠ 0 → (tailS l e d p).2.2=0):=by
 intro d
 induction d with
 | zero=>intro p hp;exact ⟨by simp [tailS],by simp [tailS],fun _=>rfl⟩
 | succ d ih =>
  intro p hp
  have hsh:=cutS_shape (l.drop p) 2048
  have hdl:(l.drop p).length=l.length - p:=List.length_drop ..
  rw [tailS]
  split
  ·exact ⟨by simp,by simp,fun h=>absurd rfl h⟩
  ·split
   ·exact ⟨by simp,by simp,fun h=>absurd rfl h⟩
   ·rename_i h2
    have hz:(cutSpec (l.drop p) 2048).2.1 > 0∧(cutSpec (l.drop p) 2048).2.1 ≤ (l.length:Int) - p:=by rcases hsh with h|h <;> omega
    split
    ·exact ⟨by show (p:Int) + _ ≤ _;omega,by show 0 ≤ (p:Int) + _;omega,fun _=>rfl⟩
    ·exact ih _ (by omega)
theorem lines_le (l:List Int) (e:Int):(linesS l e).2.1 ≤ (l.length:Int)∧0 ≤ (linesS l e).2.1∧((linesS l e).2.1 ≠ 0 → (linesS l e).2.2=0)∧((linesS l e).1=[] → (linesS l e).2.1=0):=by
 have hsh:=cutS_shape l 2048
 unfold linesS
 split
 ·exact ⟨by simp,by simp,fun h=>absurd rfl h,fun _=>rfl⟩
 ·split
  ·exact ⟨by simp,by simp,fun h=>absurd rfl h,fun _=>rfl⟩
  ·rename_i h2
   have hz:(cutSpec l 2048).2.1 > 0∧(cutSpec l 2048).2.1 ≤ (l.length:Int):=by rcases hsh with h|h <;> omega
   have:=tail_le l e (l.length + 1) (cutSpec l 2048).2.1.toNat (by omega)
   exact ⟨this.1,this.2.1,this.2.2,fun h=>by cases h⟩
/-- A line's text has no 10,no 13: it is no longer than what it was cut from. -/
theorem cut_len (l:List Int) (h:l.length ≤ 2048):(cutSpec l 2048).1.size ≤ 2048:=by
 rcases cutS_shape l 2048 with h1|h1
 ·omega
 ·rw [h1.2];decide
def lineB (f:S36):ByteArray:=((f.f0 ++ (⟨#[58,32]⟩:ByteArray)) ++ f.f1) ++ (⟨#[13,10]⟩:ByteArray)
theorem lineB_size (f:S36):(lineB f).size=f.f0.size + f.f1.size + 4:=by
 unfold lineB
 rw [ByteArray.size_append,ByteArray.size_append,ByteArray.size_append]
 show f.f0.size + 2 + f.f1.size + 2=_
 omega
theorem Line_f (f:S36) (h:f.f0.size ≤ 1048576∧f.f1.size ≤ 1048576):field_Line.f f.f0 f.f1=some (lineB f):=by
 have e1:(f.f0 ++ (⟨#[58,32]⟩:ByteArray)).size=f.f0.size + 2:=ByteArray.size_append ..
 have e2:((f.f0 ++ (⟨#[58,32]⟩:ByteArray)) ++ f.f1).size=f.f0.size + 2 + f.f1.size:=by rw [ByteArray.size_append,e1]
 unfold field_Line.f lineB
 rw [if_pos (by omega),if_pos (by omega),if_pos (by omega)]
/-- The bytes of fields' lines. -/
def fLines:List (S36) → List Int
 | []=>[]
 | f :: fs=>bytesOf (lineB f) ++ fLines fs
/-- The value of a digit,or -1. -/
def digV (c:Int):Int:=Lib.indexByte [48,49,50,51,52,53,54,55,56,57,97,98,99,100,101,102] (foldC c).toNat.toUInt8
/-- The number of digits,from n on. -/
def numL (base:Int):List Int → Int → Option Int
 | [],n=>some n
 | c :: r,n=>if 0 ≤ digV c∧digV c < base then numL base r (n * base + digV c) else none
theorem digV_lt (c:Int) (h0:0 ≤ c) (h1:c ≤ 255):digV c < 16:=by
 obtain ⟨n,rfl⟩:=Int.eq_ofNat_of_zero_le h0
 have h : ∀ m:Fin 256,digV (m.val:Int) < 16:=by decide +kernel
 exact h ⟨n,by omega⟩
theorem one_fold (s:ByteArray) (i:Int) (h0:0 ≤ i) (h:i < (s.size:Int)):sign_Fold.f (s.extract i.toNat (i + 1).toNat)=some (strOfNums [foldC (bt s i)]):=by
 have hl:i.toNat < s.data.toList.length:=by rw [data_length];omega
 have e1:(s.extract i.toNat (i + 1).toNat).data.toList=[s.data.toList[i.toNat]]:=by
  rw [Lib.extract_data,show (i + 1).toNat - i.toNat=1 by omega,List.drop_eq_getElem_cons hl]
  rfl
 have hz:(s.extract i.toNat (i + 1).toNat).size=1:=by rw [← data_length,e1];rfl
 rw [fold_tells _ (by omega)]
 unfold bytesOf
 rw [e1]
 have e2:((s.data.toList[i.toNat]).toNat:Int)=bt s i:=by
  unfold bt
  rw [dif_pos (by omega)]
  rfl
 simp only [List.map_cons,List.map_nil,e2]
theorem bt_one (x:Int) (h0:0 ≤ x) (h1:x ≤ 255):bt (strOfNums [x]) 0=x:=by
 have h:=bytes_str (xs:=[x]) (by intro y hy;rw [List.mem_singleton.1 hy];exact ⟨h0,h1⟩)
 rw [← rd_bytesOf,h]
 rfl
theorem index_dig (s:ByteArray) (i:Int):strings_IndexByte.f (⟨#[48,49,50,51,52,53,54,55,56,57,97,98,99,100,101,102]⟩:ByteArray) (bt (strOfNums [foldC (bt s i)]) 0)=some (digV (bt s i)):=by
 have hr:=bt_range s i
 have hf:=foldC_byte _ hr.1 hr.2
 rw [bt_one _ hf.1 hf.2]
 rfl
theorem pow_pos' (b:Int) (hb:1 ≤ b) : ∀ n:Nat,1 ≤ b ^ n
 | 0=>by simp
 | n + 1=>by
  rw [Int.pow_succ]
  have h1:=pow_pos' b hb n
  have h2:=Int.mul_le_mul_of_nonneg_left hb (show 0 ≤ b ^ n by omega)
  rw [Int.mul_one] at h2
  omega
theorem pow_mono' (b:Int) (hb:1 ≤ b) (i:Nat) : ∀ d:Nat,b ^ i ≤ b ^ (i + d)
 | 0=>Int.le_refl _
 | d + 1=>by
  rw [← Nat.add_assoc,Int.pow_succ]
  have h0:=pow_mono' b hb i d
  have h1:=pow_pos' b hb (i + d)
  have h2:=Int.mul_le_mul_of_nonneg_left hb (show 0 ≤ b ^ (i + d) by omega)
  rw [Int.mul_one] at h2
  omega
/-- Too long: none. -/
theorem number_long (s:ByteArray) (base most:Int) (hm:(s.size:Int) > most) (hs:s.size ≤ 140737488355327) (d:Nat) : ∀ (k:Nat) (n i:Int),0 ≤ i → (s.size:Int) - i=d → 2 * d + 1 ≤ k →
 sign_number.l0 k s base most n (s.size:Int) i=some (0,false):=by
 induction d with
 | zero =>
  intro k n i h0 hd hk
  obtain ⟨k,rfl⟩ : ∃ m,k=m + 1:=⟨k - 1,by omega⟩
  simp only [sign_number.l0]
  rw [if_neg (by omega)]
  repeat' split
  all_goals first|rfl|(exfalso;omega)
 | succ d ih =>
  intro k n i h0 hd hk
  obtain ⟨k,rfl⟩ : ∃ m,k=m + 2:=⟨k - 2,by omega⟩
  have hw:wrap64 (i + 1)=i + 1:=by unfold wrap64;omega
  have ih' := fun n=>ih k n (i + 1) (by omega) (by omega) (by omega)
  simp only [sign_number.l0]
  rw [if_pos (by omega),if_pos h0,hw,if_pos (by omega),if_pos (by omega),one_fold s i h0 (by omega),Option.bind_some,if_pos (by rw [str_size];simp),index_dig,Option.bind_some]
  simp only [sign_number.j1]
  rw [hw,ih',ih']
  repeat' split
  all_goals rfl
theorem number_short (s : ByteArray) (base : Int) (most : Nat) (hb0 : 0 ≤ base) (hB : base ^ most ≤ 4611686018427387904) (hb1 : 1 ≤ base) (hm : s.size ≤ most) (hs : s.size ≤ 140737488355327) (d : Nat) : ∀ (k : Nat) (n : Int) (i : Nat), i + d = s.size → 2 * d + 1 ≤ k → 0 ≤ n → n + 1 ≤ base ^ i →
    sign_number.l0 k s base most n (s.size : Int) i = some (match numL base ((bytesOf s).drop i) n with | some v => if s.size = 0 then (0, false) else (v, true) | none => (0, false)) := by
  induction d with
  | zero =>
    intro k n i hi hk h0 hn
    obtain ⟨k, rfl⟩ : ∃ m, k = m + 1 := ⟨k - 1, by omega⟩
    rw [List.drop_of_length_le (by rw [bytesOf_length]; omega)]
    simp only [sign_number.l0, numL]
    rw [if_neg (by omega)]
    by_cases hz : s.size = 0
    · have he : s.toList = [] := by rw [toList_data]; exact List.eq_nil_of_length_eq_zero (by rw [data_length]; exact hz)
      rw [if_pos he, if_pos hz]
    · have he : ¬ (s.toList = []) := by
        intro e
        rw [toList_data] at e
        have := data_length s
        rw [e] at this
        exact hz this.symm
      rw [if_neg he, if_neg hz, if_neg (by omega)]
  | succ d ih =>
    intro k n i hi hk h0 hn
    obtain ⟨k, rfl⟩ : ∃ m, k = m + 2 := ⟨k - 2, by omega⟩
    have hw : wrap64 ((i : Int) + 1) = (i : Int) + 1 := by unfold wrap64; omega
    have hl : i < (bytesOf s).length := by rw [bytesOf_length]; omega
    have hg : (bytesOf s)[i] = bt s i := by rw [← rd_bytesOf]; simp [rd, List.getD_eq_getElem?_getD, List.getElem?_eq_getElem hl]
    have hr := bt_range s i
    have hP : base ^ (i + 1) = base ^ i * base := Int.pow_succ _ _
    have hle : base ^ (i + 1) ≤ base ^ most := by
      have := pow_mono' base hb1 (i + 1) (most - (i + 1))
      rwa [show i + 1 + (most - (i + 1)) = most by omega] at this
    have h1 := Int.mul_le_mul_of_nonneg_right hn hb0
    rw [Int.add_mul, ← hP, Int.one_mul] at h1
    have h2 : 0 ≤ n * base := Int.mul_nonneg h0 hb0
    have h3 : 0 ≤ base := hb0
    have hdl := digV_lt _ hr.1 hr.2
    rw [List.drop_eq_getElem_cons hl, hg]
    simp only [sign_number.l0, numL]
    rw [if_pos (by omega), if_pos (by omega), hw, if_pos (by omega), if_pos (by omega), one_fold s i (by omega) (by omega), Option.bind_some, if_pos (by rw [str_size]; simp), index_dig, Option.bind_some]
    simp only [sign_number.j1]
    obtain ⟨D, hD⟩ : ∃ D, D = digV (bt s i) := ⟨_, rfl⟩
    rw [← hD] at hdl ⊢
    by_cases hv : 0 ≤ D ∧ D < base
    · rw [if_neg (by omega), decide_eq_false (by omega), if_neg (by simp), if_pos (by omega), hw, if_pos hv]
      have e1 : wrap64 (wrap64 (n * base) + D) = n * base + D := by unfold wrap64; omega
      rw [e1]
      have := ih k (n * base + D) (i + 1) (by omega) (by omega) (by omega) (by omega)
      rw [show (((i + 1 : Nat)) : Int) = (i : Int) + 1 by omega] at this
      exact this
    · rw [if_neg hv]
      by_cases hn0 : D < 0
      · rw [if_pos hn0, if_pos trivial]
      · rw [if_neg hn0, decide_eq_true (by omega), if_pos rfl]
/-- What number tells. -/
def numSpec (s:ByteArray) (base:Int) (most:Nat):Int × Bool :=
 if s.size=0 ∨ s.size > most then (0,false) else match numL base (bytesOf s) 0 with|some v=>(v,true)|none=>(0,false)
theorem number_f (s:ByteArray) (base:Int) (most:Nat) (hb1:1 ≤ base) (hB:base ^ most ≤ 4611686018427387904) (hs:s.size ≤ 140737488355327) (k:Nat) (hk:2 * s.size + 1 ≤ k):sign_number.f k s base most=some (numSpec s base most):=by
 unfold sign_number.f numSpec
 by_cases hm:s.size > most
 ·rw [if_pos (Or.inr hm)]
  exact number_long s base most (by omega) hs s.size k 0 0 (by omega) (by omega) hk
 ·have:=number_short s base most (by omega) hB hb1 (by omega) hs s.size k 0 0 (by omega) hk (by omega) (by simp)
  rw [show ((0:Nat):Int)=0 from rfl] at this
  rw [this]
  by_cases hz:s.size=0
  ·rw [if_pos (Or.inl hz),List.drop_zero]
   cases numL base (bytesOf s) 0 <;> simp [hz]
  ·rw [if_neg (by omega),List.drop_zero]
   cases numL base (bytesOf s) 0 <;> simp [hz]
theorem Decimal_f (s:ByteArray) (hs:s.size ≤ 140737488355327) (k:Nat) (hk:2 * s.size + 1 ≤ k):sign_Decimal.f k s=some (numSpec s 10 18):=by
 unfold sign_Decimal.f
 rw [show (18:Int)=((18:Nat):Int) from rfl,number_f s 10 18 (by decide) (by decide) hs k hk,Option.bind_some]
theorem Hex_f (s:ByteArray) (hs:s.size ≤ 140737488355327) (k:Nat) (hk:2 * s.size + 1 ≤ k):sign_Hex.f k s=some (numSpec s 16 15):=by
 unfold sign_Hex.f
 rw [show (15:Int)=((15:Nat):Int) from rfl,number_f s 16 15 (by decide) (by decide) hs k hk,Option.bind_some]
/-- Blanks behind taken away. -/
def rtrim (l:List UInt8):List UInt8:=(l.reverse.dropWhile blk).reverse
theorem rtrim_len (l:List UInt8):(rtrim l).length ≤ l.length:=by
 unfold rtrim
 rw [List.length_reverse]
 have:=(List.dropWhile_sublist blk (l:=l.reverse)).length_le
 rw [List.length_reverse] at this
 exact this
/-- The size that a chunk's line tells;is it one? -/
def sizeS (l:List UInt8):Int × Bool :=
 ((numSpec (mkS (rtrim (l.takeWhile (· != 59)))) 16 15).1,(numSpec (mkS (rtrim (l.takeWhile (· != 59)))) 16 15).2 && (bytesOf (mkS ((l.dropWhile (· != 59)).drop 1))).all valB)
theorem take_none (sp:UInt8) (l:List UInt8) (h:sp ∉ l):l.takeWhile (· != sp)=l∧(l.dropWhile (· != sp)).drop 1=[]:=by
 induction l with
 | nil=>simp
 | cons x a ih =>
  have hx:x ≠ sp:=fun e=>h (by rw [e];exact List.mem_cons_self ..)
  have:=ih (fun e=>h (List.mem_cons_of_mem _ e))
  simp only [List.takeWhile_cons,List.dropWhile_cons,bne_iff_ne,ne_eq,hx,not_false_eq_true,if_true]
  exact ⟨by rw [this.1],this.2⟩
theorem sizeS_no (l:List UInt8) (h:59 ∉ l):sizeS l=numSpec (mkS (rtrim l)) 16 15:=by
 obtain ⟨e1,e2⟩:=take_none 59 l h
 unfold sizeS
 rw [e1,e2]
 have:(bytesOf (mkS [])).all valB=true:=by rw [mkS_bytes];rfl
 rw [this,Bool.and_true]
theorem sizeS_yes (a b:List UInt8) (h:59 ∉ a):sizeS (a ++ 59 :: b)=((numSpec (mkS (rtrim a)) 16 15).1,(numSpec (mkS (rtrim a)) 16 15).2 && (bytesOf (mkS b)).all valB):=by
 obtain ⟨e1,e2⟩:=take_first 59 a b h
 unfold sizeS
 rw [e1,e2]
theorem TrimRight_f (l:List UInt8) (hl:l.length ≤ 140737488355328):strings_TrimRight.f (mkS l) ⟨#[32,9]⟩=some (mkS (rtrim l)):=by
 unfold strings_TrimRight.f
 rw [if_pos ⟨by rw [mkS_size];omega,by decide,by decide⟩,mkS_data]
 rfl
theorem numL_bound (xs:List Int) : ∀ (n v:Int) (B:Int),0 ≤ n → n < B → numL 16 xs n=some v → 0 ≤ v∧v < B * 16 ^ xs.length:=by
 induction xs with
 | nil=>intro n v B h0 h1 h;simp only [numL,Option.some.injEq] at h;subst h;simpa using ⟨h0,h1⟩
 | cons x xs ih =>
  intro n v B h0 h1 h
  rw [numL] at h
  by_cases hd:0 ≤ digV x∧digV x < 16
  ·rw [if_pos hd] at h
   have:=ih _ v (B * 16) (by omega) (by omega) h
   rw [List.length_cons,Int.pow_succ,Int.mul_comm (16 ^ xs.length) 16,← Int.mul_assoc]
   exact this
  ·rw [if_neg hd] at h;cases h
theorem hexs_bound (s : ByteArray) : 0 ≤ (numSpec s 16 15).1 ∧ (numSpec s 16 15).1 ≤ 1152921504606846976 := by
  unfold numSpec
  split
  · exact ⟨by decide, by decide⟩
  · rename_i h
    cases hv : numL 16 (bytesOf s) 0 with
    | none => exact ⟨by decide, by decide⟩
    | some v =>
      have := numL_bound (bytesOf s) 0 v 1 (by decide) (by decide) hv
      have hl : (bytesOf s).length ≤ 15 := by rw [bytesOf_length]; omega
      have h2 : (16 : Int) ^ (bytesOf s).length ≤ 16 ^ 15 := by
        have := pow_mono' 16 (by decide) (bytesOf s).length (15 - (bytesOf s).length)
        rwa [show (bytesOf s).length + (15 - (bytesOf s).length) = 15 by omega] at this
      exact ⟨this.1, by simp only; have h3 : (16 : Int) ^ 15 = 1152921504606846976 := by decide
                        omega⟩
theorem size_bound (l:List UInt8):0 ≤ (sizeS l).1∧(sizeS l).1 ≤ 1152921504606846976:=hexs_bound _
theorem line_f (l:List Int) (p:Nat) (hp:p ≤ l.length) (hl:l.length ≤ 1000000) (k:Nat) (hk:3 * l.length + 3 ≤ k) :
 chunk_reader_line.f k l p=some ((cutSpec (l.drop p) 256).1,(cutSpec (l.drop p) 256).2.2,(p:Int) + (cutSpec (l.drop p) 256).2.1,decide ((cutSpec (l.drop p) 256).2.1=0) && decide ((cutSpec (l.drop p) 256).2.2=0)):=by
 unfold chunk_reader_line.f
 have hd:(l.drop p).length=l.length - p:=List.length_drop ..
 rw [if_pos (by omega),if_pos (by omega),Int.toNat_natCast,cut_f _ _ (by omega) k (by omega),Option.bind_some]
 have hw:wrap64 ((p:Int) + (cutSpec (l.drop p) 256).2.1)=(p:Int) + (cutSpec (l.drop p) 256).2.1:=by
  rcases cutS_shape (l.drop p) 256 with h|h <;> unfold wrap64 <;> omega
 rw [hw]
theorem size_f (l : List Int) (p : Nat) (hp : p ≤ l.length) (hl : l.length ≤ 1000000) (k : Nat) (hk : 3 * l.length + 3 ≤ k) :
    chunk_reader_size.f k l p = some (if (cutSpec (l.drop p) 256).2.2 = 0 then (if (cutSpec (l.drop p) 256).2.1 = 0 then (0, 0, (p : Int), true) else
        if (sizeS (cutSpec (l.drop p) 256).1.data.toList).2 = true then ((sizeS (cutSpec (l.drop p) 256).1.data.toList).1, 0, (p : Int) + (cutSpec (l.drop p) 256).2.1, false) else (0, 30, (p : Int) + (cutSpec (l.drop p) 256).2.1, false))
      else (0, (cutSpec (l.drop p) 256).2.2, (p : Int) + (cutSpec (l.drop p) 256).2.1, false)) := by
  unfold chunk_reader_size.f
  rw [line_f l p hp hl k hk, Option.bind_some]
  have hsh := cutS_shape (l.drop p) 256
  have hd : (l.drop p).length = l.length - p := List.length_drop ..
  obtain ⟨c, hc⟩ : ∃ c, c = cutSpec (l.drop p) 256 := ⟨_, rfl⟩
  rw [← hc] at hsh ⊢
  simp only
  by_cases h1 : c.2.2 = 0
  · rw [if_pos h1, if_pos h1]
    by_cases h2 : c.2.1 = 0
    · rw [if_pos h2, decide_eq_true h2, decide_eq_true h1, if_pos (by rfl), h2, Int.add_zero]
    · rw [if_neg h2, decide_eq_false h2, Bool.false_and, if_neg (by simp)]
      have hsz : c.1.data.toList.length ≤ 1000000 := by rw [data_length]; rcases hsh with h | h <;> omega
      have e0 : c.1 = mkS c.1.data.toList := (mkS_self _).symm
      obtain ⟨u, hu⟩ : ∃ u, u = c.1.data.toList := ⟨_, rfl⟩
      rw [← hu] at e0 hsz ⊢
      rw [e0]
      have hk2 : 2 * u.length + 1 ≤ k := by
        have : u.length = c.1.size := by rw [hu, data_length]
        rcases hsh with h | h <;> omega
      rcases split_first 59 u with h | ⟨a, b, hab, h⟩
      · have hr := rtrim_len u
        rw [Cut_no 59 u h, Option.bind_some]
        simp only
        rw [TrimRight_f u (by omega), Option.bind_some, Hex_f _ (by rw [mkS_size]; omega) k (by rw [mkS_size]; omega), Option.bind_some, sizeS_no u h]
        cases (numSpec (mkS (rtrim u)) 16 15).2
        · rw [if_neg (by simp), if_neg (by simp)]
        · rw [if_pos rfl, if_pos rfl, Value_f _ (by decide), Option.bind_some, if_pos (by rfl)]
      · subst hab
        have hab : (a ++ 59 :: b).length = a.length + b.length + 1 := by rw [List.length_append, List.length_cons]; omega
        have hr := rtrim_len a
        rw [Cut_yes 59 a b h (by omega), Option.bind_some]
        simp only
        rw [TrimRight_f a (by omega), Option.bind_some, Hex_f _ (by rw [mkS_size]; omega) k (by rw [mkS_size]; omega), Option.bind_some, sizeS_yes a b h]
        cases (numSpec (mkS (rtrim a)) 16 15).2
        · rw [if_neg (by simp), Bool.false_and, if_neg (by simp)]
        · rw [if_pos rfl, Bool.true_and, Value_f _ (by rw [mkS_size]; omega), Option.bind_some]
          cases (bytesOf (mkS b)).all valB <;> rfl
  · rw [if_neg h1, if_neg h1, decide_eq_false h1, Bool.and_false]
/-- The lines behind the last chunk, at most d more: the place behind them (0: they are not whole), the error. -/
def trailS (l : List Int) : Nat → Nat → Int × Int
  | 0, _ => (0, 3)
  | d + 1, p => if (cutSpec (l.drop p) 256).2.2 = 0 then (if (cutSpec (l.drop p) 256).2.1 = 0 then (0, 0)
      else if (cutSpec (l.drop p) 256).1.toList = [] then ((p : Int) + (cutSpec (l.drop p) 256).2.1, 0)
      else if fieldOk (cutSpec (l.drop p) 256).1.data.toList = true then trailS l d (p + (cutSpec (l.drop p) 256).2.1.toNat) else (0, 20))
    else (0, (cutSpec (l.drop p) 256).2.2)
/-- The body from a place on. -/
def decS (l : List Int) : Nat → Nat → Int → List Int → List Int × Int × Int
  | 0, _, _, _ => ([], 0, 0)
  | d + 1, p, left, out => if (cutSpec (l.drop p) 256).2.2 = 0 then (if (cutSpec (l.drop p) 256).2.1 = 0 then ([], 0, 0)
      else if (sizeS (cutSpec (l.drop p) 256).1.data.toList).2 = true then (if (sizeS (cutSpec (l.drop p) 256).1.data.toList).1 = 0 then
          (if (trailS l 41 (p + (cutSpec (l.drop p) 256).2.1.toNat)).2 = 0 then (if (trailS l 41 (p + (cutSpec (l.drop p) 256).2.1.toNat)).1 = 0 then ([], 0, 0) else (out, (trailS l 41 (p + (cutSpec (l.drop p) 256).2.1.toNat)).1, 0)) else ([], 0, (trailS l 41 (p + (cutSpec (l.drop p) 256).2.1.toNat)).2))
        else if (sizeS (cutSpec (l.drop p) 256).1.data.toList).1 > left then ([], 0, 2)
        else if (dataOf (l.drop (p + (cutSpec (l.drop p) 256).2.1.toNat)) ((p + (cutSpec (l.drop p) 256).2.1.toNat : Nat) : Int) (sizeS (cutSpec (l.drop p) 256).1.data.toList).1 false).2.1 = 0 then
          (if (dataOf (l.drop (p + (cutSpec (l.drop p) 256).2.1.toNat)) ((p + (cutSpec (l.drop p) 256).2.1.toNat : Nat) : Int) (sizeS (cutSpec (l.drop p) 256).1.data.toList).1 false).2.2.2 = true then ([], 0, 0)
            else decS l d (p + (cutSpec (l.drop p) 256).2.1.toNat + (sizeS (cutSpec (l.drop p) 256).1.data.toList).1.toNat + 2) (left - (sizeS (cutSpec (l.drop p) 256).1.data.toList).1) (out ++ (l.drop (p + (cutSpec (l.drop p) 256).2.1.toNat)).take (sizeS (cutSpec (l.drop p) 256).1.data.toList).1.toNat))
        else ([], 0, 20))
      else ([], 0, 30))
    else ([], 0, (cutSpec (l.drop p) 256).2.2)
theorem trail_f (l:List Int) (hl:l.length ≤ 1000000) : ∀ (d:Nat) (n p k:Nat),n + d=41 → 1 ≤ d → p ≤ l.length → d + 3 * l.length + 4 ≤ k →
 ∃ q m,chunk_reader_trailer.l k l p n=some ((trailS l d p).2,q,m)∧((trailS l d p).2=0 → (m=true ↔ (trailS l d p).1=0)∧(m=false → q=(trailS l d p).1)):=by
 intro d
 induction d with
 | zero=>intro n p k _ h;omega
 | succ d ih =>
  intro n p k hn _ hp hk
  obtain ⟨k,rfl⟩ : ∃ m,k=m + 1:=⟨k - 1,by omega⟩
  have hsh:=cutS_shape (l.drop p) 256
  have hd:(l.drop p).length=l.length - p:=List.length_drop ..
  rw [chunk_reader_trailer.l,line_f l p hp hl k (by omega),Option.bind_some,trailS]
  obtain ⟨c,hc⟩ : ∃ c,c=cutSpec (l.drop p) 256:=⟨_,rfl⟩
  rw [← hc] at hsh ⊢
  simp only
  by_cases h1:c.2.2=0
  ·rw [if_pos h1,if_pos h1]
   by_cases h2:c.2.1=0
   ·rw [if_pos h2,decide_eq_true h2,decide_eq_true h1,if_pos (by rfl)]
    exact ⟨_,_,rfl,fun _=>⟨by simp,by simp⟩⟩
   ·rw [if_neg h2,decide_eq_false h2,Bool.false_and,if_neg (by simp)]
    by_cases h3:c.1.toList=[]
    ·rw [if_pos h3,if_pos h3]
     refine ⟨_,_,rfl,fun _=>⟨⟨by simp,fun e=>?_⟩,fun _=>rfl⟩⟩
     simp only at e
     rcases hsh with h|h <;> omega
    ·rw [if_neg h3,if_neg h3]
     have hz:c.1.data.toList.length=c.1.size:=data_length _
     have hz2:c.2.1 > 0∧c.2.1 ≤ (l.length:Int) - p∧(c.1.size:Int)=c.2.1 - 2:=by rcases hsh with h|h <;> omega
     obtain ⟨x,y,hf⟩:=field_f c.1.data.toList (by omega)
     rw [mkS_self] at hf
     rw [hf,Option.bind_some]
     simp only
     cases fieldOk c.1.data.toList
     ·rw [if_neg (by simp),if_neg (by decide),if_neg (by simp)]
      exact ⟨_,_,rfl,fun e=>by simp at e⟩
     ·rw [if_pos rfl,if_pos rfl,if_pos rfl]
      by_cases h4:(n:Int)=40
      ·obtain rfl:d=0:=by omega
       rw [if_pos h4,trailS]
       exact ⟨_,_,rfl,fun e=>by simp at e⟩
      ·rw [if_neg h4]
       have:=ih (n + 1) (p + c.2.1.toNat) k (by omega) (by omega) (by omega) (by omega)
       rw [show ((p + c.2.1.toNat:Nat):Int)=(p:Int) + c.2.1 by omega,show ((n + 1:Nat):Int)=(n:Int) + 1 by omega] at this
       exact this
  ·rw [if_neg h1,if_neg h1]
   exact ⟨_,_,rfl,fun e=>absurd e h1⟩
theorem data_f (l:List Int) (p:Nat) (n:Int) (hp:p ≤ l.length) (h0:0 ≤ n) (h1:n ≤ 1152921504606846976):chunk_reader_data.f l p n false=some (dataOf (l.drop p) p n false):=by
 unfold chunk_reader_data.f
 rw [if_pos ⟨by omega,by omega,h0,by omega⟩,Int.toNat_natCast]
theorem data_shape (rest:List Int) (p n:Int) (h0:0 ≤ p) (hp:p ≤ 1000000) (n0:0 ≤ n) (hr:rest.length ≤ 1000000):(dataOf rest p n false).2.1=0 ∨ (dataOf rest p n false).2.1=20:=by
 unfold dataOf
 repeat' split
 all_goals first|exact Or.inl rfl|exact Or.inr rfl
theorem data_ok (rest:List Int) (p n:Int) (h0:0 ≤ p) (hp:p ≤ 1000000) (n0:0 ≤ n) (hr:rest.length ≤ 1000000) (h1:(dataOf rest p n false).2.1=0) (h2 : ¬ (dataOf rest p n false).2.2.2=true) :
 (dataOf rest p n false).1=rest.take n.toNat∧(dataOf rest p n false).2.2.1=p + (n + 2)∧n + 2 ≤ (rest.length:Int)∧rd rest n=13∧rd rest (n + 1)=10:=by
 unfold dataOf at h1 h2 ⊢
 by_cases a0:n < (rest.length:Int)
 ·rw [if_pos a0] at h1 h2 ⊢
  by_cases a1:rd rest n=13
  ·rw [if_pos a1] at h1 h2 ⊢
   by_cases a2:n + 1 < (rest.length:Int)
   ·rw [if_pos a2] at h1 h2 ⊢
    by_cases a3:rd rest (n + 1)=10
    ·rw [if_pos a3]
     exact ⟨rfl,by show wrap64 (p + (n + 2))=_;unfold wrap64;omega,by omega,a1,a3⟩
    ·rw [if_neg a3] at h1;simp at h1
   ·rw [if_neg a2] at h2;simp at h2
  ·rw [if_neg a1] at h1;simp at h1
 ·rw [if_neg a0] at h2;simp at h2
theorem dec_f (l:List Int) (hl:l.length ≤ 1000000) : ∀ (d p:Nat) (left:Int) (out:List Int) (k:Nat),p ≤ l.length → l.length < p + d → out.length ≤ p → 0 ≤ left → left ≤ 9223372036854775807 → d + 3 * l.length + 60 ≤ k →
 chunk_Decode.l k l p left out=some (decS l d p left out):=by
 intro d
 induction d with
 | zero=>intro p left out k h1 h2;omega
 | succ d ih =>
  intro p left out k hp hd ho hl0 hl1 hk
  obtain ⟨k,rfl⟩ : ∃ m,k=m + 1:=⟨k - 1,by omega⟩
  have hsh:=cutS_shape (l.drop p) 256
  have hdl:(l.drop p).length=l.length - p:=List.length_drop ..
  rw [chunk_Decode.l,size_f l p hp hl k (by omega),Option.bind_some,decS]
  obtain ⟨c,hc⟩ : ∃ c,c=cutSpec (l.drop p) 256:=⟨_,rfl⟩
  rw [← hc] at hsh ⊢
  by_cases h1:c.2.2=0
  ·rw [if_pos h1,if_pos h1]
   by_cases h2:c.2.1=0
   ·rw [if_pos h2,if_pos h2]
    simp
   ·have hz2:c.2.1 > 0∧c.2.1 ≤ (l.length:Int) - p∧(c.1.size:Int)=c.2.1 - 2:=by rcases hsh with h|h <;> omega
    rw [if_neg h2,if_neg h2]
    obtain ⟨z,hz⟩ : ∃ z,z=sizeS c.1.data.toList:=⟨_,rfl⟩
    have hzb:=size_bound c.1.data.toList
    rw [← hz] at hzb ⊢
    obtain ⟨q,hq⟩ : ∃ q,q=p + c.2.1.toNat:=⟨_,rfl⟩
    have hq2:(p:Int) + c.2.1=(q:Int):=by omega
    rw [← hq,hq2]
    by_cases h3:z.2=true
    ·rw [if_pos h3,if_pos h3]
     simp only
     rw [if_pos trivial,if_neg (by simp)]
     by_cases h4:z.1=0
     ·rw [if_pos h4,if_pos h4]
      obtain ⟨q',m,ht,hm⟩:=trail_f l hl 41 0 q k (by omega) (by omega) (by omega) (by omega)
      have ht' : chunk_reader_trailer.f k l q=some ((trailS l 41 q).2,q',m):=ht
      rw [ht',Option.bind_some]
      by_cases h5:(trailS l 41 q).2=0
      ·obtain ⟨hm1,hm2⟩:=hm h5
       rw [if_pos h5,if_pos h5]
       by_cases h6:(trailS l 41 q).1=0
       ·rw [if_pos h6,if_pos (hm1.2 h6)]
       ·have hmf:m=false:=by cases m with|false=>rfl|true=>exact absurd (hm1.1 rfl) h6
        rw [if_neg h6,hmf,if_neg (by simp),hm2 hmf]
      ·rw [if_neg h5,if_neg h5]
     ·rw [if_neg h4,if_neg h4]
      by_cases h5:z.1 > left
      ·rw [if_pos h5,if_pos h5]
      ·rw [if_neg h5,if_neg h5,data_f l q z.1 (by omega) hzb.1 hzb.2,Option.bind_some]
       have hdr:(l.drop q).length=l.length - q:=List.length_drop ..
       by_cases h6:(dataOf (l.drop q) (q:Int) z.1 false).2.1=0
       ·rw [if_pos h6,if_pos h6]
        by_cases h7:(dataOf (l.drop q) (q:Int) z.1 false).2.2.2=true
        ·rw [if_pos h7,if_pos h7]
        ·obtain ⟨e1,e2,e3,_,_⟩:=data_ok (l.drop q) q z.1 (by omega) (by omega) hzb.1 (by omega) h6 h7
         have htk:((l.drop q).take z.1.toNat).length ≤ z.1.toNat:=List.length_take_le ..
         rw [if_neg h7,if_neg h7,e1,e2,if_pos (by omega),show wrap64 (left - z.1)=left - z.1 by unfold wrap64;omega,show (q:Int) + (z.1 + 2)=((q + z.1.toNat + 2:Nat):Int) by omega]
         exact ih _ _ _ k (by omega) (by omega) (by rw [List.length_append];omega) (by omega) (by omega) (by omega)
       ·rcases data_shape (l.drop q) q z.1 (by omega) (by omega) hzb.1 (by omega) with e|e
        ·exact absurd e h6
        ·rw [if_neg h6,if_neg h6,e]
    ·rw [if_neg h3,if_neg h3]
     simp
  ·rw [if_neg h1,if_neg h1]
   simp only
   rw [if_neg h1]
theorem Decode_f (l:List Int) (most:Int) (hl:l.length ≤ 1000000) (hm:most ≤ 9223372036854775807) (k:Nat) (hk:4 * l.length + 70 ≤ k):chunk_Decode.f k l most=some (decS l (l.length + 1) 0 (mx most 0) []):=by
 unfold chunk_Decode.f
 exact dec_f l hl (l.length + 1) 0 (mx most 0) [] k (by omega) (by omega) (by simp) (by unfold mx;split <;> omega) (by unfold mx;split <;> omega) (by omega)
theorem numL_nn (b:Int) (hb:0 ≤ b) : ∀ (l:List Int) (n v:Int),0 ≤ n → numL b l n=some v → 0 ≤ v
 | [],n,v,hn,h=>by simp only [numL,Option.some.injEq] at h;omega
 | c :: r,n,v,hn,h=>by
  rw [numL] at h
  split at h
  ·next hc=>exact numL_nn b hb r _ v (by have:=Int.mul_nonneg hn hb;omega) h
  ·cases h
theorem num_nn (s:ByteArray):0 ≤ (numSpec s 10 18).1:=by
 unfold numSpec
 split
 ·exact Int.le_refl _
 ·split
  ·next v hv=>exact numL_nn 10 (by decide) _ 0 v (Int.le_refl _) hv
  ·exact Int.le_refl _
def lenNm:ByteArray:=⟨#[99,111,110,116,101,110,116,45,108,101,110,103,116,104]⟩
def teNm:ByteArray:=⟨#[116,114,97,110,115,102,101,114,45,101,110,99,111,100,105,110,103]⟩
def lenNM:ByteArray:=⟨#[67,111,110,116,101,110,116,45,76,101,110,103,116,104]⟩
def teNM:ByteArray:=⟨#[84,114,97,110,115,102,101,114,45,69,110,99,111,100,105,110,103]⟩
theorem getS_nm (p q:ByteArray) (h:(bytesOf p).map foldC=(bytesOf q).map foldC) : ∀ fs,getS p fs=getS q fs
 | []=>rfl
 | f :: r=>by rw [getS,getS,getS_nm p q h r];unfold sameN;rw [h]
theorem listS_nm (p q:ByteArray) (h:(bytesOf p).map foldC=(bytesOf q).map foldC) (fs:List (S36)):listS p fs=listS q fs:=by unfold listS;rw [getS_nm p q h]
theorem len_nm:(bytesOf lenNM).map foldC=(bytesOf lenNm).map foldC:=by decide +kernel
theorem te_nm:(bytesOf teNM).map foldC=(bytesOf teNm).map foldC:=by decide +kernel
/-- Is a name there? -/
def thereS (name:ByteArray) (fs:List (S36)):Bool:=decide (((getS name fs).length:Int) > 0)
theorem there_f (fs:List (S36)) (name:ByteArray) (hf:FB fs) (hn:name.size ≤ 1048576) (k:Nat) (hk:fs.length < k):frame_there.f k fs name=some (thereS name fs):=by
 unfold frame_there.f
 rw [Get_f fs name hf hn k hk,Option.bind_some];rfl
theorem thereLen_f (fs:List (S36)) (hf:FB fs) (k:Nat) (hk:fs.length < k):frame_there.f k fs ⟨#[67,111,110,116,101,110,116,45,76,101,110,103,116,104]⟩=some (thereS lenNm fs):=by
 have h:=there_f fs lenNM hf (by decide) k hk
 have e:thereS lenNM fs=thereS lenNm fs:=by unfold thereS;rw [getS_nm _ _ len_nm]
 rw [e] at h
 exact h
theorem thereTe_f (fs:List (S36)) (hf:FB fs) (k:Nat) (hk:fs.length < k):frame_there.f k fs ⟨#[84,114,97,110,115,102,101,114,45,69,110,99,111,100,105,110,103]⟩=some (thereS teNm fs):=by
 have h:=there_f fs teNM hf (by decide) k hk
 have e:thereS teNM fs=thereS teNm fs:=by unfold thereS;rw [getS_nm _ _ te_nm]
 rw [e] at h
 exact h
/-- The length that parts tell. -/
def lenS:List ByteArray → Int × Bool
 | []=>(0,false)
 | p :: r=>if (numSpec p 10 18).2=true∧(r.all fun q=>decide (numSpec q 10 18=((numSpec p 10 18).1,true)))=true then ((numSpec p 10 18).1,true) else (0,false)
theorem len_rest (ps:List ByteArray) (hl:ps.length ≤ 1048577000) (hs : ∀ p ∈ ps,p.size ≤ 1048576) (n:Int) (hn:0 ≤ n) (d:Nat) : ∀ (k i:Nat),i + d=ps.length → d + 2100000 ≤ k →
 frame_length.l0 k n ps (ps.length:Int) (i:Int)=some (if ((ps.drop i).all fun q=>decide (numSpec q 10 18=(n,true)))=true then (n,true) else (0,false)):=by
 induction d with
 | zero =>
  intro k i hi hk
  obtain ⟨k,rfl⟩ : ∃ m,k=m + 1:=⟨k - 1,by omega⟩
  rw [frame_length.l0,if_neg (by omega),List.drop_of_length_le (by omega),List.all_nil,if_pos rfl,decide_eq_true hn]
 | succ d ih =>
  intro k i hi hk
  obtain ⟨k,rfl⟩ : ∃ m,k=m + 1:=⟨k - 1,by omega⟩
  have hlt:i < ps.length:=by omega
  have hb:=hs _ (List.getElem_mem hlt)
  have hw:wrap64 ((i:Int) + 1)=((i + 1:Nat):Int):=by unfold wrap64;omega
  rw [frame_length.l0,if_pos (by omega),if_pos (by omega),if_pos (by omega),rdB_at ps i hlt,Decimal_f _ (by omega) k (by omega),Option.bind_some,hw,List.drop_eq_getElem_cons hlt,List.all_cons]
  obtain ⟨z,hz⟩ : ∃ z,z=numSpec ps[i] 10 18:=⟨_,rfl⟩
  rw [← hz]
  by_cases h1:z.2=true
  ·rw [if_pos h1,if_pos hn]
   by_cases h2:z.1=n
   ·have e:z=(n,true):=Prod.ext h2 h1
    rw [if_pos h2,h2,ih k (i + 1) (by omega) (by omega),decide_eq_true e,Bool.true_and]
   ·have e : ¬ z=(n,true):=fun e=>h2 (by rw [e])
    rw [if_neg h2,decide_eq_false e,Bool.false_and,if_neg (by simp)]
  ·have e : ¬ z=(n,true):=fun e=>h1 (by rw [e])
   rw [if_neg h1,decide_eq_false e,Bool.false_and,if_neg (by simp)]
theorem length_fs (fs:List (S36)) (hf:FB fs) (k:Nat) (hk:1060000000 ≤ k):frame_length.f k fs=some (if listS lenNm fs=[] then (-1,false) else lenS (listS lenNm fs)):=by
 have hlb:=list_bounds fs lenNm hf
 obtain ⟨ps,hps⟩ : ∃ ps,ps=listS lenNm fs:=⟨_,rfl⟩
 have hL:field_List.f k fs (⟨#[67,111,110,116,101,110,116,45,76,101,110,103,116,104]⟩:ByteArray)=some ps:=by
  have h:=List_f fs lenNM hf (by decide) k (by omega)
  rw [listS_nm _ _ len_nm,← hps] at h
  exact h
 unfold frame_length.f
 rw [hL,Option.bind_some,← hps]
 rw [← hps] at hlb
 obtain ⟨k,rfl⟩ : ∃ m,k=m + 1:=⟨k - 1,by omega⟩
 cases ps with
 | nil =>
  rw [frame_length.l0,if_neg (by simp),if_pos rfl]
  rfl
 | cons p r =>
  have hb:=hlb.2 p List.mem_cons_self
  have hr0:rdOf ByteArray.empty (p :: r) 0=p:=rdB_at (p :: r) 0 (by simp)
  rw [frame_length.l0,if_pos (by simp only [List.length_cons];omega),if_pos (by omega),if_pos (by simp only [List.length_cons];omega),hr0,Decimal_f _ (by omega) k (by omega),Option.bind_some,show (if (p :: r)=[] then ((-1:Int),false) else lenS (p :: r))=lenS (p :: r) from if_neg (by simp),lenS]
  obtain ⟨z,hz⟩ : ∃ z,z=numSpec p 10 18:=⟨_,rfl⟩
  have hnn:=num_nn p
  rw [← hz] at hnn ⊢
  by_cases h1:z.2=true
  ·have h:=len_rest (p :: r) hlb.1 hlb.2 z.1 hnn r.length k 1 (by simp only [List.length_cons];omega) (by have:=hlb.1;simp only [List.length_cons] at this;omega)
   have h' : frame_length.l0 k z.1 (p :: r) ((p :: r).length:Int) 1=_:=h
   rw [if_pos h1,if_neg (by decide),show wrap64 (0 + 1)=1 by unfold wrap64;omega,h']
   simp only [List.drop_succ_cons,List.drop_zero]
   by_cases h2:(r.all fun q=>decide (numSpec q 10 18=(z.1,true)))=true
   ·rw [if_pos h2,if_pos ⟨h1,h2⟩]
   ·rw [if_neg h2,if_neg (fun h=>h2 h.2)]
  ·rw [if_neg h1,if_neg (fun h=>h1 h.1)]
def chunkedW:ByteArray:=⟨#[99,104,117,110,107,101,100]⟩
/-- Are they chunked? -/
def chunkedS (fs:List (S36)):Bool:=match listS teNm fs with|[p]=>sameN p chunkedW|_=>false
theorem chunked_f (fs:List (S36)) (hf:FB fs) (k:Nat) (hk:1049600 ≤ k):frame_chunked.f k fs=some (chunkedS fs):=by
 have hlb:=list_bounds fs teNm hf
 have hL:field_List.f k fs (⟨#[84,114,97,110,115,102,101,114,45,69,110,99,111,100,105,110,103]⟩:ByteArray)=some (listS teNm fs):=by
  have h:=List_f fs teNM hf (by decide) k (by omega)
  rw [listS_nm _ _ te_nm] at h
  exact h
 unfold frame_chunked.f chunkedS
 rw [hL,Option.bind_some]
 match hps:listS teNm fs with
 | []=>rw [if_neg (by simp)]
 | [p] =>
  rw [hps] at hlb
  have hb:=hlb.2 p List.mem_cons_self
  have hr0:rdOf ByteArray.empty [p] 0=p:=rdB_at [p] 0 (by simp)
  rw [if_pos (by simp),if_pos (by simp),hr0,same_f p _ (by omega) (by decide),Option.bind_some]
  rfl
 | p :: q :: r=>rw [if_neg (by simp only [List.length_cons];omega)]
/-- How long a request's body is. -/
def reqLen (fs:List (S36)) (minor:Int):Int × Bool × Int :=
 if thereS teNm fs=true then (if thereS lenNm fs=true ∨ minor=0 then (0,false,400) else if chunkedS fs=true then (0,true,0) else (0,false,501))
 else if thereS lenNm fs=true then (if (lenS (listS lenNm fs)).2=true then (if (lenS (listS lenNm fs)).1 > 4096 then (0,false,413) else ((lenS (listS lenNm fs)).1,false,0)) else (0,false,400)) else (0,false,0)
theorem lenS_if (ps:List ByteArray):(if ps=[] then ((-1:Int),false) else lenS ps).2=(lenS ps).2∧((lenS ps).2=true → (if ps=[] then ((-1:Int),false) else lenS ps).1=(lenS ps).1):=by
 by_cases h:ps=[]
 ·rw [if_pos h,h];exact ⟨rfl,fun h=>by cases h⟩
 ·rw [if_neg h];exact ⟨rfl,fun _=>rfl⟩
theorem frameReq_f (fs:List (S36)) (minor:Int) (hf:FB fs) (k:Nat) (hk:1060000010 ≤ k):frame_Request.f k fs minor=some (reqLen fs minor):=by
 have hfl:=hf.1
 obtain ⟨k,rfl⟩ : ∃ m,k=m + 2:=⟨k - 2,by omega⟩
 obtain ⟨hl1,hl2⟩:=lenS_if (listS lenNm fs)
 unfold frame_Request.f reqLen
 rw [thereLen_f fs hf _ (by omega),Option.bind_some,thereTe_f fs hf _ (by omega),Option.bind_some,length_fs fs hf _ (by omega),Option.bind_some]
 obtain ⟨z,hz⟩ : ∃ z,z=(if listS lenNm fs=[] then ((-1:Int),false) else lenS (listS lenNm fs)):=⟨_,rfl⟩
 rw [← hz] at hl1 hl2 ⊢
 obtain ⟨y,hy⟩ : ∃ y,y=lenS (listS lenNm fs):=⟨_,rfl⟩
 rw [← hy] at hl1 hl2 ⊢
 have hj1 : ∀ L T b,frame_Request.j1 (k + 1) L T z.1 z.2 b=some (if b=true then (0,false,501) else if T=true then (0,true,0) else if L=true then (if y.2=true then (if y.1 > 4096 then (0,false,413) else (y.1,false,0)) else (0,false,400)) else (0,false,0)):=by
  intro L T b
  rw [frame_Request.j1,hl1]
  cases b <;> cases T <;> cases L <;> try rfl
  cases h:y.2
  ·rfl
  ·rw [hl2 h]
   by_cases h9:y.1 > 4096
   ·simp [h9]
   ·simp [h9]
 have hj0 : ∀ L T x,frame_Request.j0 (k + 2) fs L T z.1 z.2 x=some (if x=true then (0,false,400) else if T=true then (if chunkedS fs=true then (0,true,0) else (0,false,501)) else if L=true then (if y.2=true then (if y.1 > 4096 then (0,false,413) else (y.1,false,0)) else (0,false,400)) else (0,false,0)):=by
  intro L T x
  rw [frame_Request.j0,chunked_f fs hf (k + 1) (by omega),Option.bind_some,hj1,hj1]
  cases x <;> cases T <;> cases chunkedS fs <;> rfl
 rw [hj0,hj0,hj0]
 by_cases hm:minor=0
 ·rw [beq_iff_eq.2 hm]
  cases thereS teNm fs <;> cases thereS lenNm fs <;> simp [hm]
 ·rw [beq_eq_false_iff_ne.2 hm]
  cases thereS teNm fs <;> cases thereS lenNm fs <;> simp [hm]
def bodyS (b:List Int) (size:Int) (coded:Bool):List Int × Int × Int :=
 if coded=true then (if (decS b (b.length + 1) 0 4096 []).2.2=2 then ([],-1,413) else if (decS b (b.length + 1) 0 4096 []).2.2=0 then (if (decS b (b.length + 1) 0 4096 []).2.1=0 then ([],-1,0) else ((decS b (b.length + 1) 0 4096 []).1,(decS b (b.length + 1) 0 4096 []).2.1,0)) else ([],-1,400))
 else if (b.length:Int) < size then ([],-1,0) else (b.take size.toNat,size,0)
theorem lenS_nn (ps:List ByteArray):0 ≤ (lenS ps).1:=by
 cases ps with
 | nil=>decide
 | cons p r =>
  rw [lenS]
  split
  ·exact num_nn p
  ·decide
theorem reqLen_size (fs:List (S36)) (m:Int):0 ≤ (reqLen fs m).1∧(reqLen fs m).1 ≤ 4096:=by
 have h0:0 ≤ (lenS (listS lenNm fs)).1:=lenS_nn _
 unfold reqLen
 repeat' split
 all_goals first|exact ⟨by decide,by decide⟩|(constructor <;> simp only [] <;> omega)
theorem refFold_l0 (s:ByteArray) (hn:s.size ≤ 140737488355327) (d:Nat) : ∀ (k:Nat) (out:List Int) (i:Int),0 ≤ i → (s.size:Int) - i=d → d + 1 ≤ k → (out.length:Int)=i →
 tollbarref02_Fold.l0 k s out i=some (strOfNums (out ++ ((bytesOf s).drop i.toNat).map foldC)):=by
 induction d with
 | zero =>
  intro k out i h0 hd hk ho
  obtain ⟨k,rfl⟩ : ∃ m,k=m + 1:=⟨k - 1,by omega⟩
  simp only [tollbarref02_Fold.l0]
  rw [if_neg (by omega),List.drop_of_length_le (by rw [bytesOf_length];omega),List.map_nil,List.append_nil]
 | succ d ih =>
  intro k out i h0 hd hk ho
  obtain ⟨k,rfl⟩ : ∃ m,k=m + 1:=⟨k - 1,by omega⟩
  have hlt:i < (s.size:Int):=by omega
  have hl:i.toNat < (bytesOf s).length:=by rw [bytesOf_length];omega
  have hg:(bytesOf s)[i.toNat]=bt s i:=by rw [← rd_bytesOf];simp [rd,List.getD_eq_getElem?_getD,List.getElem?_eq_getElem hl]
  have hr:=bt_range s i
  have ih' := fun v=>ih k (out ++ [v]) (i + 1) (by omega) (by omega) (by omega) (by rw [List.length_append];simp;omega)
  have e1:(i + 1).toNat=i.toNat + 1:=by omega
  rw [List.drop_eq_getElem_cons hl,hg,List.map_cons]
  simp only [tollbarref02_Fold.l0]
  rw [if_pos hlt,if_pos h0,show wrap64 (i + 1)=i + 1 by unfold wrap64;omega]
  have hf : ∀ v,v=foldC (bt s i) → some (strOfNums (out ++ [v] ++ ((bytesOf s).drop (i.toNat + 1)).map foldC))=some (strOfNums (out ++ foldC (bt s i) :: ((bytesOf s).drop (i.toNat + 1)).map foldC)):=by
   intro v hv
   rw [hv,List.append_assoc]
   rfl
  have ho2:out.length < 140737488355328:=by omega
  by_cases h1:bt s i ≥ 65
  ·rw [if_pos h1]
   by_cases h2:bt s i ≤ 90
   ·rw [if_pos h2,if_pos ho2,ih',e1];exact hf _ (by unfold foldC;rw [if_pos ⟨h1,h2⟩];omega)
   ·rw [if_neg h2,if_pos ho2,ih',e1];exact hf _ (by unfold foldC;rw [if_neg (by omega)])
  ·rw [if_neg h1,if_pos ho2,ih',e1];exact hf _ (by unfold foldC;rw [if_neg (by omega)])
theorem refFold_f (s:ByteArray) (hn:s.size ≤ 140737488355327) (k:Nat) (hk:s.size + 1 ≤ k):tollbarref02_Fold.f k s=sign_Fold.f s:=by
 unfold tollbarref02_Fold.f sign_Fold.f
 rw [refFold_l0 s hn s.size k [] 0 (by omega) (by omega) hk rfl,if_pos (by omega)]
 rfl
theorem Fold_f (s:ByteArray) (hn:s.size ≤ 140737488355328):sign_Fold.f s=some (strOfNums ((bytesOf s).map foldC)):=if_pos hn
theorem CutPrefix_f (s p:List UInt8):strings_CutPrefix.f (mkS s) (mkS p)=some (if s.take p.length=p then (mkS (s.drop p.length),true) else (mkS s,false)):=by
 unfold strings_CutPrefix.f stringslite_CutPrefix.f stringslite_HasPrefix.f
 rw [mkS_size,mkS_size]
 by_cases h:p.length ≤ s.length
 ·rw [if_pos (by omega),if_pos (by omega),if_pos (by omega),Option.bind_some,Int.toNat_natCast,mkS_extract,mkS_extract,mkS_toList,mkS_toList,List.drop_zero,Nat.sub_zero]
  by_cases e:s.take p.length=p
  ·rw [if_pos e,e,if_pos (by simp),if_pos (by omega),if_pos (by omega),Option.bind_some,List.take_of_length_le (by rw [List.length_drop];omega)]
  ·rw [if_neg e,if_neg (by simpa using e),Option.bind_some]
 ·rw [if_neg (by omega),Option.bind_some,if_neg (by decide),Option.bind_some,if_neg ?_]
  intro e
  have:=congrArg List.length e
  rw [List.length_take] at this
  omega
theorem CutPrefix_yes (s p:List UInt8) (h:s.take p.length=p):strings_CutPrefix.f (mkS s) (mkS p)=some (mkS (s.drop p.length),true):=by rw [CutPrefix_f,if_pos h]
theorem CutPrefix_no (s p:List UInt8) (h : ¬ s.take p.length=p):strings_CutPrefix.f (mkS s) (mkS p)=some (mkS s,false):=by rw [CutPrefix_f,if_neg h]
/-- The last digit of a version that is known. -/
def minL (l:List UInt8):Option Int:=if l=[72,84,84,80,47,49,46,48] then some 0 else if l=[72,84,84,80,47,49,46,49] then some 1 else none
theorem minor_f (l:List UInt8):line_minor.f (mkS l)=some (match minL l with|some n=>(n,true)|none=>(0,false)):=by
 unfold line_minor.f minL
 rw [mkS_toList]
 by_cases h1:l=[72,84,84,80,47,49,46,48]
 ·rw [if_pos h1,if_pos h1]
 ·rw [if_neg h1,if_neg h1]
  by_cases h2:l=[72,84,84,80,47,49,46,49]
  ·rw [if_pos h2,if_pos h2]
  ·rw [if_neg h2,if_neg h2]
/-- The digits of a version. -/
def verL (l:List UInt8):Option (Int × Int):=match l with
 | [a,b,c,d,e,f,g,h]=>if [a,b,c,d,e]=[72,84,84,80,47]∧(48 ≤ (f.toNat:Int)∧(f.toNat:Int) ≤ 57)∧g=46∧(48 ≤ (h.toNat:Int)∧(h.toNat:Int) ≤ 57) then some ((f.toNat:Int) - 48,(h.toNat:Int) - 48) else none
 | _=>none
theorem verL_8 (a b c d e f g h:UInt8):verL [a,b,c,d,e,f,g,h]=if [a,b,c,d,e]=[72,84,84,80,47]∧(48 ≤ (f.toNat:Int)∧(f.toNat:Int) ≤ 57)∧g=46∧(48 ≤ (h.toNat:Int)∧(h.toNat:Int) ≤ 57) then some ((f.toNat:Int) - 48,(h.toNat:Int) - 48) else none:=rfl
theorem verL_none {l:List UInt8} (h:l.length ≠ 8):verL l=none:=by
 unfold verL
 split
 ·simp at h
 ·rfl
theorem eight {l:List UInt8} (h:l.length=8) : ∃ a b c d e f g i,l=[a,b,c,d,e,f,g,i]:=by
 match l,h with
 | [a,b,c,d,e,f,g,i],_=>exact ⟨a,b,c,d,e,f,g,i,rfl⟩
theorem refDigit_f (c:Int):tollbarref02_Digit.f c=some (decide (48 ≤ c∧c ≤ 57)):=by
 unfold tollbarref02_Digit.f
 by_cases h:c ≥ 48
 ·rw [if_pos h];congr 1;rw [Bool.eq_iff_iff,decide_eq_true_eq,decide_eq_true_eq];omega
 ·rw [if_neg h,decide_eq_false (by omega)]
theorem digit_f (c:Int):line_digit.f c=some (decide (48 ≤ c∧c ≤ 57)):=refDigit_f c
theorem numbered_f (l : List UInt8) : line_numbered.f (mkS l) = some (verL l).isSome := by
  unfold line_numbered.f
  rw [show (⟨#[72, 84, 84, 80, 47]⟩ : ByteArray) = mkS [72, 84, 84, 80, 47] from rfl]
  by_cases c1 : l.take ([72, 84, 84, 80, 47] : List UInt8).length = [72, 84, 84, 80, 47]
  · rw [CutPrefix_yes _ _ c1, Option.bind_some, if_pos rfl, mkS_size]
    have hl : l.take 5 = [72, 84, 84, 80, 47] := c1
    by_cases h8 : l.length = 8
    · obtain ⟨a, b, c, d, e, f, g, i, rfl⟩ := eight h8
      have c1' : [a, b, c, d, e] = [72, 84, 84, 80, 47] := c1
      have hd : List.drop ([72, 84, 84, 80, 47] : List UInt8).length [a, b, c, d, e, f, g, i] = [f, g, i] := rfl
      have b0 : bt (mkS [f, g, i]) 0 = f.toNat := bt_mk [f, g, i] 0 (by simp)
      have b1 : bt (mkS [f, g, i]) 1 = g.toNat := bt_mk [f, g, i] 1 (by simp)
      have b2 : bt (mkS [f, g, i]) 2 = i.toNat := bt_mk [f, g, i] 2 (by simp)
      rw [hd, if_pos (by rfl), if_pos (by simp), b0, b1, b2, digit_f, digit_f, Option.bind_some, Option.bind_some]
      rw [verL_8]
      by_cases c2 : 48 ≤ (f.toNat : Int) ∧ (f.toNat : Int) ≤ 57
      · rw [decide_eq_true c2, if_pos rfl, if_pos (by simp)]
        by_cases c3 : g = 46
        · have g1 : ((g.toNat : Nat) : Int) = 46 := by rw [c3]; rfl
          rw [if_pos g1, if_pos (by simp)]
          by_cases c4 : 48 ≤ (i.toNat : Int) ∧ (i.toNat : Int) ≤ 57
          · rw [decide_eq_true c4, if_pos ⟨c1', c2, c3, c4⟩]; rfl
          · rw [decide_eq_false c4, if_neg (fun h => c4 h.2.2.2)]; rfl
        · have g1 : ¬ ((g.toNat : Nat) : Int) = 46 := fun h => c3 (UInt8.toNat_inj.1 (by show _ = 46; omega))
          rw [if_neg g1, if_neg (fun h => c3 h.2.2.1)]; rfl
      · rw [decide_eq_false c2, if_neg (by simp), if_neg (fun h => c2 h.2.1)]; rfl
    · rw [verL_none h8, List.length_drop, if_neg (by
        have := congrArg List.length hl
        rw [List.length_take] at this
        simp only [List.length_cons, List.length_nil] at this ⊢
        omega)]
      rfl
  · rw [CutPrefix_no _ _ c1, Option.bind_some, if_neg (by simp)]
    have : verL l = none := by
      unfold verL
      split
      · rw [if_neg (fun h => c1 h.1)]
      · rfl
    rw [this]
    rfl
theorem ver_min (l:List UInt8):minL l=match verL l with|some p=>if p.1=1∧p.2 ≤ 1 then some p.2 else none|none=>none:=by
 by_cases h8:l.length=8
 ·obtain ⟨a,b,c,d,e,f,g,i,rfl⟩:=eight h8
  have fr:=f.toNat_lt
  have ir:=i.toNat_lt
  rw [verL_8]
  unfold minL
  by_cases c0:[a,b,c,d,e]=[72,84,84,80,47]∧(48 ≤ (f.toNat:Int)∧(f.toNat:Int) ≤ 57)∧g=46∧(48 ≤ (i.toNat:Int)∧(i.toNat:Int) ≤ 57)
  ·rw [if_pos c0]
   obtain ⟨c1,c2,c3,c4⟩:=c0
   simp only [List.cons.injEq,and_true] at c1
   obtain ⟨rfl,rfl,rfl,rfl,rfl⟩:=c1
   subst c3
   simp only [List.cons.injEq,and_true,true_and]
   by_cases f1:f=49
   ·subst f1
    simp only [true_and]
    by_cases i0:i=48
    ·subst i0;simp
    ·rw [if_neg i0]
     by_cases i1:i=49
     ·subst i1;simp
     ·rw [if_neg i1,if_neg ?_]
      rintro ⟨_,h⟩
      have e0:i.toNat ≠ 48:=fun h=>i0 (UInt8.toNat_inj.1 h)
      have e1:i.toNat ≠ 49:=fun h=>i1 (UInt8.toNat_inj.1 h)
      omega
   ·rw [if_neg (fun h=>f1 h.1),if_neg (fun h=>f1 h.1),if_neg ?_]
    rintro ⟨h,_⟩
    exact f1 (UInt8.toNat_inj.1 (by show _=49;omega))
  ·rw [if_neg c0,if_neg,if_neg]
   ·intro h;simp only [List.cons.injEq,and_true] at h;obtain ⟨rfl,rfl,rfl,rfl,rfl,rfl,rfl,rfl⟩:=h;exact c0 (by decide)
   ·intro h;simp only [List.cons.injEq,and_true] at h;obtain ⟨rfl,rfl,rfl,rfl,rfl,rfl,rfl,rfl⟩:=h;exact c0 (by decide)
 ·rw [verL_none h8]
  unfold minL
  rw [if_neg (fun h=>h8 (by rw [h];rfl)),if_neg (fun h=>h8 (by rw [h];rfl))]
theorem Host_some (l:List UInt8) (hn:l.length ≤ 140737488355328) : ∃ u,line_Host.f (mkS l)=some (hostEnd (mkS u)):=by
 unfold line_Host.f
 rw [if_pos (by rw [mkS_size];exact hn)]
 exact ⟨(hostCut (strOfNums ((bytesOf (mkS l)).map foldC))).data.toList,by rw [mkS_self]⟩
def tgtB (c:Int):Bool:=(sign_Target_1.f c).getD false
theorem Target_f (s:ByteArray) (h:s.size ≤ 140737488355328):sign_Target.f s=some (!s.toList.isEmpty && (bytesOf s).all tgtB):=if_pos h
def tokOk (s:ByteArray):Bool := !s.toList.isEmpty && (bytesOf s).all tokB
def tgtOk (s:ByteArray):Bool := !s.toList.isEmpty && (bytesOf s).all tgtB
/-- A method and its target. -/
def aimOk (m t:ByteArray):Bool:=tgtOk t && (decide (bt t 0=47) || (decide (t.toList=[42]) && (m.toList == [79,80,84,73,79,78,83])))
def reqBad (c:Int):ByteArray × ByteArray × Int × (List (S36)) × List Int × Int:=((⟨#[]⟩:ByteArray),(⟨#[]⟩:ByteArray),0,[],[],c)
/-- What a request's three parts tell. -/
def reqP (m t v:List UInt8):ByteArray × ByteArray × Int × (List (S36)) × List Int × Int :=
 if (m.length ≤ 20∧tokOk (mkS m)=true)∧aimOk (mkS m) (mkS t)=true then
  if 512 < t.length then reqBad 414 else
  match verL v with
  | none=>reqBad 400
  | some p=>if p.1=1∧p.2 ≤ 1 then (mkS m,mkS t,p.2,[],[],0) else reqBad 505
 else reqBad 400
def reqSpec (l:List UInt8):ByteArray × ByteArray × Int × (List (S36)) × List Int × Int:=match pcs 32 l with|[m,t,v]=>reqP m t v|_=>reqBad 400
theorem three {α:Type} {l:List α} (h:l.length=3) : ∃ a b c,l=[a,b,c]:=by
 match l,h with
 | [a,b,c],_=>exact ⟨a,b,c,rfl⟩
theorem reqSpec_not {l:List UInt8} (h:(pcs 32 l).length ≠ 3):reqSpec l=reqBad 400:=by
 unfold reqSpec
 split
 ·rename_i e;rw [e] at h;simp at h
 ·rfl
theorem reqSpec_yes {l m t v:List UInt8} (h:pcs 32 l=[m,t,v]):reqSpec l=reqP m t v:=by
 unfold reqSpec
 rw [h]
theorem tgt_ne {s:ByteArray} (h:tgtOk s=true):0 < s.size:=by
 unfold tgtOk at h
 rw [isEmpty_size] at h
 rcases Nat.eq_zero_or_pos s.size with e|e
 ·rw [e] at h;simp at h
 ·exact e
theorem target_f (m t:ByteArray) (h:t.size ≤ 140737488355328):line_target.f m t=some (aimOk m t):=by
 unfold line_target.f aimOk
 rw [Target_f t h,Option.bind_some]
 change (if tgtOk t=true then _ else _)=_
 cases ht:tgtOk t
 ·rfl
 ·have hp:=tgt_ne ht
  rw [if_pos rfl,if_pos (by omega),Bool.true_and]
  by_cases c1:bt t 0=47
  ·rw [if_pos c1,decide_eq_true c1];rfl
  ·rw [if_neg c1,decide_eq_false c1,Bool.false_or]
   by_cases c2:t.toList=[42]
   ·rw [if_pos c2,decide_eq_true c2];rfl
   ·rw [if_neg c2,decide_eq_false c2];rfl
theorem Request_f (l:List UInt8) (hn:l.length ≤ 4398046511100) (k:Nat) (hk:l.length + 4 ≤ k):line_Request.f k (mkS l)=some (reqSpec l):=by
 obtain ⟨k,rfl⟩ : ∃ m,k=m + 1:=⟨k - 1,by omega⟩
 unfold line_Request.f
 rw [Split_fC (sp:=32) (mkS l) (by rw [mkS_size];omega) (k + 1) (by rw [mkS_size];omega),Option.bind_some,mkS_data,List.length_map]
 have hle:=pcs_le (sp:=32) l
 by_cases h3:(pcs 32 l).length=3
 ·obtain ⟨m,t,v,hp⟩:=three h3
  rw [reqSpec_yes hp]
  rw [hp] at hle ⊢
  have hm:=hle m (by simp)
  have ht:=hle t (by simp)
  have e0:rdOf ByteArray.empty ([m,t,v].map mkS) 0=mkS m:=rfl
  have e1:rdOf ByteArray.empty ([m,t,v].map mkS) 1=mkS t:=rfl
  have e2:rdOf ByteArray.empty ([m,t,v].map mkS) 2=mkS v:=rfl
  have hl:(([m,t,v].map mkS).length:Int)=3:=rfl
  have hbad:line_Request.j0 (k + 1) ([m,t,v].map mkS) true=some (reqBad 400):=by simp only [line_Request.j0];rfl
  rw [hbad,e0,e1,if_pos (by simp),if_pos (by simp),mkS_size,Token_f _ (by rw [mkS_size];omega),Option.bind_some]
  unfold reqP
  change (if (m.length:Int) > 20 then _ else if tokOk (mkS m)=true then _ else _)=_
  by_cases c1:(m.length:Int) > 20
  ·rw [if_pos c1,if_neg (fun h=>by omega)]
  ·rw [if_neg c1]
   cases c2:tokOk (mkS m)
   ·rw [if_neg (by simp),if_neg (by simp)]
   ·rw [if_pos rfl,if_pos (by simp),target_f _ _ (by rw [mkS_size];omega),Option.bind_some]
    cases c3:aimOk (mkS m) (mkS t)
    ·rw [if_neg (by simp),Bool.not_false,hbad]
    ·rw [if_pos ⟨⟨by omega,rfl⟩,rfl⟩,Bool.not_true]
     simp only [line_Request.j0]
     rw [if_neg (by simp),hl,e0,e1,e2,if_pos (by omega),minor_f,Option.bind_some,if_pos (by omega),mkS_size]
     by_cases c4:512 < t.length
     ·rw [if_pos (by omega),if_pos c4];rfl
     ·rw [if_neg (by omega),if_neg c4,numbered_f,Option.bind_some,ver_min]
      cases hv:verL v with
      | none=>rfl
      | some p =>
       simp only [Option.isSome_some,if_true]
       by_cases c5:p.1=1∧p.2 ≤ 1
       ·rw [if_pos c5,if_pos c5];rfl
       ·rw [if_neg c5,if_neg c5];rfl
 ·rw [reqSpec_not h3,if_neg (by omega)]
  simp only [line_Request.j0]
  rfl
def hostNm:ByteArray:=⟨#[104,111,115,116]⟩
def hostNM:ByteArray:=⟨#[72,111,115,116]⟩
theorem host_nm:(bytesOf hostNM).map foldC=(bytesOf hostNm).map foldC:=by decide +kernel
def hostT (h:ByteArray):ByteArray × Bool:=(line_Host.f h).getD (⟨#[]⟩,false)
theorem hostT_f (h:ByteArray) (hs:h.size ≤ 140737488355328):line_Host.f h=some (hostT h):=by
 obtain ⟨u,hu⟩:=Host_some h.data.toList (by rw [data_length];omega)
 rw [mkS_self] at hu
 unfold hostT
 rw [hu]
 rfl
/-- Are a request's hosts right? -/
def hostsOk:List ByteArray → Int → Bool
 | [],minor=>minor == 0
 | [h],_=>(hostT h).2
 | _ :: _ :: _,_=>false
def openBad (c:Int):ByteArray × ByteArray × Int × List (S36) × List Int × Int × Int × Bool × Int:=(⟨#[]⟩,⟨#[]⟩,0,[],[],0,0,false,c)
def openF (q:ByteArray × ByteArray × Int × List (S36) × List Int × Int) (g:List (S36)) (n:Int):ByteArray × ByteArray × Int × List (S36) × List Int × Int × Int × Bool × Int :=
 if hostsOk (getS hostNm g) q.2.2.1=true then (if (reqLen g q.2.2.1).2.2=0 then (q.1,q.2.1,q.2.2.1,g,[],n,(reqLen g q.2.2.1).1,(reqLen g q.2.2.1).2.1,0) else openBad (reqLen g q.2.2.1).2.2) else openBad 400
def openL:List ByteArray × Int × Int → ByteArray × ByteArray × Int × List (S36) × List Int × Int × Int × Bool × Int
 | ([],_,c)=>openBad c
 | (s :: ss,n,c)=>if (reqSpec s.data.toList).2.2.2.2.2=0 then (if (fieldsS ss 0).2=0 then (if n=0 then openBad c else openF (reqSpec s.data.toList) (fieldsS ss 0).1 n) else openBad (fieldsS ss 0).2) else openBad (reqSpec s.data.toList).2.2.2.2.2
/-- What a request's beginning tells. -/
def openS (l:List Int):ByteArray × ByteArray × Int × List (S36) × List Int × Int × Int × Bool × Int:=openL (linesS (bdS l) (extS l))
/-- The request with which bytes begin. -/
def reqS (l:List Int):ByteArray × ByteArray × Int × List (S36) × List Int × Int × Int :=
 if (openS l).2.2.2.2.2.1=0 then (⟨#[]⟩,⟨#[]⟩,0,[],[],0,(openS l).2.2.2.2.2.2.2.2)
 else if (bodyS (l.drop (openS l).2.2.2.2.2.1.toNat) (openS l).2.2.2.2.2.2.1 (openS l).2.2.2.2.2.2.2.1).2.1 < 0 then (⟨#[]⟩,⟨#[]⟩,0,[],[],0,(bodyS (l.drop (openS l).2.2.2.2.2.1.toNat) (openS l).2.2.2.2.2.2.1 (openS l).2.2.2.2.2.2.2.1).2.2)
 else ((openS l).1,(openS l).2.1,(openS l).2.2.1,(openS l).2.2.2.1,(bodyS (l.drop (openS l).2.2.2.2.2.1.toNat) (openS l).2.2.2.2.2.2.1 (openS l).2.2.2.2.2.2.2.1).1,(openS l).2.2.2.2.2.1 + (bodyS (l.drop (openS l).2.2.2.2.2.1.toNat) (openS l).2.2.2.2.2.2.1 (openS l).2.2.2.2.2.2.2.1).2.1,0)
theorem reqSpec_minor (l:List UInt8):(reqSpec l).2.2.1=0 ∨ (reqSpec l).2.2.1=1:=by
 have hv : ∀ v p,verL v=some p → 0 ≤ p.2:=by
  intro v p h
  unfold verL at h
  split at h
  ·split at h
   ·rename_i c
    injection h with h
    subst h
    show (0:Int) ≤ _ - 48
    omega
   ·cases h
  ·cases h
 unfold reqSpec
 split
 ·unfold reqP
  split
  ·split
   ·exact Or.inl rfl
   ·split
    ·exact Or.inl rfl
    ·rename_i p hp
     have:=hv _ _ hp
     split
     ·rename_i h
      show p.2=0 ∨ p.2=1
      omega
     ·exact Or.inl rfl
  ·exact Or.inl rfl
 ·exact Or.inl rfl
/-- What is known of a request's beginning that is whole. -/
structure OpenOk (l:List Int) (o:ByteArray × ByteArray × Int × List (S36) × List Int × Int × Int × Bool × Int):Prop where
 pos:0 < o.2.2.2.2.2.1
 le:o.2.2.2.2.2.1 ≤ (l.length:Int)∧o.2.2.2.2.2.1 ≤ 2048
 code:o.2.2.2.2.2.2.2.2=0
 size:0 ≤ o.2.2.2.2.2.2.1∧o.2.2.2.2.2.2.1 ≤ 4096
 minor:o.2.2.1=0 ∨ o.2.2.1=1
 fields:o.2.2.2.1.length ≤ 40 ∧ ∀ f ∈ o.2.2.2.1,rightB f.f0 f.f1=true
 body:o.2.2.2.2.1=[]
theorem open_cases (l:List Int):(∃ c,openS l=openBad c) ∨ OpenOk l (openS l):=by
 have hb:=bdS_length l
 have hle:=lines_le (bdS l) (extS l)
 unfold openS
 obtain ⟨L,hL⟩ : ∃ L,L=linesS (bdS l) (extS l):=⟨_,rfl⟩
 rw [← hL] at hle ⊢
 obtain ⟨ss,n,c⟩:=L
 simp only at hle
 cases ss with
 | nil=>exact Or.inl ⟨c,rfl⟩
 | cons s ss =>
  rw [openL]
  split
  ·split
   ·split
    ·exact Or.inl ⟨c,rfl⟩
    ·rename_i h3
     unfold openF
     split
     ·split
      ·have hf:=fieldsS_FB ss 0 (by omega)
       exact Or.inr ⟨by show 0 < n;omega,by show n ≤ _∧n ≤ 2048;omega,rfl,reqLen_size _ _,reqSpec_minor _,⟨by show (fieldsS ss 0).1.length ≤ 40;omega,hf.2⟩,rfl⟩
      ·exact Or.inl ⟨_,rfl⟩
     ·exact Or.inl ⟨_,rfl⟩
   ·exact Or.inl ⟨_,rfl⟩
  ·exact Or.inl ⟨_,rfl⟩
def Cln (xs:List Int):Prop := ∀ x ∈ xs,x ≠ 13∧x ≠ 10
theorem cln_nil:Cln []:=fun x hx=>by cases hx
theorem cln_app {a b:List Int} (ha:Cln a) (hb:Cln b):Cln (a ++ b):=fun x hx=>by
 rcases List.mem_append.1 hx with h|h
 ·exact ha x h
 ·exact hb x h
theorem cutA_split (l:List Int) (m:Int) : ∀ (d:Nat) (i:Int),(l.length:Int) - i=d → 0 ≤ i → Cln (l.take i.toNat) → i ≤ m → (cutAt l m d i).2.1 > 0 →
 ∃ xs r,l=xs ++ ([13,10] ++ r)∧Cln xs∧(xs.length:Int) ≤ m∧cutAt l m d i=(strOfNums xs,(xs.length:Int) + 2,0):=by
 intro d
 induction d with
 | zero=>intro i _ _ _ _ h;simp [cutAt] at h
 | succ d ih =>
  intro i hd h0 hc hm h
  have hlt:i < (l.length:Int):=by omega
  rw [cutAt] at h ⊢
  by_cases h10:rd l i=10
  ·rw [if_pos h10] at h;simp at h
  ·rw [if_neg h10] at h ⊢
   by_cases h13:rd l i=13
   ·rw [if_pos h13] at h ⊢
    by_cases h1:i + 1 < (l.length:Int)
    ·rw [if_pos h1] at h ⊢
     by_cases hr:rd l (i + 1)=10
     ·rw [if_pos hr] at h ⊢
      have ht:=take_two l i h0 h1
      rw [h13,hr] at ht
      have hl:(l.take i.toNat).length=i.toNat:=by rw [List.length_take];omega
      refine ⟨l.take i.toNat,l.drop (i + 2).toNat,?_,hc,by omega,?_⟩
      ·rw [← List.append_assoc,← ht,List.take_append_drop]
      ·rw [hl,show ((i.toNat:Nat):Int)=i by omega]
     ·rw [if_neg hr] at h;simp at h
    ·rw [if_neg h1] at h;simp at h
   ·rw [if_neg h13] at h ⊢
    by_cases hmi:m ≤ i
    ·rw [if_pos hmi] at h;simp at h
    ·rw [if_neg hmi] at h ⊢
     refine ih (i + 1) (by omega) (by omega) ?_ (by omega) h
     have hlt' : i.toNat < l.length:=by omega
     have e:l[i.toNat]=rd l i:=by simp [rd,List.getD_eq_getElem?_getD,List.getElem?_eq_getElem hlt']
     rw [show (i + 1).toNat=i.toNat + 1 by omega,List.take_succ_eq_append_getElem hlt',e]
     refine cln_app hc fun x hx=>?_
     rw [List.mem_singleton.1 hx]
     exact ⟨h13,h10⟩
theorem cut_split (l:List Int) (m:Int) (h:(cutSpec l m).2.1 > 0) : ∃ xs r,l=xs ++ ([13,10] ++ r)∧Cln xs∧(xs.length:Int) ≤ mx m 0∧cutSpec l m=(strOfNums xs,(xs.length:Int) + 2,0) :=
 cutA_split l (mx m 0) l.length 0 (by omega) (by omega) cln_nil (by unfold mx;split <;> omega) h
theorem cutT_line (xs:List Int) (hs:Cln xs) (r:List Int) (m:Int) (hm:(xs.length:Int) ≤ m) (d:Nat) : ∀ (j e:Nat),j + d=xs.length → e=d + 2 + r.length →
 cutAt (xs ++ ([13,10] ++ r)) m e j=(strOfNums xs,(xs.length:Int) + 2,0):=by
 induction d with
 | zero =>
  intro j e hj he
  subst he
  obtain rfl:j=xs.length:=by omega
  have e1:rd (xs ++ ([13,10] ++ r)) (xs.length:Int)=13:=by rw [rd_append_right _ _ _ (by omega),Int.sub_self];rfl
  have e2:rd (xs ++ ([13,10] ++ r)) ((xs.length:Int) + 1)=10:=by rw [rd_append_right _ _ _ (by omega),show (xs.length:Int) + 1 - xs.length=1 by omega];rfl
  rw [show 0 + 2 + r.length=(r.length + 1) + 1 by omega]
  simp only [cutAt]
  rw [e1,if_neg (by decide),if_pos rfl,if_pos (by rw [List.length_append];simp;omega),e2,if_pos rfl,Int.toNat_natCast,List.take_left]
 | succ d ih =>
  intro j e hj he
  subst he
  have hlt:j < xs.length:=by omega
  have e1:rd (xs ++ ([13,10] ++ r)) (j:Int)=xs[j]:=by
   rw [rd_append_left _ _ _ (by omega) (by omega)]
   simp [rd,List.getD_eq_getElem?_getD,List.getElem?_eq_getElem hlt]
  obtain ⟨h13,h10⟩:=hs _ (List.getElem_mem hlt)
  rw [show d + 1 + 2 + r.length=(d + 2 + r.length) + 1 by omega]
  simp only [cutAt]
  rw [e1,if_neg h10,if_neg h13,if_neg (by omega)]
  have:=ih (j + 1) (d + 2 + r.length) (by omega) rfl
  rw [show ((j + 1:Nat):Int)=(j:Int) + 1 by omega] at this
  exact this
theorem cutT (xs:List Int) (hs:Cln xs) (r:List Int) (m:Int) (hm:(xs.length:Int) ≤ m):cutSpec (xs ++ ([13,10] ++ r)) m=(strOfNums xs,(xs.length:Int) + 2,0):=by
 have e1:mx m 0=m:=by unfold mx;split <;> omega
 unfold cutSpec
 rw [e1]
 exact cutT_line xs hs r m hm xs.length 0 _ (by omega) (by rw [List.length_append,List.length_append];simp;omega)
/-- Lines,one behind the other. -/
def flatL:List (List Int) → List Int
 | []=>[]
 | s :: ss=>s ++ ([13,10] ++ flatL ss)
theorem str_nil (xs:List Int):(strOfNums xs).toList=[] ↔ xs=[]:=by
 have h:=str_size xs
 constructor
 ·intro e
  have:(strOfNums xs).size=0:=by rw [← data_length,← toList_data,e];rfl
  exact List.eq_nil_of_length_eq_zero (by omega)
 ·rintro rfl;rw [toList_data];rfl
def LinesOk (ss:List (List Int)):Prop := ∀ s ∈ ss,Cln s∧s ≠ []∧s.length ≤ 2048
theorem tail_text (L:List Int) (e:Int) (r:List Int) : ∀ (ss:List (List Int)) (p d:Nat),L.drop p=flatL ss ++ ([13,10] ++ r) → LinesOk ss → ss.length < d →
 tailS L e d p=(ss.map strOfNums,(p:Int) + ((flatL ss).length:Int) + 2,0):=by
 intro ss
 induction ss with
 | nil =>
  intro p d h hs hd
  obtain ⟨d,rfl⟩ : ∃ m,d=m + 1:=⟨d - 1,by simp only [List.length_nil] at hd;omega⟩
  have hc:=cutT [] cln_nil r 2048 (by decide)
  rw [List.nil_append] at hc
  rw [tailS,h,flatL,List.nil_append,hc,if_neg (by decide),if_neg (by decide),if_pos ((str_nil []).2 rfl)]
  simp
 | cons s ss ih =>
  intro p d h hs hd
  obtain ⟨d,rfl⟩ : ∃ m,d=m + 1:=⟨d - 1,by simp only [List.length_cons] at hd;omega⟩
  obtain ⟨h1,h2,h3⟩:=hs s (List.mem_cons_self ..)
  have hfl:flatL (s :: ss) ++ ([13,10] ++ r)=s ++ ([13,10] ++ (flatL ss ++ ([13,10] ++ r))):=by rw [flatL,List.append_assoc,List.append_assoc]
  rw [hfl] at h
  have hc:=cutT s h1 (flatL ss ++ ([13,10] ++ r)) 2048 (by omega)
  have hd2:L.drop (p + (s.length + 2))=flatL ss ++ ([13,10] ++ r):=by
   rw [← List.drop_drop,h,← List.append_assoc,List.drop_append_of_le_length (by simp),List.drop_of_length_le (by simp),List.nil_append]
  rw [tailS,h,hc]
  simp only
  rw [if_neg (by decide),if_neg (by omega),if_neg (fun he=>h2 ((str_nil s).1 he)),show ((s.length:Int) + 2).toNat=s.length + 2 by omega,
   ih (p + (s.length + 2)) d hd2 (fun t ht=>hs t (List.mem_cons_of_mem _ ht)) (by simp only [List.length_cons] at hd;omega)]
  simp only [List.map_cons,flatL,List.length_append,List.length_cons,List.length_nil,Prod.mk.injEq,true_and,and_true]
  omega
theorem tail_split (L:List Int) (e:Int) : ∀ (d p:Nat),p ≤ L.length → (tailS L e d p).2.1 ≠ 0 →
 ∃ ss r,L.drop p=flatL ss ++ ([13,10] ++ r)∧LinesOk ss∧ss.length < d∧tailS L e d p=(ss.map strOfNums,(p:Int) + ((flatL ss).length:Int) + 2,0):=by
 intro d
 induction d with
 | zero=>intro p _ h;simp [tailS] at h
 | succ d ih =>
  intro p hp h
  have hsh:=cutS_shape (L.drop p) 2048
  have hsp:=cut_split (L.drop p) 2048
  have hdl:(L.drop p).length=L.length - p:=List.length_drop ..
  have hmx:mx 2048 0=2048:=by decide
  rw [hmx] at hsp
  rw [tailS] at h
  obtain ⟨c,hc⟩ : ∃ c,c=cutSpec (L.drop p) 2048:=⟨_,rfl⟩
  rw [← hc] at hsh hsp h
  by_cases h1:c.2.2=20
  ·rw [if_pos h1] at h;simp at h
  ·rw [if_neg h1] at h
   by_cases h2:c.2.1=0
   ·rw [if_pos h2] at h;simp at h
   ·rw [if_neg h2] at h
    have hcp:c.2.1 > 0:=by clear hsp ih;rcases hsh with h|h <;> omega
    obtain ⟨xs,r,e1,e2,e3,e4⟩:=hsp hcp
    clear hsp
    by_cases h3:c.1.toList=[]
    ·have:xs=[]:=by rw [e4] at h3;exact (str_nil xs).1 h3
     subst this
     refine ⟨[],r,by rw [e1];rfl,(fun t ht=>by cases ht),(by simp),tail_text L e r [] p (d + 1) (by rw [e1];rfl) (fun t ht=>by cases ht) (by simp)⟩
    ·rw [if_neg h3,e4] at h
     have hl:(L.drop p).length=xs.length + 2 + r.length:=by rw [e1];simp only [List.length_append,List.length_cons,List.length_nil];omega
     have hd2:L.drop (p + (xs.length + 2))=r:=by
      rw [← List.drop_drop,e1,← List.append_assoc,List.drop_append_of_le_length (by simp),List.drop_of_length_le (by simp),List.nil_append]
     simp only at h
     rw [show ((xs.length:Int) + 2).toNat=xs.length + 2 by omega] at h
     have hple:p + (xs.length + 2) ≤ L.length:=by clear hsh h e4;omega
     obtain ⟨ss,r',f1,f2,f3,f4⟩:=ih (p + (xs.length + 2)) hple h
     have hok:LinesOk (xs :: ss):=fun t ht=>by
      rcases List.mem_cons.1 ht with rfl|ht
      ·exact ⟨e2,fun hn=>h3 (by rw [e4];exact (str_nil _).2 hn),by omega⟩
      ·exact f2 t ht
     have hdr:L.drop p=flatL (xs :: ss) ++ ([13,10] ++ r'):=by
      rw [e1,← hd2,f1,flatL,List.append_assoc,List.append_assoc]
     exact ⟨xs :: ss,r',hdr,hok,by simp only [List.length_cons];omega,tail_text L e r' (xs :: ss) p (d + 1) hdr hok (by simp only [List.length_cons];omega)⟩
theorem flatL_len (ss:List (List Int)):ss.length ≤ (flatL ss).length:=by
 induction ss with
 | nil=>exact Nat.le_refl _
 | cons s ss ih=>simp only [flatL,List.length_append,List.length_cons,List.length_nil];omega
theorem lines_text (l:List Int) (e:Int) (s:List Int) (ss:List (List Int)) (r:List Int) (h:l=s ++ ([13,10] ++ (flatL ss ++ ([13,10] ++ r)))) (hs:Cln s) (hn:s.length ≤ 2048) (hss:LinesOk ss) :
 linesS l e=(strOfNums s :: ss.map strOfNums,(s.length:Int) + ((flatL ss).length:Int) + 4,0):=by
 have hc:=cutT s hs (flatL ss ++ ([13,10] ++ r)) 2048 (by omega)
 rw [← h] at hc
 have hd2:l.drop (s.length + 2)=flatL ss ++ ([13,10] ++ r):=by
  rw [h,← List.append_assoc,List.drop_append_of_le_length (by simp),List.drop_of_length_le (by simp),List.nil_append]
 have hf:=flatL_len ss
 have hl:l.length=s.length + 2 + (flatL ss).length + 2 + r.length:=by rw [h];simp only [List.length_append,List.length_cons,List.length_nil];omega
 unfold linesS
 rw [hc]
 simp only
 rw [if_neg (by decide),if_neg (by omega),show ((s.length:Int) + 2).toNat=s.length + 2 by omega,tail_text l e r ss (s.length + 2) (l.length + 1) hd2 hss (by omega)]
 simp only [Prod.mk.injEq,true_and,and_true]
 omega
theorem lines_split (l:List Int) (e:Int) (h:(linesS l e).2.1 ≠ 0) : ∃ s ss r,l=s ++ ([13,10] ++ (flatL ss ++ ([13,10] ++ r)))∧Cln s∧s.length ≤ 2048∧LinesOk ss:=by
 have hsh:=cutS_shape l 2048
 have hsp:=cut_split l 2048
 have hmx:mx 2048 0=2048:=by decide
 rw [hmx] at hsp
 unfold linesS at h
 obtain ⟨c,hc⟩ : ∃ c,c=cutSpec l 2048:=⟨_,rfl⟩
 rw [← hc] at hsh hsp h
 by_cases h1:c.2.2=20
 ·rw [if_pos h1] at h;simp at h
 ·rw [if_neg h1] at h
  by_cases h2:c.2.1=0
  ·rw [if_pos h2] at h;simp at h
  ·rw [if_neg h2] at h
   have hcp:c.2.1 > 0:=by clear hsp;rcases hsh with h|h <;> omega
   obtain ⟨xs,r,e1,e2,e3,e4⟩:=hsp hcp
   clear hsp
   rw [e4] at h
   simp only at h
   rw [show ((xs.length:Int) + 2).toNat=xs.length + 2 by omega] at h
   have hl:l.length=xs.length + 2 + r.length:=by rw [e1];simp only [List.length_append,List.length_cons,List.length_nil];omega
   have hd2:l.drop (xs.length + 2)=r:=by
    rw [e1,← List.append_assoc,List.drop_append_of_le_length (by simp),List.drop_of_length_le (by simp),List.nil_append]
   obtain ⟨ss,r',f1,f2,f3,f4⟩:=tail_split l e (l.length + 1) (xs.length + 2) (by omega) h
   exact ⟨xs,ss,r',by rw [← f1,hd2];exact e1,e2,by omega,f2⟩
/-- A field's line,without its end. -/
def fieldLn (f:S36):List Int:=bytesOf f.f0 ++ ([58,32] ++ bytesOf f.f1)
theorem tok_58:tokB 58=false:=by decide +kernel
theorem tok_13:tokB 13=false:=by decide +kernel
theorem tok_10:tokB 10=false:=by decide +kernel
theorem vl_13:valB 13=false:=by decide +kernel
theorem vl_10:valB 10=false:=by decide +kernel
theorem rightB_parts {a t:ByteArray} (h:rightB a t=true):a.toList.isEmpty=false∧(bytesOf a).all tokB=true∧(bytesOf t).all valB=true∧mkS (trm t.data.toList)=t:=by
 unfold rightB at h
 simp only [Bool.and_eq_true,decide_eq_true_eq,Bool.not_eq_true',beq_iff_eq] at h
 exact ⟨h.2.1.1,h.2.1.2,h.2.2.2.1,toList_inj h.2.2.2.2⟩
theorem fieldLn_ok (f:S36) (h:rightB f.f0 f.f1=true):Cln (fieldLn f)∧fieldLn f ≠ []∧(fieldLn f).length ≤ 1102:=by
 obtain ⟨_,h2,h3,_⟩:=rightB_parts h
 have hs:=rightB_size h
 refine ⟨fun x hx=>?_,(fun e=>?_),?_⟩
 ·unfold fieldLn at hx
  rcases List.mem_append.1 hx with hx|hx
  ·have:=List.all_eq_true.1 h2 x hx
   refine ⟨fun e=>?_,fun e=>?_⟩
   ·rw [e,tok_13] at this;cases this
   ·rw [e,tok_10] at this;cases this
  ·rcases List.mem_append.1 hx with hx|hx
   ·have:x=58 ∨ x=32:=by simpa using hx
    omega
   ·have:=List.all_eq_true.1 h3 x hx
    refine ⟨fun e=>?_,fun e=>?_⟩
    ·rw [e,vl_13] at this;cases this
    ·rw [e,vl_10] at this;cases this
 ·have:=congrArg List.length e
  unfold fieldLn at this
  simp only [List.length_append,List.length_cons,List.length_nil] at this
  omega
 ·unfold fieldLn
  simp only [List.length_append,List.length_cons,List.length_nil,bytesOf_length]
  omega
theorem fieldLn_data (f:S36):(strOfNums (fieldLn f)).data.toList=f.f0.data.toList ++ 58 :: (32 :: f.f1.data.toList):=by
 have e : ∀ s:ByteArray,bytesOf s=s.data.toList.map fun b=>(b.toNat:Int):=fun _=>rfl
 unfold fieldLn
 rw [str_append,str_append,e,e,str_bytes,str_bytes]
 simp [ByteArray.data_append,mkS,strOfNums]
theorem trm_32 (t:ByteArray) (h:mkS (trm t.data.toList)=t):mkS (trm (32 :: t.data.toList))=t:=by
 have e:trm t.data.toList=t.data.toList:=by
  have:=congrArg (fun s=>s.data.toList) h
  simp only [mkS_data] at this
  exact this
 have hc:Clean t.data.toList:=by rw [← e];exact trm_clean _
 have:=trm_around [32] t.data.toList [] hc (fun a ha=>by rw [List.mem_singleton.1 ha];decide) (fun a ha=>by cases ha)
 rw [List.append_nil] at this
 rw [show (32:UInt8) :: t.data.toList=[32] ++ t.data.toList from rfl,this,mkS_self]
theorem fieldLn_field (f:S36) (h:rightB f.f0 f.f1=true):fieldOk (strOfNums (fieldLn f)).data.toList=true∧fieldX (strOfNums (fieldLn f)).data.toList=f:=by
 obtain ⟨_,h2,_,h4⟩:=rightB_parts h
 have h58:(58:UInt8) ∉ f.f0.data.toList:=by
  intro hm
  have:(58:Int) ∈ bytesOf f.f0:=List.mem_map.2 ⟨58,hm,rfl⟩
  have:=List.all_eq_true.1 h2 58 this
  rw [tok_58] at this
  cases this
 rw [fieldLn_data]
 obtain ⟨e1,e2⟩:=take_first 58 f.f0.data.toList (32 :: f.f1.data.toList) h58
 refine ⟨?_,?_⟩
 ·rw [fieldOk_yes _ _ h58,trm_32 f.f1 h4,mkS_self];exact h
 ·unfold fieldX
  rw [e1,e2,trm_32 f.f1 h4,mkS_self]
theorem fields_text : ∀ (fs:List (S36)) (n:Nat),(∀ f ∈ fs,rightB f.f0 f.f1=true) → n + fs.length ≤ 40 → fieldsS ((fs.map fieldLn).map strOfNums) n=(fs,0):=by
 intro fs
 induction fs with
 | nil=>intro n _ _;rfl
 | cons f fs ih =>
  intro n hg hn
  simp only [List.length_cons] at hn
  obtain ⟨g1,g2⟩:=fieldLn_field f (hg f (List.mem_cons_self ..))
  rw [List.map_cons,List.map_cons,fieldsS,if_pos g1,if_neg (by omega),ih (n + 1) (fun x hx=>hg x (List.mem_cons_of_mem _ hx)) (by omega),if_pos rfl,g2]
/-- What is written of fields is their lines. -/
theorem fLines_flat (fs:List (S36)):fLines fs=flatL (fs.map fieldLn):=by
 induction fs with
 | nil=>rfl
 | cons f fs ih =>
  rw [fLines,List.map_cons,flatL,ih]
  unfold lineB fieldLn
  rw [bytes_app,bytes_app,bytes_app]
  show ((_ ++ [58,32]) ++ _) ++ [13,10] ++ _=_
  simp only [List.append_assoc]
/-- A head that is written is read: its line,its fields;what stands behind it is not looked at. -/
theorem back_lines (l:List Int) (hl:Cln l) (fs:List (S36)) (hf : ∀ f ∈ fs,rightB f.f0 f.f1=true) (hn:fs.length ≤ 40) (R:List Int) (hH:l.length + (fLines fs).length + 4 ≤ 2048) (X:List Int) (hX:X=(l ++ [13,10]) ++ fLines fs ++ [13,10] ++ R) :
 linesS (bdS X) (extS X)=(strOfNums l :: (fs.map fieldLn).map strOfNums,(l.length:Int) + ((fLines fs).length:Int) + 4,0):=by
 have hflat:=fLines_flat fs
 have e1:((l ++ [13,10]) ++ fLines fs ++ [13,10]).length=l.length + (fLines fs).length + 4:=by simp only [List.length_append,List.length_cons,List.length_nil];omega
 have hbd:bdS X=l ++ ([13,10] ++ (flatL (fs.map fieldLn) ++ ([13,10] ++ R.take (2048 - (l.length + (fLines fs).length + 4))))):=by
  unfold bdS
  rw [hX,List.take_append,e1,List.take_of_length_le (by omega),hflat]
  simp only [List.append_assoc]
 have hok:LinesOk (fs.map fieldLn):=fun t ht=>by
  obtain ⟨f,hfm,rfl⟩:=List.mem_map.1 ht
  obtain ⟨a1,a2,a3⟩:=fieldLn_ok f (hf f hfm)
  exact ⟨a1,a2,by omega⟩
 have:=lines_text (bdS X) (extS X) l (fs.map fieldLn) _ hbd hl (by omega) hok
 rw [this,hflat]
theorem back_open (l:List UInt8) (hl:Cln (l.map fun b=>(b.toNat:Int))) (hq:(reqSpec l).2.2.2.2.2=0) (fs:List (S36)) (hf : ∀ f ∈ fs,rightB f.f0 f.f1=true) (hn:fs.length ≤ 40) (R:List Int) (hH:l.length + (fLines fs).length + 4 ≤ 2048) (X:List Int)
 (hX:X=((l.map fun b=>(b.toNat:Int)) ++ [13,10]) ++ fLines fs ++ [13,10] ++ R):openS X=openF (reqSpec l) fs ((l.length:Int) + ((fLines fs).length:Int) + 4):=by
 have:=back_lines _ hl fs hf hn R (by rw [List.length_map];exact hH) X hX
 unfold openS
 rw [this,openL,str_bytes,mkS_data,if_pos hq,fields_text fs 0 hf (by omega),if_pos rfl,if_neg (by omega),List.length_map]
/-- Where no line ends there is none yet. -/
theorem cutE_go (Y:List Int) (m:Int) (hm:(Y.length:Int) ≤ m) (h : ∀ (i:Nat) (hi:i < Y.length),Y[i] ≠ 10∧(Y[i]=13 → i + 1=Y.length)) (d:Nat) : ∀ j:Nat,j + d=Y.length → cutAt Y m d j=((⟨#[]⟩:ByteArray),0,0):=by
 induction d with
 | zero=>intro j _;rfl
 | succ d ih =>
  intro j hj
  have hlt:j < Y.length:=by omega
  have e1:rd Y (j:Int)=Y[j]:=by simp [rd,List.getD_eq_getElem?_getD,List.getElem?_eq_getElem hlt]
  obtain ⟨h1,h2⟩:=h j hlt
  rw [cutAt,e1,if_neg h1]
  by_cases h3:Y[j]=13
  ·rw [if_pos h3,if_neg (by have:=h2 h3;omega)]
  ·rw [if_neg h3,if_neg (by omega)]
   have:=ih (j + 1) (by omega)
   rw [show ((j + 1:Nat):Int)=(j:Int) + 1 by omega] at this
   exact this
theorem cutE (Y:List Int) (hm:Y.length ≤ 2048) (h : ∀ (i:Nat) (hi:i < Y.length),Y[i] ≠ 10∧(Y[i]=13 → i + 1=Y.length)):cutSpec Y 2048=((⟨#[]⟩:ByteArray),0,0) :=
 cutE_go Y (mx 2048 0) (by rw [show mx 2048 0=2048 from rfl];omega) h Y.length 0 (by omega)
theorem cutE_cln (Y:List Int) (hm:Y.length ≤ 2048) (h:Cln Y):cutSpec Y 2048=((⟨#[]⟩:ByteArray),0,0) :=
 cutE Y hm fun i hi=>⟨(h _ (List.getElem_mem hi)).2,fun e=>absurd e (h _ (List.getElem_mem hi)).1⟩
theorem cutE_13 (Y:List Int) (hm:Y.length < 2048) (h:Cln Y):cutSpec (Y ++ [13]) 2048=((⟨#[]⟩:ByteArray),0,0):=by
 refine cutE _ (by simp only [List.length_append,List.length_cons,List.length_nil];omega) fun i hi=>?_
 have hl:(Y ++ [13]).length=Y.length + 1:=by simp
 by_cases c:i < Y.length
 ·rw [List.getElem_append_left c]
  exact ⟨(h _ (List.getElem_mem c)).2,fun e=>absurd e (h _ (List.getElem_mem c)).1⟩
 ·exact ⟨by rw [List.getElem_append_right (by omega)];simp,fun _=>by omega⟩
theorem take_past (s Z:List Int) (t:Nat):(s ++ ([13,10] ++ Z)).take (s.length + 2 + t)=s ++ ([13,10] ++ Z.take t):=by
 have hl2:(s ++ [13,10]).length=s.length + 2:=by simp
 rw [← List.append_assoc,List.take_append,hl2,List.take_of_length_le (by omega),show s.length + 2 + t - (s.length + 2)=t by omega,List.append_assoc]
theorem take_13 (s Z:List Int):(s ++ ([13,10] ++ Z)).take (s.length + 1)=s ++ [13]:=by
 rw [List.take_append,List.take_of_length_le (by omega),show s.length + 1 - s.length=1 by omega]
 rfl
/-- Lines whose end is cut away: a beginning of them is read,and it isn't whole. -/
theorem tail_cut (T:List Int) (e:Int) (hT:T.length ≤ 2048) : ∀ (ss:List (List Int)) (t p d:Nat),T.drop p=(flatL ss ++ [13,10]).take t → t < (flatL ss ++ [13,10]).length → p ≤ T.length → LinesOk ss → T.length < p + d →
 ∃ us vs,ss=us ++ vs∧tailS T e d p=(us.map strOfNums,0,e):=by
 intro ss
 induction ss with
 | nil =>
  intro t p d h ht hp hs hd
  obtain ⟨d,rfl⟩ : ∃ m,d=m + 1:=⟨d - 1,by omega⟩
  refine ⟨[],[],rfl,?_⟩
  have ht' : t=0 ∨ t=1:=by simp only [flatL,List.nil_append,List.length_cons,List.length_nil] at ht;omega
  have hc:cutSpec (T.drop p) 2048=((⟨#[]⟩:ByteArray),0,0):=by
   rw [h]
   rcases ht' with rfl|rfl
   ·exact cutE_cln _ (by simp) (by simp [Cln])
   ·exact cutE_13 [] (by simp) cln_nil
  rw [tailS,hc,if_neg (by decide),if_pos rfl]
  rfl
 | cons s ss ih =>
  intro t p d h ht hp hs hd
  obtain ⟨d,rfl⟩ : ∃ m,d=m + 1:=⟨d - 1,by omega⟩
  obtain ⟨h1,h2,h3⟩:=hs s (List.mem_cons_self ..)
  have hfl:flatL (s :: ss) ++ [13,10]=s ++ ([13,10] ++ (flatL ss ++ [13,10])):=by rw [flatL];simp only [List.append_assoc]
  rw [hfl] at h ht
  have hdl:(T.drop p).length=T.length - p:=List.length_drop ..
  have hll:(s ++ ([13,10] ++ (flatL ss ++ [13,10]))).length=s.length + 2 + (flatL ss ++ [13,10]).length:=by simp only [List.length_append,List.length_cons,List.length_nil];omega
  by_cases c1:t ≤ s.length
  ·refine ⟨[],s :: ss,rfl,?_⟩
   have hc:cutSpec (T.drop p) 2048=((⟨#[]⟩:ByteArray),0,0):=by
    refine cutE_cln _ (by omega) ?_
    rw [h,List.take_append_of_le_length c1]
    exact fun x hx=>h1 x (List.mem_of_mem_take hx)
   rw [tailS,hc,if_neg (by decide),if_pos rfl]
   rfl
  ·by_cases c2:t=s.length + 1
   ·refine ⟨[],s :: ss,rfl,?_⟩
    subst c2
    rw [take_13] at h
    have hc:cutSpec (T.drop p) 2048=((⟨#[]⟩:ByteArray),0,0):=by
     rw [h]
     refine cutE_13 s ?_ h1
     have:(T.drop p).length=s.length + 1:=by rw [h];simp
     omega
    rw [tailS,hc,if_neg (by decide),if_pos rfl]
    rfl
   ·obtain ⟨u,rfl⟩ : ∃ u,t=s.length + 2 + u:=⟨t - (s.length + 2),by omega⟩
    rw [take_past] at h
    have hlen:(T.drop p).length=s.length + 2 + ((flatL ss ++ [13,10]).take u).length:=by rw [h];simp only [List.length_append,List.length_cons,List.length_nil];omega
    have hc:=cutT s h1 ((flatL ss ++ [13,10]).take u) 2048 (by omega)
    have hd2:T.drop (p + (s.length + 2))=(flatL ss ++ [13,10]).take u:=by
     rw [← List.drop_drop,h,← List.append_assoc,List.drop_append_of_le_length (by simp),List.drop_of_length_le (by simp),List.nil_append]
    obtain ⟨us,vs,f1,f2⟩:=ih u (p + (s.length + 2)) d hd2 (by omega) (by omega) (fun x hx=>hs x (List.mem_cons_of_mem _ hx)) (by omega)
    refine ⟨s :: us,vs,by rw [f1];rfl,?_⟩
    rw [tailS,h,hc]
    simp only
    rw [if_neg (by decide),if_neg (by omega),if_neg (fun he=>h2 ((str_nil s).1 he)),show ((s.length:Int) + 2).toNat=s.length + 2 by omega,f2]
    rfl
theorem lines_cut (l:List Int) (e:Int) (s:List Int) (ss:List (List Int)) (h:l=s ++ ([13,10] ++ (flatL ss ++ [13,10]))) (hs:Cln s) (hn:s.length + 2 ≤ 2048) (hss:LinesOk ss) (hl:2048 < l.length) :
 ∃ us vs,ss=us ++ vs∧linesS (l.take 2048) e=(strOfNums s :: us.map strOfNums,0,e):=by
 obtain ⟨u,hu⟩ : ∃ u,2048=s.length + 2 + u:=⟨2048 - (s.length + 2),by omega⟩
 have hll:l.length=s.length + 2 + (flatL ss ++ [13,10]).length:=by rw [h];simp only [List.length_append,List.length_cons,List.length_nil];omega
 have hT:l.take 2048=s ++ ([13,10] ++ (flatL ss ++ [13,10]).take u):=by rw [hu,h,take_past]
 have hTl:(l.take 2048).length=2048:=by rw [List.length_take];omega
 have hc:=cutT s hs ((flatL ss ++ [13,10]).take u) 2048 (by omega)
 rw [← hT] at hc
 have hd2:(l.take 2048).drop (s.length + 2)=(flatL ss ++ [13,10]).take u:=by
  rw [hT,← List.append_assoc,List.drop_append_of_le_length (by simp),List.drop_of_length_le (by simp),List.nil_append]
 obtain ⟨us,vs,f1,f2⟩:=tail_cut (l.take 2048) e (by omega) ss u (s.length + 2) ((l.take 2048).length + 1) hd2 (by omega) (by omega) hss (by omega)
 refine ⟨us,vs,f1,?_⟩
 unfold linesS
 rw [hc]
 simp only
 rw [if_neg (by decide),if_neg (by omega),show ((s.length:Int) + 2).toNat=s.length + 2 by omega,f2]
theorem fields_good : ∀ (ss:List ByteArray) (n:Nat),(∀ s ∈ ss,fieldOk s.data.toList=true) → n ≤ 40 → fieldsS ss n=if n + ss.length ≤ 40 then (ss.map fun s=>fieldX s.data.toList,0) else ([],431):=by
 intro ss
 induction ss with
 | nil=>intro n _ hn;rw [if_pos (by simpa using hn)];rfl
 | cons s ss ih =>
  intro n hs hn
  rw [fieldsS,if_pos (hs s (List.mem_cons_self ..))]
  by_cases c:n=40
  ·rw [if_pos c,if_neg (by simp only [List.length_cons];omega)]
  ·rw [if_neg c,ih (n + 1) (fun x hx=>hs x (List.mem_cons_of_mem _ hx)) (by omega)]
   by_cases c2:n + 1 + ss.length ≤ 40
   ·rw [if_pos c2,if_pos rfl,if_pos (by simp only [List.length_cons];omega)]
    rfl
   ·rw [if_neg c2,if_neg (by simp),if_neg (by simp only [List.length_cons];omega)]
theorem getS_none (p:ByteArray) : ∀ (fs:List (S36)),(∀ f ∈ fs,sameN f.f0 p=false) → getS p fs=[]:=by
 intro fs
 induction fs with
 | nil=>intro _;rfl
 | cons f fs ih =>
  intro h
  rw [getS,if_neg (by simp [h f (List.mem_cons_self ..)]),ih (fun x hx=>h x (List.mem_cons_of_mem _ hx))]
theorem open_text (l:List Int) (ho:OpenOk l (openS l)) : ∃ s ss r,bdS l=s ++ ([13,10] ++ (flatL ss ++ ([13,10] ++ r)))∧(openS l).2.2.2.2.2.1=(s.length:Int) + ((flatL ss).length:Int) + 4∧1 ≤ s.length:=by
 have hpos:=ho.pos
 unfold openS at hpos ⊢
 have hsp:=lines_split (bdS l) (extS l)
 have hn:(linesS (bdS l) (extS l)).2.1 ≠ 0:=by
  intro hz
  obtain ⟨L,hL⟩ : ∃ L,L=linesS (bdS l) (extS l):=⟨_,rfl⟩
  rw [← hL] at hz hpos
  obtain ⟨ss,n,cc⟩:=L
  simp only at hz
  subst hz
  cases ss with
  | nil=>exact (Int.lt_irrefl 0 hpos).elim
  | cons s ss =>
   rw [openL] at hpos
   split at hpos
   ·split at hpos
    ·rw [if_pos rfl] at hpos;exact (Int.lt_irrefl 0 hpos).elim
    ·exact (Int.lt_irrefl 0 hpos).elim
   ·exact (Int.lt_irrefl 0 hpos).elim
 obtain ⟨s,ss,r,e1,e2,e3,e4⟩:=hsp hn
 have hlt:=lines_text (bdS l) (extS l) s ss r e1 e2 e3 e4
 refine ⟨s,ss,r,e1,?_⟩
 rw [hlt,openL] at hpos ⊢
 have hs1:(reqSpec (strOfNums s).data.toList).2.2.2.2.2=0 → 1 ≤ s.length:=fun h=>by
  cases s with
  | nil=>exact absurd h (by decide +kernel)
  | cons a t=>simp only [List.length_cons];omega
 split at hpos
 ·rename_i h1
  rw [if_pos h1]
  split at hpos
  ·rename_i h2
   rw [if_pos h2]
   split at hpos
   ·exact (Int.lt_irrefl 0 hpos).elim
   ·rename_i h3
    rw [if_neg h3]
    unfold openF at hpos ⊢
    split at hpos
    ·rename_i h4
     rw [if_pos h4]
     split at hpos
     ·rename_i h5
      rw [if_pos h5]
      exact ⟨rfl,hs1 h1⟩
     ·exact (Int.lt_irrefl 0 hpos).elim
    ·exact (Int.lt_irrefl 0 hpos).elim
  ·exact (Int.lt_irrefl 0 hpos).elim
 ·exact (Int.lt_irrefl 0 hpos).elim
def toI (l:List UInt8):List Int:=l.map fun b=>(b.toNat:Int)
theorem str_back (s:List Int) (h : ∀ x ∈ s,0 ≤ x∧x < 256):toI (strOfNums s).data.toList=s:=by
 have e:(strOfNums s).data.toList=s.map fun n=>UInt8.ofNat n.toNat:=by simp [strOfNums]
 unfold toI
 rw [e,List.map_map]
 conv=>rhs;rw [← List.map_id s]
 refine List.map_congr_left fun x hx=>?_
 have:=h x hx
 simp only [Function.comp,id]
 rw [UInt8.toNat_ofNat_of_lt' (by show x.toNat < 256;omega)]
 omega
theorem open_parts (L:List Int) (hb : ∀ x ∈ L,0 ≤ x∧x < 256) (ho:OpenOk L (openS L)) : ∃ l:List UInt8,Cln (toI l)∧l.length + 4 ≤ 2048∧(reqSpec l).2.2.2.2.2=0∧(openS L).1=(reqSpec l).1∧(openS L).2.1=(reqSpec l).2.1∧(openS L).2.2.1=(reqSpec l).2.2.1 ∧
 hostsOk (getS hostNm (openS L).2.2.2.1) (reqSpec l).2.2.1=true:=by
 obtain ⟨s,ss,r,h1,h2,_⟩:=open_text L ho
 have hpos:=ho.pos
 have hle:=ho.le
 have hbd:=bdS_length L
 unfold openS at hpos
 have hn:(linesS (bdS L) (extS L)).2.1 ≠ 0:=by
  intro hz
  obtain ⟨Y,hY⟩ : ∃ Y,Y=linesS (bdS L) (extS L):=⟨_,rfl⟩
  rw [← hY] at hz hpos
  obtain ⟨ss,n,cc⟩:=Y
  simp only at hz
  subst hz
  cases ss with
  | nil=>exact (Int.lt_irrefl 0 hpos).elim
  | cons s ss =>
   rw [openL] at hpos
   split at hpos
   ·split at hpos
    ·rw [if_pos rfl] at hpos;exact (Int.lt_irrefl 0 hpos).elim
    ·exact (Int.lt_irrefl 0 hpos).elim
   ·exact (Int.lt_irrefl 0 hpos).elim
 obtain ⟨s,ss,r,e1,e2,e3,e4⟩:=lines_split (bdS L) (extS L) hn
 have hlt:=lines_text (bdS L) (extS L) s ss r e1 e2 e3 e4
 have hsb : ∀ x ∈ s,0 ≤ x∧x < 256:=fun x hx=>hb x (List.mem_of_mem_take (show x ∈ L.take 2048 by
  have:x ∈ bdS L:=by rw [e1];exact List.mem_append_left _ hx
  exact this))
 have hsl:s.length + 4 ≤ 2048:=by
  have:=congrArg List.length e1
  simp only [List.length_append,List.length_cons,List.length_nil] at this
  omega
 have hback:=str_back s hsb
 have hll:(strOfNums s).data.toList.length=s.length:=by rw [data_length,str_size]
 refine ⟨(strOfNums s).data.toList,by rw [hback];exact e2,by omega,?_⟩
 rw [hlt,openL] at hpos
 unfold openS
 rw [hlt,openL]
 split at hpos
 ·rename_i c1
  rw [if_pos c1]
  split at hpos
  ·rename_i c2
   rw [if_pos c2]
   split at hpos
   ·exact (Int.lt_irrefl 0 hpos).elim
   ·rename_i c3
    rw [if_neg c3]
    unfold openF at hpos ⊢
    split at hpos
    ·rename_i c4
     rw [if_pos c4]
     split at hpos
     ·rename_i c5
      rw [if_pos c5]
      exact ⟨c1,rfl,rfl,rfl,c4⟩
     ·exact (Int.lt_irrefl 0 hpos).elim
    ·exact (Int.lt_irrefl 0 hpos).elim
  ·exact (Int.lt_irrefl 0 hpos).elim
 ·exact (Int.lt_irrefl 0 hpos).elim
/-- What is written of a right request is read. -/
theorem back_req (l:List UInt8) (hl:Cln (toI l)) (hls:l.length + 4 ≤ 2048) (hq:(reqSpec l).2.2.2.2.2=0) (fs:List (S36)) (hf : ∀ f ∈ fs,rightB f.f0 f.f1=true) (hn:fs.length ≤ 40)
 (hh:hostsOk (getS hostNm fs) (reqSpec l).2.2.1=true) (N:Int) (cd:Bool) (hN:reqLen fs (reqSpec l).2.2.1=(N,cd,0)) (R B:List Int) (nb:Int) (hB:bodyS R N cd=(B,nb,0)) (hnb:0 ≤ nb) (X:List Int) (hX:X=(toI l ++ [13,10]) ++ fLines fs ++ [13,10] ++ R) :
 reqS X=if 2048 < l.length + (fLines fs).length + 4 then (⟨#[]⟩,⟨#[]⟩,0,[],[],0,431) else ((reqSpec l).1,(reqSpec l).2.1,(reqSpec l).2.2.1,fs,B,(l.length:Int) + ((fLines fs).length:Int) + 4 + nb,0):=by
 have hflat:=fLines_flat fs
 have htl:(toI l).length=l.length:=List.length_map ..
 have hhead:(toI l ++ [13,10]) ++ fLines fs ++ [13,10]=toI l ++ ([13,10] ++ (flatL (fs.map fieldLn) ++ [13,10])):=by rw [hflat];simp only [List.append_assoc]
 have hhl:((toI l ++ [13,10]) ++ fLines fs ++ [13,10]).length=l.length + (fLines fs).length + 4:=by simp only [List.length_append,List.length_cons,List.length_nil,htl];omega
 by_cases c:2048 < l.length + (fLines fs).length + 4
 ·rw [if_pos c]
  have hok:LinesOk (fs.map fieldLn):=fun t ht=>by
   obtain ⟨f,hfm,rfl⟩:=List.mem_map.1 ht
   obtain ⟨a1,a2,a3⟩:=fieldLn_ok f (hf f hfm)
   exact ⟨a1,a2,by omega⟩
  obtain ⟨us,vs,f1,f2⟩:=lines_cut ((toI l ++ [13,10]) ++ fLines fs ++ [13,10]) 431 (toI l) (fs.map fieldLn) hhead hl (by omega) hok (by omega)
  have hb:bdS X=((toI l ++ [13,10]) ++ fLines fs ++ [13,10]).take 2048:=by
   unfold bdS
   rw [hX,List.take_append_of_le_length (by omega)]
  have he:extS X=431:=by
   unfold extS
   rw [if_pos (by rw [hX,List.length_append,hhl];omega)]
  have hg:=fields_good (us.map strOfNums) 0 (fun s hs=>by
   obtain ⟨t,ht,rfl⟩:=List.mem_map.1 hs
   have:t ∈ fs.map fieldLn:=by rw [f1];exact List.mem_append_left _ ht
   obtain ⟨f,hfm,rfl⟩:=List.mem_map.1 this
   exact (fieldLn_field f (hf f hfm)).1) (by omega)
  have ho:openS X=openBad 431:=by
   unfold openS
   rw [hb,he,f2,openL,show (strOfNums (toI l)).data.toList=l by rw [show toI l=l.map fun b=>(b.toNat:Int) from rfl,str_bytes,mkS_data],if_pos hq,hg]
   split
   ·rw [if_pos rfl,if_pos rfl]
   ·rw [if_neg (by decide)]
  unfold reqS
  rw [ho,if_pos (by rfl)]
  rfl
 ·rw [if_neg c]
  have ho:=back_open l hl hq fs hf hn R (by omega) X hX
  unfold openF at ho
  rw [if_pos hh,hN,if_pos rfl] at ho
  have hd:X.drop ((l.length:Int) + ((fLines fs).length:Int) + 4).toNat=R:=by
   rw [hX,show ((l.length:Int) + ((fLines fs).length:Int) + 4).toNat=((toI l ++ [13,10]) ++ fLines fs ++ [13,10]).length by omega,List.drop_left]
  unfold reqS
  rw [ho]
  simp only
  rw [if_neg (by omega),hd,hB,if_neg (by simp only;omega)]
theorem numL_snoc (b:Int) (xs:List Int) (c:Int) : ∀ n,numL b (xs ++ [c]) n=(numL b xs n).bind fun v=>if 0 ≤ digV c∧digV c < b then some (v * b + digV c) else none:=by
 induction xs with
 | nil=>intro n;simp [numL]
 | cons x xs ih =>
  intro n
  simp only [List.cons_append,numL]
  by_cases h:0 ≤ digV x∧digV x < b
  ·rw [if_pos h,if_pos h,ih]
  ·rw [if_neg h,if_neg h];rfl
/-- The decimal digits,as numbers. -/
def decI (u:Nat):List Int:=(Lib.decDigits u).map fun b=>(b.toNat:Int)
theorem decI_small (u:Nat) (h:u < 10):decI u=[48 + (u:Int)]:=by
 unfold decI
 rw [Lib.decDigits_one h,List.map_cons,List.map_nil]
 congr 1
 rw [UInt8.toNat_ofNat']
 omega
theorem decI_big (u:Nat) (h:10 ≤ u):decI u=decI (u / 10) ++ [48 + ((u % 10:Nat):Int)]:=by
 unfold decI
 rw [Lib.decDigits,dif_neg (by omega),List.map_append,List.map_cons,List.map_nil]
 congr 2
 rw [UInt8.toNat_ofNat']
 omega
theorem dig_dec (d:Nat) (h:d < 10):digV (48 + (d:Int))=d:=by
 have : ∀ m:Fin 10,digV (48 + (m.val:Int))=(m.val:Int):=by decide +kernel
 exact this ⟨d,h⟩
theorem dig_hex (d:Nat) (h:d < 16):digV (hexd d)=d:=by
 have : ∀ m:Fin 16,digV (hexd m.val)=(m.val:Int):=by decide +kernel
 exact this ⟨d,h⟩
theorem dec_back (u:Nat):numL 10 (decI u) 0=some (u:Int):=by
 induction u using Nat.strongRecOn with
 | _ u ih =>
  by_cases h:u < 10
  ·rw [decI_small u h]
   simp only [numL,dig_dec u h]
   rw [if_pos (by omega)]
   congr 1
   omega
  ·rw [decI_big u (by omega),numL_snoc,ih (u / 10) (by omega),Option.bind_some,dig_dec (u % 10) (by omega),if_pos (by omega)]
   congr 1
   omega
theorem hex_back (u:Nat):numL 16 (hexD u) 0=some (u:Int):=by
 induction u using Nat.strongRecOn with
 | _ u ih =>
  by_cases h:u < 16
  ·rw [hexD_small u h]
   simp only [numL,dig_hex u h]
   rw [if_pos (by omega)]
   congr 1
   omega
  ·rw [hexD_big u (by omega),numL_snoc,ih (u / 16) (by omega),Option.bind_some,dig_hex (u % 16) (by omega),if_pos (by omega)]
   congr 1
   omega
theorem dec_len (d:Nat) : ∀ u,u < 10 ^ (d + 1) → 1 ≤ (decI u).length∧(decI u).length ≤ d + 1:=by
 induction d with
 | zero=>intro u h;rw [decI_small u (by simpa using h)];simp
 | succ d ih =>
  intro u h
  by_cases h1:u < 10
  ·rw [decI_small u h1];simp
  ·have h2:u / 10 < 10 ^ (d + 1):=(Nat.div_lt_iff_lt_mul (by decide)).2 (by rwa [← Nat.pow_succ])
   have:=ih _ h2
   rw [decI_big u (by omega),List.length_append]
   simp
   omega
theorem hex_len (d:Nat) : ∀ u,u < 16 ^ (d + 1) → 1 ≤ (hexD u).length∧(hexD u).length ≤ d + 1:=by
 induction d with
 | zero=>intro u h;rw [hexD_small u (by simpa using h)];simp
 | succ d ih =>
  intro u h
  by_cases h1:u < 16
  ·rw [hexD_small u h1];simp
  ·have h2:u / 16 < 16 ^ (d + 1):=(Nat.div_lt_iff_lt_mul (by decide)).2 (by rwa [← Nat.pow_succ])
   have:=ih _ h2
   rw [hexD_big u (by omega),List.length_append]
   simp
   omega
theorem bytes_decI (u:Nat):Bytes (decI u):=by
 intro x hx
 obtain ⟨b,_,rfl⟩:=List.mem_map.1 hx
 have:=b.toNat_lt
 omega
theorem bytes_hexD (u:Nat):Bytes (hexD u):=by
 induction u using Nat.strongRecOn with
 | _ u ih =>
  have hd : ∀ d,d < 16 → 0 ≤ hexd d∧hexd d ≤ 255:=by intro d hd;unfold hexd;split <;> omega
  by_cases h:u < 16
  ·rw [hexD_small u h];intro x hx;rw [List.mem_singleton.1 hx];exact hd u h
  ·rw [hexD_big u (by omega)]
   intro x hx
   rcases List.mem_append.1 hx with hx|hx
   ·exact ih (u / 16) (by omega) x hx
   ·rw [List.mem_singleton.1 hx];exact hd _ (by omega)
theorem dec_spec (u:Nat) (h:u < 10 ^ 18):numSpec (strOfNums (decI u)) 10 18=((u:Int),true):=by
 have hl:=dec_len 17 u h
 unfold numSpec
 rw [str_size,if_neg (by omega),bytes_str (bytes_decI u),dec_back]
theorem hex_spec (u:Nat) (h:u < 16 ^ 15):numSpec (strOfNums (hexD u)) 16 15=((u:Int),true):=by
 have hl:=hex_len 14 u h
 unfold numSpec
 rw [str_size,if_neg (by omega),bytes_str (bytes_hexD u),hex_back]
/-- A request's line. -/
def reqLine (m t T:ByteArray):ByteArray:=((((m ++ (⟨#[32]⟩:ByteArray)) ++ t) ++ (⟨#[32,72,84,84,80,47,49,46]⟩:ByteArray)) ++ T) ++ (⟨#[13,10]⟩:ByteArray)
theorem RequestLine_f (m t:ByteArray) (n:Int) (f:List (S36)) (b:List Int) (T:ByteArray) (hT:sign_Text.f n=some T) (hs:T.size ≤ 20) (h1:m.size ≤ 140737488351232) (h2:t.size ≤ 140737488351232):line_RequestLine.f m t n f b=some (reqLine m t T):=by
 have e1:(⟨#[32]⟩:ByteArray).size=1:=rfl
 have e2:(⟨#[32,72,84,84,80,47,49,46]⟩:ByteArray).size=8:=rfl
 unfold line_RequestLine.f reqLine
 rw [hT,Option.bind_some]
 simp only [ByteArray.size_append]
 rw [if_pos (by omega),if_pos (by omega),if_pos (by omega),if_pos (by omega),if_pos (by omega)]
theorem minL_some {l:List UInt8} {n:Int} (h:minL l=some n):l.length=8∧32 ∉ l∧((n=0∧l=[72,84,84,80,47,49,46,48]) ∨ (n=1∧l=[72,84,84,80,47,49,46,49])):=by
 unfold minL at h
 split at h
 ·rename_i e;subst e;exact ⟨rfl,by decide,.inl ⟨(Option.some.inj h).symm,rfl⟩⟩
 ·split at h
  ·rename_i e;subst e;exact ⟨rfl,by decide,.inr ⟨(Option.some.inj h).symm,rfl⟩⟩
  ·cases h
theorem text_1:sign_Text.f 1=some ⟨#[49]⟩:=by
 show strconv_FormatInt_93.f 1 10=_
 unfold strconv_FormatInt_93.f strconv_FormatInt_145.f
 simp [Lib.itoa,Lib.decDigits]
theorem text_0:sign_Text.f 0=some ⟨#[48]⟩:=by
 show strconv_FormatInt_93.f 0 10=_
 unfold strconv_FormatInt_93.f strconv_FormatInt_145.f
 simp [Lib.itoa,Lib.decDigits]
theorem pcs_cons {sp:UInt8} (l:List UInt8) : ∀ {p ps},pcs sp l=p :: ps → (ps=[]∧l=p) ∨ ∃ r,l=p ++ sp :: r∧pcs sp r=ps:=by
 induction l with
 | nil =>
  intro p ps h
  simp only [pcs,List.cons.injEq] at h
  exact .inl ⟨h.2.symm,h.1⟩
 | cons c l ih =>
  intro p ps h
  by_cases hc:c=sp
  ·subst hc
   simp only [pcs,if_true,List.cons.injEq] at h
   obtain ⟨rfl,rfl⟩:=h
   exact .inr ⟨l,rfl,rfl⟩
  ·obtain ⟨q,qs,hq⟩:=pcs_ne (sp:=sp) l
   simp only [pcs,hc,if_false,hq,List.cons.injEq] at h
   obtain ⟨rfl,rfl⟩:=h
   rcases ih hq with ⟨h1,h2⟩|⟨r,h1,h2⟩
   ·exact .inl ⟨h1,by rw [h2]⟩
   ·exact .inr ⟨r,by rw [h1];rfl,h2⟩
theorem pcs_three {sp:UInt8} {l m t v:List UInt8} (h:pcs sp l=[m,t,v]):l=m ++ sp :: (t ++ sp :: v):=by
 rcases pcs_cons l h with ⟨h1,_⟩|⟨r,rfl,h2⟩
 ·cases h1
 ·rcases pcs_cons r h2 with ⟨h1,_⟩|⟨r2,rfl,h3⟩
  ·cases h1
  ·rcases pcs_cons r2 h3 with ⟨_,h4⟩|⟨r3,_,h4⟩
   ·rw [h4]
   ·obtain ⟨q,qs,hq⟩:=pcs_ne (sp:=sp) r3
    rw [hq] at h4
    cases h4
theorem min_text {v:List UInt8} {n:Int} (h:minL v=some n) : ∃ T,sign_Text.f n=some (mkS [T])∧v=[72,84,84,80,47,49,46,T]:=by
 obtain ⟨_,_,h|h⟩:=minL_some h
 ·obtain ⟨rfl,rfl⟩:=h;exact ⟨48,text_0,rfl⟩
 ·obtain ⟨rfl,rfl⟩:=h;exact ⟨49,text_1,rfl⟩
theorem req_back (l:List UInt8) (hn:l.length ≤ 1048576) (h:(reqSpec l).2.2.2.2.2=0) :
 line_RequestLine.f (reqSpec l).1 (reqSpec l).2.1 (reqSpec l).2.2.1 (reqSpec l).2.2.2.1 (reqSpec l).2.2.2.2.1=some (mkS (l ++ [13,10])):=by
 by_cases h3:(pcs 32 l).length=3
 ·obtain ⟨m,t,v,hp⟩:=three h3
  have hl:=pcs_three hp
  have hle:=pcs_le (sp:=32) l
  rw [hp] at hle
  have hm:=hle m (by simp)
  have ht:=hle t (by simp)
  rw [reqSpec_yes hp] at h ⊢
  unfold reqP at h ⊢
  split at h
  ·rename_i c
   rw [if_pos c]
   split at h
   ·cases h
   ·rename_i c2
    rw [if_neg c2]
    have hv:=ver_min v
    split at h
    ·cases h
    ·rename_i p hver
     split at h
     ·rename_i c3
      simp only [hver,if_pos c3] at hv ⊢
      obtain ⟨T,hT,rfl⟩:=min_text hv
      rw [RequestLine_f (mkS m) (mkS t) p.2 [] [] (mkS [T]) hT (by rw [mkS_size];simp) (by rw [mkS_size];omega) (by rw [mkS_size];omega),hl]
      unfold reqLine
      rw [show (⟨#[32]⟩:ByteArray)=mkS [32] from rfl,show (⟨#[32,72,84,84,80,47,49,46]⟩:ByteArray)=mkS [32,72,84,84,80,47,49,46] from rfl,show (⟨#[13,10]⟩:ByteArray)=mkS [13,10] from rfl,mkS_append,mkS_append,mkS_append,mkS_append,mkS_append]
      simp
     ·cases h
  ·cases h
 ·rw [reqSpec_not h3] at h
  cases h
theorem write_l (fs:List (S36)) (hf:FB fs) (b:List Int) (hb:b.length ≤ 1000000000) (d:Nat) : ∀ (k i:Nat) (out:List Int),i + d=fs.length → d < k → out.length + 2097156 * d ≤ 100000000000 →
 http_write.l k fs b (i:Int) out=some (((out ++ fLines (fs.drop i)) ++ [13,10]) ++ b):=by
 have hfl:=hf.1
 induction d with
 | zero =>
  intro k i out hi hk ho
  obtain ⟨k,rfl⟩ : ∃ m,k=m + 1:=⟨k - 1,by omega⟩
  rw [http_write.l,if_neg (by omega),if_pos (by omega),List.drop_of_length_le (by omega),fLines,List.append_nil]
 | succ d ih =>
  intro k i out hi hk ho
  obtain ⟨k,rfl⟩ : ∃ m,k=m + 1:=⟨k - 1,by omega⟩
  have hlt:i < fs.length:=by omega
  have hs:=hf.2 _ (List.getElem_mem hlt)
  have hz:=lineB_size fs[i]
  rw [http_write.l,if_pos (by omega),if_pos (by omega),rdT_at fs i hlt,Line_f _ hs,Option.bind_some,if_pos (by omega),show wrap64 ((i:Int) + 1)=((i + 1:Nat):Int) by unfold wrap64;omega,
   ih k (i + 1) (out ++ bytesOf (lineB fs[i])) (by omega) (by omega) (by rw [List.length_append,bytesOf_length];omega),List.drop_eq_getElem_cons hlt,fLines,List.append_assoc out]
theorem write_f (first:ByteArray) (fs:List (S36)) (hf:FB fs) (b:List Int) (hb:b.length ≤ 1000000000) (h1:first.size ≤ 1000000000) (k:Nat) (hk:1001 ≤ k):http_write.f k first fs b=some (((bytesOf first ++ fLines fs) ++ [13,10]) ++ b):=by
 have hfl:=hf.1
 have:=write_l fs hf b hb fs.length k 0 (bytesOf first) (by omega) (by omega) (by rw [bytesOf_length];omega)
 rw [List.drop_zero] at this
 exact this
theorem write_back (l:List UInt8) (hls:l.length + 4 ≤ 2048) (hq:(reqSpec l).2.2.2.2.2=0) (fs:List (S36)) (hf:FB fs) (b:List Int) (hb:b.length ≤ 1000000000) (k:Nat) (hk:1001 ≤ k) :
 http_WriteRequest.f k (reqSpec l).1 (reqSpec l).2.1 (reqSpec l).2.2.1 fs b=some ((toI l ++ [13,10]) ++ fLines fs ++ [13,10] ++ b):=by
 have h1:=req_back l (by omega) hq
 have h2:line_RequestLine.f (reqSpec l).1 (reqSpec l).2.1 (reqSpec l).2.2.1 fs b=some (mkS (l ++ [13,10])):=by
  rw [← h1]
  rfl
 have e:bytesOf (mkS (l ++ [13,10]))=toI l ++ [13,10]:=by
  have:bytesOf (mkS (l ++ [13,10]))=(mkS (l ++ [13,10])).data.toList.map fun b=>(b.toNat:Int):=rfl
  rw [this,mkS_data,List.map_append]
  rfl
 unfold http_WriteRequest.f
 rw [h2,Option.bind_some,write_f _ fs hf b hb (by rw [mkS_size];simp only [List.length_append,List.length_cons,List.length_nil];omega) k hk,e]
theorem wf_u8 {x:Int} (h:(Lit.int .u8 x).wf=true):0 ≤ x∧x < 256:=by
 have:0 ≤ x∧x ≤ 255:=by simpa [Lit.wf,IntKind.min,IntKind.max,IntKind.signed,IntKind.bits] using h
 omega
theorem req_parts (L:List Int) (h:(reqS L).2.2.2.2.2.1 ≠ 0):OpenOk L (openS L)∧(reqS L).1=(openS L).1∧(reqS L).2.1=(openS L).2.1∧(reqS L).2.2.1=(openS L).2.2.1∧(reqS L).2.2.2.1=(openS L).2.2.2.1:=by
 rcases open_cases L with ⟨c,hc⟩|ho
 ·exfalso
  apply h
  unfold reqS
  rw [hc]
  rfl
 ·refine ⟨ho,?_⟩
  have hp:=ho.pos
  unfold reqS at h ⊢
  split at h
  ·exact absurd rfl h
  ·rename_i c1
   rw [if_neg c1]
   split at h
   ·exact absurd rfl h
   ·rename_i c2
    rw [if_neg c2]
    exact ⟨rfl,rfl,rfl,rfl⟩
theorem fLines_small : ∀ (fs:List (S36)),(∀ f ∈ fs,rightB f.f0 f.f1=true) → (fLines fs).length ≤ 1104 * fs.length:=by
 intro fs
 induction fs with
 | nil=>intro _;exact Nat.le_refl _
 | cons f fs ih =>
  intro h
  have h1:=rightB_size (h f (List.mem_cons_self ..))
  have h2:=ih (fun g hg=>h g (List.mem_cons_of_mem _ hg))
  rw [fLines,List.length_append,bytesOf_length,lineB_size,List.length_cons]
  omega
theorem right_FB (fs:List (S36)) (hn:fs.length ≤ 1000) (h : ∀ f ∈ fs,rightB f.f0 f.f1=true):FB fs :=
 ⟨hn,fun f hf=>by have:=rightB_size (h f hf);omega⟩
theorem toI_length (l:List UInt8):(toI l).length=l.length:=List.length_map ..
theorem HexText_f (n:Int) (h1:n ≤ 9223372036854775807):sign_HexText.f n=some (strOfNums (hexD (mx n 0).toNat)):=by
 unfold sign_HexText.f strconv_FormatInt_93.f strconv_FormatInt_145.f
 rw [if_neg (by decide),if_pos rfl,if_pos ⟨by unfold mx;split <;> omega,by unfold mx;split <;> omega⟩]
 rfl
/-- A body in chunks. -/
def encF (sz:Int):Nat → List Int → List Int
 | 0,_=>[]
 | k + 1,b=>if 0 < b.length then hexD (mx (mn sz (b.length:Int)) 0).toNat ++ ([13,10] ++ (b.take (mn sz (b.length:Int)).toNat ++ ([13,10] ++ encF sz k (b.drop (mn sz (b.length:Int)).toNat)))) else [48,13,10,13,10]
theorem mn_at (sz:Int) (b:List Int) (hsz:1 ≤ sz) (hb:0 < b.length):1 ≤ mn sz (b.length:Int)∧mn sz (b.length:Int) ≤ (b.length:Int):=by unfold mn;split <;> omega
theorem hex_short (n:Int) (h:n < 140737488355328):(hexD (mx n 0).toNat).length ≤ 12:=(hex_len 11 _ (by unfold mx;split <;> omega)).2
theorem crlf_bytes:bytesOf (⟨#[13,10]⟩:ByteArray)=[13,10]:=by decide
theorem last_bytes:bytesOf (⟨#[48,13,10,13,10]⟩:ByteArray)=[48,13,10,13,10]:=by decide
theorem hex_line (n:Int):bytesOf (strOfNums (hexD (mx n 0).toNat) ++ (⟨#[13,10]⟩:ByteArray))=hexD (mx n 0).toNat ++ [13,10]:=by
 rw [bytes_app,bytes_str (bytes_hexD _),crlf_bytes]
theorem enc_l0 (sz:Int) (hsz:1 ≤ sz) : ∀ (d:Nat) (b out:List Int) (k:Nat),b.length ≤ d → d < k → out.length + 22 * b.length + 200 < 140737488355328 → chunk_Encode.l0 k b sz out=some (out ++ encF sz (d + 1) b):=by
 intro d
 induction d with
 | zero =>
  intro b out k hb hk ho
  obtain ⟨k,rfl⟩ : ∃ m,k=m + 1:=⟨k - 1,by omega⟩
  rw [chunk_Encode.l0,encF,if_neg (show ¬ ((b.length:Int) > 0) by omega),if_neg (show ¬ (0 < b.length) by omega),if_pos (by omega),last_bytes]
 | succ d ih =>
  intro b out k hb hk ho
  obtain ⟨k,rfl⟩ : ∃ m,k=m + 1:=⟨k - 1,by omega⟩
  rw [chunk_Encode.l0,encF]
  by_cases h:0 < b.length
  ·obtain ⟨h1,h2⟩:=mn_at sz b hsz h
   have hx:=hex_short (mn sz (b.length:Int)) (by omega)
   rw [if_pos (by omega),if_pos h,HexText_f _ (by omega),Option.bind_some,if_pos (by rw [str_size];omega),if_pos (by rw [← bytesOf_length,hex_line,List.length_append];simp;omega),Option.bind_some,if_pos (by omega),if_pos h2,Option.bind_some,hex_line,
    if_pos (by simp only [List.length_append,List.length_take];simp;omega),Option.bind_some,if_pos (by simp only [List.length_append,List.length_take];simp;omega),crlf_bytes,ih _ _ k (by rw [List.length_drop];omega) (by omega) (by simp only [List.length_append,List.length_take,List.length_drop];simp;omega)]
   simp only [List.append_assoc]
  ·rw [if_neg (by omega),if_neg h,if_pos (by omega),last_bytes]
theorem Encode_f (b:List Int) (n:Int) (k:Nat) (hk:b.length < k) (hb:b.length ≤ 1000000):chunk_Encode.f k b n=some (encF (mx n 1) (b.length + 1) b):=by
 unfold chunk_Encode.f
 rw [enc_l0 (mx n 1) (by unfold mx;split <;> omega) b.length b [] k (Nat.le_refl _) hk (by simp;omega),List.nil_append]
theorem encF_small (sz:Int) (hsz:1 ≤ sz) : ∀ (d:Nat) (b:List Int),b.length < 1000000 → (encF sz d b).length ≤ 22 * b.length + 5:=by
 intro d
 induction d with
 | zero=>intro b _;simp [encF]
 | succ d ih =>
  intro b hb
  rw [encF]
  by_cases h:0 < b.length
  ·obtain ⟨h1,h2⟩:=mn_at sz b hsz h
   have hx:=hex_short (mn sz (b.length:Int)) (by omega)
   have:=ih (b.drop (mn sz (b.length:Int)).toNat) (by rw [List.length_drop];omega)
   rw [if_pos h]
   simp only [List.length_append,List.length_take,List.length_drop,List.length_cons,List.length_nil] at this ⊢
   omega
  ·rw [if_neg h];simp
theorem cutL_line (xs:List Int) (hs : ∀ x ∈ xs,x ≠ 13∧x ≠ 10) (r:List Int) (m:Int) (hm:(xs.length:Int) ≤ m) (d:Nat) : ∀ (j e:Nat),j + d=xs.length → e=d + 2 + r.length →
 cutAt (xs ++ ([13,10] ++ r)) m e j=(strOfNums xs,(xs.length:Int) + 2,0):=by
 induction d with
 | zero =>
  intro j e hj he
  subst he
  obtain rfl:j=xs.length:=by omega
  have e1:rd (xs ++ ([13,10] ++ r)) (xs.length:Int)=13:=by rw [rd_append_right _ _ _ (by omega),Int.sub_self];rfl
  have e2:rd (xs ++ ([13,10] ++ r)) ((xs.length:Int) + 1)=10:=by rw [rd_append_right _ _ _ (by omega),show (xs.length:Int) + 1 - xs.length=1 by omega];rfl
  rw [show 0 + 2 + r.length=(r.length + 1) + 1 by omega]
  simp only [cutAt]
  rw [e1,if_neg (by decide),if_pos rfl,if_pos (by rw [List.length_append];simp;omega),e2,if_pos rfl,Int.toNat_natCast,List.take_left]
 | succ d ih =>
  intro j e hj he
  subst he
  have hlt:j < xs.length:=by omega
  have e1:rd (xs ++ ([13,10] ++ r)) (j:Int)=xs[j]:=by
   rw [rd_append_left _ _ _ (by omega) (by omega)]
   simp [rd,List.getD_eq_getElem?_getD,List.getElem?_eq_getElem hlt]
  obtain ⟨h13,h10⟩:=hs _ (List.getElem_mem hlt)
  rw [show d + 1 + 2 + r.length=(d + 2 + r.length) + 1 by omega]
  simp only [cutAt]
  rw [e1,if_neg h10,if_neg h13,if_neg (by omega)]
  have:=ih (j + 1) (d + 2 + r.length) (by omega) rfl
  rw [show ((j + 1:Nat):Int)=(j:Int) + 1 by omega] at this
  exact this
theorem cutL (xs:List Int) (hs : ∀ x ∈ xs,x ≠ 13∧x ≠ 10) (r:List Int) (m:Int) (hm:(xs.length:Int) ≤ m):cutSpec (xs ++ ([13,10] ++ r)) m=(strOfNums xs,(xs.length:Int) + 2,0):=by
 have e1:mx m 0=m:=by unfold mx;split <;> omega
 unfold cutSpec
 rw [e1]
 exact cutL_line xs hs r m hm xs.length 0 _ (by omega) (by rw [List.length_append,List.length_append];simp;omega)
theorem hexD_digits (u:Nat) : ∀ x ∈ hexD u,∃ d:Fin 16,x=hexd d.val:=by
 induction u using Nat.strongRecOn with
 | _ u ih =>
  by_cases h:u < 16
  ·rw [hexD_small u h];intro x hx;rw [List.mem_singleton.1 hx];exact ⟨⟨u,h⟩,rfl⟩
  ·rw [hexD_big u (by omega)]
   intro x hx
   rcases List.mem_append.1 hx with hx|hx
   ·exact ih (u / 16) (by omega) x hx
   ·rw [List.mem_singleton.1 hx];exact ⟨⟨u % 16,by omega⟩,rfl⟩
theorem hexD_plain (u:Nat) : ∀ x ∈ hexD u,x ≠ 13∧x ≠ 10:=by
 intro x hx
 obtain ⟨d,rfl⟩:=hexD_digits u x hx
 have : ∀ d:Fin 16,hexd d.val ≠ 13∧hexd d.val ≠ 10:=by decide
 exact this d
theorem str_list (xs:List Int):(strOfNums xs).data.toList=xs.map fun n=>UInt8.ofNat n.toNat:=by simp [strOfNums]
theorem hexD_u8 (u:Nat) : ∀ a ∈ (strOfNums (hexD u)).data.toList,a ≠ 59∧blk a=false:=by
 intro a ha
 rw [str_list] at ha
 obtain ⟨x,hx,rfl⟩:=List.mem_map.1 ha
 obtain ⟨d,rfl⟩:=hexD_digits u x hx
 have : ∀ d:Fin 16,UInt8.ofNat (hexd d.val).toNat ≠ 59∧blk (UInt8.ofNat (hexd d.val).toNat)=false:=by decide
 exact this d
theorem rtrim_self (l:List UInt8) (h : ∀ a ∈ l,blk a=false):rtrim l=l:=by
 unfold rtrim
 rw [dw_self (fun a ha=>h a (List.mem_reverse.1 (List.mem_of_mem_head? ha))),List.reverse_reverse]
theorem sizeS_hex (u:Nat) (h:u < 16 ^ 15):sizeS (strOfNums (hexD u)).data.toList=((u:Int),true):=by
 rw [sizeS_no _ (fun e=>(hexD_u8 u 59 e).1 rfl),rtrim_self _ (fun a ha=>(hexD_u8 u a ha).2),mkS_self,hex_spec u h]
theorem data_whole (t r:List Int) (q:Int) (h0:0 ≤ q) (hq:q ≤ 1000000) (ht:t.length ≤ 1000000):dataOf (t ++ ([13,10] ++ r)) q (t.length:Int) false=(t,0,q + ((t.length:Int) + 2),false):=by
 have hl:((t ++ ([13,10] ++ r)).length:Int)=t.length + 2 + r.length:=by rw [List.length_append,List.length_append];simp;omega
 have e1:rd (t ++ ([13,10] ++ r)) (t.length:Int)=13:=by rw [rd_append_right _ _ _ (by omega),Int.sub_self];rfl
 have e2:rd (t ++ ([13,10] ++ r)) ((t.length:Int) + 1)=10:=by rw [rd_append_right _ _ _ (by omega),show (t.length:Int) + 1 - t.length=1 by omega];rfl
 unfold dataOf
 rw [if_pos (by omega),e1,if_pos rfl,if_pos (by omega),e2,if_pos rfl,Int.toNat_natCast,List.take_left,show wrap64 (q + ((t.length:Int) + 2))=q + ((t.length:Int) + 2) by unfold wrap64;omega]
theorem dec_enc0 (pre out:List Int) (D:Nat) (left:Int) (L:List Int) (hL:L=pre ++ [48,13,10,13,10]) (hD:L.length < pre.length + D):decS L D pre.length left out=(out,(L.length:Int),0):=by
 obtain ⟨D,rfl⟩ : ∃ m,D=m + 1:=⟨D - 1,by rw [hL,List.length_append] at hD;omega⟩
 have e1:L.drop pre.length=[48] ++ ([13,10] ++ [13,10]):=by rw [hL,List.drop_left];rfl
 have hlen:L.length=pre.length + 5:=by rw [hL,List.length_append];rfl
 have e2:L.drop (pre.length + 3)=[] ++ ([13,10] ++ []):=by rw [← List.drop_drop,e1];rfl
 have e3:sizeS (strOfNums [48]).data.toList=(0,true):=by
  have:=sizeS_hex 0 (by decide)
  rw [hexD_small 0 (by decide)] at this
  exact this
 have c1:=cutL [48] (by simp) [13,10] 256 (by simp)
 have c2:=cutL [] (by simp) [] 256 (by simp)
 have t1:trailS L 41 (pre.length + 3)=((L.length:Int),0):=by
  rw [show 41=40 + 1 from rfl,trailS,e2,c2]
  simp only
  rw [if_pos trivial,if_neg (by decide),if_pos (by rw [show strOfNums []=mkS [] from rfl,mkS_toList]),hlen]
  simp
  omega
 rw [decS,e1,c1]
 simp only [e3]
 rw [if_pos trivial,if_neg (by decide),if_pos trivial,if_pos trivial,show (pre.length + (([48]:List Int).length + 2:Int).toNat)=pre.length + 3 from rfl,t1,if_pos rfl,if_neg (show ¬ ((L.length:Int)=0) by omega)]
theorem encF_ge (sz:Int) (hsz:1 ≤ sz) : ∀ (d:Nat) (b:List Int),b.length ≤ d → b.length ≤ (encF sz (d + 1) b).length:=by
 intro d
 induction d with
 | zero=>intro b hb;omega
 | succ d ih =>
  intro b hb
  rw [encF]
  by_cases h:0 < b.length
  ·obtain ⟨h1,h2⟩:=mn_at sz b hsz h
   have:=ih (b.drop (mn sz (b.length:Int)).toNat) (by rw [List.length_drop];omega)
   rw [if_pos h]
   simp only [List.length_append,List.length_take,List.length_drop,List.length_cons,List.length_nil] at this ⊢
   omega
  ·omega
theorem dec_enc (sz:Int) (hsz:1 ≤ sz) : ∀ (d:Nat) (b pre out:List Int) (D:Nat) (left:Int) (L:List Int),b.length ≤ d → L=pre ++ encF sz (d + 1) b → L.length ≤ 1000000 → L.length < pre.length + D → 0 ≤ left →
 ((b.length:Int) ≤ left → decS L D pre.length left out=(out ++ b,(L.length:Int),0))∧(left < (b.length:Int) → decS L D pre.length left out=([],0,2)):=by
 intro d
 induction d with
 | zero =>
  intro b pre out D left L hb hL hl hD h0
  obtain rfl:b=[]:=List.eq_nil_of_length_eq_zero (by omega)
  exact ⟨fun _=>by rw [dec_enc0 pre out D left L hL hD,List.append_nil],fun h=>by simp at h;omega⟩
 | succ d ih =>
  intro b pre out D left L hb hL hl hD h0
  obtain ⟨D,rfl⟩ : ∃ m,D=m + 1:=⟨D - 1,by rw [hL,List.length_append] at hD;omega⟩
  by_cases hne:0 < b.length
  ·obtain ⟨h1,h2⟩:=mn_at sz b hsz hne
   rw [encF,if_pos hne] at hL
   obtain ⟨n,hn⟩ : ∃ n:Nat,mn sz (b.length:Int)=(n:Int):=⟨(mn sz (b.length:Int)).toNat,by omega⟩
   rw [hn] at h1 h2 hL
   rw [show (mx (n:Int) 0).toNat=n by unfold mx;split <;> omega,Int.toNat_natCast] at hL
   have htk:(b.take n).length=n:=by rw [List.length_take];omega
   have hdr:(b.drop n).length=b.length - n:=List.length_drop ..
   have hlen:L.length=pre.length + ((hexD n).length + 2 + n + 2 + (encF sz (d + 1) (b.drop n)).length):=by rw [hL];simp only [List.length_append,List.length_cons,List.length_nil,htk];omega
   have hbl:b.length ≤ 1000000:=by
    have:=encF_ge sz hsz (d + 1) b hb
    rw [encF,if_pos hne,hn,show (mx (n:Int) 0).toNat=n by unfold mx;split <;> omega,Int.toNat_natCast] at this
    rw [hL,List.length_append] at hl
    omega
   have hx:=hex_short (n:Int) (by omega)
   rw [show (mx (n:Int) 0).toNat=n by unfold mx;split <;> omega] at hx
   have e1:L.drop pre.length=hexD n ++ ([13,10] ++ (b.take n ++ ([13,10] ++ encF sz (d + 1) (b.drop n)))):=by rw [hL,List.drop_left]
   have c1:=cutL (hexD n) (hexD_plain n) (b.take n ++ ([13,10] ++ encF sz (d + 1) (b.drop n))) 256 (by omega)
   have e3:=sizeS_hex n (Nat.lt_of_le_of_lt (show n ≤ 1000000 by omega) (by decide))
   have hq:pre.length + (((hexD n).length:Int) + 2).toNat=(pre ++ (hexD n ++ [13,10])).length:=by simp only [List.length_append,List.length_cons,List.length_nil];omega
   have e4:L.drop (pre ++ (hexD n ++ [13,10])).length=b.take n ++ ([13,10] ++ encF sz (d + 1) (b.drop n)):=by
    rw [hL,show pre ++ (hexD n ++ ([13,10] ++ (b.take n ++ ([13,10] ++ encF sz (d + 1) (b.drop n)))))=(pre ++ (hexD n ++ [13,10])) ++ (b.take n ++ ([13,10] ++ encF sz (d + 1) (b.drop n))) by simp only [List.append_assoc],List.drop_left]
   have hql:(pre ++ (hexD n ++ [13,10])).length=pre.length + (hexD n).length + 2:=by simp only [List.length_append,List.length_cons,List.length_nil];omega
   have dw:=data_whole (b.take n) (encF sz (d + 1) (b.drop n)) ((pre ++ (hexD n ++ [13,10])).length:Int) (by omega) (by omega) (by omega)
   rw [htk] at dw
   have main:decS L (D + 1) pre.length left out=if (n:Int) > left then ([],0,2) else decS L D ((pre ++ (hexD n ++ [13,10])).length + n + 2) (left - n) (out ++ b.take n):=by
    rw [decS,e1,c1]
    simp only [e3]
    rw [if_pos trivial,if_neg (by omega),if_pos trivial,if_neg (by omega),hq,e4,dw]
    simp only
    by_cases h5:(n:Int) > left
    ·rw [if_pos h5,if_pos h5]
    ·rw [if_neg h5,if_neg h5,if_pos trivial,if_neg (by simp),Int.toNat_natCast]
     congr 2
     rw [List.take_append_of_le_length (by omega),List.take_of_length_le (by omega)]
   rw [main]
   have hpre:(pre ++ (hexD n ++ [13,10])).length + n + 2=(pre ++ (hexD n ++ ([13,10] ++ (b.take n ++ [13,10])))).length:=by simp only [List.length_append,List.length_cons,List.length_nil,htk];omega
   have hL2:L=(pre ++ (hexD n ++ ([13,10] ++ (b.take n ++ [13,10])))) ++ encF sz (d + 1) (b.drop n):=by rw [hL];simp only [List.append_assoc]
   rw [hpre]
   by_cases h5:(n:Int) > left
   ·rw [if_pos h5]
    exact ⟨fun h=>by omega,fun _=>rfl⟩
   ·rw [if_neg h5]
    obtain ⟨r1,r2⟩:=ih (b.drop n) _ (out ++ b.take n) D (left - n) L (by omega) hL2 hl (by rw [← hpre];omega) (by omega)
    refine ⟨fun h=>?_,fun h=>r2 (by omega)⟩
    rw [r1 (by omega),List.append_assoc,List.take_append_drop]
  ·obtain rfl:b=[]:=List.eq_nil_of_length_eq_zero (by omega)
   rw [encF,if_neg hne] at hL
   exact ⟨fun _=>by rw [dec_enc0 pre out (D + 1) left L hL hD,List.append_nil],fun h=>by simp at h;omega⟩
end Go.Proofs.YtagffbblalldiaaGreatDoor.Pure
