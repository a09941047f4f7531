/- Each function below answers as its Lean twin says; plain lemmas; a row where its theorem stands. No further condition. (Laid by this repo's pack.py out of its texts and of the print's words.) -/
import Derived.Test.YtagffbblalldiaaGreatDoorZ920b1e89
import Derived.Test.YtagffbblalldiaaGreatDoorZ27a02a94
import Derived.Test.YtagffbblalldiaaGreatDoorZc57fbda6
import Derived.Test.YtagffbblalldiaaGreatDoorZfeadc0fc
import Derived.Lib.SlBytesConst
import Derived.Lib.Itoa
import Derived.Deep.RegionHeld3
import Derived.Lib.IndexBytes
import Derived.Lib.Strings
import Derived.Shelf.Strings.SlTrimAscii
import Derived.Lib.SlTrimSet
import Derived.Lib.LastIndexByte
import Derived.Lib.ItoaLen
namespace Go.Proofs.YtagffbblalldiaaGreatDoor.P
open Go.RowKit Go.Proofs.YtagffbblalldiaaGreatDoorW.PrintWords Go.Proofs.YtagffbblalldiaaGreatDoorW.PrintLast Go.Proofs.YtagffbblalldiaaGreatDoorW.PrintMore
attribute [local go_sem] max2_int min2_int max_two min_two max_three min_three max_four min_four
set_option linter.unusedVariables false
set_option linter.unusedSimpArgs false
def al12_fs:List (S36):=[⟨⟨#[72,111,115,116]⟩,⟨#[104]⟩⟩,⟨⟨#[88]⟩,⟨#[49]⟩⟩,⟨⟨#[67,111,110,110,101,99,116,105,111,110]⟩,⟨#[120,44,32,99,108,111,115,101]⟩⟩,⟨⟨#[89]⟩,⟨#[50]⟩⟩]
def al12_out:List (S36):=[⟨⟨#[72,111,115,116]⟩,⟨#[104]⟩⟩,⟨⟨#[89]⟩,⟨#[50]⟩⟩,⟨⟨#[90]⟩,⟨#[51]⟩⟩]
def al12_len (n:Int):S36:=⟨⟨#[67,111,110,116,101,110,116,45,76,101,110,103,116,104]⟩,⟨(Lib.itoa n).toArray⟩⟩
theorem al12_1:scrub_Request.f 60 ⟨#[71,69,84]⟩ ⟨#[47]⟩ 1 al12_fs [] [] [] [⟨⟨#[90]⟩,⟨#[51]⟩⟩] [] 0 0 0 0 ⟨#[104]⟩ ⟨#[47,110]⟩=some (⟨#[71,69,84]⟩,⟨#[47,110]⟩,1,al12_out,[]):=by kernel_rfl
theorem al12_2:scrub_Own.f 404 true=some (404,⟨#[78,111,116,32,70,111,117,110,100]⟩,1,[al12_len 0,⟨⟨#[67,111,110,110,101,99,116,105,111,110]⟩,⟨#[99,108,111,115,101]⟩⟩],[]):=by kernel_rfl
theorem al12_3:scrub_Response.f 60 200 ⟨#[79,75]⟩ 0 al12_fs [97,98] ⟨#[71,69,84]⟩ false=some (200,⟨#[79,75]⟩,1,[⟨⟨#[89]⟩,⟨#[50]⟩⟩,al12_len 2],[97,98]):=by kernel_rfl
theorem al12_4:tollbarref04_Same.f 60 al12_out al12_out=some true:=by kernel_rfl
theorem al12_5:scrub_Hop.f 60 al12_fs ⟨#[120]⟩=some true:=by kernel_rfl
theorem al12_6:scrub_Hop.f 60 al12_fs ⟨#[121]⟩=some false:=by kernel_rfl
theorem al12_7:(⟨(Lib.itoa 2).toArray⟩:ByteArray)=⟨#[50]⟩:=by
 simp [Lib.itoa,Lib.decDigits_one]
def tollbarlaw12_alive.f:Option Bool:=some true
/-- The cells of fields in a row. -/
def fcells (xs:List (S36)):List Value:=xs.flatMap fun x=>[.string x.f0,.string x.f1]
theorem fcells_get : ∀ (xs:List (S36)) (j i:Nat) (x:S36) (u:Value),xs[j]? = some x → ([Value.string x.f0,.string x.f1])[i]? = some u → (fcells xs)[j * 2 + i]? = some u
 | [],j,i,x,u,h,_=>by simp at h
 | y :: r,0,i,x,u,h,hu=>by
  simp only [List.getElem?_cons_zero,Option.some.injEq] at h
  subst h
  have hi:i < 2:=by have:=(List.getElem?_eq_some_iff.1 hu).1;simpa using this
  show ([Value.string y.f0,.string y.f1] ++ fcells r)[0 * 2 + i]? = some u
  rw [Nat.zero_mul,Nat.zero_add,List.getElem?_append_left (by simpa using hi)]
  exact hu
 | y :: r,j + 1,i,x,u,h,hu=>by
  have hi:i < 2:=by have:=(List.getElem?_eq_some_iff.1 hu).1;simpa using this
  show ([Value.string y.f0,.string y.f1] ++ fcells r)[(j + 1) * 2 + i]? = some u
  rw [List.getElem?_append_right (by simp;omega)]
  have:=fcells_get r j i x u (by simpa using h) hu
  rw [show (j + 1) * 2 + i - ([Value.string y.f0,.string y.f1]:List Value).length=j * 2 + i by simp;omega]
  exact this
/-- A row of fields that a literal laid. -/
theorem C_fields (W:World) (g e:Nat) (xs:List (S36)) (fr:Nat × Nat) (hb:W.heap[g]? = some (.cells (fcells xs).toArray e fr)) (hm:xs.length ≤ 9223372036854775807):Kd.C k36 W (some ⟨g,0,none⟩) xs.length xs:=by
 refine ⟨rfl,hm,fun _=>⟨_,rfl,fun j x hj=>⟨[.string x.f0,.string x.f1],rfl,k36_mk W x,fun i u hu=>?_⟩⟩⟩
 rw [add_plain,cell_of_row _ _ _ _ _ _ hb]
 rw [List.getElem?_toArray]
 exact fcells_get xs j i x u hj hu
def al12_w (w:World):World:=(((w.alloc (.cells (fcells al12_fs).toArray 36)).alloc (.cells #[.string ⟨#[71,69,84]⟩,.string ⟨#[47]⟩,.int .i64 1,.slice (some ⟨w.heap.size,0,none⟩) 4 4,.slice none 0 0] 26)).alloc (.cells (fcells [⟨⟨#[90]⟩,⟨#[51]⟩⟩]).toArray 36)).alloc (.cells #[.slice none 0 0,.slice none 0 0,.slice (some ⟨w.heap.size + 1 + 1,0,none⟩) 1 1,.slice none 0 0,.int .i64 0,.int .i64 0,.int .i64 0,.int .i64 0] 46)
theorem al12_b0 (w:World):(al12_w w).heap[w.heap.size]? = some (.cells (fcells al12_fs).toArray 36):=blk_alloc (blk_alloc (blk_alloc (blk_new w _) _) _) _
theorem al12_b1 (w:World):(al12_w w).heap[w.heap.size + 1]? = some (.cells #[.string ⟨#[71,69,84]⟩,.string ⟨#[47]⟩,.int .i64 1,.slice (some ⟨w.heap.size,0,none⟩) 4 4,.slice none 0 0] 26):=by
 have h:=blk_new (w.alloc (.cells (fcells al12_fs).toArray 36)) (.cells #[.string ⟨#[71,69,84]⟩,.string ⟨#[47]⟩,.int .i64 1,.slice (some ⟨w.heap.size,0,none⟩) 4 4,.slice none 0 0] 26)
 have hz:(w.alloc (.cells (fcells al12_fs).toArray 36)).heap.size=w.heap.size + 1:=by simp
 rw [hz] at h
 exact blk_alloc (blk_alloc h _) _
theorem al12_b2 (w:World):(al12_w w).heap[w.heap.size + 1 + 1]? = some (.cells (fcells [⟨⟨#[90]⟩,⟨#[51]⟩⟩]).toArray 36):=by
 have h:=blk_new ((w.alloc (.cells (fcells al12_fs).toArray 36)).alloc (.cells #[.string ⟨#[71,69,84]⟩,.string ⟨#[47]⟩,.int .i64 1,.slice (some ⟨w.heap.size,0,none⟩) 4 4,.slice none 0 0] 26)) (.cells (fcells [⟨⟨#[90]⟩,⟨#[51]⟩⟩]).toArray 36)
 have hz:((w.alloc (.cells (fcells al12_fs).toArray 36)).alloc (.cells #[.string ⟨#[71,69,84]⟩,.string ⟨#[47]⟩,.int .i64 1,.slice (some ⟨w.heap.size,0,none⟩) 4 4,.slice none 0 0] 26)).heap.size=w.heap.size + 1 + 1:=by simp
 rw [hz] at h
 exact blk_alloc h _
theorem al12_below (w:World):Below w.heap.size w (al12_w w):=below_alloc (below_alloc (below_alloc (below_alloc (Below.refl _ _) _) _) _) _
set_option maxHeartbeats 8000000 in
set_option maxRecDepth 100000 in
theorem tollbarlaw12_alive.calls (r:Bool) (w:World) (h:tollbarlaw12_alive.f=some r) (ht:Tabs w) :
 Calls Tryz.prog 27 #[] w fun e w' => e = .returned (.bool r)∧Below w.heap.size w w' := by
 obtain rfl:=Option.some.inj h
 clear h
 have HTB:=Aside0.mk ht
 clear ht
 have hu1:=Tryz.underlying26
 have hu2:=Tryz.underlying46
 have hu3:=Tryz.underlying62
 have hu4:=Tryz.underlying36
 have kc:=fun (w:World) (C:Array Value) (n c:Nat)=>Lib.run_convert_bytes_const (P:=Tryz.prog) w 22 5 C n c Tryz.underlying22 Tryz.underlying5
 go_enter Tryz.func27,Tryz.ntmps27
 go_wp2_with fail
 go_at_call 30
 refine (scrub_Request.calls 60 ⟨#[71,69,84]⟩ ⟨#[47]⟩ 1 _ _ al12_fs _ _ [] _ _ [] _ _ [] _ _ [⟨⟨#[90]⟩,⟨#[51]⟩⟩] _ _ [] 0 0 0 0 ⟨#[104]⟩ ⟨#[47,110]⟩ _ _ _ _ _ (al12_w w) (C_fields _ _ _ _ _ (al12_b0 w) zb27) (Nat.le_refl _) (Kd.C_nil _ _) (Nat.le_refl _) (Kd.C_nil _ _) (Nat.le_refl _) (Kd.C_nil _ _) (Nat.le_refl _) (C_fields _ _ _ _ _ (al12_b2 w) zb27) (Nat.le_refl _) (Kd.C_nil _ _) (Nat.le_refl _) al12_1 (HTB.out.below (al12_below w))).mono ?_
 rintro e w1 ⟨v1,v2,rfl,hr1,hr2,hb⟩
 obtain ⟨A1,c1,rfl,hl1,hC1⟩:=Kd.R_reads hr1
 obtain ⟨A2,c2,rfl⟩:=Kd.R_slice hr2
 have B1:=Aside0.mk (below_step (al12_below w) hb)
 have R1:=Aside0.mk hC1
 have F0:=Aside0.mk (blk_below (al12_b0 w) hb)
 have F1:=Aside0.mk (blk_below (al12_b1 w) hb)
 clear hr1 hr2 hC1 hb
 go_wp2_with fail
 go_at_call 42
 refine (scrub_Own.calls 404 true _ _ _ _ _ _ al12_2 (HTB.out.below (below_alloc B1.out _))).mono ?_
 rintro e w2 ⟨v3,v4,rfl,hr3,hr4,hb⟩
 obtain ⟨A3,c3,rfl⟩:=Kd.R_slice hr3
 obtain ⟨A4,c4,rfl⟩:=Kd.R_slice hr4
 have B2:=Aside0.mk (below_step (below_alloc B1.out _) hb)
 have R2:=Aside0.mk (Kd.C_below (Kd.C_alloc R1.out _) hb)
 have G0:=Aside0.mk (blk_below (blk_alloc F0.out _) hb)
 have G1:=Aside0.mk (blk_below (blk_alloc F1.out _) hb)
 have G3:=Aside0.mk (blk_below (blk_new w1 _) hb)
 clear hr3 hr4 hb B1 R1 F0 F1
 have k1:(w2.alloc (.cells #[.int .i64 404,.string ⟨#[78,111,116,32,70,111,117,110,100]⟩,.int .i64 1,.slice A3 2 c3,.slice A4 0 c4] 62)).cell? ⟨w.heap.size + 1,3,none⟩=some (.slice (some ⟨w.heap.size,0,none⟩) 4 4):=(blk_cell (blk_alloc G1.out _) 3).trans rfl
 have hz:(w2.alloc (.cells #[.int .i64 404,.string ⟨#[78,111,116,32,70,111,117,110,100]⟩,.int .i64 1,.slice A3 2 c3,.slice A4 0 c4] 62)).heap.size=w2.heap.size + 1:=by simp
 have kc:=Lib.run_convert_bytes_const (P:=Tryz.prog) (w2.alloc (.cells #[.int .i64 404,.string ⟨#[78,111,116,32,70,111,117,110,100]⟩,.int .i64 1,.slice A3 2 c3,.slice A4 0 c4] 62)) 22 5 #[.int .u8 97,.int .u8 98] 2 2 Tryz.underlying22 Tryz.underlying5
 rw [hz] at kc
 have hcb:=C_const (w2.alloc (.cells #[.int .i64 404,.string ⟨#[78,111,116,32,70,111,117,110,100]⟩,.int .i64 1,.slice A3 2 c3,.slice A4 0 c4] 62)) 5 [97,98] (2,3) zb27
 rw [hz] at hcb
 have HCB:=Aside0.mk hcb
 clear hcb hz
 go_wp2_with fail
 go_at_call 40
 refine (scrub_Response.calls 60 200 ⟨#[79,75]⟩ 0 _ _ al12_fs _ _ [97,98] ⟨#[71,69,84]⟩ false _ _ _ _ _ _ (C_fields _ _ _ _ _ (blk_alloc (blk_alloc G0.out _) _) zb27) (Nat.le_refl _) HCB.out (Nat.le_refl _) al12_3 (HTB.out.below (below_alloc (below_alloc B2.out _) _))).mono ?_
 rintro e w3 ⟨v5,v6,rfl,hr5,hr6,hb⟩
 obtain ⟨A5,c5,rfl,hl5,hC5⟩:=Kd.R_reads hr5
 obtain ⟨A6,c6,rfl⟩:=Kd.R_slice hr6
 have B3:=Aside0.mk (below_step (below_alloc (below_alloc B2.out _) _) hb)
 have R3:=Aside0.mk (Kd.C_below (Kd.C_alloc (Kd.C_alloc R2.out _) _) hb)
 have H0:=Aside0.mk (blk_below (blk_alloc (blk_alloc G0.out _) _) hb)
 have H1:=Aside0.mk (blk_below (blk_alloc (blk_alloc G1.out _) _) hb)
 have H3:=Aside0.mk (blk_below (blk_alloc (blk_alloc G3.out _) _) hb)
 have H4:=Aside0.mk (blk_below (blk_alloc (blk_new w2 (.cells #[.int .i64 404,.string ⟨#[78,111,116,32,70,111,117,110,100]⟩,.int .i64 1,.slice A3 2 c3,.slice A4 0 c4] 62)) _) hb)
 have R5:=Aside0.mk hC5
 have R6:=Aside0.mk hr6
 clear B2 R2 G0 G1 G3 hr5 hC5 hb kc k1
 have s1:(w3.alloc (.cells #[.int .i64 200,.string ⟨#[79,75]⟩,.int .i64 1,.slice A5 2 c5,.slice A6 2 c6] 62)).cell? ⟨w1.heap.size,1,none⟩=some (.string ⟨#[47,110]⟩):=(blk_cell (blk_alloc H3.out _) 1).trans rfl
 have s2:(w3.alloc (.cells #[.int .i64 200,.string ⟨#[79,75]⟩,.int .i64 1,.slice A5 2 c5,.slice A6 2 c6] 62)).cell? ⟨w1.heap.size,2,none⟩=some (.int .i64 1):=(blk_cell (blk_alloc H3.out _) 2).trans rfl
 have s3:(w3.alloc (.cells #[.int .i64 200,.string ⟨#[79,75]⟩,.int .i64 1,.slice A5 2 c5,.slice A6 2 c6] 62)).cell? ⟨w1.heap.size,3,none⟩=some (.slice A1 3 c1):=(blk_cell (blk_alloc H3.out _) 3).trans rfl
 have hz:(w3.alloc (.cells #[.int .i64 200,.string ⟨#[79,75]⟩,.int .i64 1,.slice A5 2 c5,.slice A6 2 c6] 62)).heap.size=w3.heap.size + 1:=by simp
 have hlit:=C_fields ((w3.alloc (.cells #[.int .i64 200,.string ⟨#[79,75]⟩,.int .i64 1,.slice A5 2 c5,.slice A6 2 c6] 62)).alloc (.cells (fcells al12_out).toArray 36)) (w3.alloc (.cells #[.int .i64 200,.string ⟨#[79,75]⟩,.int .i64 1,.slice A5 2 c5,.slice A6 2 c6] 62)).heap.size 36 al12_out (0,0) (blk_new _ _) zb27
 rw [hz] at hlit
 have HLIT:=Aside0.mk hlit
 clear hlit hz
 go_wp2_with fail
 go_at_call 26
 refine (tollbarref04_Same.calls 60 _ _ al12_out _ _ al12_out true ((w3.alloc (.cells #[.int .i64 200,.string ⟨#[79,75]⟩,.int .i64 1,.slice A5 2 c5,.slice A6 2 c6] 62)).alloc (.cells (fcells al12_out).toArray 36)) (Kd.C_alloc (Kd.C_alloc R3.out _) _) hl1 HLIT.out (Nat.le_refl _) al12_4).mono ?_
 rintro e w4 ⟨rfl,hd⟩
 have hb:Below ((w3.alloc (.cells #[.int .i64 200,.string ⟨#[79,75]⟩,.int .i64 1,.slice A5 2 c5,.slice A6 2 c6] 62)).alloc (.cells (fcells al12_out).toArray 36)).heap.size ((w3.alloc (.cells #[.int .i64 200,.string ⟨#[79,75]⟩,.int .i64 1,.slice A5 2 c5,.slice A6 2 c6] 62)).alloc (.cells (fcells al12_out).toArray 36)) w4:=by
  obtain ⟨n,rfl⟩:=hd.out
  exact pw_below_drewN (Below.refl _ _) _
 have B4:=Aside0.mk (below_step (below_alloc (below_alloc B3.out _) _) hb)
 have J0:=Aside0.mk (blk_below (blk_alloc (blk_alloc H0.out _) _) hb)
 have J1:=Aside0.mk (blk_below (blk_alloc (blk_alloc H1.out _) _) hb)
 have J4:=Aside0.mk (blk_below (blk_alloc (blk_alloc H4.out _) _) hb)
 have J5:=Aside0.mk (blk_below (blk_alloc (blk_new w3 (.cells #[.int .i64 200,.string ⟨#[79,75]⟩,.int .i64 1,.slice A5 2 c5,.slice A6 2 c6] 62)) _) hb)
 have R7:=Aside0.mk (Kd.C_below (Kd.C_alloc (Kd.C_alloc R5.out _) _) hb)
 have R8:=Aside0.mk (Kd.R_below (Kd.R_alloc (Kd.R_alloc R6.out _) _) hb)
 clear hd hb B3 H0 H1 H4 R5 R6 R3 H3 HLIT s1 s2 s3
 have o0:w4.cell? ⟨w2.heap.size,0,none⟩=some (.int .i64 404):=(blk_cell J4.out 0).trans rfl
 have o3:w4.cell? ⟨w2.heap.size,3,none⟩=some (.slice A3 2 c3):=(blk_cell J4.out 3).trans rfl
 have p3:w4.cell? ⟨w3.heap.size,3,none⟩=some (.slice A5 2 c5):=(blk_cell J5.out 3).trans rfl
 have p4:w4.cell? ⟨w3.heap.size,4,none⟩=some (.slice A6 2 c6):=(blk_cell J5.out 4).trans rfl
 have r3:w4.cell? ⟨w.heap.size + 1,3,none⟩=some (.slice (some ⟨w.heap.size,0,none⟩) 4 4):=(blk_cell J1.out 3).trans rfl
 have hcv:(convert 22 9 (.slice A6 2 c6)).run Tryz.prog w4 = .ok (.string ⟨#[97,98]⟩) w4:=own_string (P:=Tryz.prog) Tryz.underlying22 Tryz.underlying5 Tryz.underlying9 (Kd.own_of_R R8.out)
 obtain ⟨ad5,e5,x50,x51⟩:=at_T36 R7.out 1 zb27 zb27
 have y51:w4.cell? ⟨(ad5.add 2).block,(ad5.add 2).off + 1,none⟩=some (.string ⟨#[50]⟩):=by
  have h:=x51
  rw [show (rd_T36 [⟨⟨#[89]⟩,⟨#[50]⟩⟩,al12_len 2] 1).f1=⟨#[50]⟩ from al12_7] at h
  exact h
 have z51:w4.cell? ⟨ad5.block,ad5.off + 2 + 1,none⟩=some (.string ⟨#[50]⟩):=by
  have h1:(ad5.add 2).block=ad5.block:=by simp [Addr.add]
  have h2:(ad5.add 2).off=ad5.off + 2:=by simp [Addr.add]
  rw [h1,h2] at y51
  exact y51
 subst e5
 clear x50 x51 y51
 go_wp2_with fail
 go_at_call 35
 refine (scrub_Hop.calls 60 _ _ al12_fs ⟨#[120]⟩ true w4 (C_fields _ _ _ _ _ J0.out zb27) (Nat.le_refl _) al12_5).mono ?_
 rintro e w5 ⟨rfl,hb⟩
 have r35:=pw_cell_below hb r3
 have K0:=Aside0.mk (blk_below J0.out hb)
 have B5:=Aside0.mk (below_step B4.out hb)
 clear hb
 go_wp2_with fail
 go_at_call 35
 refine (scrub_Hop.calls 60 _ _ al12_fs ⟨#[121]⟩ false w5 (C_fields _ _ _ _ _ K0.out zb27) (Nat.le_refl _) al12_6).mono ?_
 rintro e w6 ⟨rfl,hb⟩
 have B6:=Aside0.mk (below_step B5.out hb)
 clear hb
 go_wp2
 go_ret
 exact ⟨zb20,B6.out⟩
def tollbarlaw12_count.f (k:Nat) (l0:List (S36)) (a1:ByteArray):Option (Int):=(tollbarref04_Get.f k l0 a1).bind fun t814=>(some (t814.length:Int))
set_option maxHeartbeats 8000000 in
set_option maxRecDepth 100000 in
theorem tollbarlaw12_count.calls (k:Nat) (A0:Option Addr) (c0:Nat) (l0:List (S36)) (a1:ByteArray) (r:Int) (w:World) (hr0:Kd.C k36 w A0 l0.length l0) (hc0:l0.length ≤ c0) (h:tollbarlaw12_count.f k l0 a1=some r) :
 Calls Tryz.prog 37 #[.slice A0 l0.length c0,.string a1] w fun e w' => e = .returned (.int .i64 r)∧Below w.heap.size w w' := by
 have HR0:=Aside0.mk hr0
 have HC0:=Aside0.mk hc0
 clear hr0 hc0
 have HB:=Aside0.mk (Below.refl w.heap.size w)
 unfold tollbarlaw12_count.f at h
 have H:=h
 clear h
 replace H:=Option.bind_eq_some_iff.mp H
 obtain ⟨t814,A30,H⟩:=H
 try dsimp only at H
 have A3:=Aside0.mk A30
 clear A30
 obtain rfl:=Option.some.inj H
 go_enter Tryz.func37,Tryz.ntmps37
 go_wp2_with (first|((with_reducible refine gate_callee (f:=36) rfl ?_);refine goesL_ (some 7) rfl rfl Tryz.func36 zb10 rfl #[.slice A0 l0.length c0,.string a1] rfl zb1 ?_;(with_reducible refine (tollbarref04_Get.calls k _ _ l0 a1 t814 _ ?side1 ?side2 A3.out).mono ?_);(case side1=>exact zb29);(case side2=>exact HC0.out);rintro e w4 ⟨v815,rfl,ho0,hb⟩;(try clear A3);refine ⟨_,rfl,?_⟩;have HO816:=Aside0.mk (Kd.R_lower ho0 (below_size zb0));replace HB:=Aside0.mk (below_step zb0 hb);try clear hb ho0;obtain ⟨Ao5,co5,eo5⟩:=Kd.R_slice HO816.out;subst eo5))
 go_ret
 exact ⟨zb2,zb0⟩
def tollbarlaw12_few.f (l0:List (S36)) (l1:List ByteArray):Option (Bool):=if (l0.length:Int) ≤ 60 then (some (decide ((l1.length:Int) ≤ 60))) else (some false)
set_option maxHeartbeats 8000000 in
set_option maxRecDepth 100000 in
theorem tollbarlaw12_few.calls (A0:Option Addr) (c0:Nat) (l0:List (S36)) (A1:Option Addr) (c1:Nat) (l1:List ByteArray) (r:Bool) (w:World) (hr0:Kd.C k36 w A0 l0.length l0) (hc0:l0.length ≤ c0) (hr1:Kd.C Kd.string w A1 l1.length l1) (hc1:l1.length ≤ c1) (h:tollbarlaw12_few.f l0 l1=some r) :
 Calls Tryz.prog 28 #[.slice A0 l0.length c0,.slice A1 l1.length c1] w fun e w' => e = .returned (.bool r)∧Drawn0 w w' := by
 have HR0:=Aside0.mk hr0
 have HC0:=Aside0.mk hc0
 clear hr0 hc0
 have HR1:=Aside0.mk hr1
 have HC1:=Aside0.mk hc1
 clear hr1 hc1
 unfold tollbarlaw12_few.f at h
 have H:=h
 clear h
 by_cases c3:(l0.length:Int) ≤ 60
 ·rw [if_pos c3] at H
  have c3b0:=decide_eq_true c3
  have c3b1:decide (l0.length ≤ 60)=true:=decide_eq_true zb18
  clear c3
  obtain rfl:=Option.some.inj H
  go_enter Tryz.func28,Tryz.ntmps28
  go_wp2
  go_ret
  exact ⟨zb4,zb8⟩
 rw [if_neg c3] at H
 have c3b0:=decide_eq_false c3
 have c3b1:decide (l0.length ≤ 60)=false:=decide_eq_false zb18
 clear c3
 obtain rfl:=Option.some.inj H
 go_enter Tryz.func28,Tryz.ntmps28
 go_wp2
 go_ret
 exact ⟨zb4,zb8⟩
def clFold (a:ByteArray):ByteArray:=strOfNums ((bytesOf a).map foldC)
def clLens (T:List (S36)):Nat:=(T.filter fun f=>decide ((clFold f.f0).toList=([99,111,110,116,101,110,116,45,108,101,110,103,116,104]:List UInt8))).length
theorem clLens_le (T:List (S36)):clLens T ≤ T.length:=List.length_filter_le ..
theorem clLens_snoc (T:List (S36)) (y:(S36)):clLens (T ++ [y])=clLens T + (if (clFold y.f0).toList=([99,111,110,116,101,110,116,45,108,101,110,103,116,104]:List UInt8) then 1 else 0):=by
 unfold clLens
 rw [List.filter_append,List.length_append,List.filter_cons,List.filter_nil]
 by_cases h:(clFold y.f0).toList=([99,111,110,116,101,110,116,45,108,101,110,103,116,104]:List UInt8)
 ·rw [if_pos (decide_eq_true h),if_pos h]
  rfl
 rw [if_neg (by simpa using h),if_neg h]
 rfl
theorem clean_inf:(Tryz.prog.info? 36).map (fun i=>(i.zero,i.size,i.bytes))=some (some (.agg #[(.string ⟨#[]⟩),(.string ⟨#[]⟩)]),2,32):=by kernel_rfl
/-- What the law asks of what goes out. -/
def cleanD (k:Nat) (fs c2:List (S36)) (drop N:List ByteArray) (bd:List Int) (F T:List (S36)):Bool :=
 decide (∀ f ∈ c2,tollbarref02_Fold.f k f.f0=some (clFold f.f0)∧(clFold f.f0).size ≤ 1048576) && (decide (∀ f ∈ T,tollbarref02_Fold.f k f.f0=some (clFold f.f0)∧(clFold f.f0).size ≤ 1048576) && (decide (∀ f ∈ T,(clFold f.f0).toList ≠ ([99,111,110,116,101,110,116,45,108,101,110,103,116,104]:List UInt8) → hasB (c2.map fun f=>clFold f.f0) (clFold f.f0)=false → conf_Kept.f f.f0=some false∧tollbarref04_In.f k N f.f0=some false∧tollbarref04_In.f k drop f.f0=some false∧scrub_Hop.f k fs f.f0=some false) && (decide (∀ f ∈ c2,(tollbarref04_Get.f k F f.f0).isSome=true∧tollbarlaw12_count.f k c2 f.f0=(tollbarref04_Get.f k F f.f0).map fun G=>(G.length:Int)) && decide (clLens T ≤ 1∧(clLens T=1 ∨ bd.length=0)))))
def tollbarlaw12_ScrubClean.f (k:Nat) (a0_0:ByteArray) (a0_1:ByteArray) (a0_2:Int) (l0_3:List (S36)) (l0_4:List Int) (l1_0:List (S83)) (l1_1:List (S85)) (l1_2:List (S36)) (l1_3:List ByteArray) (a1_4:Int) (a1_5:Int) (a1_6:Int) (a1_7:Int):Option Bool :=
 (tollbarlaw12_few.f l0_3 l1_3).bind fun b=>if b=false then some true else (conf_Check.f k l1_0 l1_1 l1_2 l1_3 a1_4 a1_5 a1_6 a1_7).bind fun e=>if e ≠ 0 then some true else if l1_2.length ≤ 16 then (scrub_Request.f k a0_0 a0_1 a0_2 l0_3 l0_4 l1_0 l1_1 l1_2 l1_3 a1_4 a1_5 a1_6 a1_7 (⟨#[104,111,115,116]⟩:ByteArray) (⟨#[47,116]⟩:ByteArray)).bind fun s=>(tollbarref04_List.f k l0_3 (⟨#[99,111,110,110,101,99,116,105,111,110]⟩:ByteArray)).bind fun N =>
  match s.2.2.2.1 with
  | []=>none
  | hd :: T=>if hd.f0=(⟨#[72,111,115,116]⟩:ByteArray)∧hd.f1=(⟨#[104,111,115,116]⟩:ByteArray)∧T.length ≤ 4000∧cleanD k l0_3 l1_2 l1_3 N l0_4 (hd :: T) T=true then some true else none
  else none
set_option maxHeartbeats 16000000 in
set_option maxRecDepth 100000 in
theorem tollbarlaw12_ScrubClean.calls (k:Nat) (a0_0:ByteArray) (a0_1:ByteArray) (a0_2:Int) (A0_3:Option Addr) (c0_3:Nat) (l0_3:List (S36)) (A0_4:Option Addr) (c0_4:Nat) (l0_4:List Int) (A1_0:Option Addr) (c1_0:Nat) (l1_0:List (S83)) (A1_1:Option Addr) (c1_1:Nat) (l1_1:List (S85)) (A1_2:Option Addr) (c1_2:Nat) (l1_2:List (S36)) (A1_3:Option Addr) (c1_3:Nat) (l1_3:List ByteArray) (a1_4:Int) (a1_5:Int) (a1_6:Int) (a1_7:Int) (r:Bool) (w:World) (hr0_3:Kd.C k36 w A0_3 l0_3.length l0_3) (hc0_3:l0_3.length ≤ c0_3) (hr0_4:Kd.C (Kd.int .u8) w A0_4 l0_4.length l0_4) (hc0_4:l0_4.length ≤ c0_4) (hr1_0:Kd.C k83 w A1_0 l1_0.length l1_0) (hc1_0:l1_0.length ≤ c1_0) (hr1_1:Kd.C k85 w A1_1 l1_1.length l1_1) (hc1_1:l1_1.length ≤ c1_1) (hr1_2:Kd.C k36 w A1_2 l1_2.length l1_2) (hc1_2:l1_2.length ≤ c1_2) (hr1_3:Kd.C Kd.string w A1_3 l1_3.length l1_3) (hc1_3:l1_3.length ≤ c1_3) (h:tollbarlaw12_ScrubClean.f k a0_0 a0_1 a0_2 l0_3 l0_4 l1_0 l1_1 l1_2 l1_3 a1_4 a1_5 a1_6 a1_7=some r) (hr:r=true) (ht:Tabs w) :
 Calls Tryz.prog 6 #[.agg #[.string a0_0,.string a0_1,.int .i64 a0_2,.slice A0_3 l0_3.length c0_3,.slice A0_4 l0_4.length c0_4],.agg #[.slice A1_0 l1_0.length c1_0,.slice A1_1 l1_1.length c1_1,.slice A1_2 l1_2.length c1_2,.slice A1_3 l1_3.length c1_3,.int .i64 a1_4,.int .i64 a1_5,.int .i64 a1_6,.int .i64 a1_7]] w fun e w' => e = .returned (.bool r)∧Below w.heap.size w w' := by
 subst hr
 have hu:=Tryz.underlying26
 have hu2:=Tryz.underlying46
 have hu3:=Tryz.underlying36
 have hu4:=Tryz.underlying52
 have hmm := @run_makeMap Tryz.prog
 have HT:=Aside0.mk ht
 clear ht
 have HR0_3:=Aside0.mk hr0_3
 have HC0_3:=Aside0.mk hc0_3
 have HR0_4:=Aside0.mk hr0_4
 have HC0_4:=Aside0.mk hc0_4
 have HR1_0:=Aside0.mk hr1_0
 have HC1_0:=Aside0.mk hc1_0
 have HR1_1:=Aside0.mk hr1_1
 have HC1_1:=Aside0.mk hc1_1
 have HR1_2:=Aside0.mk hr1_2
 have HC1_2:=Aside0.mk hc1_2
 have HR1_3:=Aside0.mk hr1_3
 have HC1_3:=Aside0.mk hc1_3
 clear hr0_3 hc0_3 hr0_4 hc0_4 hr1_0 hc1_0 hr1_1 hc1_1 hr1_2 hc1_2 hr1_3 hc1_3
 unfold tollbarlaw12_ScrubClean.f at h
 obtain ⟨b,hb_,h'⟩:=Option.bind_eq_some_iff.1 h
 clear h
 have h:=h'
 clear h'
 have HF:=Aside0.mk hb_
 clear hb_
 cases b
 ·clear h
  go_enter Tryz.func6,Tryz.ntmps6
  go_wp2_with (first
   | ((with_reducible refine gate_dst (N:=2) rfl ?_);refine box_event ?hg (N:=2) ?hd (cs:=#[.string a0_0,.string a0_1,.int .i64 a0_2,.slice A0_3 l0_3.length c0_3,.slice A0_4 l0_4.length c0_4]) (t:=26) ?hr ?_;(case hd=>rfl);(case hg=>rfl);(case hr=>first|(go_simp;done)|(go_simp;rfl));intro X hX w1 hBX hbX;have X1:=Aside0.mk hBX;have L1:=Aside0.mk hbX;clear hBX hbX hX)
   | ((with_reducible refine gate_dst (N:=3) rfl ?_);refine box_event ?hg (N:=3) ?hd (cs:=#[.slice A1_0 l1_0.length c1_0,.slice A1_1 l1_1.length c1_1,.slice A1_2 l1_2.length c1_2,.slice A1_3 l1_3.length c1_3,.int .i64 a1_4,.int .i64 a1_5,.int .i64 a1_6,.int .i64 a1_7]) (t:=46) ?hr ?_;(case hd=>rfl);(case hg=>rfl);(case hr=>first|(go_simp;done)|(go_simp;rfl));intro Y hX w2 hBX hbX;have Y2:=Aside0.mk hBX;have X2:=Aside0.mk (blk_below X1.out hbX);have L2:=Aside0.mk (below_step L1.out hbX);clear hBX hbX hX)
   | (go_at_call 27;(with_reducible refine (tollbarlaw12_alive.calls true _ rfl (HT.out.below L2.out)).mono ?_);rintro E w3 ⟨rfl,hb⟩;have L3:=Aside0.mk (below_step L2.out hb);have X3:=Aside0.mk (blk_below X2.out hb);have Y3:=Aside0.mk (blk_below Y2.out hb);have qa3:w3.cell? ⟨X,3,none⟩=some (.slice A0_3 l0_3.length c0_3):=(blk_cell X3.out 3).trans rfl;have qb3:w3.cell? ⟨Y,3,none⟩=some (.slice A1_3 l1_3.length c1_3):=(blk_cell Y3.out 3).trans rfl;clear hb)
   | (go_at_call 28;(with_reducible refine (tollbarlaw12_few.calls A0_3 c0_3 l0_3 A1_3 c1_3 l1_3 false _ (Kd.C_below HR0_3.out L3.out) HC0_3.out (Kd.C_below HR1_3.out L3.out) HC1_3.out HF.out).mono ?_);rintro E w4 ⟨rfl,hd⟩;have hb:=hd.below;have L4:=Aside0.mk (below_step L3.out hb);have X4:=Aside0.mk (blk_below X3.out hb);have Y4:=Aside0.mk (blk_below Y3.out hb);clear hb hd))
  go_ret
  exact ⟨rfl,L4.out⟩
 rw [if_neg zb33] at h
 obtain ⟨e,he_,h'⟩:=Option.bind_eq_some_iff.1 h
 clear h
 have h:=h'
 clear h'
 have HE:=Aside0.mk he_
 clear he_
 by_cases e0:e=0
 rotate_left
 ·clear h
  have d1:(e != 0)=true:=bne_iff_ne.2 e0
  have d2:(e == 0)=false:=beq_eq_false_iff_ne.2 e0
  clear e0
  go_enter Tryz.func6,Tryz.ntmps6
  go_wp2_with (first
   | ((with_reducible refine gate_dst (N:=2) rfl ?_);refine box_event ?hg (N:=2) ?hd (cs:=#[.string a0_0,.string a0_1,.int .i64 a0_2,.slice A0_3 l0_3.length c0_3,.slice A0_4 l0_4.length c0_4]) (t:=26) ?hr ?_;(case hd=>rfl);(case hg=>rfl);(case hr=>first|(go_simp;done)|(go_simp;rfl));intro X hX w1 hBX hbX;have X1:=Aside0.mk hBX;have L1:=Aside0.mk hbX;clear hBX hbX hX)
   | ((with_reducible refine gate_dst (N:=3) rfl ?_);refine box_event ?hg (N:=3) ?hd (cs:=#[.slice A1_0 l1_0.length c1_0,.slice A1_1 l1_1.length c1_1,.slice A1_2 l1_2.length c1_2,.slice A1_3 l1_3.length c1_3,.int .i64 a1_4,.int .i64 a1_5,.int .i64 a1_6,.int .i64 a1_7]) (t:=46) ?hr ?_;(case hd=>rfl);(case hg=>rfl);(case hr=>first|(go_simp;done)|(go_simp;rfl));intro Y hX w2 hBX hbX;have Y2:=Aside0.mk hBX;have X2:=Aside0.mk (blk_below X1.out hbX);have L2:=Aside0.mk (below_step L1.out hbX);clear hBX hbX hX)
   | (go_at_call 27;(with_reducible refine (tollbarlaw12_alive.calls true _ rfl (HT.out.below L2.out)).mono ?_);rintro E w3 ⟨rfl,hb⟩;have L3:=Aside0.mk (below_step L2.out hb);have X3:=Aside0.mk (blk_below X2.out hb);have Y3:=Aside0.mk (blk_below Y2.out hb);have qa3:w3.cell? ⟨X,3,none⟩=some (.slice A0_3 l0_3.length c0_3):=(blk_cell X3.out 3).trans rfl;have qb3:w3.cell? ⟨Y,3,none⟩=some (.slice A1_3 l1_3.length c1_3):=(blk_cell Y3.out 3).trans rfl;clear hb)
   | (go_at_call 28;(with_reducible refine (tollbarlaw12_few.calls A0_3 c0_3 l0_3 A1_3 c1_3 l1_3 true _ (Kd.C_below HR0_3.out L3.out) HC0_3.out (Kd.C_below HR1_3.out L3.out) HC1_3.out HF.out).mono ?_);rintro E w4 ⟨rfl,hd⟩;have hb:=hd.below;have L4:=Aside0.mk (below_step L3.out hb);have X4:=Aside0.mk (blk_below X3.out hb);have Y4:=Aside0.mk (blk_below Y3.out hb);have qc0:w4.cell? ⟨Y,0,none⟩=some (.slice A1_0 l1_0.length c1_0):=(blk_cell Y4.out 0).trans rfl;have qc1:w4.cell? ⟨Y,1,none⟩=some (.slice A1_1 l1_1.length c1_1):=(blk_cell Y4.out 1).trans rfl;have qc2:w4.cell? ⟨Y,2,none⟩=some (.slice A1_2 l1_2.length c1_2):=(blk_cell Y4.out 2).trans rfl;have qc3:w4.cell? ⟨Y,3,none⟩=some (.slice A1_3 l1_3.length c1_3):=(blk_cell Y4.out 3).trans rfl;have qc4:w4.cell? ⟨Y,4,none⟩=some (.int .i64 a1_4):=(blk_cell Y4.out 4).trans rfl;have qc5:w4.cell? ⟨Y,5,none⟩=some (.int .i64 a1_5):=(blk_cell Y4.out 5).trans rfl;have qc6:w4.cell? ⟨Y,6,none⟩=some (.int .i64 a1_6):=(blk_cell Y4.out 6).trans rfl;have qc7:w4.cell? ⟨Y,7,none⟩=some (.int .i64 a1_7):=(blk_cell Y4.out 7).trans rfl;clear hb hd)
   | (go_at_call 29;(with_reducible refine (conf_Check.calls k A1_0 c1_0 l1_0 A1_1 c1_1 l1_1 A1_2 c1_2 l1_2 A1_3 c1_3 l1_3 a1_4 a1_5 a1_6 a1_7 e _ (Kd.C_below HR1_0.out L4.out) HC1_0.out (Kd.C_below HR1_1.out L4.out) HC1_1.out (Kd.C_below HR1_2.out L4.out) HC1_2.out (Kd.C_below HR1_3.out L4.out) HC1_3.out HE.out).mono ?_);rintro E w5 ⟨rfl,hb⟩;have L5:=Aside0.mk (below_step L4.out hb);have X5:=Aside0.mk (blk_below X4.out hb);have Y5:=Aside0.mk (blk_below Y4.out hb);have qd0:w5.cell? ⟨X,0,none⟩=some (.string a0_0):=(blk_cell X5.out 0).trans rfl;have qd1:w5.cell? ⟨X,1,none⟩=some (.string a0_1):=(blk_cell X5.out 1).trans rfl;have qd2:w5.cell? ⟨X,2,none⟩=some (.int .i64 a0_2):=(blk_cell X5.out 2).trans rfl;have qd3:w5.cell? ⟨X,3,none⟩=some (.slice A0_3 l0_3.length c0_3):=(blk_cell X5.out 3).trans rfl;have qd4:w5.cell? ⟨X,4,none⟩=some (.slice A0_4 l0_4.length c0_4):=(blk_cell X5.out 4).trans rfl;have qe0:w5.cell? ⟨Y,0,none⟩=some (.slice A1_0 l1_0.length c1_0):=(blk_cell Y5.out 0).trans rfl;have qe1:w5.cell? ⟨Y,1,none⟩=some (.slice A1_1 l1_1.length c1_1):=(blk_cell Y5.out 1).trans rfl;have qe2:w5.cell? ⟨Y,2,none⟩=some (.slice A1_2 l1_2.length c1_2):=(blk_cell Y5.out 2).trans rfl;have qe3:w5.cell? ⟨Y,3,none⟩=some (.slice A1_3 l1_3.length c1_3):=(blk_cell Y5.out 3).trans rfl;have qe4:w5.cell? ⟨Y,4,none⟩=some (.int .i64 a1_4):=(blk_cell Y5.out 4).trans rfl;have qe5:w5.cell? ⟨Y,5,none⟩=some (.int .i64 a1_5):=(blk_cell Y5.out 5).trans rfl;have qe6:w5.cell? ⟨Y,6,none⟩=some (.int .i64 a1_6):=(blk_cell Y5.out 6).trans rfl;have qe7:w5.cell? ⟨Y,7,none⟩=some (.int .i64 a1_7):=(blk_cell Y5.out 7).trans rfl;clear hb))
  go_ret
  exact ⟨rfl,L5.out⟩
 subst e0
 rw [if_neg zb33] at h
 by_cases c16:l1_2.length ≤ 16
 rotate_left
 ·rw [if_neg c16] at h
  cases h
 rw [if_pos c16] at h
 have H16:=Aside0.mk c16
 clear c16
 obtain ⟨⟨r1,r2,r3,S,r5⟩,hs_,h'⟩:=Option.bind_eq_some_iff.1 h
 clear h
 obtain ⟨N,hn_,h⟩:=Option.bind_eq_some_iff.1 h'
 clear h'
 simp only at h
 rcases hS:S with _|⟨hd,T⟩
 ·rw [hS] at h
  cases h
 rw [hS] at h
 simp only at h
 split at h
 rotate_left
 ·cases h
 rename_i hcl
 clear h
 obtain ⟨hh0,hh1,hT4,hcl⟩:=hcl
 rw [← hS] at hcl
 unfold cleanD at hcl
 simp only [Bool.and_eq_true,decide_eq_true_iff] at hcl
 obtain ⟨k1,k2,k3,k4,k5⟩:=hcl
 have K1:=Aside0.mk k1
 have K2:=Aside0.mk k2
 have K3:=Aside0.mk k3
 have K4:=Aside0.mk k4
 have K5:=Aside0.mk k5
 have HS:=Aside0.mk hs_
 have HN:=Aside0.mk hn_
 have HD:=Aside0.mk (show S=hd :: T∧hd.f0=(⟨#[72,111,115,116]⟩:ByteArray)∧hd.f1=(⟨#[104,111,115,116]⟩:ByteArray)∧T.length ≤ 4000 from ⟨hS,hh0,hh1,hT4⟩)
 have hSl:S.length=T.length + 1:=by rw [hS];rfl
 have s1:((S.length:Int) == 0)=false:=beq_eq_false_iff_ne.2 zb18
 have s2:(S.length == 0)=false:=beq_eq_false_iff_ne.2 zb18
 have s3:(0 < S.length)=True:=eq_true zb18
 have s4:((0:Int) < (S.length:Int))=True:=eq_true zb18
 have s5:decide ((0:Int) < (S.length:Int))=true:=decide_eq_true zb18
 have s6:((1:Int) ≤ (S.length:Int))=True:=eq_true zb18
 have s7:(1 ≤ S.length)=True:=eq_true zb18
 have HSL:=Aside0.mk hSl
 clear k1 k2 k3 k4 k5 hs_ hn_ hS hh0 hh1 hT4 hSl
 go_enter Tryz.func6,Tryz.ntmps6
 go_wp2_with (first
  | ((with_reducible refine gate_dst (N:=2) rfl ?_);refine box_event ?hg (N:=2) ?hd (cs:=#[.string a0_0,.string a0_1,.int .i64 a0_2,.slice A0_3 l0_3.length c0_3,.slice A0_4 l0_4.length c0_4]) (t:=26) ?hr ?_;(case hd=>rfl);(case hg=>rfl);(case hr=>first|(go_simp;done)|(go_simp;rfl));intro X hX w1 hBX hbX;have X1:=Aside0.mk hBX;have L1:=Aside0.mk hbX;clear hBX hbX hX)
  | ((with_reducible refine gate_dst (N:=3) rfl ?_);refine box_event ?hg (N:=3) ?hd (cs:=#[.slice A1_0 l1_0.length c1_0,.slice A1_1 l1_1.length c1_1,.slice A1_2 l1_2.length c1_2,.slice A1_3 l1_3.length c1_3,.int .i64 a1_4,.int .i64 a1_5,.int .i64 a1_6,.int .i64 a1_7]) (t:=46) ?hr ?_;(case hd=>rfl);(case hg=>rfl);(case hr=>first|(go_simp;done)|(go_simp;rfl));intro Y hX w2 hBX hbX;have Y2:=Aside0.mk hBX;have X2:=Aside0.mk (blk_below X1.out hbX);have L2:=Aside0.mk (below_step L1.out hbX);clear hBX hbX hX)
  | (go_at_call 27;(with_reducible refine (tollbarlaw12_alive.calls true _ rfl (HT.out.below L2.out)).mono ?_);rintro E w3 ⟨rfl,hb⟩;have L3:=Aside0.mk (below_step L2.out hb);have X3:=Aside0.mk (blk_below X2.out hb);have Y3:=Aside0.mk (blk_below Y2.out hb);have qa3:w3.cell? ⟨X,3,none⟩=some (.slice A0_3 l0_3.length c0_3):=(blk_cell X3.out 3).trans rfl;have qb3:w3.cell? ⟨Y,3,none⟩=some (.slice A1_3 l1_3.length c1_3):=(blk_cell Y3.out 3).trans rfl;clear hb)
  | (go_at_call 28;(with_reducible refine (tollbarlaw12_few.calls A0_3 c0_3 l0_3 A1_3 c1_3 l1_3 true _ (Kd.C_below HR0_3.out L3.out) HC0_3.out (Kd.C_below HR1_3.out L3.out) HC1_3.out HF.out).mono ?_);rintro E w4 ⟨rfl,hd⟩;have hb:=hd.below;have L4:=Aside0.mk (below_step L3.out hb);have X4:=Aside0.mk (blk_below X3.out hb);have Y4:=Aside0.mk (blk_below Y3.out hb);have qc0:w4.cell? ⟨Y,0,none⟩=some (.slice A1_0 l1_0.length c1_0):=(blk_cell Y4.out 0).trans rfl;have qc1:w4.cell? ⟨Y,1,none⟩=some (.slice A1_1 l1_1.length c1_1):=(blk_cell Y4.out 1).trans rfl;have qc2:w4.cell? ⟨Y,2,none⟩=some (.slice A1_2 l1_2.length c1_2):=(blk_cell Y4.out 2).trans rfl;have qc3:w4.cell? ⟨Y,3,none⟩=some (.slice A1_3 l1_3.length c1_3):=(blk_cell Y4.out 3).trans rfl;have qc4:w4.cell? ⟨Y,4,none⟩=some (.int .i64 a1_4):=(blk_cell Y4.out 4).trans rfl;have qc5:w4.cell? ⟨Y,5,none⟩=some (.int .i64 a1_5):=(blk_cell Y4.out 5).trans rfl;have qc6:w4.cell? ⟨Y,6,none⟩=some (.int .i64 a1_6):=(blk_cell Y4.out 6).trans rfl;have qc7:w4.cell? ⟨Y,7,none⟩=some (.int .i64 a1_7):=(blk_cell Y4.out 7).trans rfl;clear hb hd)
  | (go_at_call 29;(with_reducible refine (conf_Check.calls k A1_0 c1_0 l1_0 A1_1 c1_1 l1_1 A1_2 c1_2 l1_2 A1_3 c1_3 l1_3 a1_4 a1_5 a1_6 a1_7 0 _ (Kd.C_below HR1_0.out L4.out) HC1_0.out (Kd.C_below HR1_1.out L4.out) HC1_1.out (Kd.C_below HR1_2.out L4.out) HC1_2.out (Kd.C_below HR1_3.out L4.out) HC1_3.out HE.out).mono ?_);rintro E w5 ⟨rfl,hb⟩;have L5:=Aside0.mk (below_step L4.out hb);have X5:=Aside0.mk (blk_below X4.out hb);have Y5:=Aside0.mk (blk_below Y4.out hb);have qd0:w5.cell? ⟨X,0,none⟩=some (.string a0_0):=(blk_cell X5.out 0).trans rfl;have qd1:w5.cell? ⟨X,1,none⟩=some (.string a0_1):=(blk_cell X5.out 1).trans rfl;have qd2:w5.cell? ⟨X,2,none⟩=some (.int .i64 a0_2):=(blk_cell X5.out 2).trans rfl;have qd3:w5.cell? ⟨X,3,none⟩=some (.slice A0_3 l0_3.length c0_3):=(blk_cell X5.out 3).trans rfl;have qd4:w5.cell? ⟨X,4,none⟩=some (.slice A0_4 l0_4.length c0_4):=(blk_cell X5.out 4).trans rfl;have qe0:w5.cell? ⟨Y,0,none⟩=some (.slice A1_0 l1_0.length c1_0):=(blk_cell Y5.out 0).trans rfl;have qe1:w5.cell? ⟨Y,1,none⟩=some (.slice A1_1 l1_1.length c1_1):=(blk_cell Y5.out 1).trans rfl;have qe2:w5.cell? ⟨Y,2,none⟩=some (.slice A1_2 l1_2.length c1_2):=(blk_cell Y5.out 2).trans rfl;have qe3:w5.cell? ⟨Y,3,none⟩=some (.slice A1_3 l1_3.length c1_3):=(blk_cell Y5.out 3).trans rfl;have qe4:w5.cell? ⟨Y,4,none⟩=some (.int .i64 a1_4):=(blk_cell Y5.out 4).trans rfl;have qe5:w5.cell? ⟨Y,5,none⟩=some (.int .i64 a1_5):=(blk_cell Y5.out 5).trans rfl;have qe6:w5.cell? ⟨Y,6,none⟩=some (.int .i64 a1_6):=(blk_cell Y5.out 6).trans rfl;have qe7:w5.cell? ⟨Y,7,none⟩=some (.int .i64 a1_7):=(blk_cell Y5.out 7).trans rfl;clear hb)
  | (go_at_call 30;(with_reducible refine (scrub_Request.calls k a0_0 a0_1 a0_2 A0_3 c0_3 l0_3 A0_4 c0_4 l0_4 A1_0 c1_0 l1_0 A1_1 c1_1 l1_1 A1_2 c1_2 l1_2 A1_3 c1_3 l1_3 a1_4 a1_5 a1_6 a1_7 (⟨#[104,111,115,116]⟩:ByteArray) (⟨#[47,116]⟩:ByteArray) r1 r2 r3 S r5 _ (Kd.C_below HR0_3.out L5.out) HC0_3.out (Kd.C_below HR0_4.out L5.out) HC0_4.out (Kd.C_below HR1_0.out L5.out) HC1_0.out (Kd.C_below HR1_1.out L5.out) HC1_1.out (Kd.C_below HR1_2.out L5.out) HC1_2.out (Kd.C_below HR1_3.out L5.out) HC1_3.out HS.out (HT.out.below L5.out)).mono ?_);rintro E w6 ⟨v3,v4,rfl,h3,h4,hb⟩;obtain ⟨AZ,cZ,rfl⟩:=Kd.R_slice h3;obtain ⟨BZ,eZ,rfl⟩:=Kd.R_slice h4;have L6:=Aside0.mk (below_alloc (below_step L5.out hb) (.cells #[.string r1,.string r2,.int .i64 r3,.slice AZ S.length cZ,.slice BZ r5.length eZ] 26 (0,0)));have X6:=Aside0.mk (blk_alloc (blk_below X5.out hb) (.cells #[.string r1,.string r2,.int .i64 r3,.slice AZ S.length cZ,.slice BZ r5.length eZ] 26 (0,0)));have Y6:=Aside0.mk (blk_alloc (blk_below Y5.out hb) (.cells #[.string r1,.string r2,.int .i64 r3,.slice AZ S.length cZ,.slice BZ r5.length eZ] 26 (0,0)));have Z6:=Aside0.mk (blk_new w6 (.cells #[.string r1,.string r2,.int .i64 r3,.slice AZ S.length cZ,.slice BZ r5.length eZ] 26 (0,0)));have F6:=Aside0.mk (Kd.C_alloc (Kd.R_reads' h3).2.2 (.cells #[.string r1,.string r2,.int .i64 r3,.slice AZ S.length cZ,.slice BZ r5.length eZ] 26 (0,0)));have FC:=Aside0.mk (Kd.R_reads' h3).2.1;have hq:=at_T36 F6.out 0 zb18 (by have:=HSL.out;omega);obtain ⟨ad,hea,ha0,ha1⟩:=hq;rw [show rd_T36 S 0=hd from by rw [HD.out.1];rfl] at ha0 ha1;rw [HD.out.2.1] at ha0;rw [HD.out.2.2.1] at ha1;have hb0:=ha0;have hb1:=ha1;simp only [Addr.add,Int.toNat_zero,Nat.zero_mul,Nat.add_zero,Nat.zero_add,Nat.mul_zero,reduceIte,if_true] at hb0 hb1;have qf0:(w6.alloc (.cells #[.string r1,.string r2,.int .i64 r3,.slice AZ S.length cZ,.slice BZ r5.length eZ] 26 (0,0))).cell? ⟨w6.heap.size,0,none⟩=some (.string r1):=(blk_cell Z6.out 0).trans rfl;have qf1:(w6.alloc (.cells #[.string r1,.string r2,.int .i64 r3,.slice AZ S.length cZ,.slice BZ r5.length eZ] 26 (0,0))).cell? ⟨w6.heap.size,1,none⟩=some (.string r2):=(blk_cell Z6.out 1).trans rfl;have qf2:(w6.alloc (.cells #[.string r1,.string r2,.int .i64 r3,.slice AZ S.length cZ,.slice BZ r5.length eZ] 26 (0,0))).cell? ⟨w6.heap.size,2,none⟩=some (.int .i64 r3):=(blk_cell Z6.out 2).trans rfl;have qf3:(w6.alloc (.cells #[.string r1,.string r2,.int .i64 r3,.slice AZ S.length cZ,.slice BZ r5.length eZ] 26 (0,0))).cell? ⟨w6.heap.size,3,none⟩=some (.slice AZ S.length cZ):=(blk_cell Z6.out 3).trans rfl;have qf4:(w6.alloc (.cells #[.string r1,.string r2,.int .i64 r3,.slice AZ S.length cZ,.slice BZ r5.length eZ] 26 (0,0))).cell? ⟨w6.heap.size,4,none⟩=some (.slice BZ r5.length eZ):=(blk_cell Z6.out 4).trans rfl;have qg3:(w6.alloc (.cells #[.string r1,.string r2,.int .i64 r3,.slice AZ S.length cZ,.slice BZ r5.length eZ] 26 (0,0))).cell? ⟨X,3,none⟩=some (.slice A0_3 l0_3.length c0_3):=(blk_cell X6.out 3).trans rfl;subst hea;clear h3 h4 hb)
  | (go_at_call 31;(with_reducible refine (tollbarref04_List.calls k A0_3 c0_3 l0_3 (⟨#[99,111,110,110,101,99,116,105,111,110]⟩:ByteArray) N _ (Kd.C_below HR0_3.out L6.out) HC0_3.out HN.out).mono ?_);rintro E w7 ⟨v0,rfl,h0,hb⟩;obtain ⟨AN,cN,rfl⟩:=Kd.R_slice h0;have L7:=Aside0.mk (below_step L6.out hb);have X7:=Aside0.mk (blk_below X6.out hb);have Y7:=Aside0.mk (blk_below Y6.out hb);have Z7:=Aside0.mk (blk_below Z6.out hb);have F7:=Aside0.mk (Kd.C_below F6.out hb);have N7:=Aside0.mk (Kd.R_reads' h0).2.2;have NC:=Aside0.mk (Kd.R_reads' h0).2.1;have Y7m:=Aside0.mk (blk_alloc Y7.out (.map #[] 0));have qh2:(w7.alloc (.map #[] 0)).cell? ⟨Y,2,none⟩=some (.slice A1_2 l1_2.length c1_2):=(blk_cell Y7m.out 2).trans rfl;clear h0 hb))
 clear qa3 qb3 qd0 qd1 qd2 qd3 qd4 qf0 qf1 qf2 qf3 qf4 qg3 hb0 hb1 ha0 ha1 qh2 
 have XM:=Aside0.mk (show X < w7.heap.size∧Y < w7.heap.size∧w.heap.size ≤ w7.heap.size from ⟨blk_lt X7.out,blk_lt Y7.out,L7.out.size⟩)
 have M8:=Aside0.mk (below_alloc (Below.refl w7.heap.size w7) (.map #[] 0))
 have SA:=Aside0.mk (SetB.make (P:=Tryz.prog) (K:=9) (E:=4) w7)
 go_loopg [50] l1_2.length (fun kq v wr => ∃ (x:Int),v = .int .i64 x∧Aside0 (0 ≤ x∧x ≤ l1_2.length∧(l1_2.length:Int) - x ≤ kq)∧Aside0 (Below w7.heap.size w7 wr)∧Aside0 (SetB Tryz.prog 9 4 wr w7.heap.size x.toNat ((l1_2.map fun f=>clFold f.f0).take x.toNat)))
 case atStart=>exact ⟨0,rfl,⟨zb18⟩,M8,SA⟩
 case round =>
  obtain ⟨x,rfl,HX,M3,SA3⟩:=hrel
  clear SA M8
  by_cases c4:x < (l1_2.length:Int)
  ·have c4b0:=decide_eq_true c4
   have hlt:x.toNat < l1_2.length:=by have:=HX.out;omega
   have hrd:rd_T36 l1_2 x=l1_2[x.toNat]:=by unfold rd_T36;rw [List.getD_eq_getElem?_getD,List.getElem?_eq_getElem hlt];rfl
   obtain ⟨ae,he,h0,h1⟩:=at_T36 HR1_2.out x HX.out.1 c4
   have LW:=Aside0.mk (below_step L7.out M3.out)
   replace h0:=(LW.out.cell (World.block_lt_of_cell? w _ h0)).trans h0
   replace h1:=(LW.out.cell (World.block_lt_of_cell? w _ h1)).trans h1
   obtain ⟨y,hy⟩ : ∃ y,rd_T36 l1_2 x=y:=⟨_,rfl⟩
   have hmem:y ∈ l1_2:=by rw [← hy,hrd];exact List.getElem_mem hlt
   have htk:(l1_2.map fun f=>clFold f.f0).take (x.toNat + 1)=(l1_2.map fun f=>clFold f.f0).take x.toNat ++ [clFold y.f0]:=by rw [List.take_succ_eq_append_getElem (by rw [List.length_map];exact hlt),List.getElem_map,← hrd,hy]
   rw [hy] at h0 h1
   have m0:(wr.alloc (.cells #[.string y.f0,.string y.f1] 36 (0,0))).cell? ⟨wr.heap.size,0,none⟩=some (.string y.f0):=(blk_cell (blk_new wr _) 0).trans rfl
   have m1:(wr.alloc (.cells #[.string y.f0,.string y.f1] 36 (0,0))).cell? ⟨wr.heap.size,1,none⟩=some (.string y.f1):=(blk_cell (blk_new wr _) 1).trans rfl
   have M4:=Aside0.mk (below_alloc M3.out (.cells #[.string y.f0,.string y.f1] 36 (0,0)))
   have SA4:=Aside0.mk (SA3.out.alloc (.cells #[.string y.f0,.string y.f1] 36 (0,0)))
   have p8:(0 ≤ x)=True:=eq_true HX.out.1
   have q8:(x < (l1_2.length:Int))=True:=eq_true c4
   have HT1:=Aside0.mk htk
   have HM:=Aside0.mk hmem
   clear hlt hrd hy htk hmem c4
   subst he
   go_wp2_with (first
    | (go_at_call 32;(with_reducible refine (tollbarref02_Fold.calls k y.f0 (clFold y.f0) _ (K1.out y HM.out).1).mono ?_);rintro E w9 ⟨rfl,hb⟩;have SA9:=Aside0.mk (SA4.out.below hb);have M9:=Aside0.mk (below_step M4.out hb);clear hb)
    | (at_mapUpdate;refine wpList_mapUpdate_own _ rfl _ _ _ 52 rfl 9 4 (Go.Maps.string_keyed Tryz.underlying9) Tryz.underlying52 _ w7.heap.size x.toNat _ rfl SA9.out (by have:=HX.out;have:=H16.out;unfold maxLen;omega) _ _ _ rfl rfl (Go.WideMaps.keyOf_string_mk Tryz.underlying9 (by have:=(K1.out y HM.out).2;unfold maxLen;omega)) _ [] (plainElem_bool Tryz.underlying4 true) ?_;intro w5 hown5 hgrow5;have SA5:=Aside0.mk (SetB.put hown5);have M5:=Aside0.mk (M9.out.grown hgrow5 M9.out.size (fun j hj=>by injection hj with hj;omega))))
   go_roundg (gk - 1)
   case measure=>have:=HX.out;have:=of_eq_true q8;omega
   case rel =>
    have hx8:=HX.out
    have hq8:=of_eq_true q8
    have hw:wrap64 (x + 1)=x + 1:=by have:=H16.out;unfold wrap64;omega
    have hw2:(wrap64 (x + 1)).toNat=x.toNat + 1:=by rw [hw];omega
    exact ⟨wrap64 (x + 1),zb20,⟨zb92⟩,M5,⟨by rw [hw2,HT1.out];exact SA5.out⟩⟩
  have c4b0:=decide_eq_false c4
  have hxe:x.toNat=l1_2.length:=by have:=HX.out;omega
  have SA:=Aside0.mk (show SetB Tryz.prog 9 4 wr w7.heap.size l1_2.length (l1_2.map fun f=>clFold f.f0) from by have z:=SA3.out;rw [hxe,List.take_of_length_le (by rw [List.length_map];omega)] at z;exact z)
  have M2:=M3
  clear SA3 HX c4 hxe M3
  obtain ⟨i0,hi0,hz0,hsz0,hby0⟩:=info_parts clean_inf
  obtain ⟨AT,hsl,hCT⟩ : ∃ AT,(∀ W:World,(Instr.slice 24 (.slice (some ad) S.length cZ) (some (.int .i64 1)) none none).run Tryz.prog W = .ok (.slice AT T.length (cZ - 1)) W)∧Kd.C k36 w7 AT T.length T:=by
   have hSl:=HSL.out
   have hfc:=FC.out
   refine ⟨if cZ=1 then some ad else (some ad).map (·.add (1 * 2)),fun W=>?_,?_⟩
   ·have z:=cut_from (P:=Tryz.prog) 24 36 .i64 Tryz.underlying24 hi0 2 hsz0 (some ad) S.length cZ 1 zb18 zb18 W
    rw [show (1:Int).toNat=1 from rfl,show S.length - 1=T.length by omega] at z
    exact z
   have z:=Kd.C_drop (m:=1) F7.out zb18 hfc
   have e:S.drop 1=T:=by rw [HD.out.1];rfl
   rw [e] at z
   exact z
  have CT:=Aside0.mk hCT
  have hlm:(T.length:Int)=(T.length:Int):=rfl
  clear hCT hlm hi0 hz0 hsz0 hby0
  have y3:wr.cell? ⟨w6.heap.size,3,none⟩=some (.slice (some ad) S.length cZ):=(blk_cell (blk_below Z7.out M2.out) 3).trans rfl
  go_wp2
  clear y3 hsl
  go_loopg [63,10] T.length (fun kq v v10 wr => ∃ (x:Int),v = .int .i64 x∧Aside0 (0 ≤ x∧x ≤ T.length∧(T.length:Int) - x ≤ kq)∧v10 = .int .i64 (clLens (T.take x.toNat):Int)∧Aside0 (Below w7.heap.size w7 wr)∧Aside0 (SetB Tryz.prog 9 4 wr w7.heap.size l1_2.length (l1_2.map fun f=>clFold f.f0)))
  case atStart=>exact ⟨0,rfl,⟨zb18⟩,rfl,M2,SA⟩
  case round =>
   obtain ⟨x,rfl,HX,rfl,M3,SA3⟩:=hrel
   clear SA M2
   have hlb:=clLens_le (T.take x.toNat)
   have hT4:=HD.out.2.2.2
   have hHL:=Aside0.mk (show clLens (T.take x.toNat) ≤ 4000 from by rw [List.length_take] at hlb;omega)
   clear hlb hT4
   by_cases c4:x < (T.length:Int);rotate_left
   ·have c4b0:=decide_eq_false c4
    have hxe:x.toNat=T.length:=by have:=HX.out;omega
    have htt:T.take x.toNat=T:=by rw [hxe,List.take_of_length_le zb18]
    have M2:=M3
    rw [htt]
    clear SA3 HX c4 hxe M3 htt hHL
    have y2:wr.cell? ⟨Y,2,none⟩=some (.slice A1_2 l1_2.length c1_2):=(blk_cell (blk_below Y7.out M2.out) 2).trans rfl
    go_wp2
    clear y2
    go_loopg [105] l1_2.length (fun kq v wr => ∃ (x:Int),v = .int .i64 x∧Aside0 (0 ≤ x∧x ≤ l1_2.length∧(l1_2.length:Int) - x ≤ kq)∧Aside0 (Below w7.heap.size w7 wr))
    case atStart=>exact ⟨0,rfl,⟨zb18⟩,M2⟩
    case round =>
     obtain ⟨x,rfl,HX,M3⟩:=hrel
     clear M2
     by_cases c4:x < (l1_2.length:Int);rotate_left
     ·have c4b0:=decide_eq_false c4
      clear HX c4
      have x4:wr.cell? ⟨X,4,none⟩=some (.slice A0_4 l0_4.length c0_4):=(blk_cell (blk_below X7.out M3.out) 4).trans rfl
      have LW:=Aside0.mk (below_step L7.out M3.out)
      have k5:=K5.out
      obtain ⟨n,hn⟩ : ∃ n,clLens T=n:=⟨_,rfl⟩
      rw [hn] at k5 ⊢
      have hbl:=HR0_4.out.2.1
      clear hn
      obtain ⟨k51,k52⟩:=k5
      rcases (show n=1 ∨ n=0∧l0_4.length=0 from by omega) with rfl|⟨rfl,hz⟩
      ·clear k51 k52 hbl
       go_wp2
       go_ret
       exact ⟨zb20,LW.out⟩
      rw [hz] at x4
      clear k51 k52 hbl
      go_wp2
      go_ret
      exact ⟨zb20,LW.out⟩
     have c4b0:=decide_eq_true c4
     have hlt:x.toNat < l1_2.length:=by have:=HX.out;omega
     have hrd:rd_T36 l1_2 x=l1_2[x.toNat]:=by unfold rd_T36;rw [List.getD_eq_getElem?_getD,List.getElem?_eq_getElem hlt];rfl
     obtain ⟨ae,he,h0,h1⟩:=at_T36 HR1_2.out x HX.out.1 c4
     have LW:=Aside0.mk (below_step L7.out M3.out)
     replace h0:=(LW.out.cell (World.block_lt_of_cell? w _ h0)).trans h0
     replace h1:=(LW.out.cell (World.block_lt_of_cell? w _ h1)).trans h1
     obtain ⟨y,hy⟩ : ∃ y,rd_T36 l1_2 x=y:=⟨_,rfl⟩
     have hmem:y ∈ l1_2:=by rw [← hy,hrd];exact List.getElem_mem hlt
     rw [hy] at h0 h1
     have m0:(wr.alloc (.cells #[.string y.f0,.string y.f1] 36 (0,0))).cell? ⟨wr.heap.size,0,none⟩=some (.string y.f0):=(blk_cell (blk_new wr _) 0).trans rfl
     have m1:(wr.alloc (.cells #[.string y.f0,.string y.f1] 36 (0,0))).cell? ⟨wr.heap.size,1,none⟩=some (.string y.f1):=(blk_cell (blk_new wr _) 1).trans rfl
     have BY4:=Aside0.mk (blk_new wr (.cells #[.string y.f0,.string y.f1] 36 (0,0)))
     have M4:=Aside0.mk (below_alloc M3.out (.cells #[.string y.f0,.string y.f1] 36 (0,0)))
     have p8:(0 ≤ x)=True:=eq_true HX.out.1
     have q8:(x < (l1_2.length:Int))=True:=eq_true c4
     obtain ⟨G,hG⟩:=Option.isSome_iff_exists.1 (K4.out y hmem).1
     have hcn:=(K4.out y hmem).2
     rw [hG] at hcn
     have HG:=Aside0.mk hG
     have HCN:=Aside0.mk (show tollbarlaw12_count.f k l1_2 y.f0=some (G.length:Int) from hcn)
     clear hlt hrd hy hmem c4 hG hcn
     subst he
     go_wp2
     have M5:=Aside0.mk (below_drew1 M4.out)
     have BY5:=Aside0.mk (blk_below BY4.out (below_drew (Below.refl _ _)))
     have z3:=(blk_cell (blk_below Z7.out M5.out) 3).trans (show _=some (Value.slice (some ad) S.length cZ) from rfl)
     have yb2:=(blk_cell (blk_below Y7.out M5.out) 2).trans (show _=some (Value.slice (some ae) l1_2.length c1_2) from rfl)
     have n0:=(blk_cell BY5.out 0).trans (show _=some (Value.string y.f0) from rfl)
     go_region_held3 (fun w' => w'.cell? ⟨w6.heap.size,3,none⟩=some (.slice (some ad) S.length cZ)∧w'.cell? ⟨Y,2,none⟩=some (.slice (some ae) l1_2.length c1_2)∧w'.cell? ⟨wr.heap.size,0,none⟩=some (.string y.f0)) (go_keep)
      (first
       | (go_at_call 36;(with_reducible refine (tollbarref04_Get.calls k (some ad) cZ S y.f0 G _ (Kd.C_below F7.out M5.out) FC.out HG.out).mono ?_);rintro E w9 ⟨v0,rfl,h0_,hb⟩;obtain ⟨AG,cG,rfl⟩:=Kd.R_slice h0_;have M9:=Aside0.mk (below_step M5.out hb);have BY9:=Aside0.mk (blk_below BY5.out hb);have mx9:w9.cell? ⟨wr.heap.size,0,none⟩=some (.string y.f0):=(blk_cell BY9.out 0).trans rfl;have z9:w9.cell? ⟨w6.heap.size,3,none⟩=some (.slice (some ad) S.length cZ):=(blk_cell (blk_below Z7.out M9.out) 3).trans rfl;have yb9:w9.cell? ⟨Y,2,none⟩=some (.slice (some ae) l1_2.length c1_2):=(blk_cell (blk_below Y7.out M9.out) 2).trans rfl;clear hb h0_)
       | (go_at_call 37;(with_reducible refine (tollbarlaw12_count.calls k (some ae) c1_2 l1_2 y.f0 (G.length:Int) _ (Kd.C_below HR1_2.out (below_step L7.out M9.out)) HC1_2.out HCN.out).mono ?_);rintro E w10 ⟨rfl,hb⟩;have M10:=Aside0.mk (below_step M9.out hb);have BY10:=Aside0.mk (blk_below BY9.out hb);have mx10:w10.cell? ⟨wr.heap.size,0,none⟩=some (.string y.f0):=(blk_cell BY10.out 0).trans rfl;have z10:w10.cell? ⟨w6.heap.size,3,none⟩=some (.slice (some ad) S.length cZ):=(blk_cell (blk_below Z7.out M10.out) 3).trans rfl;have yb10:w10.cell? ⟨Y,2,none⟩=some (.slice (some ae) l1_2.length c1_2):=(blk_cell (blk_below Y7.out M10.out) 2).trans rfl;clear hb))
     go_wp2
     go_roundg (gk - 1)
     case measure=>have:=HX.out;have:=of_eq_true q8;omega
     case rel =>
      have hx8:=HX.out
      have hq8:=of_eq_true q8
      have hw:wrap64 (x + 1)=x + 1:=by have:=H16.out;unfold wrap64;omega
      exact ⟨wrap64 (x + 1),zb20,⟨zb92⟩,M10⟩
   have c4b0:=decide_eq_true c4
   have hlt:x.toNat < T.length:=by have:=HX.out;omega
   have hrd:rd_T36 T x=T[x.toNat]:=by unfold rd_T36;rw [List.getD_eq_getElem?_getD,List.getElem?_eq_getElem hlt];rfl
   obtain ⟨ae,he,h0,h1⟩:=at_T36 CT.out x HX.out.1 c4
   replace h0:=(M3.out.cell (World.block_lt_of_cell? w7 _ h0)).trans h0
   replace h1:=(M3.out.cell (World.block_lt_of_cell? w7 _ h1)).trans h1
   obtain ⟨y,hy⟩ : ∃ y,rd_T36 T x=y:=⟨_,rfl⟩
   have hmem:y ∈ T:=by rw [← hy,hrd];exact List.getElem_mem hlt
   have htk:T.take (x.toNat + 1)=T.take x.toNat ++ [y]:=by rw [List.take_succ_eq_append_getElem hlt,← hrd,hy]
   rw [hy] at h0 h1
   have m0:(wr.alloc (.cells #[.string y.f0,.string y.f1] 36 (0,0))).cell? ⟨wr.heap.size,0,none⟩=some (.string y.f0):=(blk_cell (blk_new wr _) 0).trans rfl
   have m1:(wr.alloc (.cells #[.string y.f0,.string y.f1] 36 (0,0))).cell? ⟨wr.heap.size,1,none⟩=some (.string y.f1):=(blk_cell (blk_new wr _) 1).trans rfl
   have BY4:=Aside0.mk (blk_new wr (.cells #[.string y.f0,.string y.f1] 36 (0,0)))
   have M4:=Aside0.mk (below_alloc M3.out (.cells #[.string y.f0,.string y.f1] 36 (0,0)))
   have SA4:=Aside0.mk (SA3.out.alloc (.cells #[.string y.f0,.string y.f1] 36 (0,0)))
   have p8:(0 ≤ x)=True:=eq_true HX.out.1
   have q8:(x < (T.length:Int))=True:=eq_true c4
   have HT1:=Aside0.mk htk
   have HM:=Aside0.mk hmem
   have hst:clLens (T.take (x.toNat + 1))=clLens (T.take x.toNat) + (if (clFold y.f0).toList=([99,111,110,116,101,110,116,45,108,101,110,103,116,104]:List UInt8) then 1 else 0):=by rw [htk,clLens_snoc]
   have HST:=Aside0.mk hst
   clear hlt hrd hy htk hmem c4 hst
   subst he
   by_cases cL:(clFold y.f0).toList=([99,111,110,116,101,110,116,45,108,101,110,103,116,104]:List UInt8)
   ·have cLb0:=beq_iff_eq.mpr cL
    have cLb1:=bne_eq_false_iff_eq.mpr cL
    have HST2:=Aside0.mk (show clLens (T.take (x.toNat + 1))=clLens (T.take x.toNat) + 1 from by have:=HST.out;rw [if_pos cL] at this;exact this)
    clear cL
    go_wp2_with (first
     | (go_at_call 32;(with_reducible refine (tollbarref02_Fold.calls k y.f0 (clFold y.f0) _ (K2.out y HM.out).1).mono ?_);rintro E w9 ⟨rfl,hb⟩;have SA9:=Aside0.mk (SA4.out.below hb);have M9:=Aside0.mk (below_step M4.out hb);have BY9:=Aside0.mk (blk_below BY4.out hb);have mx9:w9.cell? ⟨wr.heap.size,0,none⟩=some (.string y.f0):=(blk_cell BY9.out 0).trans rfl;clear hb))
    go_roundg (gk - 1)
    case measure=>have:=HX.out;have:=of_eq_true q8;omega
    case rel =>
     have hx8:=HX.out
     have hq8:=of_eq_true q8
     have hT4:=HD.out.2.2.2
     have hl4:=hHL.out
     have hw:wrap64 (x + 1)=x + 1:=by unfold wrap64;omega
     have hw2:(wrap64 (x + 1)).toNat=x.toNat + 1:=by rw [hw];omega
     exact ⟨wrap64 (x + 1),zb20,⟨zb92⟩,(by rw [hw2,HST2.out];congr 1;unfold wrap64;omega),M9,SA9⟩
   ·have cLb0:=beq_eq_false_iff_ne.mpr cL
    have cLb1:=bne_iff_ne.mpr cL
    have HST2:=Aside0.mk (show clLens (T.take (x.toNat + 1))=clLens (T.take x.toNat) from by have:=HST.out;rw [if_neg cL] at this;exact this)
    have HCL:=Aside0.mk cL
    clear cL
    cases cS:hasB (l1_2.map fun f=>clFold f.f0) (clFold y.f0)
    ·have HCS:=Aside0.mk cS
     have HKK:=Aside0.mk (K3.out y HM.out HCL.out cS)
     clear cS
     go_wp2_with (first
      | (go_at_call 32;(with_reducible refine (tollbarref02_Fold.calls k y.f0 (clFold y.f0) _ (K2.out y HM.out).1).mono ?_);rintro E w9 ⟨rfl,hb⟩;have SA9:=Aside0.mk (SA4.out.below hb);have M9:=Aside0.mk (below_step M4.out hb);have BY9:=Aside0.mk (blk_below BY4.out hb);have mx9:w9.cell? ⟨wr.heap.size,0,none⟩=some (.string y.f0):=(blk_cell BY9.out 0).trans rfl;clear hb)
      | (go_at_call 32;(with_reducible refine (tollbarref02_Fold.calls k y.f0 (clFold y.f0) _ (K2.out y HM.out).1).mono ?_);rintro E w10 ⟨rfl,hb⟩;have SA10:=Aside0.mk (SA9.out.below hb);have M10:=Aside0.mk (below_step M9.out hb);have BY10:=Aside0.mk (blk_below BY9.out hb);have mx10:w10.cell? ⟨wr.heap.size,0,none⟩=some (.string y.f0):=(blk_cell BY10.out 0).trans rfl;have hlk:(Instr.lookup 52 (.map (some w7.heap.size)) (.string (clFold y.f0)) false).run Tryz.prog w10 = .ok (.bool (hasB (l1_2.map fun f=>clFold f.f0) (clFold y.f0))) w10:=SA10.out.look Tryz.underlying52 Tryz.underlying9 Tryz.underlying4 (zero_bool w10) (clFold y.f0) (by have:=(K2.out y HM.out).2;unfold maxLen;omega);rw [HCS.out] at hlk;clear hb)
      | (go_at_call 33;(with_reducible refine (conf_Kept.calls y.f0 false _ HKK.out.1).mono ?_);rintro E w11 ⟨rfl,hb⟩;have SA11:=Aside0.mk (SA10.out.below hb);have M11:=Aside0.mk (below_step M10.out hb);have BY11:=Aside0.mk (blk_below BY10.out hb);have mx11:w11.cell? ⟨wr.heap.size,0,none⟩=some (.string y.f0):=(blk_cell BY11.out 0).trans rfl;clear hb)
      | (go_at_call 34;(with_reducible refine (tollbarref04_In.calls k AN cN N y.f0 false _ (Kd.C_below N7.out M11.out) NC.out HKK.out.2.1).mono ?_);rintro E w12 ⟨rfl,hb⟩;have SA12:=Aside0.mk (SA11.out.below hb);have M12:=Aside0.mk (below_step M11.out hb);have BY12:=Aside0.mk (blk_below BY11.out hb);have mx12:w12.cell? ⟨wr.heap.size,0,none⟩=some (.string y.f0):=(blk_cell BY12.out 0).trans rfl;have yb3:w12.cell? ⟨Y,3,none⟩=some (.slice A1_3 l1_3.length c1_3):=(blk_cell (blk_below Y7.out M12.out) 3).trans rfl;clear hb)
      | (go_at_call 34;(with_reducible refine (tollbarref04_In.calls k A1_3 c1_3 l1_3 y.f0 false _ (Kd.C_below HR1_3.out (below_step L7.out M12.out)) HC1_3.out HKK.out.2.2.1).mono ?_);rintro E w13 ⟨rfl,hb⟩;have SA13:=Aside0.mk (SA12.out.below hb);have M13:=Aside0.mk (below_step M12.out hb);have BY13:=Aside0.mk (blk_below BY12.out hb);have mx13:w13.cell? ⟨wr.heap.size,0,none⟩=some (.string y.f0):=(blk_cell BY13.out 0).trans rfl;have xb3:w13.cell? ⟨X,3,none⟩=some (.slice A0_3 l0_3.length c0_3):=(blk_cell (blk_below X7.out M13.out) 3).trans rfl;clear hb)
      | (go_at_call 35;(with_reducible refine (scrub_Hop.calls k A0_3 c0_3 l0_3 y.f0 false _ (Kd.C_below HR0_3.out (below_step L7.out M13.out)) HC0_3.out HKK.out.2.2.2).mono ?_);rintro E w14 ⟨rfl,hb⟩;have SA14:=Aside0.mk (SA13.out.below hb);have M14:=Aside0.mk (below_step M13.out hb);have BY14:=Aside0.mk (blk_below BY13.out hb);have mx14:w14.cell? ⟨wr.heap.size,0,none⟩=some (.string y.f0):=(blk_cell BY14.out 0).trans rfl;clear hb))
     go_roundg (gk - 1)
     case measure=>have:=HX.out;have:=of_eq_true q8;omega
     case rel =>
      have hx8:=HX.out
      have hq8:=of_eq_true q8
      have hT4:=HD.out.2.2.2
      have hw:wrap64 (x + 1)=x + 1:=by unfold wrap64;omega
      have hw2:(wrap64 (x + 1)).toNat=x.toNat + 1:=by rw [hw];omega
      exact ⟨wrap64 (x + 1),zb20,⟨zb92⟩,(by rw [hw2,HST2.out]),M14,SA14⟩
    ·have HCS:=Aside0.mk cS
     clear cS
     go_wp2_with (first
      | (go_at_call 32;(with_reducible refine (tollbarref02_Fold.calls k y.f0 (clFold y.f0) _ (K2.out y HM.out).1).mono ?_);rintro E w9 ⟨rfl,hb⟩;have SA9:=Aside0.mk (SA4.out.below hb);have M9:=Aside0.mk (below_step M4.out hb);have BY9:=Aside0.mk (blk_below BY4.out hb);have mx9:w9.cell? ⟨wr.heap.size,0,none⟩=some (.string y.f0):=(blk_cell BY9.out 0).trans rfl;clear hb)
      | (go_at_call 32;(with_reducible refine (tollbarref02_Fold.calls k y.f0 (clFold y.f0) _ (K2.out y HM.out).1).mono ?_);rintro E w10 ⟨rfl,hb⟩;have SA10:=Aside0.mk (SA9.out.below hb);have M10:=Aside0.mk (below_step M9.out hb);have BY10:=Aside0.mk (blk_below BY9.out hb);have mx10:w10.cell? ⟨wr.heap.size,0,none⟩=some (.string y.f0):=(blk_cell BY10.out 0).trans rfl;have hlk:(Instr.lookup 52 (.map (some w7.heap.size)) (.string (clFold y.f0)) false).run Tryz.prog w10 = .ok (.bool (hasB (l1_2.map fun f=>clFold f.f0) (clFold y.f0))) w10:=SA10.out.look Tryz.underlying52 Tryz.underlying9 Tryz.underlying4 (zero_bool w10) (clFold y.f0) (by have:=(K2.out y HM.out).2;unfold maxLen;omega);rw [HCS.out] at hlk;clear hb))
     go_roundg (gk - 1)
     case measure=>have:=HX.out;have:=of_eq_true q8;omega
     case rel =>
      have hx8:=HX.out
      have hq8:=of_eq_true q8
      have hT4:=HD.out.2.2.2
      have hw:wrap64 (x + 1)=x + 1:=by unfold wrap64;omega
      have hw2:(wrap64 (x + 1)).toNat=x.toNat + 1:=by rw [hw];omega
      exact ⟨wrap64 (x + 1),zb20,⟨zb92⟩,(by rw [hw2,HST2.out]),M10,SA10⟩
end Go.Proofs.YtagffbblalldiaaGreatDoor.P
namespace Go.Proofs.YtagffbblalldiaaGreatDoor.Pure
open Go.RowKit Go.Proofs.YtagffbblalldiaaGreatDoor.P Go.Proofs.YtagffbblalldiaaGreatDoorW.PrintWords Go.Proofs.YtagffbblalldiaaGreatDoorW.PrintLast Go.Proofs.YtagffbblalldiaaGreatDoorW.PrintMore
set_option linter.unusedVariables false
set_option linter.unusedSimpArgs false
theorem str_size (xs:List Int):(strOfNums xs).size=xs.length:=strOfNums_size xs
theorem w64 {i:Int} {n:Nat} (c:Int) (h0:0 ≤ i) (h:i < (n:Int)) (hn:n ≤ 140737488355328) (hc0 : -3 ≤ c) (hc:c ≤ 3):wrap64 (i + c)=i + c:=by
 unfold wrap64;omega
theorem toList_data (s:ByteArray):s.toList=s.data.toList:=by
 simp [ByteArray.toList_eq]
theorem isEmpty_size (s:ByteArray):s.toList.isEmpty=decide (s.size=0):=by
 rw [toList_data,Bool.eq_iff_iff,List.isEmpty_iff,decide_eq_true_eq,← data_length]
 exact List.length_eq_zero_iff.symm
def mkS (l:List UInt8):ByteArray:=⟨l.toArray⟩
theorem mkS_data (l:List UInt8):(mkS l).data.toList=l:=by simp [mkS]
theorem mkS_self (s:ByteArray):mkS s.data.toList=s:=by simp [mkS]
theorem mkS_size (l:List UInt8):(mkS l).size=l.length:=by rw [← data_length,mkS_data]
theorem mkS_toList (l:List UInt8):(mkS l).toList=l:=by rw [toList_data,mkS_data]
theorem wn0 (n:Nat) (h:n ≤ 4398046511104):wrap64 ((n:Int) + 0)=(n:Int):=by unfold wrap64;omega
theorem wn1 (n:Nat) (h:n ≤ 4398046511104):wrap64 ((n:Int) + 1)=(n:Int) + 1:=by unfold wrap64;omega
theorem wnm (n:Nat) (h:n ≤ 4398046511104):wrap64 ((n:Int) + 1 - 1)=(n:Int):=by unfold wrap64;omega
theorem wi1 (i:Int) (h0:0 ≤ i) (h:i ≤ 4398046511104):wrap64 (i + 1)=i + 1:=by unfold wrap64;omega
theorem rdOf_mk (ps:List (List UInt8)) (i:Int) (h0:0 ≤ i) (h:i < (ps.length:Int)):rdOf ByteArray.empty (ps.map mkS) i=mkS (ps.getD i.toNat []):=by
 unfold rdOf
 rw [List.getD_eq_getElem?_getD,List.getElem?_map,List.getD_eq_getElem?_getD,List.getElem?_eq_getElem (by omega)]
 rfl
theorem bt_mk (l:List UInt8) (i:Nat) (h:i < l.length):bt (mkS l) i=((l[i]).toNat:Int):=by
 unfold bt
 have hs:(mkS l).size=l.length:=mkS_size l
 rw [dif_pos (by rw [Int.toNat_natCast];omega)]
 have:(mkS l)[((i:Nat):Int).toNat]'(by rw [Int.toNat_natCast];omega)=l[i]:=by simp [mkS,ByteArray.getElem_eq_getElem_data]
 rw [this]
theorem mkS_extract (l:List UInt8) (a b:Nat):(mkS l).extract a b=mkS ((l.drop a).take (b - a)):=by
 rw [← mkS_self ((mkS l).extract a b),Lib.extract_data,mkS_data]
theorem seg_split (l:List UInt8) (f i:Nat) (h:f ≤ i) (hi:i < l.length):l.drop f=(l.drop f).take (i - f) ++ l[i] :: l.drop (i + 1)∧(l.drop f).take (i + 1 - f)=(l.drop f).take (i - f) ++ [l[i]]:=by
 have e1:(l.drop f).drop (i - f)=l.drop i:=by rw [List.drop_drop];congr 1;omega
 have e2:l.drop i=l[i] :: l.drop (i + 1):=List.drop_eq_getElem_cons hi
 refine ⟨?_,?_⟩
 ·rw [← e2,← e1,List.take_append_drop]
 ·have hl:i - f < (l.drop f).length:=by rw [List.length_drop];omega
  rw [show i + 1 - f=i - f + 1 by omega,List.take_succ_eq_append_getElem hl]
  congr 2
  rw [List.getElem_drop]
  congr 1
  omega
def tokB (c:Int):Bool:=(sign_Token_1.f c).getD false
def valB (c:Int):Bool:=(sign_Value_1.f c).getD false
theorem Token_f (s:ByteArray) (h:s.size ≤ 140737488355328):sign_Token.f s=some (!s.toList.isEmpty && (bytesOf s).all tokB):=if_pos h
theorem Value_f (s:ByteArray) (h:s.size ≤ 140737488355328):sign_Value.f s=some ((bytesOf s).all valB):=if_pos h
/-- Is a byte a blank? -/
def blk (b:UInt8):Bool:=([32,9]:List UInt8).contains b
/-- A text without blanks at its ends. -/
def trm (l:List UInt8):List UInt8:=(l.reverse.dropWhile blk).reverse.dropWhile blk
/-- No blank at either end. -/
def Clean (l:List UInt8):Prop:=(∀ a,l.head? = some a → blk a=false) ∧ ∀ a,l.getLast? = some a → blk a=false
theorem dw_self {p:UInt8 → Bool} {l:List UInt8} (h : ∀ a,l.head? = some a → p a=false):l.dropWhile p=l:=by
 cases l with
 | nil=>rfl
 | cons a l=>simp [List.dropWhile,h a rfl]
theorem dw_append {p:UInt8 → Bool} (pre t:List UInt8) (h : ∀ a ∈ pre,p a=true):(pre ++ t).dropWhile p=t.dropWhile p:=by
 induction pre with
 | nil=>rfl
 | cons b l ih =>
  simp only [List.cons_append,List.dropWhile,h b (List.mem_cons_self ..)]
  exact ih (fun a ha=>h a (List.mem_cons_of_mem _ ha))
theorem trm_around (pre t post : List UInt8) (ht : Clean t) (h1 : ∀ a ∈ pre, blk a = true) (h2 : ∀ a ∈ post, blk a = true) : trm (pre ++ t ++ post) = t := by
  unfold trm
  rw [List.reverse_append, dw_append _ _ (by intro a ha; exact h2 a (List.mem_reverse.1 ha)), List.reverse_append]
  by_cases he : t = []
  · subst he
    have := dw_append (p := blk) pre.reverse [] (by intro a ha; exact h1 a (List.mem_reverse.1 ha))
    simp only [List.append_nil] at this
    simp [this]
  · have : (t.reverse ++ pre.reverse).dropWhile blk = t.reverse ++ pre.reverse := dw_self (by
      intro a ha
      rw [List.head?_append] at ha
      obtain ⟨b, hb⟩ : ∃ b, t.reverse.head? = some b := by
        cases hh : t.reverse with
        | nil => exact absurd (List.reverse_eq_nil_iff.1 hh) he
        | cons b _ => exact ⟨b, rfl⟩
      rw [hb] at ha
      obtain rfl : b = a := by simpa using ha
      rw [List.head?_reverse] at hb
      exact ht.2 _ hb)
    rw [this, List.reverse_append, List.reverse_reverse, List.reverse_reverse, dw_append _ _ h1, dw_self ht.1]
theorem trm_length (l:List UInt8):(trm l).length ≤ l.length:=by
 unfold trm
 have h1:((l.reverse.dropWhile blk).reverse.dropWhile blk).length ≤ (l.reverse.dropWhile blk).reverse.length:=(List.dropWhile_suffix _).length_le
 have h2:(l.reverse.dropWhile blk).length ≤ l.reverse.length:=(List.dropWhile_suffix _).length_le
 rw [List.length_reverse] at h1 h2
 omega
theorem Trim_f (s:ByteArray) (h:s.size ≤ 9223372036854775807):sign_Trim.f s=some ⟨(trm s.data.toList).toArray⟩:=by
 unfold sign_Trim.f strings_Trim.f
 rw [if_pos ⟨h,by decide,by decide⟩]
 rfl
/-- Is a field right? -/
def rightB (a t:ByteArray):Bool:=decide (a.size ≤ 100) && ((!a.toList.isEmpty && (bytesOf a).all tokB) && (decide (t.size ≤ 1000) && ((bytesOf t).all valB && (mkS (trm t.data.toList)).toList == t.toList)))
theorem Trim_mk (s:ByteArray) (h:s.size ≤ 9223372036854775807):sign_Trim.f s=some (mkS (trm s.data.toList)):=Trim_f s h
theorem field_right_f (a t:ByteArray):field_right.f a t=some (rightB a t):=by
 unfold field_right.f rightB
 by_cases h1:(a.size:Int) ≤ 100
 ·rw [if_pos h1,Token_f a (by omega),Option.bind_some,decide_eq_true (show a.size ≤ 100 by omega),Bool.true_and]
  cases hT:(!a.toList.isEmpty && (bytesOf a).all tokB)
  ·rw [if_neg (by simp),Bool.false_and]
  ·rw [if_pos rfl,Bool.true_and]
   by_cases h2:(t.size:Int) ≤ 1000
   ·rw [if_pos h2,Value_f t (by omega),Option.bind_some,decide_eq_true (show t.size ≤ 1000 by omega),Bool.true_and]
    cases (bytesOf t).all valB
    ·rw [if_neg (by simp),Bool.false_and]
    ·rw [if_pos rfl,Bool.true_and,Trim_mk t (by omega),Option.bind_some]
   ·rw [if_neg h2,decide_eq_false (show ¬ t.size ≤ 1000 by omega),Bool.false_and]
 ·rw [if_neg h1,decide_eq_false (show ¬ a.size ≤ 100 by omega),Bool.false_and]
theorem fold_tells (s:ByteArray) (hn:s.size ≤ 140737488355328):sign_Fold.f s=some (strOfNums ((bytesOf s).map foldC)):=if_pos hn
def Bytes (xs:List Int):Prop := ∀ x ∈ xs,0 ≤ x∧x ≤ 255
theorem bytes_of (s:ByteArray):Bytes (bytesOf s):=by
 intro x hx
 obtain ⟨b,_,rfl⟩:=List.mem_map.1 hx
 have:=b.toNat_lt
 omega
theorem foldC_byte (x:Int) (h0:0 ≤ x) (h1:x ≤ 255):0 ≤ foldC x∧foldC x ≤ 255:=by unfold foldC;split <;> omega
theorem bytes_fold {xs:List Int} (h:Bytes xs):Bytes (xs.map foldC):=by
 intro x hx
 obtain ⟨y,hy,rfl⟩:=List.mem_map.1 hx
 exact foldC_byte y (h y hy).1 (h y hy).2
theorem bytes_str {xs:List Int} (h:Bytes xs):bytesOf (strOfNums xs)=xs:=by
 unfold bytesOf
 rw [strOfNums_data,List.map_map]
 conv=>rhs;rw [← List.map_id xs]
 refine List.map_congr_left fun x hx=>?_
 have:=h x hx
 show ((UInt8.ofNat x.toNat).toNat:Int)=x
 rw [UInt8.toNat_ofNat']
 omega
theorem str_inj {xs ys:List Int} (hx:Bytes xs) (hy:Bytes ys):((strOfNums xs).toList == (strOfNums ys).toList)=decide (xs=ys):=by
 rw [Bool.eq_iff_iff,beq_iff_eq,decide_eq_true_eq]
 refine ⟨fun e=>?_,fun e=>by rw [e]⟩
 rw [← bytes_str hx,← bytes_str hy]
 unfold bytesOf
 rw [← toList_data,← toList_data,e]
theorem same_tells (a b:ByteArray) (ha:a.size ≤ 140737488355328) (hb:b.size ≤ 140737488355328):sign_Same.f a b=some (decide ((bytesOf a).map foldC=(bytesOf b).map foldC)):=by
 unfold sign_Same.f
 by_cases h:(a.size:Int)=b.size
 ·rw [if_pos h,fold_tells a ha,Option.bind_some,fold_tells b hb,Option.bind_some,str_inj (bytes_fold (bytes_of a)) (bytes_fold (bytes_of b))]
 ·rw [if_neg h]
  have hne : ¬ ((bytesOf a).map foldC=(bytesOf b).map foldC):=by
   intro e
   have:=congrArg List.length e
   rw [List.length_map,List.length_map,bytesOf_length,bytesOf_length] at this
   omega
  rw [decide_eq_false hne]
/-- How many commas. -/
def cntC (sp:UInt8):List UInt8 → Nat
 | []=>0
 | c :: l=>if c=sp then cntC sp l + 1 else cntC sp l
theorem cntC_count {sp:UInt8} (l:List UInt8):l.count sp=cntC sp l:=by
 induction l with
 | nil=>rfl
 | cons c l ih=>rw [List.count_cons,ih];by_cases hc:c=sp <;> simp [cntC,hc]
theorem cntC_append {sp:UInt8} (a b:List UInt8):cntC sp (a ++ b)=cntC sp a + cntC sp b:=by
 rw [← cntC_count,← cntC_count,← cntC_count,List.count_append]
theorem cntC_none {sp:UInt8} (l:List UInt8):cntC sp l=0 ↔ sp ∉ l:=by rw [← cntC_count];exact List.count_eq_zero
theorem cntC_le {sp:UInt8} (l:List UInt8):cntC sp l ≤ l.length:=by rw [← cntC_count];exact List.count_le_length
/-- The parts between commas. -/
def pcs (sp:UInt8):List UInt8 → List (List UInt8)
 | []=>[[]]
 | c :: l=>if c=sp then [] :: pcs sp l else (match pcs sp l with|p :: ps=>(c :: p) :: ps|[]=>[[c]])
theorem pcs_ne {sp:UInt8} (l:List UInt8) : ∃ p ps,pcs sp l=p :: ps:=by
 induction l with
 | nil=>exact ⟨[],[],rfl⟩
 | cons c l ih =>
  obtain ⟨p,ps,h⟩:=ih
  by_cases hc:c=sp
  ·exact ⟨[],pcs sp l,by simp [pcs,hc]⟩
  ·exact ⟨c :: p,ps,by simp [pcs,hc,h]⟩
theorem pcs_none {sp:UInt8} (l:List UInt8) (h:sp ∉ l):pcs sp l=[l]:=by
 induction l with
 | nil=>rfl
 | cons c l ih =>
  have hc:c ≠ sp:=fun e=>h (e ▸ List.mem_cons_self ..)
  simp [pcs,hc,ih (fun e=>h (List.mem_cons_of_mem _ e))]
theorem pcs_append {sp:UInt8} (a b:List UInt8):pcs sp (a ++ sp :: b)=pcs sp a ++ pcs sp b:=by
 induction a with
 | nil=>simp [pcs]
 | cons c a ih =>
  by_cases hc:c=sp
  ·simp [pcs,hc,ih]
  ·obtain ⟨p,ps,hp⟩:=pcs_ne (sp:=sp) a
   simp [pcs,hc,ih,hp]
theorem pcs_length {sp:UInt8} (l:List UInt8):(pcs sp l).length=cntC sp l + 1:=by
 induction l with
 | nil=>rfl
 | cons c l ih =>
  by_cases hc:c=sp
  ·simp [pcs,cntC,hc,ih]
  ·obtain ⟨p,ps,hp⟩:=pcs_ne (sp:=sp) l
   rw [hp] at ih
   simp only [pcs,hc,if_false,hp,cntC]
   simpa using ih
theorem pcs_le {sp:UInt8} (l:List UInt8) : ∀ p ∈ pcs sp l,p.length ≤ l.length:=by
 induction l with
 | nil=>intro p hp;simp [pcs] at hp;simp [hp]
 | cons c l ih =>
  intro p hp
  by_cases hc:c=sp
  ·simp only [pcs,hc,if_true] at hp
   rcases List.mem_cons.1 hp with rfl|hp
   ·simp
   ·have:=ih p hp;simp;omega
  ·obtain ⟨q,qs,hq⟩:=pcs_ne (sp:=sp) l
   simp only [pcs,hc,if_false,hq] at hp
   rcases List.mem_cons.1 hp with rfl|hp
   ·have:=ih q (by rw [hq];exact List.mem_cons_self ..);simp;omega
   ·have:=ih p (by rw [hq];exact List.mem_cons_of_mem _ hp);simp;omega
/-- What Split tells. -/
theorem index_splitC {sp:UInt8} (l:List UInt8) (h:0 < cntC sp l) : ∃ a b,l=a ++ sp :: b∧sp ∉ a∧Lib.indexByte l sp=a.length:=by
 induction l with
 | nil=>simp [cntC] at h
 | cons c l ih =>
  by_cases hc:c=sp
  ·exact ⟨[],l,by simp [hc],by simp,by simp [Lib.indexByte,hc]⟩
  ·have h' : 0 < cntC sp l:=by simpa [cntC,hc] using h
   obtain ⟨a,b,h1,h2,h3⟩:=ih h'
   refine ⟨c :: a,b,by simp [h1],?_,?_⟩
   ·intro hm
    rcases List.mem_cons.1 hm with e|e
    ·exact hc e.symm
    ·exact h2 e
   ·have hb:(c == sp)=false:=by simpa using hc
    have hn:((a.length:Int) == -1)=false:=by simp only [beq_eq_false_iff_ne];omega
    simp [Lib.indexByte,hb,h3,hn]
theorem gs_endC {sp:UInt8} (k:Nat) (s:ByteArray) (x3:Int) (x9:List ByteArray) (i:Nat) (hc:sp ∉ s.data.toList) (hx:x3=i) (hl:x9.length=i + 1) (hi:i ≤ 4398046511104) :
 strings_genSplit.l0 (k + 1) s ⟨#[sp]⟩ 0 x3 x9 i=some (x9.take i ++ (pcs sp s.data.toList).map mkS):=by
 simp only [strings_genSplit.l0]
 rw [if_neg (by omega),if_pos (by omega),if_pos (by omega),wn1 i hi,if_pos (by omega),if_pos (by omega),pcs_none _ hc]
 have e1:((i:Int) + 1).toNat=i + 1:=by omega
 rw [e1,Int.toNat_natCast,List.take_succ_eq_append_getElem (by rw [List.length_set];omega),List.take_set_of_le (Nat.le_refl _)]
 simp [mkS_self]
theorem extract_midC {sp : UInt8} (s : ByteArray) (a b : List UInt8) (hab : s.data.toList = a ++ sp :: b) : (s.extract (a.length + 1) s.size).data.toList = b ∧ s.extract 0 a.length = mkS a ∧ (s.extract (a.length + 1) s.size).size ≤ s.size := by
  have e2 : (s.extract (a.length + 1) s.size).data.toList = b := by
    rw [Lib.extract_to_end, hab, ← List.drop_drop, List.drop_left]; rfl
  refine ⟨e2, ?_, ?_⟩
  · have : (s.extract 0 a.length).data.toList = a := by
      rw [Lib.extract_data, hab, List.drop_zero, Nat.sub_zero, List.take_left]
    rw [← mkS_self (s.extract 0 _), this]
  · have hlen : a.length + b.length + 1 = s.size := by rw [← data_length, hab]; simp; omega
    rw [← data_length, e2]
    omega
theorem gs_stepC {sp:UInt8} (k:Nat) (s:ByteArray) (x3:Int) (x9:List ByteArray) (i:Nat) (a b:List UInt8) (hab:s.data.toList=a ++ sp :: b) (hidx:Lib.indexByte s.data.toList sp=a.length) (hx:(i:Int) < x3) (hl:i < x9.length) (hs:s.size ≤ 4398046511104) (hi:i ≤ 4398046511104) :
 ∀ R,strings_genSplit.l0 k (s.extract (a.length + 1) s.size) ⟨#[sp]⟩ 0 x3 (x9.set i (mkS a)) ((i:Int) + 1)=R → strings_genSplit.l0 (k + 1) s ⟨#[sp]⟩ 0 x3 x9 i=R:=by
 intro R hR
 have hlen:a.length + b.length + 1=s.size:=by rw [← data_length,hab];simp;omega
 have hix:strings_Index.f s ⟨#[sp]⟩=some (a.length:Int):=by
  show some (Lib.indexByte s.data.toList sp)=_
  rw [hidx]
 have hs1:((⟨#[sp]⟩:ByteArray).size:Int)=1:=rfl
 have e1:((a.length:Int) + 1).toNat=a.length + 1:=by omega
 obtain ⟨_,e3,_⟩:=extract_midC s a b hab
 simp only [strings_genSplit.l0]
 rw [if_pos hx,hix]
 rw [Option.bind_some]
 rw [if_neg (by omega),wn0 _ (by omega),hs1,wn1 _ (by omega),if_pos (by omega),if_pos (by omega),if_pos (by omega),if_pos (by omega),if_pos (by omega),if_pos (by omega),wn1 i hi,e1,Int.toNat_natCast,Int.toNat_natCast,e3]
 exact hR
theorem gs_l0C {sp:UInt8} (d:Nat) : ∀ (k:Nat) (s:ByteArray) (x3:Int) (x9:List ByteArray) (i:Nat),cntC sp s.data.toList=d → x3=i + d → x9.length=i + d + 1 → d + 1 ≤ k → s.size ≤ 4398046511104 →
 i + d ≤ 4398046511104 → strings_genSplit.l0 k s ⟨#[sp]⟩ 0 x3 x9 i=some (x9.take i ++ (pcs sp s.data.toList).map mkS):=by
 induction d with
 | zero =>
  intro k s x3 x9 i hc hx hl hk hs hid
  obtain ⟨k,rfl⟩ : ∃ m,k=m + 1:=⟨k - 1,by omega⟩
  exact gs_endC k s x3 x9 i ((cntC_none _).1 hc) (by omega) (by omega) (by omega)
 | succ d ih =>
  intro k s x3 x9 i hc hx hl hk hs hid
  obtain ⟨k,rfl⟩ : ∃ m,k=m + 1:=⟨k - 1,by omega⟩
  obtain ⟨a,b,hab,ha,hidx⟩:=index_splitC (sp:=sp) s.data.toList (by omega)
  obtain ⟨e2,_,e4⟩:=extract_midC s a b hab
  have hcb:cntC sp b=d:=by
   rw [hab,cntC_append,(cntC_none a).2 ha] at hc
   simp only [cntC,if_true] at hc
   omega
  refine gs_stepC k s x3 x9 i a b hab hidx (by omega) (by omega) hs (by omega) _ ?_
  have:=ih k (s.extract (a.length + 1) s.size) x3 (x9.set i (mkS a)) (i + 1) (by rw [e2];exact hcb) (by omega) (by rw [List.length_set];omega) (by omega) (by omega) (by omega)
  rw [show (((i + 1:Nat)):Int)=(i:Int) + 1 by omega] at this
  rw [this,e2,hab,pcs_append,pcs_none a ha,List.take_succ_eq_append_getElem (by rw [List.length_set];omega),List.take_set_of_le (Nat.le_refl _)]
  simp
theorem gs_firstC {sp:UInt8} (k:Nat) (s:ByteArray) (hs:s.size ≤ 4398046511103) :
 ∀ R,strings_genSplit.l0 k s ⟨#[sp]⟩ 0 ((cntC sp s.data.toList:Nat):Int) (List.replicate (cntC sp s.data.toList + 1) (⟨#[]⟩:ByteArray)) 0=R → strings_genSplit.f (k + 1) s ⟨#[sp]⟩ 0 (-1)=R:=by
 intro R hR
 have hcl:=cntC_le (sp:=sp) s.data.toList
 rw [data_length] at hcl
 have hcf:strings_Count.f s ⟨#[sp]⟩=some ((cntC sp s.data.toList:Nat):Int):=by
  rw [← cntC_count];rfl
 obtain ⟨c,hc⟩ : ∃ c,c=cntC sp s.data.toList:=⟨_,rfl⟩
 rw [← hc] at hcf hcl hR
 have hm:mn ((c:Int) + 1) ((s.size:Int) + 1)=(c:Int) + 1:=by unfold mn;split <;> omega
 have e1:((c:Int) + 1).toNat=c + 1:=by omega
 have hne : ¬ ((⟨#[sp]⟩:ByteArray).toList=[]):=by rw [toList_data];simp
 unfold strings_genSplit.f
 rw [if_neg (by decide),if_neg hne,if_pos (by decide),hcf]
 rw [Option.bind_some]
 simp only [strings_genSplit.j0]
 rw [wn1 c (by omega),wn1 s.size (by omega),hm,wnm c (by omega),e1,if_pos (by omega),if_pos (by omega)]
 exact hR
theorem Split_fC {sp:UInt8} (s:ByteArray) (hs:s.size ≤ 4398046511103) (k:Nat) (hk:s.size + 3 ≤ k):strings_Split.f k s ⟨#[sp]⟩=some ((pcs sp s.data.toList).map mkS):=by
 obtain ⟨k,rfl⟩ : ∃ m,k=m + 1:=⟨k - 1,by omega⟩
 have hcl:=cntC_le (sp:=sp) s.data.toList
 rw [data_length] at hcl
 unfold strings_Split.f
 have:=gs_l0C (cntC sp s.data.toList) k s ((cntC sp s.data.toList:Nat):Int) (List.replicate (cntC sp s.data.toList + 1) (⟨#[]⟩:ByteArray)) 0 rfl (by omega) (by rw [List.length_replicate];omega) (by omega) (by omega) (by omega)
 rw [show ((0:Nat):Int)=0 from rfl] at this
 rw [gs_firstC k s hs _ this]
 simp
/-- The parts of a list: trimmed,the empty ones left out. -/
def commaParts (l:List UInt8):List (List UInt8):=((pcs 44 l).map trm).filter (fun p => !p.isEmpty)
theorem comma_append (a b:List UInt8):commaParts (a ++ 44 :: b)=commaParts a ++ commaParts b:=by
 simp [commaParts,pcs_append]
theorem comma_one (l:List UInt8) (h:44 ∉ l):commaParts l=if (trm l).isEmpty then [] else [trm l]:=by
 rw [commaParts,pcs_none l h]
 cases ht:(trm l).isEmpty <;> simp [ht]
theorem split_step (ps:List (List UInt8)) (i:Int) (h0:0 ≤ i) (hlt:i < (ps.length:Int)):((ps.drop i.toNat).map trm).filter (fun p => !p.isEmpty)=(if trm (ps.getD i.toNat [])=[] then [] else [trm (ps.getD i.toNat [])]) ++ ((ps.drop (i + 1).toNat).map trm).filter (fun p => !p.isEmpty):=by
 have hl:i.toNat < ps.length:=by omega
 have hg:ps.getD i.toNat []=ps[i.toNat]:=by rw [List.getD_eq_getElem?_getD,List.getElem?_eq_getElem hl];rfl
 rw [hg,List.drop_eq_getElem_cons hl,show (i + 1).toNat=i.toNat + 1 by omega,List.map_cons,List.filter_cons]
 by_cases he:trm ps[i.toNat]=[]
 ·rw [if_pos he,he];rfl
 ·rw [if_neg he,if_pos (by simpa using he)];rfl
theorem split_l0 (ps:List (List UInt8)) (hl : ∀ p ∈ ps,p.length ≤ 4398046511104) (hn:ps.length ≤ 4398046511104) (d:Nat) : ∀ (k:Nat) (out:List ByteArray) (i:Int),0 ≤ i → (ps.length:Int) - i=d → d + 1 ≤ k → (out.length:Int) ≤ i →
 sign_Split.l0 k out (ps.map mkS) (ps.length:Int) i=some (out ++ (((ps.drop i.toNat).map trm).filter (fun p => !p.isEmpty)).map mkS):=by
 induction d with
 | zero =>
  intro k out i h0 hd hk ho
  obtain ⟨k,rfl⟩ : ∃ m,k=m + 1:=⟨k - 1,by omega⟩
  simp only [sign_Split.l0]
  rw [if_neg (by omega),List.drop_of_length_le (by omega)]
  simp
 | succ d ih =>
  intro k out i h0 hd hk ho
  obtain ⟨k,rfl⟩ : ∃ m,k=m + 1:=⟨k - 1,by omega⟩
  have hlt:i.toNat < ps.length:=by omega
  have hg:ps.getD i.toNat []=ps[i.toNat]:=by rw [List.getD_eq_getElem?_getD,List.getElem?_eq_getElem hlt];rfl
  have hlp:=hl _ (List.getElem_mem hlt)
  rw [← hg] at hlp
  rw [split_step ps i h0 (by omega)]
  simp only [sign_Split.l0]
  rw [if_pos (by omega),if_pos h0,if_pos (by rw [List.length_map];omega),rdOf_mk ps i h0 (by omega),Trim_f _ (by rw [mkS_size];omega),mkS_data]
  simp only [Option.bind_some,wi1 i h0 (by omega)]
  rw [show (⟨(trm (ps.getD i.toNat [])).toArray⟩:ByteArray)=mkS (trm (ps.getD i.toNat [])) from rfl,mkS_toList]
  by_cases he:trm (ps.getD i.toNat [])=[]
  ·rw [if_pos he,if_pos he,ih k out (i + 1) (by omega) (by omega) (by omega) (by omega)]
   rfl
  ·rw [if_neg he,if_neg he,if_pos (by omega),ih k _ (i + 1) (by omega) (by omega) (by omega) (by rw [List.length_append];simp;omega)]
   simp only [List.map_append,List.map_cons,List.map_nil,List.append_assoc]
theorem signSplit_f (s:ByteArray) (hs:s.size ≤ 4398046511103) (k:Nat) (hk:s.size + 3 ≤ k):sign_Split.f k s=some ((commaParts s.data.toList).map mkS):=by
 unfold sign_Split.f
 have hpl:=pcs_length (sp:=44) s.data.toList
 have hcl:=cntC_le (sp:=44) s.data.toList
 rw [data_length] at hcl
 rw [Split_fC s hs k hk]
 simp only [Option.bind_some,List.length_map]
 rw [split_l0 (pcs 44 s.data.toList) (fun p hp=>by have:=pcs_le _ p hp;rw [data_length] at this;omega) (by omega) (pcs 44 s.data.toList).length k [] 0 (by omega) (by omega) (by omega) (by simp)]
 rfl
theorem rdT_at (xs:List (S36)) (i:Nat) (h:i < xs.length):rd_T36 xs (i:Int)=xs[i]:=by
 unfold rd_T36
 rw [Int.toNat_natCast,List.getD_eq_getElem?_getD,List.getElem?_eq_getElem h];rfl
theorem rdB_at (xs:List ByteArray) (i:Nat) (h:i < xs.length):rdOf ByteArray.empty xs (i:Int)=xs[i]:=by
 unfold rdOf
 rw [Int.toNat_natCast,List.getD_eq_getElem?_getD,List.getElem?_eq_getElem h];rfl
/-- The same names. -/
def sameN (a b:ByteArray):Bool:=decide ((bytesOf a).map foldC=(bytesOf b).map foldC)
theorem same_f (a b:ByteArray) (ha:a.size ≤ 140737488355328) (hb:b.size ≤ 140737488355328):sign_Same.f a b=some (sameN a b):=same_tells a b ha hb
/-- Few fields,of short texts. -/
def FB (fs:List (S36)):Prop:=fs.length ≤ 1000 ∧ ∀ f ∈ fs,f.f0.size ≤ 1048576∧f.f1.size ≤ 1048576
/-- The values of a name. -/
def getS (name:ByteArray):List (S36) → List ByteArray
 | []=>[]
 | f :: r=>if sameN f.f0 name=true then f.f1 :: getS name r else getS name r
theorem getS_len (name:ByteArray) : ∀ fs,(getS name fs).length ≤ fs.length
 | []=>Nat.le_refl _
 | f :: r=>by rw [getS];have:=getS_len name r;split <;> simp only [List.length_cons] <;> omega
theorem getS_mem (name:ByteArray) : ∀ (fs:List (S36)) (v:ByteArray),v ∈ getS name fs → ∃ f ∈ fs,v=f.f1∧sameN f.f0 name=true
 | [],v,h=>by cases h
 | f :: r,v,h=>by
  rw [getS] at h
  by_cases hs:sameN f.f0 name=true
  ·rw [if_pos hs] at h
   rcases List.mem_cons.1 h with rfl|h
   ·exact ⟨f,List.mem_cons_self,rfl,hs⟩
   ·obtain ⟨g,hg,e⟩:=getS_mem name r v h;exact ⟨g,List.mem_cons_of_mem _ hg,e⟩
  ·rw [if_neg hs] at h
   obtain ⟨g,hg,e⟩:=getS_mem name r v h;exact ⟨g,List.mem_cons_of_mem _ hg,e⟩
theorem get_l0 (name:ByteArray) (hn:name.size ≤ 1048576) (fs:List (S36)) (hf:FB fs) (d:Nat) : ∀ (k i:Nat) (out:List ByteArray),i + d=fs.length → d < k → out.length ≤ i →
 field_Get.l0 k name out fs (fs.length:Int) (i:Int)=some (out ++ getS name (fs.drop i)):=by
 have hfl:=hf.1
 induction d with
 | zero =>
  intro k i out hi hk ho
  obtain ⟨k,rfl⟩ : ∃ m,k=m + 1:=⟨k - 1,by omega⟩
  rw [field_Get.l0,if_neg (by omega),List.drop_of_length_le (by omega),getS,List.append_nil]
 | succ d ih =>
  intro k i out hi hk ho
  obtain ⟨k,rfl⟩ : ∃ m,k=m + 1:=⟨k - 1,by omega⟩
  have hlt:i < fs.length:=by omega
  have hb:=hf.2 _ (List.getElem_mem hlt)
  have hw:wrap64 ((i:Int) + 1)=((i + 1:Nat):Int):=by unfold wrap64;omega
  rw [field_Get.l0,if_pos (by omega),if_pos (by omega),if_pos (by omega),rdT_at fs i hlt,same_f _ _ (by omega) (by omega),Option.bind_some,hw,List.drop_eq_getElem_cons hlt,getS]
  by_cases hs:sameN fs[i].f0 name=true
  ·rw [if_pos hs,if_pos hs,if_pos (by omega),ih k (i + 1) _ (by omega) (by omega) (by rw [List.length_append];simp;omega)]
   simp only [List.append_assoc,List.singleton_append]
  ·rw [if_neg hs,if_neg hs,ih k (i + 1) _ (by omega) (by omega) (by omega)]
theorem Get_f (fs:List (S36)) (name:ByteArray) (hf:FB fs) (hn:name.size ≤ 1048576) (k:Nat) (hk:fs.length < k):field_Get.f k fs name=some (getS name fs):=by
 have:=get_l0 name hn fs hf fs.length k 0 [] (by omega) hk (Nat.zero_le _)
 rw [List.drop_zero,List.nil_append] at this
 exact this
/-- A value's parts. -/
def partsS (v:ByteArray):List ByteArray:=(commaParts v.data.toList).map mkS
theorem comma_len (l:List UInt8):(commaParts l).length ≤ l.length + 1:=by
 unfold commaParts
 have h1:=List.length_filter_le (fun p => !p.isEmpty) ((pcs 44 l).map trm)
 rw [List.length_map,pcs_length] at h1
 have h2:=cntC_le (sp:=44) l
 omega
theorem parts_len (v:ByteArray):(partsS v).length ≤ v.size + 1:=by
 unfold partsS
 rw [List.length_map]
 have:=comma_len v.data.toList
 rw [data_length] at this
 exact this
theorem comma_size (l:List UInt8) : ∀ p ∈ commaParts l,p.length ≤ l.length:=by
 intro p hp
 unfold commaParts at hp
 obtain ⟨q,hq,rfl⟩:=List.mem_map.1 (List.mem_filter.1 hp).1
 exact Nat.le_trans (trm_length q) (pcs_le l q hq)
theorem parts_size (v:ByteArray) : ∀ p ∈ partsS v,p.size ≤ v.size:=by
 intro p hp
 obtain ⟨q,hq,rfl⟩:=List.mem_map.1 hp
 rw [mkS_size,← data_length]
 exact comma_size _ q hq
theorem list_l0 (vs:List ByteArray) (hl:vs.length ≤ 1000) (hv : ∀ v ∈ vs,v.size ≤ 1048576) (d:Nat) : ∀ (k i:Nat) (out:List ByteArray),i + d=vs.length → d + 1048580 ≤ k → out.length ≤ 1048577 * i →
 field_List.l0 k out vs (vs.length:Int) (i:Int)=some (out ++ (vs.drop i).flatMap partsS):=by
 induction d with
 | zero =>
  intro k i out hi hk ho
  obtain ⟨k,rfl⟩ : ∃ m,k=m + 1:=⟨k - 1,by omega⟩
  rw [field_List.l0,if_neg (by omega),List.drop_of_length_le (by omega),List.flatMap_nil,List.append_nil]
 | succ d ih =>
  intro k i out hi hk ho
  obtain ⟨k,rfl⟩ : ∃ m,k=m + 1:=⟨k - 1,by omega⟩
  have hlt:i < vs.length:=by omega
  have hb:=hv _ (List.getElem_mem hlt)
  have hp:=parts_len vs[i]
  have hw:wrap64 ((i:Int) + 1)=((i + 1:Nat):Int):=by unfold wrap64;omega
  rw [field_List.l0,if_pos (by omega),if_pos (by omega),if_pos (by omega),rdB_at vs i hlt,signSplit_f _ (by omega) k (by omega),Option.bind_some,hw,List.drop_eq_getElem_cons hlt,List.flatMap_cons]
  have e:(commaParts vs[i].data.toList).map mkS=partsS vs[i]:=rfl
  rw [e,if_pos (by omega),ih k (i + 1) _ (by omega) (by omega) (by rw [List.length_append];omega),List.append_assoc]
/-- All parts of a name's values. -/
def listS (name:ByteArray) (fs:List (S36)):List ByteArray:=(getS name fs).flatMap partsS
theorem get_bounds (fs:List (S36)) (name:ByteArray) (hf:FB fs):(getS name fs).length ≤ 1000 ∧ ∀ v ∈ getS name fs,v.size ≤ 1048576:=by
 refine ⟨Nat.le_trans (getS_len name fs) hf.1,fun v hv=>?_⟩
 obtain ⟨f,hm,rfl,_⟩:=getS_mem name fs v hv
 exact (hf.2 f hm).2
theorem List_f (fs:List (S36)) (name:ByteArray) (hf:FB fs) (hn:name.size ≤ 1048576) (k:Nat) (hk:1049600 ≤ k):field_List.f k fs name=some (listS name fs):=by
 obtain ⟨h1,h2⟩:=get_bounds fs name hf
 have hfl:=hf.1
 unfold field_List.f
 rw [Get_f fs name hf hn k (by omega),Option.bind_some]
 have:=list_l0 (getS name fs) h1 h2 (getS name fs).length k 0 [] (by omega) (by omega) (by simp)
 rw [List.drop_zero,List.nil_append] at this
 exact this
theorem flat_len (B:Nat) : ∀ vs:List ByteArray,(∀ v ∈ vs,v.size ≤ B) → (vs.flatMap partsS).length ≤ vs.length * (B + 1)
 | [],_=>by simp
 | v :: r,h=>by
  rw [List.flatMap_cons,List.length_append,List.length_cons,Nat.succ_mul]
  have h1:=flat_len B r (fun u hu=>h u (List.mem_cons_of_mem _ hu))
  have h2:=parts_len v
  have h3:=h v List.mem_cons_self
  omega
theorem list_bounds (fs:List (S36)) (name:ByteArray) (hf:FB fs):(listS name fs).length ≤ 1048577000 ∧ ∀ p ∈ listS name fs,p.size ≤ 1048576:=by
 obtain ⟨h1,h2⟩:=get_bounds fs name hf
 refine ⟨?_,fun p hp=>?_⟩
 ·have h3:=flat_len 1048576 (getS name fs) h2
  unfold listS
  have h4:(getS name fs).length * 1048577 ≤ 1000 * 1048577:=Nat.mul_le_mul_right _ h1
  omega
 ·unfold listS at hp
  obtain ⟨v,hv,hp⟩:=List.mem_flatMap.1 hp
  exact Nat.le_trans (parts_size v p hp) (h2 v hv)
/-- Is a part among a name's? -/
def hasS (fs:List (S36)) (name part:ByteArray):Bool:=(listS name fs).any (fun p=>sameN p part)
theorem rightB_size {a t:ByteArray} (h:rightB a t=true):a.size ≤ 100∧t.size ≤ 1000:=by
 unfold rightB at h
 simp only [Bool.and_eq_true,decide_eq_true_eq] at h
 exact ⟨h.1,h.2.2.1⟩
def lenNm:ByteArray:=⟨#[99,111,110,116,101,110,116,45,108,101,110,103,116,104]⟩
def lenNM:ByteArray:=⟨#[67,111,110,116,101,110,116,45,76,101,110,103,116,104]⟩
theorem refFold_l0 (s:ByteArray) (hn:s.size ≤ 140737488355327) (d:Nat) : ∀ (k:Nat) (out:List Int) (i:Int),0 ≤ i → (s.size:Int) - i=d → d + 1 ≤ k → (out.length:Int)=i →
 tollbarref02_Fold.l0 k s out i=some (strOfNums (out ++ ((bytesOf s).drop i.toNat).map foldC)):=by
 induction d with
 | zero =>
  intro k out i h0 hd hk ho
  obtain ⟨k,rfl⟩ : ∃ m,k=m + 1:=⟨k - 1,by omega⟩
  simp only [tollbarref02_Fold.l0]
  rw [if_neg (by omega),List.drop_of_length_le (by rw [bytesOf_length];omega),List.map_nil,List.append_nil]
 | succ d ih =>
  intro k out i h0 hd hk ho
  obtain ⟨k,rfl⟩ : ∃ m,k=m + 1:=⟨k - 1,by omega⟩
  have hlt:i < (s.size:Int):=by omega
  have hl:i.toNat < (bytesOf s).length:=by rw [bytesOf_length];omega
  have hg:(bytesOf s)[i.toNat]=bt s i:=by rw [← rd_bytesOf];simp [rd,List.getD_eq_getElem?_getD,List.getElem?_eq_getElem hl]
  have hr:=bt_range s i
  have ih' := fun v=>ih k (out ++ [v]) (i + 1) (by omega) (by omega) (by omega) (by rw [List.length_append];simp;omega)
  have e1:(i + 1).toNat=i.toNat + 1:=by omega
  rw [List.drop_eq_getElem_cons hl,hg,List.map_cons]
  simp only [tollbarref02_Fold.l0]
  rw [if_pos hlt,if_pos h0,show wrap64 (i + 1)=i + 1 by unfold wrap64;omega]
  have hf : ∀ v,v=foldC (bt s i) → some (strOfNums (out ++ [v] ++ ((bytesOf s).drop (i.toNat + 1)).map foldC))=some (strOfNums (out ++ foldC (bt s i) :: ((bytesOf s).drop (i.toNat + 1)).map foldC)):=by
   intro v hv
   rw [hv,List.append_assoc]
   rfl
  have ho2:out.length < 140737488355328:=by omega
  by_cases h1:bt s i ≥ 65
  ·rw [if_pos h1]
   by_cases h2:bt s i ≤ 90
   ·rw [if_pos h2,if_pos ho2,ih',e1];exact hf _ (by unfold foldC;rw [if_pos ⟨h1,h2⟩];omega)
   ·rw [if_neg h2,if_pos ho2,ih',e1];exact hf _ (by unfold foldC;rw [if_neg (by omega)])
  ·rw [if_neg h1,if_pos ho2,ih',e1];exact hf _ (by unfold foldC;rw [if_neg (by omega)])
theorem refFold_f (s:ByteArray) (hn:s.size ≤ 140737488355327) (k:Nat) (hk:s.size + 1 ≤ k):tollbarref02_Fold.f k s=sign_Fold.f s:=by
 unfold tollbarref02_Fold.f sign_Fold.f
 rw [refFold_l0 s hn s.size k [] 0 (by omega) (by omega) hk rfl,if_pos (by omega)]
 rfl
theorem Fold_f (s:ByteArray) (hn:s.size ≤ 140737488355328):sign_Fold.f s=some (strOfNums ((bytesOf s).map foldC)):=if_pos hn
theorem str_len (xs:List Int):(strOfNums xs).size=xs.length:=str_size xs
def tgtB (c:Int):Bool:=(sign_Target_1.f c).getD false
theorem Target_f (s:ByteArray) (h:s.size ≤ 140737488355328):sign_Target.f s=some (!s.toList.isEmpty && (bytesOf s).all tgtB):=if_pos h
def tgtOk (s:ByteArray):Bool := !s.toList.isEmpty && (bytesOf s).all tgtB
theorem tgt_ne {s:ByteArray} (h:tgtOk s=true):0 < s.size:=by
 unfold tgtOk at h
 rw [isEmpty_size] at h
 rcases Nat.eq_zero_or_pos s.size with e|e
 ·rw [e] at h;simp at h
 ·exact e
def hostNm:ByteArray:=⟨#[104,111,115,116]⟩
def hostNM:ByteArray:=⟨#[72,111,115,116]⟩
/-- What is known of a request's beginning that is whole. -/
structure OpenOk (l:List Int) (o:ByteArray × ByteArray × Int × List (S36) × List Int × Int × Int × Bool × Int):Prop where
 pos:0 < o.2.2.2.2.2.1
 le:o.2.2.2.2.2.1 ≤ (l.length:Int)∧o.2.2.2.2.2.1 ≤ 2048
 code:o.2.2.2.2.2.2.2.2=0
 size:0 ≤ o.2.2.2.2.2.2.1∧o.2.2.2.2.2.2.1 ≤ 4096
 minor:o.2.2.1=0 ∨ o.2.2.1=1
 fields:o.2.2.2.1.length ≤ 40 ∧ ∀ f ∈ o.2.2.2.1,rightB f.f0 f.f1=true
 body:o.2.2.2.2.1=[]
theorem getS_none (p:ByteArray) : ∀ (fs:List (S36)),(∀ f ∈ fs,sameN f.f0 p=false) → getS p fs=[]:=by
 intro fs
 induction fs with
 | nil=>intro _;rfl
 | cons f fs ih =>
  intro h
  rw [getS,if_neg (by simp [h f (List.mem_cons_self ..)]),ih (fun x hx=>h x (List.mem_cons_of_mem _ hx))]
theorem right_FB (fs:List (S36)) (hn:fs.length ≤ 1000) (h : ∀ f ∈ fs,rightB f.f0 f.f1=true):FB fs :=
 ⟨hn,fun f hf=>by have:=rightB_size (h f hf);omega⟩
theorem fold_is (a p:ByteArray) (hp:(strOfNums ((bytesOf p).map foldC)).toList=p.toList):((strOfNums ((bytesOf a).map foldC)).toList=p.toList)=(sameN p a=true):=by
 have h:=str_inj (bytes_fold (bytes_of a)) (bytes_fold (bytes_of p))
 rw [hp] at h
 unfold sameN
 rw [decide_eq_true_eq]
 apply propext
 constructor
 ·intro e
  have:decide ((bytesOf a).map foldC=(bytesOf p).map foldC)=true:=by rw [← h];exact beq_iff_eq.2 e
  exact (of_decide_eq_true this).symm
 ·intro e
  have:((strOfNums ((bytesOf a).map foldC)).toList == p.toList)=true:=by rw [h];exact decide_eq_true e.symm
  exact beq_iff_eq.1 this
theorem some_or (b c:Bool):(if b=true then some true else some c)=some (b || c):=by cases b <;> rfl
/-- The kept names. -/
def keptNames:List ByteArray:=[⟨#[104,111,115,116]⟩,⟨#[99,111,110,116,101,110,116,45,108,101,110,103,116,104]⟩,⟨#[116,114,97,110,115,102,101,114,45,101,110,99,111,100,105,110,103]⟩,⟨#[99,111,110,110,101,99,116,105,111,110]⟩,⟨#[107,101,101,112,45,97,108,105,118,101]⟩,⟨#[112,114,111,120,121,45,99,111,110,110,101,99,116,105,111,110]⟩,⟨#[116,101]⟩,⟨#[116,114,97,105,108,101,114]⟩,⟨#[117,112,103,114,97,100,101]⟩,⟨#[101,120,112,101,99,116]⟩,⟨#[118,105,97]⟩]
def keptN (a:ByteArray):Bool:=keptNames.any (fun p=>sameN p a)
theorem Kept_f (a:ByteArray) (ha:a.size ≤ 1048576):conf_Kept.f a=some (keptN a):=by
 unfold conf_Kept.f
 rw [Fold_f a (by omega),Option.bind_some]
 have e : ∀ (p:ByteArray),p ∈ keptNames → ((strOfNums ((bytesOf a).map foldC)).toList=p.toList)=(sameN p a=true):=by
  intro p hp
  refine fold_is a p ?_
  have : ∀ p ∈ keptNames,(strOfNums ((bytesOf p).map foldC)).data=p.data:=by decide +kernel
  rw [toList_data,toList_data,this p hp]
 have l : ∀ (p:ByteArray) (q:List UInt8),p ∈ keptNames → p.toList=q → ((strOfNums ((bytesOf a).map foldC)).toList=q)=(sameN p a=true):=fun p q hp hq=>by rw [← hq];exact e p hp
 have e0:=l ⟨#[104,111,115,116]⟩ [104,111,115,116] (by simp [keptNames]) (toList_data _)
 have e1:=l ⟨#[99,111,110,116,101,110,116,45,108,101,110,103,116,104]⟩ [99,111,110,116,101,110,116,45,108,101,110,103,116,104] (by simp [keptNames]) (toList_data _)
 have e2:=l ⟨#[116,114,97,110,115,102,101,114,45,101,110,99,111,100,105,110,103]⟩ [116,114,97,110,115,102,101,114,45,101,110,99,111,100,105,110,103] (by simp [keptNames]) (toList_data _)
 have e3:=l ⟨#[99,111,110,110,101,99,116,105,111,110]⟩ [99,111,110,110,101,99,116,105,111,110] (by simp [keptNames]) (toList_data _)
 have e4:=l ⟨#[107,101,101,112,45,97,108,105,118,101]⟩ [107,101,101,112,45,97,108,105,118,101] (by simp [keptNames]) (toList_data _)
 have e5:=l ⟨#[112,114,111,120,121,45,99,111,110,110,101,99,116,105,111,110]⟩ [112,114,111,120,121,45,99,111,110,110,101,99,116,105,111,110] (by simp [keptNames]) (toList_data _)
 have e6:=l ⟨#[116,101]⟩ [116,101] (by simp [keptNames]) (toList_data _)
 have e7:=l ⟨#[116,114,97,105,108,101,114]⟩ [116,114,97,105,108,101,114] (by simp [keptNames]) (toList_data _)
 have e8:=l ⟨#[117,112,103,114,97,100,101]⟩ [117,112,103,114,97,100,101] (by simp [keptNames]) (toList_data _)
 have e9:=l ⟨#[101,120,112,101,99,116]⟩ [101,120,112,101,99,116] (by simp [keptNames]) (toList_data _)
 have e10:=l ⟨#[118,105,97]⟩ [118,105,97] (by simp [keptNames]) (toList_data _)
 simp only [e0,e1,e2,e3,e4,e5,e6,e7,e8,e9,e10]
 simp only [some_or]
 rfl
theorem anyO_tot {α:Type} (q:α → Option Bool) : ∀ l:List α,(∀ x ∈ l,∃ b,q x=some b) → ∃ b,anyO q l=some b∧(b=false → ∀ x ∈ l,q x=some false)
 | [],_=>⟨false,rfl,fun _ x hx=>by cases hx⟩
 | x :: r,h=>by
  obtain ⟨b,hb⟩:=h x (List.mem_cons_self ..)
  obtain ⟨c,hc,hcc⟩:=anyO_tot q r (fun y hy=>h y (List.mem_cons_of_mem _ hy))
  rw [anyO,hb,Option.bind_some]
  cases b
  ·refine ⟨c,by rw [if_neg (by simp)];exact hc,fun e y hy=>?_⟩
   rcases List.mem_cons.1 hy with rfl|hy
   ·exact hb
   ·exact hcc e y hy
  ·exact ⟨true,by rw [if_pos rfl],fun e=>by cases e⟩
theorem allO_tot {α:Type} (q:α → Option Bool) : ∀ l:List α,(∀ x ∈ l,∃ b,q x=some b) → ∃ b,allO q l=some b∧(b=true → ∀ x ∈ l,q x=some true)
 | [],_=>⟨true,rfl,fun _ x hx=>by cases hx⟩
 | x :: r,h=>by
  obtain ⟨b,hb⟩:=h x (List.mem_cons_self ..)
  obtain ⟨c,hc,hcc⟩:=allO_tot q r (fun y hy=>h y (List.mem_cons_of_mem _ hy))
  rw [allO,hb,Option.bind_some]
  cases b
  ·exact ⟨false,by rw [if_neg (by simp)],fun e=>by cases e⟩
  ·refine ⟨c,by rw [if_pos rfl];exact hc,fun e y hy=>?_⟩
   rcases List.mem_cons.1 hy with rfl|hy
   ·exact hb
   ·exact hcc e y hy
theorem tbl_l0 (s:ByteArray) (d:Nat) : ∀ (k i:Nat),i + d=s.size → d < k → s.size ≤ 30 → ∃ b,table_Name.l0 k s (s.size:Int) (i:Int)=some b:=by
 induction d with
 | zero =>
  intro k i hi hk hs
  obtain ⟨k,rfl⟩ : ∃ m,k=m + 1:=⟨k - 1,by omega⟩
  exact ⟨true,by rw [table_Name.l0,if_neg (by omega)]⟩
 | succ d ih =>
  intro k i hi hk hs
  obtain ⟨k,rfl⟩ : ∃ m,k=m + 1:=⟨k - 1,by omega⟩
  obtain ⟨b,hb⟩:=ih k (i + 1) (by omega) (by omega) hs
  rw [table_Name.l0,if_pos (by omega),if_pos (by omega),if_pos (by omega),show wrap64 ((i:Int) + 1)=((i + 1:Nat):Int) by unfold wrap64;omega]
  repeat' split
  all_goals first|exact ⟨_,rfl⟩|exact ⟨b,hb⟩
theorem tbl_j0 (s:ByteArray) (k:Nat) (hk:40 ≤ k) (x:Bool) (hs:x=false → s.size ≤ 30) : ∃ b,table_Name.j0 k s x=some b:=by
 obtain ⟨k,rfl⟩ : ∃ m,k=m + 1:=⟨k - 1,by omega⟩
 rw [table_Name.j0]
 cases x
 ·rw [if_neg (by simp)]
  exact tbl_l0 s s.size k 0 (by omega) (by have:=hs rfl;omega) (hs rfl)
 ·exact ⟨false,by rw [if_pos rfl]⟩
theorem tbl_tot (s:ByteArray) (k:Nat) (hk:40 ≤ k) : ∃ b,table_Name.f k s=some b:=by
 unfold table_Name.f
 split
 ·exact tbl_j0 s k hk true (fun e=>by cases e)
 ·split
  ·exact tbl_j0 s k hk true (fun e=>by cases e)
  ·rename_i h1 h2
   have hp:0 < s.size:=by
    rcases Nat.eq_zero_or_pos s.size with h|h
    ·exfalso
     apply h1
     rw [toList_data]
     exact List.eq_nil_of_length_eq_zero (by rw [data_length];exact h)
    ·exact h
   rw [if_pos (by omega)]
   split
   ·exact tbl_j0 s k hk true (fun e=>by cases e)
   ·exact tbl_j0 s k hk _ (fun _=>by omega)
theorem path_tot (s:ByteArray) (hs:s.size ≤ 140737488355328) : ∃ b,conf_path.f s=some b:=by
 unfold conf_path.f
 have ht:sign_Target.f s=some (tgtOk s):=Target_f s hs
 rw [ht,Option.bind_some]
 cases h:tgtOk s
 ·exact ⟨false,by rw [if_neg (by simp)]⟩
 ·have:=tgt_ne h
  rw [if_pos rfl,if_pos (by omega)]
  split
  ·exact ⟨_,rfl⟩
  ·exact ⟨_,rfl⟩
theorem set_f (a t:ByteArray):conf_set.f a t=some (rightB a t && !keptN a):=by
 unfold conf_set.f field_Right.f
 rw [if_pos (by simp),anyO]
 unfold field_Right_1.f
 simp only
 rw [field_right_f,Option.bind_some,Option.bind_some]
 cases h:rightB a t
 ·rw [Bool.not_false,if_pos rfl,Option.bind_some,Option.bind_some,Bool.not_true,if_neg (by simp)]
  rfl
 ·rw [Bool.not_true,if_neg (by simp),anyO,Option.bind_some,Option.bind_some,Bool.not_false,if_pos rfl,Kept_f a (by have:=rightB_size h;omega),Option.bind_some]
  rfl
theorem drop_tot (a:ByteArray) (hs:a.size ≤ 140737488355328) : ∃ b,conf_drop.f a=some b∧(b=true → a.size ≤ 100∧keptN a=false):=by
 unfold conf_drop.f
 rw [Token_f a hs,Option.bind_some]
 split
 ·split
  ·rename_i h
   rw [Kept_f a (by omega),Option.bind_some]
   exact ⟨_,rfl,fun e=>⟨by omega,by simpa using e⟩⟩
  ·exact ⟨false,rfl,fun e=>by cases e⟩
 ·exact ⟨false,rfl,fun e=>by cases e⟩
theorem end_tot (us:List (S83)) (rts:List (S85)) (set:List (S36)) (drop:List ByteArray) (n4 n5 n6 n7:Int) : ∃ b,conf_right.e us rts set drop n4 n5 n6 n7=some b:=by
 unfold conf_right.e conf_numbers.f
 rw [Option.bind_some]
 obtain ⟨c,hc,_⟩:=anyO_tot (fun x:S131=>conf_right_1.f x.f0 x.f1 x.f2 x.f3) _ (fun x _=>by unfold conf_right_1.f;split <;> exact ⟨_,rfl⟩)
 exact ⟨!c,by rw [hc,Option.bind_some]⟩
set_option maxHeartbeats 4000000 in
theorem right_tot (us : List (S83)) (rts : List (S85)) (set : List (S36)) (drop : List ByteArray) (n4 n5 n6 n7 : Int) (hu : ∀ u ∈ us, ∀ a ∈ u.f1, a.size ≤ 140737488355328) (hr : ∀ r ∈ rts, r.f0.size ≤ 140737488355328 ∧ r.f2.size ≤ 140737488355328) (hd : ∀ n ∈ drop, n.size ≤ 140737488355328) (k : Nat) (hk : 40 ≤ k) :
    ∃ b, conf_right.f k us rts set drop n4 n5 n6 n7 = some b ∧ (b = true → (∀ f ∈ set, rightB f.f0 f.f1 = true ∧ keptN f.f0 = false) ∧ ∀ n ∈ drop, n.size ≤ 100 ∧ keptN n = false) := by
  unfold conf_right.f
  have q0 : ∀ u ∈ us, ∃ b, conf_up.f k u.f0 u.f1 = some b := fun u h => by
    unfold conf_up.f
    obtain ⟨b, hb⟩ := tbl_tot u.f0 k hk
    rw [hb, Option.bind_some]
    cases b
    · exact ⟨false, by rw [if_neg (by simp)]⟩
    · obtain ⟨c, hc, _⟩ := anyO_tot (fun a => conf_up_1.f a) u.f1 (fun a ha => by
        unfold conf_up_1.f
        have ht : sign_Target.f a = some (tgtOk a) := Target_f a (hu u h a ha)
        rw [ht, Option.bind_some]
        split
        · exact ⟨_, rfl⟩
        · exact ⟨_, rfl⟩)
      exact ⟨!c, by rw [if_pos rfl, hc, Option.bind_some]⟩
  have q1 : ∀ r ∈ rts, ∃ b, ((conf_path.f r.f0).bind fun b => if b = true then conf_path.f r.f2 else some false) = some b := fun r h => by
    obtain ⟨b, hb⟩ := path_tot r.f0 (hr r h).1
    obtain ⟨c, hc⟩ := path_tot r.f2 (hr r h).2
    rw [hb, Option.bind_some]
    cases b
    · exact ⟨false, by rw [if_neg (by simp)]⟩
    · exact ⟨c, by rw [if_pos rfl, hc]⟩
  obtain ⟨b0, h0, _⟩ := allO_tot (fun u => conf_up.f k u.f0 u.f1) us q0
  obtain ⟨b1, h1, _⟩ := allO_tot (fun r => (conf_path.f r.f0).bind fun b => if b = true then conf_path.f r.f2 else some false) rts q1
  obtain ⟨b2, h2, g2⟩ := allO_tot (fun f => conf_set.f f.f0 f.f1) set (fun f _ => ⟨_, set_f f.f0 f.f1⟩)
  obtain ⟨b3, h3, g3⟩ := allO_tot (fun s => conf_drop.f s) drop (fun n h => by obtain ⟨b, hb, _⟩ := drop_tot n (hd n h); exact ⟨b, hb⟩)
  rw [h0, Option.bind_some]
  cases b0
  · exact ⟨false, by rw [if_neg (by simp)], fun e => by cases e⟩
  · rw [if_pos rfl, h1, Option.bind_some]
    cases b1
    · exact ⟨false, by rw [if_neg (by simp)], fun e => by cases e⟩
    · rw [if_pos rfl, h2, Option.bind_some]
      cases b2
      · exact ⟨false, by rw [if_neg (by simp)], fun e => by cases e⟩
      · rw [if_pos rfl, h3, Option.bind_some]
        cases b3
        · exact ⟨false, by rw [if_neg (by simp)], fun e => by cases e⟩
        · rw [if_pos rfl]
          obtain ⟨c, hc⟩ := end_tot us rts set drop n4 n5 n6 n7
          refine ⟨c, hc, fun _ => ⟨fun f hf => ?_, fun n hn => ?_⟩⟩
          · have : conf_set.f f.f0 f.f1 = some true := g2 rfl f hf
            rw [set_f] at this
            injection this with this
            simpa using this
          · obtain ⟨b, hb, hbb⟩ := drop_tot n (hd n hn)
            have : conf_drop.f n = some true := g3 rfl n hn
            rw [hb] at this
            injection this with this
            exact hbb this
theorem many_tot (us:List (S83)) (rts:List (S85)) (set:List (S36)) (drop:List ByteArray) (n4 n5 n6 n7:Int) : ∃ b,conf_many.f us rts set drop n4 n5 n6 n7=some b∧(b=false → us.length ≤ 16∧rts.length ≤ 32∧set.length ≤ 16∧drop.length ≤ 16):=by
 unfold conf_many.f
 obtain ⟨c,hc,_⟩:=anyO_tot (fun u=>conf_many_1.f u.f0 u.f1) us (fun x _=>by unfold conf_many_1.f;split <;> exact ⟨_,rfl⟩)
 rw [hc,Option.bind_some]
 cases c
 ·rw [if_neg (by simp)]
  split
  ·exact ⟨true,rfl,fun e=>by cases e⟩
  ·split
   ·exact ⟨true,rfl,fun e=>by cases e⟩
   ·split
    ·exact ⟨true,rfl,fun e=>by cases e⟩
    ·exact ⟨_,rfl,fun e=>by have:=of_decide_eq_false e;omega⟩
 ·exact ⟨true,by rw [if_pos rfl],fun e=>by cases e⟩
/-- What a configuration's check tells: something;where it tells that all is right,the rules are few and right. -/
theorem check_tot (us:List (S83)) (rts:List (S85)) (set:List (S36)) (drop:List ByteArray) (n4 n5 n6 n7:Int) (hul:us.length ≤ 140737488355328) (hrl:rts.length ≤ 140737488355328) (hu : ∀ u ∈ us,u.f0.size ≤ 140737488355328 ∧ ∀ a ∈ u.f1,a.size ≤ 140737488355328)
 (hr : ∀ r ∈ rts,r.f0.size ≤ 140737488355328∧r.f1.size ≤ 140737488355328∧r.f2.size ≤ 140737488355328) (hd : ∀ n ∈ drop,n.size ≤ 140737488355328) (k:Nat) (hk:40 ≤ k) :
 ∃ e,conf_Check.f k us rts set drop n4 n5 n6 n7=some e∧(e=0 → set.length ≤ 16∧drop.length ≤ 16∧(∀ f ∈ set,rightB f.f0 f.f1=true∧keptN f.f0=false) ∧ ∀ n ∈ drop,n.size ≤ 100∧keptN n=false):=by
 unfold conf_Check.f
 rw [if_pos ⟨hul,hrl,fun u h=>(hu u h).1,fun r h=>⟨(hr r h).1,(hr r h).2.1⟩⟩]
 obtain ⟨m,hm,gm⟩:=many_tot us rts set drop n4 n5 n6 n7
 obtain ⟨b,hb,gb⟩:=right_tot us rts set drop n4 n5 n6 n7 (fun u h=>(hu u h).2) (fun r h=>⟨(hr r h).1,(hr r h).2.2⟩) hd k hk
 rw [hm,Option.bind_some]
 cases m
 ·rw [if_neg (by simp),hb,Option.bind_some]
  have:=gm rfl
  cases b
  ·exact ⟨1,by rw [if_neg (by simp)],fun e=>by cases e⟩
  ·exact ⟨_,by rw [if_pos rfl],fun _=>⟨this.2.2.1,this.2.2.2,(gb rfl).1,(gb rfl).2⟩⟩
 ·exact ⟨3,by rw [if_pos rfl],fun e=>by cases e⟩
/-- Fields but those of some names. -/
def withoutS (fs:List (S36)) (ns:List ByteArray):List (S36):=fs.filter (fun f => !(ns.any (fun n=>sameN n f.f0)))
theorem getS_app (p:ByteArray) (a b:List (S36)):getS p (a ++ b)=getS p a ++ getS p b:=by
 induction a with
 | nil=>rfl
 | cons f a ih =>
  rw [List.cons_append,getS,getS,ih]
  split <;> rfl
theorem any_f (q:ByteArray → Option Bool) (p:ByteArray → Bool) : ∀ l:List ByteArray,(∀ x ∈ l,q x=some (p x)) → anyO q l=some (l.any p)
 | [],_=>rfl
 | x :: r,h=>by
  rw [anyO,h x List.mem_cons_self,Option.bind_some,List.any_cons]
  cases hp:p x
  ·simp only [Bool.false_eq_true,if_false,Bool.false_or]
   exact any_f q p r (fun y hy=>h y (List.mem_cons_of_mem _ hy))
  ·simp
theorem Has_f (fs:List (S36)) (name part:ByteArray) (hf:FB fs) (hn:name.size ≤ 1048576) (hp:part.size ≤ 1048576) (k:Nat) (hk:1049600 ≤ k):field_Has.f k fs name part=some (hasS fs name part):=by
 unfold field_Has.f
 rw [List_f fs name hf hn k hk,Option.bind_some]
 exact any_f _ _ _ (fun x hx=>same_f x part (by have:=(list_bounds fs name hf).2 x hx;omega) (by omega))
theorem sameN_name (x p q:ByteArray) (h:(bytesOf p).map foldC=(bytesOf q).map foldC):sameN x p=sameN x q:=by unfold sameN;rw [h]
theorem getS_name (p q:ByteArray) (h:(bytesOf p).map foldC=(bytesOf q).map foldC) : ∀ fs,getS p fs=getS q fs
 | []=>rfl
 | f :: r=>by rw [getS,getS,sameN_name _ p q h,getS_name p q h r]
theorem listS_name (p q:ByteArray) (h:(bytesOf p).map foldC=(bytesOf q).map foldC) (fs:List (S36)):listS p fs=listS q fs:=by unfold listS;rw [getS_name p q h]
def connN:ByteArray:=⟨#[99,111,110,110,101,99,116,105,111,110]⟩
theorem conn_has (fs:List (S36)) (a:ByteArray):hasS fs (⟨#[67,111,110,110,101,99,116,105,111,110]⟩:ByteArray) a=hasS fs connN a:=by
 unfold hasS
 rw [listS_name ⟨#[67,111,110,110,101,99,116,105,111,110]⟩ connN (by decide +kernel)]
/-- Does a name begin with x-tollbar-? -/
def ownN (a:ByteArray):Bool:=decide (10 ≤ a.size) && ((strOfNums ((bytesOf a).map foldC)).extract 0 10).toList == [120,45,116,111,108,108,98,97,114,45]
/-- Does a field of a name not go on? -/
def hopS (fs:List (S36)) (a:ByteArray):Bool:=keptN a || (ownN a || hasS fs connN a)
theorem fold_size (a:ByteArray):(strOfNums ((bytesOf a).map foldC)).size=a.size:=by rw [str_len,List.length_map,bytesOf_length]
theorem Hop_f (fs:List (S36)) (a:ByteArray) (hf:FB fs) (ha:a.size ≤ 1048576) (k:Nat) (hk:1049600 ≤ k):scrub_Hop.f k fs a=some (hopS fs a):=by
 unfold scrub_Hop.f hopS
 rw [Kept_f a ha,Option.bind_some]
 cases keptN a
 ·rw [if_neg (by simp),Fold_f a (by omega),Option.bind_some,Bool.false_or]
  have hp:strings_HasPrefix.f (strOfNums ((bytesOf a).map foldC)) (⟨#[120,45,116,111,108,108,98,97,114,45]⟩:ByteArray)=some (ownN a):=by
   have hs:(⟨#[120,45,116,111,108,108,98,97,114,45]⟩:ByteArray).size=10:=rfl
   unfold strings_HasPrefix.f stringslite_HasPrefix.f ownN
   rw [hs,fold_size]
   by_cases h:10 ≤ a.size
   ·rw [if_pos (by omega),if_pos (by omega),if_pos (by omega),decide_eq_true h,toList_data (⟨#[120,45,116,111,108,108,98,97,114,45]⟩:ByteArray)];rfl
   ·rw [if_neg (by omega),decide_eq_false h];rfl
  rw [hp,Option.bind_some]
  cases ownN a
  ·rw [if_neg (by simp),Has_f fs _ a hf (by decide) ha k hk,Option.bind_some,conn_has,Bool.false_or]
  ·rw [if_pos rfl,Bool.true_or]
 ·rw [if_pos rfl,Bool.true_or]
/-- The fields that go on. -/
def onwS (fs:List (S36)):List (S36):=fs.filter (fun f => !hopS fs f.f0)
theorem onw_l0 (fs:List (S36)) (hf:FB fs) (d:Nat) : ∀ (k i:Nat) (out:List (S36)),i + d=fs.length → d + 1049600 ≤ k → out.length ≤ i →
 scrub_onward.l0 k fs out fs (fs.length:Int) (i:Int)=some (out ++ (fs.drop i).filter (fun f => !hopS fs f.f0)):=by
 have hfl:=hf.1
 induction d with
 | zero =>
  intro k i out hi hk ho
  obtain ⟨k,rfl⟩ : ∃ m,k=m + 1:=⟨k - 1,by omega⟩
  rw [scrub_onward.l0,if_neg (by omega),List.drop_of_length_le (by omega),List.filter_nil,List.append_nil]
 | succ d ih =>
  intro k i out hi hk ho
  obtain ⟨k,rfl⟩ : ∃ m,k=m + 1:=⟨k - 1,by omega⟩
  have hlt:i < fs.length:=by omega
  have hb:=hf.2 _ (List.getElem_mem hlt)
  have hw:wrap64 ((i:Int) + 1)=((i + 1:Nat):Int):=by unfold wrap64;omega
  rw [scrub_onward.l0,if_pos (by omega),if_pos (by omega),if_pos (by omega),rdT_at fs i hlt,Hop_f fs _ hf hb.1 k (by omega),Option.bind_some,hw,List.drop_eq_getElem_cons hlt,List.filter_cons]
  cases hs:hopS fs fs[i].f0
  ·rw [if_neg (by simp),if_pos (by omega),if_pos (by simp),ih k (i + 1) _ (by omega) (by omega) (by rw [List.length_append];simp;omega)]
   simp only [List.append_assoc,List.singleton_append]
  ·rw [if_pos rfl,if_neg (by simp),ih k (i + 1) _ (by omega) (by omega) (by omega)]
theorem onward_f (fs:List (S36)) (hf:FB fs) (k:Nat) (hk:1050600 ≤ k):scrub_onward.f k fs=some (onwS fs):=by
 have hfl:=hf.1
 have:=onw_l0 fs hf fs.length k 0 [] (by omega) (by omega) (Nat.zero_le _)
 rw [List.drop_zero,List.nil_append] at this
 exact this
theorem onwS_FB (fs:List (S36)) (hf:FB fs):FB (onwS fs):=⟨Nat.le_trans (List.length_filter_le _ _) hf.1,fun f h=>hf.2 f (List.mem_filter.1 h).1⟩
theorem kept_host:hostNm ∈ keptNames:=List.mem_cons_self ..
theorem kept_len:lenNm ∈ keptNames:=List.mem_cons_of_mem _ (List.mem_cons_self ..)
theorem Text_f (n:Int) (h0 : -9223372036854775808 ≤ n) (h1:n ≤ 9223372036854775807):sign_Text.f n=some ⟨(Lib.itoa n).toArray⟩:=by
 unfold sign_Text.f strconv_FormatInt_93.f strconv_FormatInt_145.f
 rw [if_pos rfl,if_pos ⟨h0,h1⟩]
 rfl
def lenN:ByteArray:=⟨#[67,111,110,116,101,110,116,45,76,101,110,103,116,104]⟩
/-- The field that tells a body's length. -/
def lenF (n:Int):S36:=⟨lenN,⟨(Lib.itoa n).toArray⟩⟩
theorem length_f (n:Int) (h0 : -9223372036854775808 ≤ n) (h1:n ≤ 9223372036854775807):scrub_length.f n=some ((lenF n).f0,(lenF n).f1):=by
 unfold scrub_length.f
 rw [Text_f n h0 h1,Option.bind_some]
 rfl
theorem blank_tells (b:UInt8):tollbarref02_blank.f (b.toNat:Int)=some (blk b):=by
 have h : ∀ n:Fin 256,tollbarref02_blank.f (n.val:Int)=some (blk (UInt8.ofNat n.val)):=by decide +kernel
 have:=h ⟨b.toNat,b.toNat_lt⟩
 rw [this]
 congr 2
 exact UInt8.ofNat_toNat
theorem trimR_ref (d:Nat) : ∀ (k:Nat) (x:List UInt8),x.length=d → x.length ≤ 4398046511104 → d + 1 ≤ k → (∀ a,x.head? = some a → blk a=false) →
 ∃ r post,tollbarref02_Trim.l1 k (mkS x)=some (mkS r)∧x=r ++ post∧Clean r ∧ ∀ a ∈ post,blk a=true:=by
 induction d with
 | zero =>
  intro k x hx hn hk hh
  obtain ⟨k,rfl⟩ : ∃ m,k=m + 1:=⟨k - 1,by omega⟩
  obtain rfl:x=[]:=List.eq_nil_of_length_eq_zero hx
  refine ⟨[],[],?_,rfl,⟨by simp,by simp⟩,by simp⟩
  simp only [tollbarref02_Trim.l1]
  rw [if_neg (by rw [mkS_size];simp)]
 | succ d ih =>
  intro k x hx hn hk hh
  obtain ⟨k,rfl⟩ : ∃ m,k=m + 1:=⟨k - 1,by omega⟩
  obtain ⟨y,b,rfl⟩ : ∃ y b,x=y ++ [b]:=⟨x.dropLast,x.getLast (by intro e;simp [e] at hx),(List.dropLast_concat_getLast _).symm⟩
  have hy:y.length=d:=by simpa using hx
  have hs:(mkS (y ++ [b])).size=d + 1:=by rw [mkS_size];simp [hy]
  have hw:wrap64 (((d + 1:Nat):Int) - 1)=((d:Nat):Int):=by unfold wrap64;omega
  have hb:bt (mkS (y ++ [b])) ((d:Nat):Int)=(b.toNat:Int):=by
   rw [bt_mk _ d (by simp;omega)]
   simp [← hy]
  have hex:(mkS (y ++ [b])).extract 0 d=mkS y:=by
   rw [mkS_extract,List.drop_zero,Nat.sub_zero,← hy,List.take_left]
  simp only [tollbarref02_Trim.l1]
  rw [hs,if_pos (by omega),hw,if_pos (by omega),if_pos (by omega),hb,blank_tells,Option.bind_some,Int.toNat_natCast,hex]
  cases hbl:blk b
  ·rw [if_neg (by simp)]
   exact ⟨y ++ [b],[],rfl,by simp,⟨hh,by intro a ha;simp at ha;rw [← ha];exact hbl⟩,by simp⟩
  ·rw [if_pos rfl,if_pos (by omega)]
   obtain ⟨r,post,h1,h2,h3,h4⟩:=ih k y hy (by omega) (by omega) (by
    intro a ha
    refine hh a ?_
    rw [List.head?_append,ha]
    rfl)
   refine ⟨r,post ++ [b],h1,by rw [h2];simp,h3,fun a ha=>?_⟩
   rcases List.mem_append.1 ha with ha|ha
   ·exact h4 a ha
   ·rw [List.mem_singleton.1 ha];exact hbl
theorem trimL_ref (n:Nat) (hn:n ≤ 4398046511104) (d:Nat) : ∀ (k:Nat) (x:List UInt8),x.length=d → d ≤ n → d + n + 4 ≤ k →
 ∃ r pre post,tollbarref02_Trim.l0 k (mkS x)=some (mkS r)∧x=pre ++ r ++ post∧Clean r∧(∀ a ∈ pre,blk a=true) ∧ ∀ a ∈ post,blk a=true:=by
 induction d with
 | zero =>
  intro k x hx hd hk
  obtain ⟨k,rfl⟩ : ∃ m,k=m + 2:=⟨k - 2,by omega⟩
  obtain rfl:x=[]:=List.eq_nil_of_length_eq_zero hx
  obtain ⟨r,post,h1,h2,h3,h4⟩:=trimR_ref 0 k [] rfl (by simp) (by omega) (by simp)
  refine ⟨r,[],post,?_,by simpa using h2,h3,by simp,h4⟩
  simp only [tollbarref02_Trim.l0]
  rw [if_neg (by rw [mkS_size];simp)]
  simp only [tollbarref02_Trim.j1]
  exact h1
 | succ d ih =>
  intro k x hx hd hk
  obtain ⟨k,rfl⟩ : ∃ m,k=m + 2:=⟨k - 2,by omega⟩
  obtain ⟨b,y,rfl⟩ : ∃ b y,x=b :: y:=by
   cases x with
   | nil=>simp at hx
   | cons b y=>exact ⟨b,y,rfl⟩
  have hy:y.length=d:=by simpa using hx
  have hs:(mkS (b :: y)).size=d + 1:=by rw [mkS_size];simp [hy]
  have hb:bt (mkS (b :: y)) 0=(b.toNat:Int):=bt_mk (b :: y) 0 (by simp)
  have hex:(mkS (b :: y)).extract 1 (d + 1)=mkS y:=by
   rw [mkS_extract]
   simp [← hy]
  simp only [tollbarref02_Trim.l0]
  rw [hs,if_pos (by omega),if_pos (by omega),hb,blank_tells,Option.bind_some]
  cases hbl:blk b
  ·rw [if_neg (by simp)]
   obtain ⟨r,post,h1,h2,h3,h4⟩:=trimR_ref (d + 1) k (b :: y) hx (by omega) (by omega) (by intro a ha;simp at ha;rw [← ha];exact hbl)
   refine ⟨r,[],post,?_,by simpa using h2,h3,by simp,h4⟩
   simp only [tollbarref02_Trim.j1]
   exact h1
  ·rw [if_pos rfl,if_pos (by omega),hex]
   obtain ⟨r,pre,post,h1,h2,h3,h4,h5⟩:=ih (k + 1) y hy (by omega) (by omega)
   refine ⟨r,b :: pre,post,h1,by rw [h2];simp,h3,fun a ha=>?_,h5⟩
   rcases List.mem_cons.1 ha with rfl|ha
   ·exact hbl
   ·exact h4 a ha
theorem refTrim_mk (x:List UInt8) (hn:x.length ≤ 4398046511104) (k:Nat) (hk:2 * x.length + 4 ≤ k):tollbarref02_Trim.f k (mkS x)=some (mkS (trm x)):=by
 obtain ⟨r,pre,post,h1,h2,h3,h4,h5⟩:=trimL_ref x.length hn x.length k x rfl (Nat.le_refl _) (by omega)
 unfold tollbarref02_Trim.f
 rw [h1,h2,trm_around pre r post h3 h4 h5]
/-- One part ends: what is told of it. -/
theorem part_ends (out:List ByteArray) (seg:List UInt8) (h:44 ∉ seg) (ho:out.length < 8796093022208) (R:List ByteArray → Option (List ByteArray)) :
 (if (mkS (trm seg)).toList=([]:List UInt8) then R out else (if out.length < 8796093022208 then R (out ++ [mkS (trm seg)]) else none))=R (out ++ (commaParts seg).map mkS):=by
 rw [comma_one seg h,mkS_toList]
 by_cases he:trm seg=[]
 ·rw [if_pos he,if_pos (by simpa using he)];simp
 ·rw [if_neg he,if_pos ho,if_neg (by simpa using he)];rfl
theorem refSplit_l0 (l : List UInt8) (hn : l.length ≤ 1048580) (d : Nat) : ∀ (k : Nat) (out : List ByteArray) (f i : Nat), f ≤ i → i + d = l.length → 44 ∉ (l.drop f).take (i - f) → out.length ≤ 2 * i → 3 * d + 2 * l.length + 20 ≤ k →
    tollbarref02_Split.l0 k (mkS l) out f i = some (out ++ (commaParts (l.drop f)).map mkS) := by
  induction d with
  | zero =>
    intro k out f i hf hi hs ho hk
    obtain ⟨k, rfl⟩ : ∃ m, k = m + 3 := ⟨k - 3, by omega⟩
    have hz : (mkS l).size = l.length := mkS_size l
    have hw : wrap64 ((i : Int) + 1) = (i : Int) + 1 := wn1 i (by omega)
    have ht : (l.drop f).take (i - f) = l.drop f := List.take_of_length_le (by rw [List.length_drop]; omega)
    have hend : ∀ o : List ByteArray, tollbarref02_Split.l0 (k + 1) (mkS l) o ((i : Int) + 1) ((i : Int) + 1) = some o := by
      intro o
      simp only [tollbarref02_Split.l0]
      rw [if_neg (by omega)]
    simp only [tollbarref02_Split.l0]
    rw [hz, if_pos (by omega), if_pos (by omega)]
    simp only [tollbarref02_Split.j1]
    rw [if_pos trivial, if_pos (by omega), if_pos (by omega), hz, if_pos (by omega), Int.toNat_natCast, Int.toNat_natCast, mkS_extract, refTrim_mk _ (by rw [List.length_take, List.length_drop]; omega) _ (by rw [List.length_take, List.length_drop]; omega), Option.bind_some, hw, hend, hend]
    rw [ht] at hs ⊢
    exact part_ends out _ hs (by omega) (fun o => some o)
  | succ d ih =>
    intro k out f i hf hi hs ho hk
    obtain ⟨k, rfl⟩ : ∃ m, k = m + 2 := ⟨k - 2, by omega⟩
    have hlt : i < l.length := by omega
    have hz : (mkS l).size = l.length := mkS_size l
    have hw : wrap64 ((i : Int) + 1) = ((i + 1 : Nat) : Int) := by rw [wn1 i (by omega)]; omega
    obtain ⟨e1, e2⟩ := seg_split l f i hf hlt
    have ih1 := fun o (h : o.length ≤ 2 * (i + 1)) => ih k o (i + 1) (i + 1) (Nat.le_refl _) (by omega) (by simp) h (by omega)
    have ih2 := fun h => ih k out f (i + 1) (by omega) (by omega) h (by omega) (by omega)
    simp only [tollbarref02_Split.l0]
    rw [hz, if_pos (by omega), if_neg (by omega), if_pos (by omega), if_pos (by omega), bt_mk l i hlt]
    simp only [tollbarref02_Split.j1]
    by_cases hc : l[i] = 44
    · have hb : (((l[i]).toNat : Int) == 44) = true := by rw [hc]; rfl
      rw [hb, if_pos rfl, if_pos (by omega), if_pos (by omega), hz, if_pos (by omega), Int.toNat_natCast, Int.toNat_natCast, mkS_extract, refTrim_mk _ (by rw [List.length_take, List.length_drop]; omega) _ (by rw [List.length_take, List.length_drop]; omega), Option.bind_some, hw]
      have hp := part_ends out ((l.drop f).take (i - f)) hs (by omega) (fun o => tollbarref02_Split.l0 k (mkS l) o ((i + 1 : Nat) : Int) ((i + 1 : Nat) : Int))
      refine hp.trans ?_
      have hlen : (commaParts ((l.drop f).take (i - f))).length ≤ 1 := by rw [comma_one _ hs]; split <;> simp
      rw [ih1 _ (by rw [List.length_append, List.length_map]; omega)]
      have e3 : commaParts (l.drop f) = commaParts ((l.drop f).take (i - f)) ++ commaParts (l.drop (i + 1)) := by
        rw [← comma_append]
        congr 1
        rw [← hc]
        exact e1
      rw [e3, List.map_append, List.append_assoc]
    · have hb : (((l[i]).toNat : Int) == 44) = false := by
        rw [beq_eq_false_iff_ne]
        intro e
        exact hc (UInt8.toNat_inj.1 (by show _ = 44; omega))
      rw [hb, if_neg (by simp), hw]
      refine ih2 ?_
      rw [e2]
      intro hm
      rcases List.mem_append.1 hm with hm | hm
      · exact hs hm
      · exact hc (List.mem_singleton.1 hm).symm
theorem refSplit_f (l:List UInt8) (hn:l.length ≤ 1048580) (k:Nat) (hk:5 * l.length + 20 ≤ k):tollbarref02_Split.f k (mkS l)=some ((commaParts l).map mkS):=by
 have:=refSplit_l0 l hn l.length k [] 0 0 (Nat.le_refl _) (by omega) (by simp) (by simp) (by omega)
 unfold tollbarref02_Split.f
 rw [show ((0:Nat):Int)=0 from rfl] at this
 rw [this]
 rfl
theorem refSame_f (a b:ByteArray) (ha:a.size ≤ 1048576) (hb:b.size ≤ 1048576) (k:Nat) (hk:1048578 ≤ k):tollbarref04_same.f k a b=some (sameN a b):=by
 unfold tollbarref04_same.f
 rw [refFold_f a (by omega) k (by omega),refFold_f b (by omega) k (by omega),Fold_f a (by omega),Fold_f b (by omega),Option.bind_some,Option.bind_some,str_inj (bytes_fold (bytes_of a)) (bytes_fold (bytes_of b))]
 rfl
theorem refGet_l0 (name:ByteArray) (hn:name.size ≤ 1048576) (fs:List (S36)) (hf:FB fs) (d:Nat) : ∀ (k i:Nat) (out:List ByteArray),i + d=fs.length → d + 1048580 ≤ k → out.length ≤ i →
 tollbarref04_Get.l0 k fs name out (i:Int)=some (out ++ getS name (fs.drop i)):=by
 have hfl:=hf.1
 induction d with
 | zero =>
  intro k i out hi hk ho
  obtain ⟨k,rfl⟩ : ∃ m,k=m + 1:=⟨k - 1,by omega⟩
  rw [tollbarref04_Get.l0,if_neg (by omega),List.drop_of_length_le (by omega),getS,List.append_nil]
 | succ d ih =>
  intro k i out hi hk ho
  obtain ⟨k,rfl⟩ : ∃ m,k=m + 1:=⟨k - 1,by omega⟩
  have hlt:i < fs.length:=by omega
  have hb:=hf.2 _ (List.getElem_mem hlt)
  have hw:wrap64 ((i:Int) + 1)=((i + 1:Nat):Int):=by unfold wrap64;omega
  rw [tollbarref04_Get.l0,if_pos (by omega),if_pos (by omega),rdT_at fs i hlt,refSame_f _ _ (by omega) (by omega) k (by omega),Option.bind_some,hw,List.drop_eq_getElem_cons hlt,getS]
  by_cases hs:sameN fs[i].f0 name=true
  ·rw [if_pos hs,if_pos hs,if_pos (by omega),ih k (i + 1) _ (by omega) (by omega) (by rw [List.length_append];simp;omega)]
   simp only [List.append_assoc,List.singleton_append]
  ·rw [if_neg hs,if_neg hs,ih k (i + 1) _ (by omega) (by omega) (by omega)]
theorem refGet_f (fs:List (S36)) (name:ByteArray) (hf:FB fs) (hn:name.size ≤ 1048576) (k:Nat) (hk:1049600 ≤ k):tollbarref04_Get.f k fs name=some (getS name fs):=by
 have hfl:=hf.1
 have:=refGet_l0 name hn fs hf fs.length k 0 [] (by omega) (by omega) (Nat.zero_le _)
 rw [List.drop_zero,List.nil_append] at this
 exact this
theorem refList_l1 (vs:List ByteArray) (x7:Int) (ps:List ByteArray) (hpl:ps.length ≤ 2000000) (R:Nat → List ByteArray → Option (List ByteArray)) (hR : ∀ k out,R k out=tollbarref04_List.l0 k out vs (wrap64 (x7 + 1))) (d:Nat) : ∀ (k i:Nat) (out:List ByteArray),i + d=ps.length → out.length + d < 8796093022208 →
 tollbarref04_List.l1 (k + 1 + d) out vs x7 ps (i:Int)=R k (out ++ ps.drop i):=by
 induction d with
 | zero =>
  intro k i out hi ho
  rw [Nat.add_zero,tollbarref04_List.l1,if_neg (by omega),List.drop_of_length_le (by omega),List.append_nil,hR]
 | succ d ih =>
  intro k i out hi ho
  have hlt:i < ps.length:=by omega
  have hw:wrap64 ((i:Int) + 1)=((i + 1:Nat):Int):=by unfold wrap64;omega
  rw [show k + 1 + (d + 1)=(k + 1 + d) + 1 by omega,tollbarref04_List.l1,if_pos (by omega),if_pos (by omega),if_pos (by omega),rdB_at ps i hlt,hw,ih k (i + 1) _ (by omega) (by rw [List.length_append];simp;omega),List.drop_eq_getElem_cons hlt]
  simp only [List.append_assoc,List.singleton_append]
theorem refList_l0 (vs:List ByteArray) (hl:vs.length ≤ 1000) (hv : ∀ v ∈ vs,v.size ≤ 1048576) (C E:Nat) (hC:1048580 ≤ C) (hE:8000000 ≤ E) (d:Nat) : ∀ (k i:Nat) (out:List ByteArray),i + d=vs.length → d * C + E ≤ k → out.length ≤ 1048577 * i →
 tollbarref04_List.l0 k out vs (i:Int)=some (out ++ (vs.drop i).flatMap partsS):=by
 induction d with
 | zero =>
  intro k i out hi hk ho
  obtain ⟨k,rfl⟩ : ∃ m,k=m + 1:=⟨k - 1,by omega⟩
  rw [tollbarref04_List.l0,if_neg (by omega),List.drop_of_length_le (by omega),List.flatMap_nil,List.append_nil]
 | succ d ih =>
  intro k i out hi hk ho
  rw [Nat.succ_mul] at hk
  obtain ⟨X,hX⟩ : ∃ X,X=d * C:=⟨_,rfl⟩
  rw [← hX] at hk
  have HX:=Aside0.mk hX
  clear hX
  obtain ⟨k,rfl⟩ : ∃ m,k=m + 1:=⟨k - 1,by omega⟩
  have hlt:i < vs.length:=by omega
  have hw:wrap64 ((i:Int) + 1)=((i + 1:Nat):Int):=by unfold wrap64;omega
  have HW:=Aside0.mk hw
  clear hw
  have hb:=hv _ (List.getElem_mem hlt)
  have hp:=parts_len vs[i]
  have hsp:=refSplit_f vs[i].data.toList (by rw [data_length];omega) k (by rw [data_length];omega)
  rw [mkS_self] at hsp
  have e:(commaParts vs[i].data.toList).map mkS=partsS vs[i]:=rfl
  rw [tollbarref04_List.l0,if_pos (Int.ofNat_lt.2 hlt),if_pos (Int.natCast_nonneg i),rdB_at vs i hlt,hsp,Option.bind_some,List.drop_eq_getElem_cons hlt,List.flatMap_cons,e]
  obtain ⟨j,hj⟩ : ∃ j,k=j + 1 + (partsS vs[i]).length:=⟨k - 1 - (partsS vs[i]).length,by omega⟩
  have h1:=refList_l1 vs (i:Int) (partsS vs[i]) (by omega) _ (fun _ _=>rfl) (partsS vs[i]).length j 0 out (by omega) (by omega)
  rw [← hj,List.drop_zero] at h1
  have h2:tollbarref04_List.l1 k out vs (i:Int) (partsS vs[i]) 0=tollbarref04_List.l0 j (out ++ partsS vs[i]) vs (wrap64 ((i:Int) + 1)):=h1
  have hj2:d * C + E ≤ j:=by rw [← HX.out];omega
  have h3:=ih j (i + 1) (out ++ partsS vs[i]) (by omega) hj2 (by have hla := @List.length_append _ out (partsS vs[i]);omega)
  rw [h2,HW.out,h3,List.append_assoc]
theorem refList_f (fs:List (S36)) (name:ByteArray) (hf:FB fs) (hn:name.size ≤ 1048576) (k:Nat) (hk:1057000000 ≤ k):tollbarref04_List.f k fs name=some (listS name fs):=by
 obtain ⟨h1,h2⟩:=get_bounds fs name hf
 unfold tollbarref04_List.f
 rw [refGet_f fs name hf hn k (by omega),Option.bind_some]
 obtain ⟨C,hC⟩ : ∃ C,C=1048580:=⟨_,rfl⟩
 obtain ⟨E,hE⟩ : ∃ E,E=8000000:=⟨_,rfl⟩
 have h3:(getS name fs).length * C ≤ 1000 * C:=Nat.mul_le_mul_right _ h1
 have h4:(getS name fs).length * C + E ≤ k:=by
  have h5:1000 * C=1048580000:=by rw [hC]
  omega
 have:=refList_l0 (getS name fs) h1 h2 C E (by omega) (by omega) (getS name fs).length k 0 [] (by omega) h4 (by simp)
 rw [List.drop_zero,List.nil_append] at this
 exact this
theorem refIn_l0 (name:ByteArray) (hn:name.size ≤ 1048576) (ns:List ByteArray) (hl:ns.length ≤ 2000000000) (hs : ∀ n ∈ ns,n.size ≤ 1048576) (d:Nat) : ∀ (k i:Nat),i + d=ns.length → d + 1048580 ≤ k →
 tollbarref04_In.l0 k ns name (i:Int)=some ((ns.drop i).any (fun p=>sameN p name)):=by
 induction d with
 | zero =>
  intro k i hi hk
  obtain ⟨k,rfl⟩ : ∃ m,k=m + 1:=⟨k - 1,by omega⟩
  rw [tollbarref04_In.l0,if_neg (by omega),List.drop_of_length_le (by omega),List.any_nil]
 | succ d ih =>
  intro k i hi hk
  obtain ⟨k,rfl⟩ : ∃ m,k=m + 1:=⟨k - 1,by omega⟩
  have hlt:i < ns.length:=by omega
  have hb:=hs _ (List.getElem_mem hlt)
  have hw:wrap64 ((i:Int) + 1)=((i + 1:Nat):Int):=by unfold wrap64;omega
  rw [tollbarref04_In.l0,if_pos (by omega),if_pos (by omega),rdB_at ns i hlt,refSame_f _ _ (by omega) (by omega) k (by omega),Option.bind_some,hw,List.drop_eq_getElem_cons hlt,List.any_cons,ih k (i + 1) (by omega) (by omega)]
  cases sameN ns[i] name <;> simp
theorem refIn_f (ns:List ByteArray) (name:ByteArray) (hl:ns.length ≤ 2000000000) (hs : ∀ n ∈ ns,n.size ≤ 1048576) (hn:name.size ≤ 1048576) (k:Nat) (hk:ns.length + 1048580 ≤ k):tollbarref04_In.f k ns name=some (ns.any (fun p=>sameN p name)):=by
 have:=refIn_l0 name hn ns hl hs ns.length k 0 (by omega) (by omega)
 rw [List.drop_zero] at this
 exact this
theorem wo_l0 (fs:List (S36)) (ns:List ByteArray) (hf:FB fs) (hn : ∀ n ∈ ns,n.size ≤ 1048576) (d:Nat) : ∀ (k i:Nat) (out:List (S36)),i + d=fs.length → d < k → out.length ≤ i →
 field_Without.l0 k fs ns out (i:Int)=some (out ++ (fs.drop i).filter (fun f => !(ns.any (fun n=>sameN n f.f0)))):=by
 have hfl:=hf.1
 induction d with
 | zero =>
  intro k i out hi hk ho
  obtain ⟨k,rfl⟩ : ∃ m,k=m + 1:=⟨k - 1,by omega⟩
  rw [field_Without.l0,if_neg (by omega),List.drop_of_length_le (by omega),List.filter_nil,List.append_nil]
 | succ d ih =>
  intro k i out hi hk ho
  obtain ⟨k,rfl⟩ : ∃ m,k=m + 1:=⟨k - 1,by omega⟩
  have hlt:i < fs.length:=by omega
  have hb:=hf.2 _ (List.getElem_mem hlt)
  have hw:wrap64 ((i:Int) + 1)=((i + 1:Nat):Int):=by unfold wrap64;omega
  have ha:anyO (fun n=>sign_Same.f n (rd_T36 fs (i:Int)).f0) ns=some (ns.any (fun n=>sameN n fs[i].f0)):=by
   rw [rdT_at fs i hlt]
   exact any_f _ _ _ (fun x hx=>same_f x _ (by have:=hn x hx;omega) (by omega))
  rw [field_Without.l0,if_pos (by omega),if_pos (by omega),ha,Option.bind_some,hw,List.drop_eq_getElem_cons hlt,List.filter_cons,rdT_at fs i hlt]
  cases hs:ns.any (fun n=>sameN n fs[i].f0)
  ·rw [if_neg (by simp),if_pos (by omega),if_pos (by simp),ih k (i + 1) _ (by omega) (by omega) (by rw [List.length_append];simp;omega)]
   simp only [List.append_assoc,List.singleton_append]
  ·rw [if_pos rfl,if_neg (by simp),ih k (i + 1) _ (by omega) (by omega) (by omega)]
theorem Without_f (fs:List (S36)) (ns:List ByteArray) (hf:FB fs) (hn : ∀ n ∈ ns,n.size ≤ 1048576) (k:Nat) (hk:fs.length < k):field_Without.f k fs ns=some (withoutS fs ns):=by
 have:=wo_l0 fs ns hf hn fs.length k 0 [] (by omega) hk (Nat.zero_le _)
 rw [List.drop_zero,List.nil_append] at this
 exact this
/-- Is a body's length told? -/
def needS (m:ByteArray) (b:List Int):Bool:=decide ((b.length:Int) > 0) || ((m.toList == [80,79,83,84]) || ((m.toList == [80,85,84]) || (m.toList == [80,65,84,67,72])))
def reqFields (m:ByteArray) (fs:List (S36)) (b:List Int) (set:List (S36)) (drop:List ByteArray) (h:ByteArray):List (S36) :=
 (((⟨(⟨#[72,111,115,116]⟩:ByteArray),h⟩:S36) :: withoutS (onwS fs) (drop ++ set.map (·.f0))) ++ set) ++ (if needS m b=true then [lenF (b.length:Int)] else [])
theorem req_names (h t : ByteArray) (set : List (S36)) (hs : set.length ≤ 1000) (m tg : ByteArray) (mi : Int) (fs : List (S36)) (b : List Int) (us : List (S83)) (rts : List (S85)) (set2 : List (S36)) (drop : List ByteArray) (n4 n5 n6 n7 : Int) (d : Nat) :
    ∀ (K i : Nat) (x9 : List ByteArray), i + d = set.length → x9.length + d ≤ 100000 → scrub_Request.l0 (K + d) h t x9 set (set.length : Int) (i : Int) m tg mi fs b us rts set2 drop n4 n5 n6 n7 = scrub_Request.l0 K h t (x9 ++ (set.drop i).map (·.f0)) set (set.length : Int) (set.length : Int) m tg mi fs b us rts set2 drop n4 n5 n6 n7 := by
  induction d with
  | zero => intro K i x9 hi _; obtain rfl : i = set.length := by omega
            rw [List.drop_of_length_le (Nat.le_refl _), List.map_nil, List.append_nil, Nat.add_zero]
  | succ d ih =>
    intro K i x9 hi hx
    have hlt : i < set.length := by omega
    have hw : wrap64 ((i : Int) + 1) = ((i + 1 : Nat) : Int) := by unfold wrap64; omega
    rw [show K + (d + 1) = (K + d) + 1 by omega, scrub_Request.l0, if_pos (by omega), if_pos (by omega), if_pos (by omega), if_pos (by omega), rdT_at set i hlt, hw, ih K (i + 1) _ (by omega) (by rw [List.length_append]; simp; omega), List.drop_eq_getElem_cons hlt, List.map_cons, List.append_assoc]
    rfl
theorem req_j1 (t:ByteArray) (fs:List (S36)) (hfl:fs.length ≤ 100000) (m tg:ByteArray) (mi:Int) (ofs:List (S36)) (b:List Int) (hb:b.length ≤ 4000000) (need:Bool) (k:Nat) :
 scrub_Request.j1 (k + 1) t fs need m tg mi ofs b=some (m,t,1,fs ++ (if need=true then [lenF (b.length:Int)] else []),b):=by
 have hcl:bytes_Clone.f b=some b:=if_pos (by omega)
 rw [scrub_Request.j1]
 cases need
 ·rw [if_neg (by simp),hcl,Option.bind_some,if_neg (by simp),List.append_nil]
 ·rw [if_pos rfl,length_f _ (by omega) (by omega),Option.bind_some,if_pos (by omega),hcl,Option.bind_some,if_pos rfl]
theorem Request12_f (m tg:ByteArray) (mi:Int) (fs:List (S36)) (b:List Int) (us:List (S83)) (rts:List (S85)) (set:List (S36)) (drop:List ByteArray) (n4 n5 n6 n7:Int) (h t:ByteArray)
 (hf:FB fs) (hs:FB set) (hd:drop.length ≤ 1000 ∧ ∀ n ∈ drop,n.size ≤ 1048576) (hb:b.length ≤ 4000000) (k:Nat) (hk:1060000 ≤ k) :
 scrub_Request.f k m tg mi fs b us rts set drop n4 n5 n6 n7 h t=some (m,t,1,reqFields m fs b set drop h,b):=by
 have hsl:=hs.1
 have hof:=onwS_FB fs hf
 have hol:=hof.1
 have hcl:slices_Clone_string_string.f drop=some drop:=if_pos (by omega)
 have hgone : ∀ n ∈ drop ++ set.map (·.f0),n.size ≤ 1048576:=by
  intro n hn
  rcases List.mem_append.1 hn with hn|hn
  ·exact hd.2 n hn
  ·obtain ⟨f,hm,rfl⟩:=List.mem_map.1 hn;exact (hs.2 f hm).1
 obtain ⟨K,rfl⟩ : ∃ K,k=(K + 2) + set.length:=⟨k - 2 - set.length,by omega⟩
 have hw:(withoutS (onwS fs) (drop ++ set.map (·.f0))).length ≤ 1000:=Nat.le_trans (List.length_filter_le _ _) hol
 have h1:=req_names h t set hsl m tg mi fs b us rts set drop n4 n5 n6 n7 set.length (K + 2) 0 drop (by omega) (by omega)
 rw [List.drop_zero] at h1
 unfold scrub_Request.f
 rw [hcl,Option.bind_some]
 refine Eq.trans h1 ?_
 have hh1 : ∀ y:List (S36),(y=[(⟨(⟨#[72,111,115,116]⟩:ByteArray),h⟩:S36)]) → y.length=1:=fun y e=>by rw [e];rfl
 rw [scrub_Request.l0,if_neg (by omega),Option.bind_some,onward_f fs hf (K + 1) (by omega),Option.bind_some,Without_f (onwS fs) _ hof hgone (K + 1) (by omega),Option.bind_some,if_pos (by simp only [List.length_cons,List.length_nil];omega),Option.bind_some,
  if_pos (by simp only [List.length_append,List.length_cons,List.length_nil];omega),Option.bind_some]
 have hbig:(([(⟨(⟨#[72,111,115,116]⟩:ByteArray),h⟩:S36)] ++ withoutS (onwS fs) (drop ++ set.map (·.f0))) ++ set).length ≤ 100000:=by simp only [List.length_append,List.length_cons,List.length_nil];omega
 unfold reqFields needS
 by_cases c1:(b.length:Int) > 0
 ·rw [if_pos c1,decide_eq_true c1,req_j1 t _ hbig m tg mi fs b hb true K,Bool.true_or]
  rfl
 ·rw [if_neg c1,decide_eq_false c1,Bool.false_or]
  by_cases c2:m.toList=[80,79,83,84]
  ·rw [if_pos c2,req_j1 t _ hbig m tg mi fs b hb _ K,beq_iff_eq.2 c2,Bool.true_or]
   rfl
  ·rw [if_neg c2,beq_eq_false_iff_ne.2 c2,Bool.false_or]
   by_cases c3:m.toList=[80,85,84]
   ·rw [if_pos c3,req_j1 t _ hbig m tg mi fs b hb _ K,beq_iff_eq.2 c3,Bool.true_or]
    rfl
   ·rw [if_neg c3,req_j1 t _ hbig m tg mi fs b hb _ K,beq_eq_false_iff_ne.2 c3,Bool.false_or]
    rfl
theorem cl_list:([99,111,110,116,101,110,116,45,108,101,110,103,116,104]:List UInt8)=lenNm.toList:=by decide +kernel
theorem cl_is (a:ByteArray):((clFold a).toList=([99,111,110,116,101,110,116,45,108,101,110,103,116,104]:List UInt8))=(sameN lenNm a=true):=by
 rw [cl_list]
 exact fold_is a lenNm (by decide +kernel)
theorem cl_keptno (a p:ByteArray) (hp:p ∈ keptNames) (h:keptN a=false):sameN p a=false:=by
 cases hs:sameN p a with
 | false=>rfl
 | true =>
  have:keptN a=true:=List.any_eq_true.2 ⟨p,hp,hs⟩
  rw [h] at this
  cases this
theorem cl_comm (a b:ByteArray):sameN a b=sameN b a:=by unfold sameN;rw [decide_eq_decide];exact eq_comm
theorem cl_fold (a:ByteArray) (ha:a.size ≤ 1048576) (k:Nat) (hk:1048580 ≤ k):tollbarref02_Fold.f k a=some (clFold a)∧(clFold a).size ≤ 1048576:=by
 refine ⟨?_,?_⟩
 ·rw [refFold_f a (by omega) k (by omega),Fold_f a (by omega)]
  rfl
 ·have:=fold_size a
  unfold clFold
  omega
theorem cl_lens_app (a b:List (S36)):clLens (a ++ b)=clLens a + clLens b:=by unfold clLens;rw [List.filter_append,List.length_append]
theorem cl_lens_no (a:List (S36)) (h : ∀ f ∈ a,keptN f.f0=false):clLens a=0:=by
 unfold clLens
 rw [List.length_eq_zero_iff,List.filter_eq_nil_iff]
 intro f hf hd
 have h1:=of_decide_eq_true hd
 rw [cl_is,cl_keptno f.f0 lenNm kept_len (h f hf)] at h1
 cases h1
theorem cl_has (set:List (S36)) (f:S36) (h:f ∈ set):hasB (set.map fun f=>clFold f.f0) (clFold f.f0)=true:=(hasB_mem _ _).2 (List.mem_map.2 ⟨clFold f.f0,List.mem_map.2 ⟨f,h,rfl⟩,rfl⟩)
/-- What goes out behind the first field. -/
def cl_tail (m:ByteArray) (fs:List (S36)) (b:List Int) (set:List (S36)) (drop:List ByteArray):List (S36) :=
 (withoutS (onwS fs) (drop ++ set.map (·.f0)) ++ set) ++ (if needS m b=true then [lenF (b.length:Int)] else [])
theorem cl_req (m:ByteArray) (fs:List (S36)) (b:List Int) (set:List (S36)) (drop:List ByteArray) (h:ByteArray):reqFields m fs b set drop h=(⟨(⟨#[72,111,115,116]⟩:ByteArray),h⟩:S36) :: cl_tail m fs b set drop:=rfl
theorem cl_onw (fs:List (S36)) (ns:List ByteArray) (f:S36) (h:f ∈ withoutS (onwS fs) ns):f ∈ fs∧hopS fs f.f0=false∧ns.any (fun n=>sameN n f.f0)=false:=by
 obtain ⟨h1,h2⟩:=List.mem_filter.1 h
 obtain ⟨h3,h4⟩:=List.mem_filter.1 h1
 refine ⟨h3,?_,?_⟩
 ·cases hh:hopS fs f.f0 with
  | false=>rfl
  | true=>rw [hh] at h4;cases h4
 ·cases hh:ns.any (fun n=>sameN n f.f0) with
  | false=>rfl
  | true=>rw [hh] at h2;cases h2
theorem cl_hop (fs:List (S36)) (a:ByteArray) (h:hopS fs a=false):keptN a=false∧hasS fs connN a=false:=by
 unfold hopS at h
 cases h1:keptN a
 ·cases h2:hasS fs connN a
  ·exact ⟨rfl,rfl⟩
  ·rw [h1,h2] at h
   cases h3:ownN a <;> rw [h3] at h <;> cases h
 ·rw [h1] at h
  cases h
theorem cl_get (m : ByteArray) (fs : List (S36)) (b : List Int) (set : List (S36)) (drop : List ByteArray) (h : ByteArray) (f : S36) (hf : f ∈ set) (hk : keptN f.f0 = false) : getS f.f0 (reqFields m fs b set drop h) = getS f.f0 set := by
  have e0 : reqFields m fs b set drop h = [(⟨(⟨#[72, 111, 115, 116]⟩ : ByteArray), h⟩ : S36)] ++ ((withoutS (onwS fs) (drop ++ set.map (·.f0)) ++ set) ++ (if needS m b = true then [lenF (b.length : Int)] else [])) := rfl
  have a1 : getS f.f0 [(⟨(⟨#[72, 111, 115, 116]⟩ : ByteArray), h⟩ : S36)] = [] := getS_none _ _ (fun q hq => by
    rw [List.mem_singleton.1 hq, cl_comm]
    show sameN f.f0 hostNM = false
    rw [sameN_name f.f0 hostNM hostNm (by decide +kernel), cl_comm]
    exact cl_keptno f.f0 hostNm kept_host hk)
  have a2 : getS f.f0 (withoutS (onwS fs) (drop ++ set.map (·.f0))) = [] := getS_none _ _ (fun q hq => by
    have h1 := (cl_onw fs _ q hq).2.2
    rw [List.any_append, Bool.or_eq_false_iff] at h1
    cases hs : sameN q.f0 f.f0 with
    | false => rfl
    | true =>
      have : ((set.map (·.f0)).any fun n => sameN n q.f0) = true := List.any_eq_true.2 ⟨f.f0, List.mem_map.2 ⟨f, hf, rfl⟩, by rw [cl_comm]; exact hs⟩
      rw [h1.2] at this
      cases this)
  have a3 : getS f.f0 (if needS m b = true then [lenF (b.length : Int)] else []) = [] := by
    split
    · exact getS_none _ _ (fun q hq => by
        rw [List.mem_singleton.1 hq, cl_comm]
        show sameN f.f0 lenNM = false
        rw [sameN_name f.f0 lenNM lenNm (by decide +kernel), cl_comm]
        exact cl_keptno f.f0 lenNm kept_len hk)
    · rfl
  rw [e0, getS_app, getS_app, getS_app, a1, a2, a3, List.nil_append, List.nil_append, List.append_nil]
theorem cl_count (m : ByteArray) (fs : List (S36)) (b : List Int) (set : List (S36)) (drop : List ByteArray) (hs : ∀ f ∈ set, keptN f.f0 = false) : clLens (cl_tail m fs b set drop) ≤ 1 ∧ (clLens (cl_tail m fs b set drop) = 1 ∨ b.length = 0) := by
  unfold cl_tail
  rw [cl_lens_app, cl_lens_app, cl_lens_no _ (fun f hf => (cl_hop fs f.f0 (cl_onw fs _ f hf).2.1).1), cl_lens_no set hs]
  cases hn : needS m b
  · have hz : b.length = 0 := by
      unfold needS at hn
      simp only [Bool.or_eq_false_iff, decide_eq_false_iff_not] at hn
      omega
    rw [if_neg (by simp)]
    exact ⟨by show 0 + 0 + 0 ≤ 1; omega, Or.inr hz⟩
  · have h1 : clLens [lenF (b.length : Int)] = 1 := by
      unfold clLens
      rw [List.filter_cons, if_pos (decide_eq_true (by rw [cl_is]; show sameN lenNm lenNM = true; decide +kernel)), List.filter_nil]
      rfl
    rw [if_pos rfl, h1]
    exact ⟨by omega, Or.inl (by omega)⟩
/-- What the law asks holds. -/
theorem clean_all (m:ByteArray) (fs:List (S36)) (b:List Int) (set:List (S36)) (drop:List ByteArray) (hf:FB fs) (hfl:fs.length ≤ 60) (hs:set.length ≤ 16 ∧ ∀ f ∈ set,rightB f.f0 f.f1=true∧keptN f.f0=false) (hd:drop.length ≤ 16 ∧ ∀ n ∈ drop,n.size ≤ 1048576) (k:Nat) (hk:1060000000 ≤ k) (hb:b.length ≤ 1048576) :
 cleanD k fs set drop (listS connN fs) b ((⟨(⟨#[72,111,115,116]⟩:ByteArray),(⟨#[104,111,115,116]⟩:ByteArray)⟩:S36) :: cl_tail m fs b set drop) (cl_tail m fs b set drop)=true:=by
 have hFBs:FB set:=right_FB set (by omega) (fun f h=>(hs.2 f h).1)
 have hset : ∀ f ∈ set,f.f0.size ≤ 1048576∧f.f1.size ≤ 1048576:=hFBs.2
 have hlen:(lenF (b.length:Int)).f0.size ≤ 1048576∧(lenF (b.length:Int)).f1.size ≤ 1048576:=by
  have h1:=Lib.itoa_length_le (b.length:Int) (by omega) (by omega)
  exact ⟨by show lenN.size ≤ 1048576;decide +kernel,by show (Lib.itoa (b.length:Int)).toArray.size ≤ 1048576;rw [List.size_toArray];omega⟩
 have htail : ∀ f ∈ cl_tail m fs b set drop,(f ∈ withoutS (onwS fs) (drop ++ set.map (·.f0)) ∨ f ∈ set ∨ f=lenF (b.length:Int))∧f.f0.size ≤ 1048576∧f.f1.size ≤ 1048576:=by
  intro f h
  unfold cl_tail at h
  rcases List.mem_append.1 h with h|h
  ·rcases List.mem_append.1 h with h|h
   ·exact ⟨Or.inl h,hf.2 f (cl_onw fs _ f h).1⟩
   ·exact ⟨Or.inr (Or.inl h),hset f h⟩
  ·split at h
   ·have:=List.mem_singleton.1 h
    exact ⟨Or.inr (Or.inr this),by rw [this];exact hlen⟩
   ·cases h
 have hw:(withoutS (onwS fs) (drop ++ set.map (·.f0))).length ≤ 60:=Nat.le_trans (Nat.le_trans (List.length_filter_le _ _) (List.length_filter_le _ _)) hfl
 have hFB:FB ((⟨(⟨#[72,111,115,116]⟩:ByteArray),(⟨#[104,111,115,116]⟩:ByteArray)⟩:S36) :: cl_tail m fs b set drop):=by
  refine ⟨?_,fun f h=>?_⟩
  ·unfold cl_tail
   have:=hs.1
   split <;> simp only [List.length_append,List.length_cons,List.length_nil] <;> omega
  ·rcases List.mem_cons.1 h with rfl|h
   ·exact ⟨by decide +kernel,by decide +kernel⟩
   ·exact (htail f h).2
 unfold cleanD
 rw [Bool.and_eq_true,Bool.and_eq_true,Bool.and_eq_true,Bool.and_eq_true]
 refine ⟨decide_eq_true fun f h=>cl_fold f.f0 (hset f h).1 k (by omega),decide_eq_true fun f h=>cl_fold f.f0 (htail f h).2.1 k (by omega),decide_eq_true fun f h hl hh=>?_,decide_eq_true fun f h=>?_,decide_eq_true (cl_count m fs b set drop (fun f h=>(hs.2 f h).2))⟩
 ·have hz:=(htail f h).2.1
  rcases (htail f h).1 with h1|h1|h1
  ·obtain ⟨g1,g2,g3⟩:=cl_onw fs _ f h1
   obtain ⟨g4,g5⟩:=cl_hop fs f.f0 g2
   rw [List.any_append,Bool.or_eq_false_iff] at g3
   have hlb:=list_bounds fs connN hf
   refine ⟨by rw [Kept_f f.f0 hz,g4],?_,?_,by rw [Hop_f fs f.f0 hf hz k (by omega),g2]⟩
   ·rw [refIn_f (listS connN fs) f.f0 (by omega) hlb.2 hz k (by omega)]
    exact congrArg some g5
   ·rw [refIn_f drop f.f0 (by omega) hd.2 hz k (by omega),g3.1]
  ·rw [cl_has set f h1] at hh
   cases hh
  ·refine absurd ?_ hl
   rw [h1,cl_is]
   show sameN lenNm lenNM=true
   decide +kernel
 ·have hz:=(hset f h).1
  have hg:=cl_get m fs b set drop (⟨#[104,111,115,116]⟩:ByteArray) f h (hs.2 f h).2
  rw [cl_req] at hg
  rw [refGet_f _ f.f0 hFB hz k (by omega),hg]
  refine ⟨rfl,?_⟩
  unfold tollbarlaw12_count.f
  rw [refGet_f set f.f0 hFBs hz k (by omega)]
  rfl
theorem ScrubCleanU (m tg:ByteArray) (mi:Int) (fs:List (S36)) (b:List Int) (us:List (S83)) (rts:List (S85)) (set:List (S36)) (drop:List ByteArray) (n4 n5 n6 n7:Int)
 (h0:(m.size ≤ 1048576∧m.size ≤ maxLen)∧((tg.size ≤ 1048576∧tg.size ≤ maxLen)∧((Lit.int .i64 mi).wf=true∧((fs.length ≤ 1048576∧fs.length ≤ maxLen ∧ ∀ x ∈ fs,(x.f0.size ≤ 1048576∧x.f0.size ≤ maxLen)∧(x.f1.size ≤ 1048576∧x.f1.size ≤ maxLen))∧(b.length ≤ 1048576∧b.length ≤ maxLen ∧ ∀ x ∈ b,(Lit.int .u8 x).wf=true)))))
 (h1:(us.length ≤ 1048576∧us.length ≤ maxLen ∧ ∀ x ∈ us,(x.f0.size ≤ 1048576∧x.f0.size ≤ maxLen)∧(x.f1.length ≤ 1048576∧x.f1.length ≤ maxLen ∧ ∀ y ∈ x.f1,y.size ≤ 1048576∧y.size ≤ maxLen)) ∧
  ((rts.length ≤ 1048576∧rts.length ≤ maxLen ∧ ∀ x ∈ rts,(x.f0.size ≤ 1048576∧x.f0.size ≤ maxLen)∧((x.f1.size ≤ 1048576∧x.f1.size ≤ maxLen)∧(x.f2.size ≤ 1048576∧x.f2.size ≤ maxLen))) ∧
  ((set.length ≤ 1048576∧set.length ≤ maxLen ∧ ∀ x ∈ set,(x.f0.size ≤ 1048576∧x.f0.size ≤ maxLen)∧(x.f1.size ≤ 1048576∧x.f1.size ≤ maxLen)) ∧
  ((drop.length ≤ 1048576∧drop.length ≤ maxLen ∧ ∀ y ∈ drop,y.size ≤ 1048576∧y.size ≤ maxLen) ∧
  ((Lit.int .i64 n4).wf=true∧((Lit.int .i64 n5).wf=true∧((Lit.int .i64 n6).wf=true∧(Lit.int .i64 n7).wf=true))))))) : ∃ k,tollbarlaw12_ScrubClean.f k m tg mi fs b us rts set drop n4 n5 n6 n7=some true:=by
 refine ⟨1070000000,?_⟩
 obtain ⟨_,_,_,⟨_,_,hfs⟩,hbl,_⟩:=h0
 obtain ⟨g1,g2,g3,g4,_⟩:=h1
 obtain ⟨e,he,hee⟩:=check_tot us rts set drop n4 n5 n6 n7 (by omega) (by omega) (fun u h=>⟨by have:=(g1.2.2 u h).1.1;omega,fun a ha=>by have:=((g1.2.2 u h).2.2.2 a ha).1;omega⟩) (fun r h=>⟨by have:=(g2.2.2 r h).1.1;omega,by have:=(g2.2.2 r h).2.1.1;omega,by have:=(g2.2.2 r h).2.2.1;omega⟩) (fun n h=>by have:=(g4.2.2 n h).1;omega) 1070000000 (by omega)
 unfold tollbarlaw12_ScrubClean.f tollbarlaw12_few.f
 by_cases c1:(fs.length:Int) ≤ 60
 ·rw [if_pos c1,Option.bind_some]
  by_cases c2:(drop.length:Int) ≤ 60
  ·rw [decide_eq_true c2,if_neg (by simp),he,Option.bind_some]
   by_cases c3:e=0
   ·obtain ⟨s1,s2,s3,s4⟩:=hee c3
    have hF:FB fs:=⟨by omega,fun f h=>⟨(hfs f h).1.1,(hfs f h).2.1⟩⟩
    have hFBs:FB set:=right_FB set (by omega) (fun f h=>(s3 f h).1)
    have hdr : ∀ n ∈ drop,n.size ≤ 1048576:=fun n h=>(g4.2.2 n h).1
    have hR:=Request12_f m tg mi fs b us rts set drop n4 n5 n6 n7 (⟨#[104,111,115,116]⟩:ByteArray) (⟨#[47,116]⟩:ByteArray) hF hFBs ⟨by omega,hdr⟩ (by omega) 1070000000 (by omega)
    have hL:=refList_f fs connN hF (by decide +kernel) 1070000000 (by omega)
    have hL2:tollbarref04_List.f 1070000000 fs (⟨#[99,111,110,110,101,99,116,105,111,110]⟩:ByteArray)=some (listS connN fs):=hL
    have hw:(withoutS (onwS fs) (drop ++ set.map (·.f0))).length ≤ fs.length:=Nat.le_trans (List.length_filter_le _ _) (List.length_filter_le _ _)
    have ht:(cl_tail m fs b set drop).length ≤ 4000:=by
     unfold cl_tail
     split <;> simp only [List.length_append,List.length_cons,List.length_nil] <;> omega
    rw [c3,if_neg (by simp),if_pos s1,hR,Option.bind_some,hL2,Option.bind_some]
    simp only [cl_req]
    rw [if_pos ⟨trivial,trivial,ht,clean_all m fs b set drop hF (by omega) ⟨s1,s3⟩ ⟨s2,hdr⟩ 1070000000 (by omega) (by omega)⟩]
   ·rw [if_pos c3]
  ·rw [decide_eq_false c2,if_pos rfl]
 ·rw [if_neg c1,Option.bind_some,if_pos rfl]
end Go.Proofs.YtagffbblalldiaaGreatDoor.Pure
