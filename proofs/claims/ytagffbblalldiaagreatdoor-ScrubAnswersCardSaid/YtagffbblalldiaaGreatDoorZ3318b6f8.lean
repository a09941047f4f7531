/- Each function below answers as its Lean twin says; plain lemmas; a row where its theorem stands. No further condition. (Laid by this repo's pack.py out of its texts and of the print's words.) -/
import Derived.Test.YtagffbblalldiaaGreatDoorZe19cbdcb
import Derived.Test.YtagffbblalldiaaGreatDoorZ4c79f450
import Derived.Test.YtagffbblalldiaaGreatDoorZc114a82b
import Derived.Test.YtagffbblalldiaaGreatDoorZ8a4eba18
import Derived.Test.YtagffbblalldiaaGreatDoorZ7d4f9367
import Derived.Lib.SlBytesConst
import Derived.Lib.Itoa
import Derived.Lib.IndexBytes
import Derived.Lib.Strings
import Derived.Shelf.Strings.SlTrimAscii
import Derived.Lib.SlTrimSet
import Derived.Lib.LastIndexByte
namespace Go.Proofs.YtagffbblalldiaaGreatDoor.P
open Go.RowKit Go.Proofs.YtagffbblalldiaaGreatDoorW.PrintWords Go.Proofs.YtagffbblalldiaaGreatDoorW.PrintLast Go.Proofs.YtagffbblalldiaaGreatDoorW.PrintMore
attribute [local go_sem] max2_int min2_int max_two min_two max_three min_three max_four min_four
set_option linter.unusedVariables false
set_option linter.unusedSimpArgs false
def al12_fs:List (S36):=[⟨⟨#[72,111,115,116]⟩,⟨#[104]⟩⟩,⟨⟨#[88]⟩,⟨#[49]⟩⟩,⟨⟨#[67,111,110,110,101,99,116,105,111,110]⟩,⟨#[120,44,32,99,108,111,115,101]⟩⟩,⟨⟨#[89]⟩,⟨#[50]⟩⟩]
def al12_out:List (S36):=[⟨⟨#[72,111,115,116]⟩,⟨#[104]⟩⟩,⟨⟨#[89]⟩,⟨#[50]⟩⟩,⟨⟨#[90]⟩,⟨#[51]⟩⟩]
def al12_len (n:Int):S36:=⟨⟨#[67,111,110,116,101,110,116,45,76,101,110,103,116,104]⟩,⟨(Lib.itoa n).toArray⟩⟩
theorem al12_1:scrub_Request.f 60 ⟨#[71,69,84]⟩ ⟨#[47]⟩ 1 al12_fs [] [] [] [⟨⟨#[90]⟩,⟨#[51]⟩⟩] [] 0 0 0 0 ⟨#[104]⟩ ⟨#[47,110]⟩=some (⟨#[71,69,84]⟩,⟨#[47,110]⟩,1,al12_out,[]):=by kernel_rfl
theorem al12_2:scrub_Own.f 404 true=some (404,⟨#[78,111,116,32,70,111,117,110,100]⟩,1,[al12_len 0,⟨⟨#[67,111,110,110,101,99,116,105,111,110]⟩,⟨#[99,108,111,115,101]⟩⟩],[]):=by kernel_rfl
theorem al12_3:scrub_Response.f 60 200 ⟨#[79,75]⟩ 0 al12_fs [97,98] ⟨#[71,69,84]⟩ false=some (200,⟨#[79,75]⟩,1,[⟨⟨#[89]⟩,⟨#[50]⟩⟩,al12_len 2],[97,98]):=by kernel_rfl
theorem al12_4:tollbarref04_Same.f 60 al12_out al12_out=some true:=by kernel_rfl
theorem al12_5:scrub_Hop.f 60 al12_fs ⟨#[120]⟩=some true:=by kernel_rfl
theorem al12_6:scrub_Hop.f 60 al12_fs ⟨#[121]⟩=some false:=by kernel_rfl
theorem al12_7:(⟨(Lib.itoa 2).toArray⟩:ByteArray)=⟨#[50]⟩:=by
 simp [Lib.itoa,Lib.decDigits_one]
def tollbarlaw12_alive.f:Option Bool:=some true
/-- The cells of fields in a row. -/
def fcells (xs:List (S36)):List Value:=xs.flatMap fun x=>[.string x.f0,.string x.f1]
theorem fcells_get : ∀ (xs:List (S36)) (j i:Nat) (x:S36) (u:Value),xs[j]? = some x → ([Value.string x.f0,.string x.f1])[i]? = some u → (fcells xs)[j * 2 + i]? = some u
 | [],j,i,x,u,h,_=>by simp at h
 | y :: r,0,i,x,u,h,hu=>by
  simp only [List.getElem?_cons_zero,Option.some.injEq] at h
  subst h
  have hi:i < 2:=by have:=(List.getElem?_eq_some_iff.1 hu).1;simpa using this
  show ([Value.string y.f0,.string y.f1] ++ fcells r)[0 * 2 + i]? = some u
  rw [Nat.zero_mul,Nat.zero_add,List.getElem?_append_left (by simpa using hi)]
  exact hu
 | y :: r,j + 1,i,x,u,h,hu=>by
  have hi:i < 2:=by have:=(List.getElem?_eq_some_iff.1 hu).1;simpa using this
  show ([Value.string y.f0,.string y.f1] ++ fcells r)[(j + 1) * 2 + i]? = some u
  rw [List.getElem?_append_right (by simp;omega)]
  have:=fcells_get r j i x u (by simpa using h) hu
  rw [show (j + 1) * 2 + i - ([Value.string y.f0,.string y.f1]:List Value).length=j * 2 + i by simp;omega]
  exact this
/-- A row of fields that a literal laid. -/
theorem C_fields (W:World) (g e:Nat) (xs:List (S36)) (fr:Nat × Nat) (hb:W.heap[g]? = some (.cells (fcells xs).toArray e fr)) (hm:xs.length ≤ 9223372036854775807):Kd.C k36 W (some ⟨g,0,none⟩) xs.length xs:=by
 refine ⟨rfl,hm,fun _=>⟨_,rfl,fun j x hj=>⟨[.string x.f0,.string x.f1],rfl,k36_mk W x,fun i u hu=>?_⟩⟩⟩
 rw [add_plain,cell_of_row _ _ _ _ _ _ hb]
 rw [List.getElem?_toArray]
 exact fcells_get xs j i x u hj hu
def al12_w (w:World):World:=(((w.alloc (.cells (fcells al12_fs).toArray 36)).alloc (.cells #[.string ⟨#[71,69,84]⟩,.string ⟨#[47]⟩,.int .i64 1,.slice (some ⟨w.heap.size,0,none⟩) 4 4,.slice none 0 0] 26)).alloc (.cells (fcells [⟨⟨#[90]⟩,⟨#[51]⟩⟩]).toArray 36)).alloc (.cells #[.slice none 0 0,.slice none 0 0,.slice (some ⟨w.heap.size + 1 + 1,0,none⟩) 1 1,.slice none 0 0,.int .i64 0,.int .i64 0,.int .i64 0,.int .i64 0] 46)
theorem al12_b0 (w:World):(al12_w w).heap[w.heap.size]? = some (.cells (fcells al12_fs).toArray 36):=blk_alloc (blk_alloc (blk_alloc (blk_new w _) _) _) _
theorem al12_b1 (w:World):(al12_w w).heap[w.heap.size + 1]? = some (.cells #[.string ⟨#[71,69,84]⟩,.string ⟨#[47]⟩,.int .i64 1,.slice (some ⟨w.heap.size,0,none⟩) 4 4,.slice none 0 0] 26):=by
 have h:=blk_new (w.alloc (.cells (fcells al12_fs).toArray 36)) (.cells #[.string ⟨#[71,69,84]⟩,.string ⟨#[47]⟩,.int .i64 1,.slice (some ⟨w.heap.size,0,none⟩) 4 4,.slice none 0 0] 26)
 have hz:(w.alloc (.cells (fcells al12_fs).toArray 36)).heap.size=w.heap.size + 1:=by simp
 rw [hz] at h
 exact blk_alloc (blk_alloc h _) _
theorem al12_b2 (w:World):(al12_w w).heap[w.heap.size + 1 + 1]? = some (.cells (fcells [⟨⟨#[90]⟩,⟨#[51]⟩⟩]).toArray 36):=by
 have h:=blk_new ((w.alloc (.cells (fcells al12_fs).toArray 36)).alloc (.cells #[.string ⟨#[71,69,84]⟩,.string ⟨#[47]⟩,.int .i64 1,.slice (some ⟨w.heap.size,0,none⟩) 4 4,.slice none 0 0] 26)) (.cells (fcells [⟨⟨#[90]⟩,⟨#[51]⟩⟩]).toArray 36)
 have hz:((w.alloc (.cells (fcells al12_fs).toArray 36)).alloc (.cells #[.string ⟨#[71,69,84]⟩,.string ⟨#[47]⟩,.int .i64 1,.slice (some ⟨w.heap.size,0,none⟩) 4 4,.slice none 0 0] 26)).heap.size=w.heap.size + 1 + 1:=by simp
 rw [hz] at h
 exact blk_alloc h _
theorem al12_below (w:World):Below w.heap.size w (al12_w w):=below_alloc (below_alloc (below_alloc (below_alloc (Below.refl _ _) _) _) _) _
set_option maxHeartbeats 8000000 in
set_option maxRecDepth 100000 in
theorem tollbarlaw12_alive.calls (r:Bool) (w:World) (h:tollbarlaw12_alive.f=some r) (ht:Tabs w) :
 Calls Tryz.prog 27 #[] w fun e w' => e = .returned (.bool r)∧Below w.heap.size w w' := by
 obtain rfl:=Option.some.inj h
 clear h
 have HTB:=Aside0.mk ht
 clear ht
 have hu1:=Tryz.underlying26
 have hu2:=Tryz.underlying46
 have hu3:=Tryz.underlying62
 have hu4:=Tryz.underlying36
 have kc:=fun (w:World) (C:Array Value) (n c:Nat)=>Lib.run_convert_bytes_const (P:=Tryz.prog) w 22 5 C n c Tryz.underlying22 Tryz.underlying5
 go_enter Tryz.func27,Tryz.ntmps27
 go_wp2_with fail
 go_at_call 30
 refine (scrub_Request.calls 60 ⟨#[71,69,84]⟩ ⟨#[47]⟩ 1 _ _ al12_fs _ _ [] _ _ [] _ _ [] _ _ [⟨⟨#[90]⟩,⟨#[51]⟩⟩] _ _ [] 0 0 0 0 ⟨#[104]⟩ ⟨#[47,110]⟩ _ _ _ _ _ (al12_w w) (C_fields _ _ _ _ _ (al12_b0 w) zb33) (Nat.le_refl _) (Kd.C_nil _ _) (Nat.le_refl _) (Kd.C_nil _ _) (Nat.le_refl _) (Kd.C_nil _ _) (Nat.le_refl _) (C_fields _ _ _ _ _ (al12_b2 w) zb33) (Nat.le_refl _) (Kd.C_nil _ _) (Nat.le_refl _) al12_1 (HTB.out.below (al12_below w))).mono ?_
 rintro e w1 ⟨v1,v2,rfl,hr1,hr2,hb⟩
 obtain ⟨A1,c1,rfl,hl1,hC1⟩:=Kd.R_reads hr1
 obtain ⟨A2,c2,rfl⟩:=Kd.R_slice hr2
 have B1:=Aside0.mk (below_step (al12_below w) hb)
 have R1:=Aside0.mk hC1
 have F0:=Aside0.mk (blk_below (al12_b0 w) hb)
 have F1:=Aside0.mk (blk_below (al12_b1 w) hb)
 clear hr1 hr2 hC1 hb
 go_wp2_with fail
 go_at_call 42
 refine (scrub_Own.calls 404 true _ _ _ _ _ _ al12_2 (HTB.out.below (below_alloc B1.out _))).mono ?_
 rintro e w2 ⟨v3,v4,rfl,hr3,hr4,hb⟩
 obtain ⟨A3,c3,rfl⟩:=Kd.R_slice hr3
 obtain ⟨A4,c4,rfl⟩:=Kd.R_slice hr4
 have B2:=Aside0.mk (below_step (below_alloc B1.out _) hb)
 have R2:=Aside0.mk (Kd.C_below (Kd.C_alloc R1.out _) hb)
 have G0:=Aside0.mk (blk_below (blk_alloc F0.out _) hb)
 have G1:=Aside0.mk (blk_below (blk_alloc F1.out _) hb)
 have G3:=Aside0.mk (blk_below (blk_new w1 _) hb)
 clear hr3 hr4 hb B1 R1 F0 F1
 have k1:(w2.alloc (.cells #[.int .i64 404,.string ⟨#[78,111,116,32,70,111,117,110,100]⟩,.int .i64 1,.slice A3 2 c3,.slice A4 0 c4] 62)).cell? ⟨w.heap.size + 1,3,none⟩=some (.slice (some ⟨w.heap.size,0,none⟩) 4 4):=(blk_cell (blk_alloc G1.out _) 3).trans rfl
 have hz:(w2.alloc (.cells #[.int .i64 404,.string ⟨#[78,111,116,32,70,111,117,110,100]⟩,.int .i64 1,.slice A3 2 c3,.slice A4 0 c4] 62)).heap.size=w2.heap.size + 1:=by simp
 have kc:=Lib.run_convert_bytes_const (P:=Tryz.prog) (w2.alloc (.cells #[.int .i64 404,.string ⟨#[78,111,116,32,70,111,117,110,100]⟩,.int .i64 1,.slice A3 2 c3,.slice A4 0 c4] 62)) 22 5 #[.int .u8 97,.int .u8 98] 2 2 Tryz.underlying22 Tryz.underlying5
 rw [hz] at kc
 have hcb:=C_const (w2.alloc (.cells #[.int .i64 404,.string ⟨#[78,111,116,32,70,111,117,110,100]⟩,.int .i64 1,.slice A3 2 c3,.slice A4 0 c4] 62)) 5 [97,98] (2,3) zb33
 rw [hz] at hcb
 have HCB:=Aside0.mk hcb
 clear hcb hz
 go_wp2_with fail
 go_at_call 40
 refine (scrub_Response.calls 60 200 ⟨#[79,75]⟩ 0 _ _ al12_fs _ _ [97,98] ⟨#[71,69,84]⟩ false _ _ _ _ _ _ (C_fields _ _ _ _ _ (blk_alloc (blk_alloc G0.out _) _) zb33) (Nat.le_refl _) HCB.out (Nat.le_refl _) al12_3 (HTB.out.below (below_alloc (below_alloc B2.out _) _))).mono ?_
 rintro e w3 ⟨v5,v6,rfl,hr5,hr6,hb⟩
 obtain ⟨A5,c5,rfl,hl5,hC5⟩:=Kd.R_reads hr5
 obtain ⟨A6,c6,rfl⟩:=Kd.R_slice hr6
 have B3:=Aside0.mk (below_step (below_alloc (below_alloc B2.out _) _) hb)
 have R3:=Aside0.mk (Kd.C_below (Kd.C_alloc (Kd.C_alloc R2.out _) _) hb)
 have H0:=Aside0.mk (blk_below (blk_alloc (blk_alloc G0.out _) _) hb)
 have H1:=Aside0.mk (blk_below (blk_alloc (blk_alloc G1.out _) _) hb)
 have H3:=Aside0.mk (blk_below (blk_alloc (blk_alloc G3.out _) _) hb)
 have H4:=Aside0.mk (blk_below (blk_alloc (blk_new w2 (.cells #[.int .i64 404,.string ⟨#[78,111,116,32,70,111,117,110,100]⟩,.int .i64 1,.slice A3 2 c3,.slice A4 0 c4] 62)) _) hb)
 have R5:=Aside0.mk hC5
 have R6:=Aside0.mk hr6
 clear B2 R2 G0 G1 G3 hr5 hC5 hb kc k1
 have s1:(w3.alloc (.cells #[.int .i64 200,.string ⟨#[79,75]⟩,.int .i64 1,.slice A5 2 c5,.slice A6 2 c6] 62)).cell? ⟨w1.heap.size,1,none⟩=some (.string ⟨#[47,110]⟩):=(blk_cell (blk_alloc H3.out _) 1).trans rfl
 have s2:(w3.alloc (.cells #[.int .i64 200,.string ⟨#[79,75]⟩,.int .i64 1,.slice A5 2 c5,.slice A6 2 c6] 62)).cell? ⟨w1.heap.size,2,none⟩=some (.int .i64 1):=(blk_cell (blk_alloc H3.out _) 2).trans rfl
 have s3:(w3.alloc (.cells #[.int .i64 200,.string ⟨#[79,75]⟩,.int .i64 1,.slice A5 2 c5,.slice A6 2 c6] 62)).cell? ⟨w1.heap.size,3,none⟩=some (.slice A1 3 c1):=(blk_cell (blk_alloc H3.out _) 3).trans rfl
 have hz:(w3.alloc (.cells #[.int .i64 200,.string ⟨#[79,75]⟩,.int .i64 1,.slice A5 2 c5,.slice A6 2 c6] 62)).heap.size=w3.heap.size + 1:=by simp
 have hlit:=C_fields ((w3.alloc (.cells #[.int .i64 200,.string ⟨#[79,75]⟩,.int .i64 1,.slice A5 2 c5,.slice A6 2 c6] 62)).alloc (.cells (fcells al12_out).toArray 36)) (w3.alloc (.cells #[.int .i64 200,.string ⟨#[79,75]⟩,.int .i64 1,.slice A5 2 c5,.slice A6 2 c6] 62)).heap.size 36 al12_out (0,0) (blk_new _ _) zb33
 rw [hz] at hlit
 have HLIT:=Aside0.mk hlit
 clear hlit hz
 go_wp2_with fail
 go_at_call 26
 refine (tollbarref04_Same.calls 60 _ _ al12_out _ _ al12_out true ((w3.alloc (.cells #[.int .i64 200,.string ⟨#[79,75]⟩,.int .i64 1,.slice A5 2 c5,.slice A6 2 c6] 62)).alloc (.cells (fcells al12_out).toArray 36)) (Kd.C_alloc (Kd.C_alloc R3.out _) _) hl1 HLIT.out (Nat.le_refl _) al12_4).mono ?_
 rintro e w4 ⟨rfl,hd⟩
 have hb:Below ((w3.alloc (.cells #[.int .i64 200,.string ⟨#[79,75]⟩,.int .i64 1,.slice A5 2 c5,.slice A6 2 c6] 62)).alloc (.cells (fcells al12_out).toArray 36)).heap.size ((w3.alloc (.cells #[.int .i64 200,.string ⟨#[79,75]⟩,.int .i64 1,.slice A5 2 c5,.slice A6 2 c6] 62)).alloc (.cells (fcells al12_out).toArray 36)) w4:=by
  obtain ⟨n,rfl⟩:=hd.out
  exact pw_below_drewN (Below.refl _ _) _
 have B4:=Aside0.mk (below_step (below_alloc (below_alloc B3.out _) _) hb)
 have J0:=Aside0.mk (blk_below (blk_alloc (blk_alloc H0.out _) _) hb)
 have J1:=Aside0.mk (blk_below (blk_alloc (blk_alloc H1.out _) _) hb)
 have J4:=Aside0.mk (blk_below (blk_alloc (blk_alloc H4.out _) _) hb)
 have J5:=Aside0.mk (blk_below (blk_alloc (blk_new w3 (.cells #[.int .i64 200,.string ⟨#[79,75]⟩,.int .i64 1,.slice A5 2 c5,.slice A6 2 c6] 62)) _) hb)
 have R7:=Aside0.mk (Kd.C_below (Kd.C_alloc (Kd.C_alloc R5.out _) _) hb)
 have R8:=Aside0.mk (Kd.R_below (Kd.R_alloc (Kd.R_alloc R6.out _) _) hb)
 clear hd hb B3 H0 H1 H4 R5 R6 R3 H3 HLIT s1 s2 s3
 have o0:w4.cell? ⟨w2.heap.size,0,none⟩=some (.int .i64 404):=(blk_cell J4.out 0).trans rfl
 have o3:w4.cell? ⟨w2.heap.size,3,none⟩=some (.slice A3 2 c3):=(blk_cell J4.out 3).trans rfl
 have p3:w4.cell? ⟨w3.heap.size,3,none⟩=some (.slice A5 2 c5):=(blk_cell J5.out 3).trans rfl
 have p4:w4.cell? ⟨w3.heap.size,4,none⟩=some (.slice A6 2 c6):=(blk_cell J5.out 4).trans rfl
 have r3:w4.cell? ⟨w.heap.size + 1,3,none⟩=some (.slice (some ⟨w.heap.size,0,none⟩) 4 4):=(blk_cell J1.out 3).trans rfl
 have hcv:(convert 22 9 (.slice A6 2 c6)).run Tryz.prog w4 = .ok (.string ⟨#[97,98]⟩) w4:=own_string (P:=Tryz.prog) Tryz.underlying22 Tryz.underlying5 Tryz.underlying9 (Kd.own_of_R R8.out)
 obtain ⟨ad5,e5,x50,x51⟩:=at_T36 R7.out 1 zb33 zb33
 have y51:w4.cell? ⟨(ad5.add 2).block,(ad5.add 2).off + 1,none⟩=some (.string ⟨#[50]⟩):=by
  have h:=x51
  rw [show (rd_T36 [⟨⟨#[89]⟩,⟨#[50]⟩⟩,al12_len 2] 1).f1=⟨#[50]⟩ from al12_7] at h
  exact h
 have z51:w4.cell? ⟨ad5.block,ad5.off + 2 + 1,none⟩=some (.string ⟨#[50]⟩):=by
  have h1:(ad5.add 2).block=ad5.block:=by simp [Addr.add]
  have h2:(ad5.add 2).off=ad5.off + 2:=by simp [Addr.add]
  rw [h1,h2] at y51
  exact y51
 subst e5
 clear x50 x51 y51
 go_wp2_with fail
 go_at_call 35
 refine (scrub_Hop.calls 60 _ _ al12_fs ⟨#[120]⟩ true w4 (C_fields _ _ _ _ _ J0.out zb33) (Nat.le_refl _) al12_5).mono ?_
 rintro e w5 ⟨rfl,hb⟩
 have r35:=pw_cell_below hb r3
 have K0:=Aside0.mk (blk_below J0.out hb)
 have B5:=Aside0.mk (below_step B4.out hb)
 clear hb
 go_wp2_with fail
 go_at_call 35
 refine (scrub_Hop.calls 60 _ _ al12_fs ⟨#[121]⟩ false w5 (C_fields _ _ _ _ _ K0.out zb33) (Nat.le_refl _) al12_6).mono ?_
 rintro e w6 ⟨rfl,hb⟩
 have B6:=Aside0.mk (below_step B5.out hb)
 clear hb
 go_wp2
 go_ret
 exact ⟨zb114,B6.out⟩
mutual
def tollbarlaw12_ScrubAnswers.j0:Nat → List Int → ByteArray → Bool → List Int → Bool → Option (Bool)
 | 0,_,_,_,_,_=>none
 | k + 1,x0,x1,x2,x3,x26=>if x26=true then (some true) else ((http_Response.f k x0 x1 true).bind fun bt905=>(if bt905.2.2.2.2.2.1=0 then (tollbarlaw12_ScrubAnswers.j1 k x1 x2 x3 true bt905.1 bt905.2.1 bt905.2.2.1 bt905.2.2.2.1 bt905.2.2.2.2.1) else (tollbarlaw12_ScrubAnswers.j1 k x1 x2 x3 (!bt905.2.2.2.2.2.2) bt905.1 bt905.2.1 bt905.2.2.1 bt905.2.2.2.1 bt905.2.2.2.2.1)))
def tollbarlaw12_ScrubAnswers.j1:Nat → ByteArray → Bool → List Int → Bool → Int → ByteArray → Int → List (S36) → List Int → Option (Bool)
 | 0,_,_,_,_,_,_,_,_,_=>none
 | k + 1,x1,x2,x3,x39,x917000,x917001,x917002,x917003,x917004=>if x39=true then (some true) else ((scrub_Response.f k x917000 x917001 x917002 x917003 x917004 x1 x2).bind fun bt917=>((http_WriteResponse.f k bt917.1 bt917.2.1 bt917.2.2.1 bt917.2.2.2.1 bt917.2.2.2.2).bind fun t927=>(if (wrap64 ((t927.length:Int) - (bt917.2.2.2.2.length:Int))) > 2048 then (tollbarlaw12_ScrubAnswers.j2 k x1 x3 t927 true x917000 x917001 x917002 x917003 x917004 bt917.1 bt917.2.1 bt917.2.2.1 bt917.2.2.2.1 bt917.2.2.2.2) else (tollbarlaw12_ScrubAnswers.j2 k x1 x3 t927 (decide ((bt917.2.2.2.1.length:Int) > 40)) x917000 x917001 x917002 x917003 x917004 bt917.1 bt917.2.1 bt917.2.2.1 bt917.2.2.2.1 bt917.2.2.2.2))))
def tollbarlaw12_ScrubAnswers.j2:Nat → ByteArray → List Int → List Int → Bool → Int → ByteArray → Int → List (S36) → List Int → Int → ByteArray → Int → List (S36) → List Int → Option (Bool)
 | 0,_,_,_,_,_,_,_,_,_,_,_,_,_,_=>none
 | k + 1,x1,x3,x13,x58,x917000,x917001,x917002,x917003,x917004,x927000,x927001,x927002,x927003,x927004=>if x58=true then (some true) else ((some (([]:List Int):List Int)).bind fun y930=>(if y930.length + x13.length < 140737488355328 then ((some (y930 ++ x13:List Int)).bind fun y933=>(if y933.length + x3.length < 140737488355328 then ((http_Response.f k (y933 ++ x3) x1 false).bind fun bt939=>(if bt939.2.2.2.2.2.2=true then (if bt939.2.2.2.2.2.1=(x13.length:Int) then (if bt939.1=x917000 then ((tollbarref01_SameBytes.f k bt939.2.2.2.2.1 x927004).bind fun t951=>(if t951=true then ((tollbarref04_Same.f k bt939.2.2.2.1 x927003).bind fun t952=>(some t952)) else (some false))) else (some false)) else (some false)) else (some false))) else (none))) else (none)))
end
def tollbarlaw12_ScrubAnswers.f (k:Nat) (l0:List Int) (a1:ByteArray) (a2:Bool) (l3:List Int):Option (Bool):=(tollbarlaw12_alive.f).bind fun t904=>(if t904=true then (if (l0.length:Int) > 6000 then (tollbarlaw12_ScrubAnswers.j0 k l0 a1 a2 l3 true) else (tollbarlaw12_ScrubAnswers.j0 k l0 a1 a2 l3 (decide ((l3.length:Int) > 1000)))) else (some false))
set_option maxHeartbeats 8000000 in
set_option maxRecDepth 100000 in
theorem tollbarlaw12_ScrubAnswers.calls (k:Nat) (A0:Option Addr) (c0:Nat) (l0:List Int) (a1:ByteArray) (a2:Bool) (A3:Option Addr) (c3:Nat) (l3:List Int) (r:Bool) (w:World) (hr0:Kd.C (Kd.int .u8) w A0 l0.length l0) (hc0:l0.length ≤ c0) (hr3:Kd.C (Kd.int .u8) w A3 l3.length l3) (hc3:l3.length ≤ c3) (h:tollbarlaw12_ScrubAnswers.f k l0 a1 a2 l3=some r) (hr:r=true) (ht:Tabs w) :
 Calls Tryz.prog 8 #[.slice A0 l0.length c0,.string a1,.bool a2,.slice A3 l3.length c3] w fun e w' => e = .returned (.bool r)∧Below w.heap.size w w' := by
 have HTB:=Aside0.mk ht
 clear ht
 have HRT:=Aside0.mk hr
 clear hr
 have hu62:=Tryz.underlying62
 have HR0:=Aside0.mk hr0
 have HC0:=Aside0.mk hc0
 clear hr0 hc0
 have HR3:=Aside0.mk hr3
 have HC3:=Aside0.mk hc3
 clear hr3 hc3
 have HB:=Aside0.mk (Below.refl w.heap.size w)
 unfold tollbarlaw12_ScrubAnswers.f at h
 have H:=h
 clear h
 replace H:=Option.bind_eq_some_iff.mp H
 obtain ⟨t904,A50,H⟩:=H
 try dsimp only at H
 have A5:=Aside0.mk A50
 clear A50
 by_cases c6:t904=true;rotate_left
 ·replace c6:=Bool.eq_false_iff.mpr c6
  subst c6
  rw [if_neg (show ¬ (false=true) by decide)] at H
  exact absurd ((Option.some.inj H).trans HRT.out) zb33
 subst c6
 rw [if_pos rfl] at H
 have HC7:=Aside0.mk H
 clear H
 go_enter Tryz.func8,Tryz.ntmps8
 go_upto_region 3 with (first|((with_reducible refine gate_callee (f:=27) rfl ?_);refine goesL_ (some 17) rfl rfl Tryz.func27 zb9 rfl #[] rfl zb1 ?_;(with_reducible refine (tollbarlaw12_alive.calls  true _ A5.out ?hT).mono ?_);(case hT=>exact HTB.out.below zb57);rintro e w8 ⟨rfl,hb⟩;refine ⟨_,rfl,?_⟩;replace HB:=Aside0.mk (below_step zb0 hb);(try clear hb)))
 (try simp only [Act.put,zqA,zqB,zqC])
 go_cut [26] (fun v26 wc => ∃ (kq:Nat) (x26_6:Bool),v26 = .bool x26_6∧Aside0 (tollbarlaw12_ScrubAnswers.j0 kq l0 a1 a2 l3 x26_6=some r)∧Aside0 (kq ≤ k)∧Aside0 (Below w.heap.size w wc))
 case first =>
  have H:=HC7.out
  clear HC7
  by_cases c9:(l0.length:Int) > 6000
  ·rw [if_pos c9] at H
   have c9b0:decide (6000 < (l0.length:Int))=true:=decide_eq_true c9
   have c9b1:decide (6000 < l0.length)=true:=decide_eq_true zb62
   clear c9
   (first|rw [c9b0]|(simp only [i64_w,i32_w];rw [c9b0])|rw [c9b1]|skip)
   have H' := Aside0.mk H
   clear H
   go_wp2
   go_meet
   case rel=>exact ⟨_,(true),zb8,H',⟨zb79⟩,⟨zb0⟩⟩
  rw [if_neg c9] at H
  have c9b0:decide (6000 < (l0.length:Int))=false:=decide_eq_false c9
  have c9b1:decide (6000 < l0.length)=false:=decide_eq_false zb62
  clear c9
  (first|rw [c9b0]|(simp only [i64_w,i32_w];rw [c9b0])|rw [c9b1]|skip)
  have H' := Aside0.mk H
  clear H
  go_wp2
  go_meet
  case rel=>exact ⟨_,(decide ((l3.length:Int) > 1000)),zb8,H',⟨zb79⟩,⟨zb0⟩⟩
 case rest =>
  clear HC7
  try clear c2
  try clear p2
  try clear c3
  try clear c6
  try clear c8
  try clear c9
  try clear c9b0
  try clear c9b1
  obtain ⟨kq,x26_6,rfl,HA,HJ6,HB⟩:=hcut
  cases kq with
  | zero=>exact absurd HA.out (by simp [tollbarlaw12_ScrubAnswers.j0])
  | succ kj6 =>
   have H:=HA.out
   clear HA
   simp only [tollbarlaw12_ScrubAnswers.j0] at H
   by_cases c10:x26_6=true
   ·subst c10
    rw [if_pos rfl] at H
    obtain rfl:=Option.some.inj H
    go_wp2
    go_ret
    exact ⟨zb3,zb0⟩
   replace c10:=Bool.eq_false_iff.mpr c10
   subst c10
   rw [if_neg (show ¬ (false=true) by decide)] at H
   replace H:=Option.bind_eq_some_iff.mp H
   obtain ⟨⟨t68,t78,t79,t75,t73,t95,t915⟩,A110,H⟩:=H
   try dsimp only at H
   have A11:=Aside0.mk A110
   clear A110
   have HC12:=Aside0.mk H
   clear H
   go_upto_region 6 with (first|((with_reducible refine gate_callee (f:=39) rfl ?_);refine goesL_ (some 30) rfl rfl Tryz.func39 zb9 rfl #[.slice A0 l0.length c0,.string a1,.bool true] rfl zb1 ?_;(with_reducible refine (http_Response.calls kj6 _ _ l0 a1 true t68 t78 t79 t75 t73 t95 t915 _ ?side1 ?side2 A11.out).mono ?_);(case side1=>exact zb74);(case side2=>exact HC0.out);rintro e w13 ⟨v909,v912,rfl,ho0,ho1,hb⟩;refine ⟨_,rfl,?_⟩;have HO96:=Aside0.mk (Kd.R_lower ho0 (below_size zb0));have HO97:=Aside0.mk (Kd.R_lower ho1 (below_size zb0));replace HB:=Aside0.mk (below_step zb0 hb);try clear hb ho0 ho1)|((with_reducible refine gate_dst (N:=9) rfl ?_);(try (refine gate_guard zb58 ?_;dsimp only));refine box_event rfl (N:=9) rfl (cs:=#[.int .i64 0,.string (⟨#[]⟩:ByteArray),.int .i64 0,.slice none 0 0,.slice none 0 0]) (t:=62) zS ?_;intro gb66 hg w14 hbox hb;replace HO96:=Aside0.mk (Kd.R_below (by (with_reducible repeat (first|apply Kd.R_alloc|apply Kd.R_drewN|apply Kd.R_drew));exact HO96.out) hb);replace HO97:=Aside0.mk (Kd.R_below zb78 hb);have BK66:=Aside0.mk (hbox);have GW66:=zG hg zb0;have GE66:=GW66;replace HB:=Aside0.mk (below_step zb0 hb);clear hb hbox hg;obtain ⟨hcz15_0,hcz15_1,hcz15_2,hcz15_3,hcz15_4,hfz15_0,hfz15_1,hfz15_2,hfz15_3,hfz15_4⟩:=zq5 BK66.out;obtain ⟨Ao16,co16,eo16⟩:=Kd.R_slice HO96.out;subst eo16;obtain ⟨Ao17,co17,eo17⟩:=Kd.R_slice HO97.out;subst eo17))
   (try simp only [Act.put,zqA,zqB,zqC])
   go_cut [39] (fun v39 wc => ∃ (kq:Nat) (x39_11:Bool),v39 = .bool x39_11∧Aside0 (tollbarlaw12_ScrubAnswers.j1 kq a1 a2 l3 x39_11 t68 t78 t79 t75 t73=some r)∧Aside0 (kq ≤ kj6)∧Aside0 (Kd.R k36 36 wc w.heap.size (fun _=>True) (.slice Ao16 t75.length co16) t75)∧Aside0 (Kd.R (Kd.int .u8) 5 wc w.heap.size (fun _=>True) (.slice Ao17 t73.length co17) t73)∧Aside0 (wc.heap[gb66]? = some (.cells #[.int .i64 t68,.string t78,.int .i64 t79,(.slice Ao16 t75.length co16),(.slice Ao17 t73.length co17)] 62 (0,0)))∧Aside0 (Below w.heap.size w wc))
   case first =>
    have H:=HC12.out
    clear HC12
    by_cases c18:t95=0;rotate_left
    ·rw [if_neg c18] at H
     have c18b0:=beq_eq_false_iff_ne.mpr c18
     have c18b1:=bne_iff_ne.mpr c18
     (first|rw [c18b0]|(simp only [i64_w,i32_w];rw [c18b0])|rw [c18b1]|skip)
     have H' := Aside0.mk H
     clear H
     go_wp2
     go_meet
     case rel=>exact ⟨_,(!t915),zb8,H',⟨by have:=HJ6.out;first|omega|exact Nat.le_refl _⟩,⟨zb41⟩,⟨zb42⟩,⟨zb18⟩,⟨zb31⟩⟩
    rw [if_pos c18] at H
    have c18b0:=beq_iff_eq.mpr c18
    have c18b1:=bne_eq_false_iff_eq.mpr c18
    clear c18
    (first|rw [c18b0]|(simp only [i64_w,i32_w];rw [c18b0])|rw [c18b1]|skip)
    have H' := Aside0.mk H
    clear H
    go_wp2
    go_meet
    case rel=>exact ⟨_,(true),zb8,H',⟨by have:=HJ6.out;first|omega|exact Nat.le_refl _⟩,⟨zb41⟩,⟨zb42⟩,⟨zb18⟩,⟨zb31⟩⟩
   case rest =>
    clear HC12
    try clear c1
    try clear c2
    try clear p2
    try clear c3
    try clear c6
    try clear c8
    try clear c9
    try clear c9b0
    try clear c9b1
    try clear c10
    try clear c18
    try clear c18b0
    try clear c18b1
    try clear hcz15_0
    try clear hcz15_1
    try clear hcz15_2
    try clear hcz15_3
    try clear hcz15_4
    try clear hfz15_0
    try clear hfz15_1
    try clear hfz15_2
    try clear hfz15_3
    try clear hfz15_4
    try clear p2
    obtain ⟨kq,x39_11,rfl,HA,HJ11,HO_69,HO_67,BK66,HB⟩:=hcut
    cases kq with
    | zero=>exact absurd HA.out (by simp [tollbarlaw12_ScrubAnswers.j1])
    | succ kj11 =>
     have H:=HA.out
     clear HA
     simp only [tollbarlaw12_ScrubAnswers.j1] at H
     by_cases c19:x39_11=true
     ·subst c19
      rw [if_pos rfl] at H
      obtain rfl:=Option.some.inj H
      go_wp2
      go_ret
      exact ⟨zb3,zb31⟩
     replace c19:=Bool.eq_false_iff.mpr c19
     subst c19
     rw [if_neg (show ¬ (false=true) by decide)] at H
     replace H:=Option.bind_eq_some_iff.mp H
     obtain ⟨⟨t72,t82,t83,t74,t71⟩,A200,H⟩:=H
     try dsimp only at H
     have A20:=Aside0.mk A200
     clear A200
     replace H:=Option.bind_eq_some_iff.mp H
     obtain ⟨t76,A210,H⟩:=H
     try dsimp only at H
     have A21:=Aside0.mk A210
     clear A210
     have HC22:=Aside0.mk H
     clear H
     obtain ⟨hcz23_0,hcz23_1,hcz23_2,hcz23_3,hcz23_4,hfz23_0,hfz23_1,hfz23_2,hfz23_3,hfz23_4⟩:=zq5 BK66.out
     go_upto_region 10 with (first|((with_reducible refine gate_callee (f:=40) rfl ?_);refine goesL_ (some 43) rfl rfl Tryz.func40 zb9 rfl #[.agg #[.int .i64 t68,.string t78,.int .i64 t79,.slice Ao16 t75.length co16,.slice Ao17 t73.length co17],.string a1,.bool a2] rfl zb1 ?_;(with_reducible refine (scrub_Response.calls kj11 t68 t78 t79 _ _ t75 _ _ t73 a1 a2 t72 t82 t83 t74 t71 _ ?side1 ?side2 ?side3 ?side4 A20.out ?hT).mono ?_);(case hT=>exact HTB.out.below zb57);(case side1=>repeat (first|exact (Kd.R_reads' HO_69.out).2.2|(with_reducible refine Kd.C_alloc ?_ _)|(with_reducible refine Kd.C_drewN ?_ _)|(with_reducible refine Kd.C_drew ?_)));(case side2=>exact (Kd.R_reads' HO_69.out).2.1);(case side3=>repeat (first|exact (Kd.R_reads' HO_67.out).2.2|(with_reducible refine Kd.C_alloc ?_ _)|(with_reducible refine Kd.C_drewN ?_ _)|(with_reducible refine Kd.C_drew ?_)));(case side4=>exact (Kd.R_reads' HO_67.out).2.1);rintro e w24 ⟨v921,v924,rfl,ho0,ho1,hb⟩;refine ⟨_,rfl,?_⟩;have HO91:=Aside0.mk (Kd.R_lower (Kd.R_new' ho0 (Kd.R_lt zb48)) (below_size zb31));replace HO_69:=Aside0.mk (Kd.R_elder' zb48 (Kd.R_base ho0) hb);have HO89:=Aside0.mk (Kd.R_lower (Kd.R_new' ho1 (Kd.R_lt zb32)) (below_size zb31));replace HO_67:=Aside0.mk (Kd.R_elder' zb32 (Kd.R_base ho1) hb);replace BK66:=Aside0.mk (blk_below (g:=gb66) (o:=.cells #[.int .i64 t68,.string t78,.int .i64 t79,.slice Ao16 t75.length co16,.slice Ao17 t73.length co17] 62 (0,0)) zb25 hb);replace HB:=Aside0.mk (below_step zb31 hb);try clear hb ho0 ho1)|((with_reducible refine gate_dst (N:=12) rfl ?_);(try (refine gate_guard zb58 ?_;dsimp only));refine box_event rfl (N:=12) rfl (cs:=#[.int .i64 0,.string (⟨#[]⟩:ByteArray),.int .i64 0,.slice none 0 0,.slice none 0 0]) (t:=62) zS ?_;intro gb65 hg w25 hbox hb;replace HO_69:=Aside0.mk (Kd.R_below zb48 hb);replace HO_67:=Aside0.mk (Kd.R_below zb32 hb);replace HO91:=Aside0.mk (Kd.R_below (by (with_reducible repeat (first|apply Kd.R_alloc|apply Kd.R_drewN|apply Kd.R_drew));exact HO91.out) hb);replace HO89:=Aside0.mk (Kd.R_below (by (with_reducible repeat (first|apply Kd.R_alloc|apply Kd.R_drewN|apply Kd.R_drew));exact HO89.out) hb);have BK65:=Aside0.mk (hbox);have GW65:=zG hg zb31;have GE65:=GW65;replace HB:=Aside0.mk (below_step zb31 hb);have NB66_926:=Aside0.mk ((by rw [hg];exact Nat.ne_of_lt (blk_lt (g:=gb66) (o:=.cells #[.int .i64 t68,.string t78,.int .i64 t79,.slice Ao16 t75.length co16,.slice Ao17 t73.length co17] 62 (0,0)) zb25):gb66 ≠ gb65));have NB65_916:=Aside0.mk ((by rw [hg];exact Nat.ne_of_gt (blk_lt (g:=gb66) (o:=.cells #[.int .i64 t68,.string t78,.int .i64 t79,.slice Ao16 t75.length co16,.slice Ao17 t73.length co17] 62 (0,0)) zb25):gb65 ≠ gb66));replace BK66:=Aside0.mk (blk_below (g:=gb66) (o:=.cells #[.int .i64 t68,.string t78,.int .i64 t79,.slice Ao16 t75.length co16,.slice Ao17 t73.length co17] 62 (0,0)) zb25 hb);clear hb hbox hg;have hnb26:=NB65_916.out;have hnc26:=NB66_926.out;obtain ⟨hcz27_0,hcz27_1,hcz27_2,hcz27_3,hcz27_4,hfz27_0,hfz27_1,hfz27_2,hfz27_3,hfz27_4⟩:=zq5 BK65.out;obtain ⟨Ao28,co28,eo28⟩:=Kd.R_slice HO91.out;subst eo28;obtain ⟨Ao29,co29,eo29⟩:=Kd.R_slice HO89.out;subst eo29)|((with_reducible refine gate_callee (f:=41) rfl ?_);refine goesL_ (some 45) rfl rfl Tryz.func41 zb9 rfl #[.agg #[.int .i64 t72,.string t82,.int .i64 t83,.slice Ao28 t74.length co28,.slice Ao29 t71.length co29]] rfl zb1 ?_;(with_reducible refine (http_WriteResponse.calls kj11 t72 t82 t83 _ _ t74 _ _ t71 t76 _ ?side1 ?side2 ?side3 ?side4 A21.out ?hT).mono ?_);(case hT=>exact HTB.out.below zb57);(case side1=>refine (Kd.R_reads' (e:=36) (base:=w.heap.size) (ok:=fun k_=>(True∧some k_ ≠ (.slice Ao16 t75.length co16:Value).ownBlock)) (n:=t74.length) (c:=co28) ?_).2.2;exact zb40);(case side2=>exact (Kd.R_reads' HO91.out).2.1);(case side3=>refine (Kd.R_reads' (e:=5) (base:=w.heap.size) (ok:=fun k_=>(True∧some k_ ≠ (.slice Ao17 t73.length co17:Value).ownBlock)) (n:=t71.length) (c:=co29) ?_).2.2;exact zb24);(case side4=>exact (Kd.R_reads' HO89.out).2.1);rintro e w30 ⟨v928,rfl,ho0,hb⟩;refine ⟨_,rfl,?_⟩;replace HO_69:=Aside0.mk (Kd.R_below (by (with_reducible repeat (first|apply Kd.R_alloc|apply Kd.R_drewN|apply Kd.R_drew));exact (Kd.R_mono (Kd.R_far (p:=⟨gb65,4,none⟩) (Kd.R_far (p:=⟨gb65,3,none⟩) (Kd.R_far (p:=⟨gb65,2,none⟩) (Kd.R_far (p:=⟨gb65,1,none⟩) (Kd.R_far (p:=⟨gb65,0,none⟩) (Kd.R_types HO_69.out BK65.out (by decide)) (fun _ hk=>hk.2) (.int .i64 t72)) (fun _ hk=>hk.2) (.string t82)) (fun _ hk=>hk.2) (.int .i64 t83)) (fun _ hk=>hk.2) (.slice Ao28 t74.length co28)) (fun _ hk=>hk.2) (.slice Ao29 t71.length co29)) (fun _ h_=>h_.1))) hb);replace HO91:=Aside0.mk (Kd.R_below zb40 hb);have HO929:=Aside0.mk (Kd.B_lower (Kd.B_new' (Kd.B_new' ho0 (Kd.R_lt zb39)) (Kd.R_lt zb24)) (below_size zb14));replace HO_67:=Aside0.mk (Kd.R_elder' zb39 (Kd.B_base ho0) hb);replace HO89:=Aside0.mk (Kd.R_elder' zb24 (Kd.B_base ho0) hb);replace BK66:=Aside0.mk (blk_below (g:=gb66) (o:=.cells #[.int .i64 t68,.string t78,.int .i64 t79,.slice Ao16 t75.length co16,.slice Ao17 t73.length co17] 62 (0,0)) (by (with_reducible repeat (first|refine blk_drewN ?_ _|refine blk_drew ?_|refine blk_alloc ?_ _));refine blk_far ?_ NB66_926.out _;(with_reducible repeat (first|refine blk_drewN ?_ _|refine blk_drew ?_|refine blk_alloc ?_ _));refine blk_far ?_ NB66_926.out _;(with_reducible repeat (first|refine blk_drewN ?_ _|refine blk_drew ?_|refine blk_alloc ?_ _));refine blk_far ?_ NB66_926.out _;(with_reducible repeat (first|refine blk_drewN ?_ _|refine blk_drew ?_|refine blk_alloc ?_ _));refine blk_far ?_ NB66_926.out _;(with_reducible repeat (first|refine blk_drewN ?_ _|refine blk_drew ?_|refine blk_alloc ?_ _));refine blk_far ?_ NB66_926.out _;(with_reducible repeat (first|refine blk_drewN ?_ _|refine blk_drew ?_|refine blk_alloc ?_ _));exact BK66.out) hb);replace BK65:=Aside0.mk (blk_below (g:=gb65) (o:=.cells #[.int .i64 t72,.string t82,.int .i64 t83,.slice Ao28 t74.length co28,.slice Ao29 t71.length co29] 62 (0,0)) (by (with_reducible repeat (first|refine blk_drewN ?_ _|refine blk_drew ?_|refine blk_alloc ?_ _));refine blk_put (cs:=#[.int .i64 t72,.string t82,.int .i64 t83,.slice Ao28 t74.length co28,.slice none 0 0]) ?_ 4 _ rfl;(with_reducible repeat (first|refine blk_drewN ?_ _|refine blk_drew ?_|refine blk_alloc ?_ _));refine blk_put (cs:=#[.int .i64 t72,.string t82,.int .i64 t83,.slice none 0 0,.slice none 0 0]) ?_ 3 _ rfl;(with_reducible repeat (first|refine blk_drewN ?_ _|refine blk_drew ?_|refine blk_alloc ?_ _));refine blk_put (cs:=#[.int .i64 t72,.string t82,.int .i64 0,.slice none 0 0,.slice none 0 0]) ?_ 2 _ rfl;(with_reducible repeat (first|refine blk_drewN ?_ _|refine blk_drew ?_|refine blk_alloc ?_ _));refine blk_put (cs:=#[.int .i64 t72,.string (⟨#[]⟩:ByteArray),.int .i64 0,.slice none 0 0,.slice none 0 0]) ?_ 1 _ rfl;(with_reducible repeat (first|refine blk_drewN ?_ _|refine blk_drew ?_|refine blk_alloc ?_ _));refine blk_put (cs:=#[.int .i64 0,.string (⟨#[]⟩:ByteArray),.int .i64 0,.slice none 0 0,.slice none 0 0]) ?_ 0 _ rfl;(with_reducible repeat (first|refine blk_drewN ?_ _|refine blk_drew ?_|refine blk_alloc ?_ _));exact BK65.out) hb);replace HB:=Aside0.mk (below_step zb14 hb);try clear hb ho0))
     (try simp only [Act.put,zqA,zqB,zqC])
     go_cut [58] (fun v58 wc => ∃ (kq:Nat) (x58_21:Bool),v58 = .bool x58_21∧Aside0 (tollbarlaw12_ScrubAnswers.j2 kq a1 l3 t76 x58_21 t68 t78 t79 t75 t73 t72 t82 t83 t74 t71=some r)∧Aside0 (kq ≤ kj11)∧Aside0 (Kd.B wc w.heap.size (fun k_=>some k_ ≠ ((.slice Ao17 t73.length co17):Value).ownBlock∧some k_ ≠ ((.slice Ao29 t71.length co29):Value).ownBlock) v928 t76)∧Aside0 (Kd.R k36 36 wc w.heap.size (fun k_=>some k_ ≠ ((.slice Ao28 t74.length co28):Value).ownBlock) (.slice Ao16 t75.length co16) t75)∧Aside0 (Kd.R (Kd.int .u8) 5 wc w.heap.size (fun k_=>some k_ ≠ (v928:Value).ownBlock∧some k_ ≠ ((.slice Ao29 t71.length co29):Value).ownBlock) (.slice Ao17 t73.length co17) t73)∧Aside0 (Kd.R k36 36 wc w.heap.size (fun k_=>some k_ ≠ ((.slice Ao16 t75.length co16):Value).ownBlock) (.slice Ao28 t74.length co28) t74)∧Aside0 (Kd.R (Kd.int .u8) 5 wc w.heap.size (fun k_=>some k_ ≠ (v928:Value).ownBlock∧some k_ ≠ ((.slice Ao17 t73.length co17):Value).ownBlock) (.slice Ao29 t71.length co29) t71)∧Aside0 (wc.heap[gb66]? = some (.cells #[.int .i64 t68,.string t78,.int .i64 t79,(.slice Ao16 t75.length co16),(.slice Ao17 t73.length co17)] 62 (0,0)))∧Aside0 (wc.heap[gb65]? = some (.cells #[.int .i64 t72,.string t82,.int .i64 t83,(.slice Ao28 t74.length co28),(.slice Ao29 t71.length co29)] 62 (0,0)))∧Aside0 (Below w.heap.size w wc))
     case first =>
      have H:=HC22.out
      clear HC22
      by_cases c31:(wrap64 ((t76.length:Int) - (t71.length:Int))) > 2048
      ·rw [if_pos c31] at H
       have c31b0:decide (2048 < (wrap64 ((t76.length:Int) - (t71.length:Int))))=true:=decide_eq_true c31
       clear c31
       (first|rw [c31b0]|(simp only [i64_w,i32_w];rw [c31b0])|skip)
       have H' := Aside0.mk H
       clear H
       obtain ⟨Ao32,co32,eo32⟩:=Kd.B_slice HO929.out
       subst eo32
       have hnb33:=NB65_916.out
       have hnc33:=NB66_926.out
       obtain ⟨hcz34_0,hcz34_1,hcz34_2,hcz34_3,hcz34_4,hfz34_0,hfz34_1,hfz34_2,hfz34_3,hfz34_4⟩:=zq5 BK65.out
       go_wp2
       go_meet
       case rel=>exact ⟨_,(true),zb8,H',⟨by have:=HJ6.out;have:=HJ11.out;first|omega|exact Nat.le_refl _⟩,⟨zb102⟩,⟨zb110⟩,⟨zb103⟩,⟨zb113⟩,⟨zb104⟩,⟨zb25⟩,⟨zb37⟩,⟨zb14⟩⟩
      rw [if_neg c31] at H
      have c31b0:decide (2048 < (wrap64 ((t76.length:Int) - (t71.length:Int))))=false:=decide_eq_false c31
      clear c31
      (first|rw [c31b0]|(simp only [i64_w,i32_w];rw [c31b0])|skip)
      have H' := Aside0.mk H
      clear H
      obtain ⟨Ao35,co35,eo35⟩:=Kd.B_slice HO929.out
      subst eo35
      have hnb36:=NB65_916.out
      have hnc36:=NB66_926.out
      obtain ⟨hcz37_0,hcz37_1,hcz37_2,hcz37_3,hcz37_4,hfz37_0,hfz37_1,hfz37_2,hfz37_3,hfz37_4⟩:=zq5 BK65.out
      go_wp2
      go_meet
      case rel=>exact ⟨_,(decide ((t74.length:Int) > 40)),zb8,H',⟨by have:=HJ6.out;have:=HJ11.out;first|omega|exact Nat.le_refl _⟩,⟨zb102⟩,⟨zb110⟩,⟨zb103⟩,⟨zb113⟩,⟨zb104⟩,⟨zb25⟩,⟨zb37⟩,⟨zb14⟩⟩
     case rest =>
      clear HC22
      try clear c1
      try clear c2
      try clear p2
      try clear c3
      try clear c4
      try clear c6
      try clear p6
      try clear c8
      try clear c9
      try clear c9b0
      try clear c9b1
      try clear c10
      try clear c18
      try clear c18b0
      try clear c18b1
      try clear c19
      try clear c26
      try clear c27
      try clear c31
      try clear c31b0
      try clear c33
      try clear c36
      try clear hcz15_0
      try clear hcz15_1
      try clear hcz15_2
      try clear hcz15_3
      try clear hcz15_4
      try clear hcz23_0
      try clear hcz23_1
      try clear hcz23_2
      try clear hcz23_3
      try clear hcz23_4
      try clear hcz27_0
      try clear hcz27_1
      try clear hcz27_2
      try clear hcz27_3
      try clear hcz27_4
      try clear hcz34_0
      try clear hcz34_1
      try clear hcz34_2
      try clear hcz34_3
      try clear hcz34_4
      try clear hcz37_0
      try clear hcz37_1
      try clear hcz37_2
      try clear hcz37_3
      try clear hcz37_4
      try clear hfz15_0
      try clear hfz15_1
      try clear hfz15_2
      try clear hfz15_3
      try clear hfz15_4
      try clear hfz23_0
      try clear hfz23_1
      try clear hfz23_2
      try clear hfz23_3
      try clear hfz23_4
      try clear hfz27_0
      try clear hfz27_1
      try clear hfz27_2
      try clear hfz27_3
      try clear hfz27_4
      try clear hfz34_0
      try clear hfz34_1
      try clear hfz34_2
      try clear hfz34_3
      try clear hfz34_4
      try clear hfz37_0
      try clear hfz37_1
      try clear hfz37_2
      try clear hfz37_3
      try clear hfz37_4
      try clear p2
      obtain ⟨kq,x58_21,rfl,HA,HJ21,HO_13,HO_69,HO_67,HO_80,HO_77,BK66,BK65,HB⟩:=hcut
      cases kq with
      | zero=>exact absurd HA.out (by simp [tollbarlaw12_ScrubAnswers.j2])
      | succ kj21 =>
       have H:=HA.out
       clear HA
       simp only [tollbarlaw12_ScrubAnswers.j2] at H
       by_cases c38:x58_21=true
       ·subst c38
        rw [if_pos rfl] at H
        obtain rfl:=Option.some.inj H
        go_wp2
        go_ret
        exact ⟨zb3,zb14⟩
       replace c38:=Bool.eq_false_iff.mpr c38
       subst c38
       rw [if_neg (show ¬ (false=true) by decide)] at H
       obtain ⟨y86,hy86⟩ : ∃ y_:List Int,y_=(([]:List Int)):=⟨_,rfl⟩
       replace H:(if y86.length + t76.length < 140737488355328 then ((some (y86 ++ t76:List Int)).bind fun y84=>(if y84.length + l3.length < 140737488355328 then ((http_Response.f kj21 (y84 ++ l3) a1 false).bind fun bt81=>(if bt81.2.2.2.2.2.2=true then (if bt81.2.2.2.2.2.1=(t76.length:Int) then (if bt81.1=t68 then ((tollbarref01_SameBytes.f kj21 bt81.2.2.2.2.1 t71).bind fun t87=>(if t87=true then ((tollbarref04_Same.f kj21 bt81.2.2.2.1 t74).bind fun t85=>(some t85)) else (some false))) else (some false)) else (some false)) else (some false))) else (none))) else (none))=some r:=by first|(rw [hy86];with_reducible exact H)|(have H2_:=(Option.bind_some _ _).symm.trans H;rw [hy86];with_reducible exact H2_)|(have H2_:=(Option.bind_some _ _).symm.trans H;with_reducible exact H2_)|with_reducible exact H|(rw [hy86];exact H)|exact H
       have Ny86:=Aside0.mk hy86
       clear hy86
       by_cases c39:y86.length + t76.length < 140737488355328
       ·rw [if_pos c39] at H
        have LMc39:=Aside0.mk c39
        clear c39
        obtain ⟨y84,hy84⟩ : ∃ y_:List Int,y_=(y86 ++ t76):=⟨_,rfl⟩
        replace H:(if y84.length + l3.length < 140737488355328 then ((http_Response.f kj21 (y84 ++ l3) a1 false).bind fun bt81=>(if bt81.2.2.2.2.2.2=true then (if bt81.2.2.2.2.2.1=(t76.length:Int) then (if bt81.1=t68 then ((tollbarref01_SameBytes.f kj21 bt81.2.2.2.2.1 t71).bind fun t87=>(if t87=true then ((tollbarref04_Same.f kj21 bt81.2.2.2.1 t74).bind fun t85=>(some t85)) else (some false))) else (some false)) else (some false)) else (some false))) else (none))=some r:=by first|(rw [hy84];with_reducible exact H)|(have H2_:=(Option.bind_some _ _).symm.trans H;rw [hy84];with_reducible exact H2_)|(have H2_:=(Option.bind_some _ _).symm.trans H;with_reducible exact H2_)|with_reducible exact H|(rw [hy84];exact H)|exact H
        have Ny84:=Aside0.mk hy84
        clear hy84
        by_cases c40:y84.length + l3.length < 140737488355328
        ·rw [if_pos c40] at H
         have LMc40:=Aside0.mk c40
         clear c40
         obtain ⟨y88,hy88⟩ : ∃ y_:List Int,y_=(y84 ++ l3):=⟨_,rfl⟩
         replace H:((http_Response.f kj21 y88 a1 false).bind fun bt81=>(if bt81.2.2.2.2.2.2=true then (if bt81.2.2.2.2.2.1=(t76.length:Int) then (if bt81.1=t68 then ((tollbarref01_SameBytes.f kj21 bt81.2.2.2.2.1 t71).bind fun t87=>(if t87=true then ((tollbarref04_Same.f kj21 bt81.2.2.2.1 t74).bind fun t85=>(some t85)) else (some false))) else (some false)) else (some false)) else (some false)))=some r:=by first|(rw [hy88];with_reducible exact H)|(have H2_:=(Option.bind_some _ _).symm.trans H;rw [hy88];with_reducible exact H2_)|(have H2_:=(Option.bind_some _ _).symm.trans H;with_reducible exact H2_)|with_reducible exact H|(rw [hy88];exact H)|exact H
         have Ny88:=Aside0.mk hy88
         clear hy88
         replace H:=Option.bind_eq_some_iff.mp H
         obtain ⟨⟨t81,t940,t941,t90,t93,t94,t949⟩,A410,H⟩:=H
         try dsimp only at H
         have A41:=Aside0.mk A410
         clear A410
         by_cases c42:t949=true;rotate_left
         ·replace c42:=Bool.eq_false_iff.mpr c42
          subst c42
          rw [if_neg (show ¬ (false=true) by decide)] at H
          exact absurd ((Option.some.inj H).trans HRT.out) zb33
         subst c42
         rw [if_pos rfl] at H
         by_cases c43:t94=(t76.length:Int)
         ·rw [if_pos c43] at H
          have c43b0:=beq_iff_eq.mpr c43
          have c43b1:=bne_eq_false_iff_eq.mpr c43
          clear c43
          by_cases c44:t81=t68;rotate_left
          ·rw [if_neg c44] at H
           have c44b0:=beq_eq_false_iff_ne.mpr c44
           have c44b1:=bne_iff_ne.mpr c44
           exact absurd ((Option.some.inj H).trans HRT.out) zb33
          rw [if_pos c44] at H
          have c44b0:=beq_iff_eq.mpr c44
          have c44b1:=bne_eq_false_iff_eq.mpr c44
          clear c44
          replace H:=Option.bind_eq_some_iff.mp H
          obtain ⟨t87,A450,H⟩:=H
          try dsimp only at H
          have A45:=Aside0.mk A450
          clear A450
          by_cases c46:t87=true
          ·subst c46
           rw [if_pos rfl] at H
           replace H:=Option.bind_eq_some_iff.mp H
           obtain ⟨t85,A470,H⟩:=H
           try dsimp only at H
           have A47:=Aside0.mk A470
           clear A470
           obtain rfl:=Option.some.inj H
           go_wp2_with (first|((with_reducible refine gate_dst (N:=60) rfl ?_);(try (refine gate_guard zb58 ?_;dsimp only));refine Kd.R_lit (Kd.int .u8) _ 5 ?hg (N:=60) ?hd (xs:=([]:List Int)) (inner:=[]) (ok:=fun _=>True) (okp:=fun _=>True) ?hr ?hp (fun _ hk=>hk) trivial (Below.refl _ _) (Nat.le_refl _) zb55 ?_;(case hd=>rfl);(case hg=>rfl);(case hr=>first|(go_simp;done)|(go_simp;rfl));(case hp=>exact (Reps.none _ _));intro v931 w48 ho49 hb hg_ hnew_;clear hg_ hnew_;(first|rw [← Ny86.out] at ho49|(simp only [Int.reduceToNat] at ho49;rw [← Ny86.out] at ho49));replace HO_69:=Aside0.mk (Kd.R_below zb48 hb);replace HO_80:=Aside0.mk (Kd.R_below zb76 hb);have HO98:=Aside0.mk (Kd.R_lower (Kd.R_new' (Kd.R_new' (Kd.R_new' ho49 (Kd.B_lt zb49)) (Kd.R_lt zb32)) (Kd.R_lt zb50)) (below_size zb14));replace HO_13:=Aside0.mk (Kd.B_elder' zb49 (Kd.R_base ho49) hb);replace HO_67:=Aside0.mk (Kd.R_elder' zb32 (Kd.R_base ho49) hb);replace HO_77:=Aside0.mk (Kd.R_elder' zb50 (Kd.R_base ho49) hb);replace BK66:=Aside0.mk (blk_below (g:=gb66) (o:=.cells #[.int .i64 t68,.string t78,.int .i64 t79,.slice Ao16 t75.length co16,.slice Ao17 t73.length co17] 62 (0,0)) zb25 hb);replace BK65:=Aside0.mk (blk_below (g:=gb65) (o:=.cells #[.int .i64 t72,.string t82,.int .i64 t83,.slice Ao28 t74.length co28,.slice Ao29 t71.length co29] 62 (0,0)) zb37 hb);replace HB:=Aside0.mk (below_step zb14 hb);clear hb ho49;obtain ⟨Ao51,co51,eo51⟩:=Kd.B_slice HO_13.out;subst eo51)|((with_reducible refine gate_builtin (b:=.append) (xs:=#[.tmp 60,.tmp 61]) rfl ?_);(try (refine gate_guard zb58 ?_;dsimp only));at_builtin;refine Kd.R_append_rows (Kd.int .u8) (w0:=w) w.heap.size rfl (.tmp 60) (.tmp 61) 22 5 (.int .u8 0) 1 rfl Tryz.underlying22 info5 rfl zb33 zb62 v931 y86 t76 _ _ _ (fun k_=>some k_ ≠ (.slice Ao51 t76.length co51:Value).ownBlock∧some k_ ≠ (.slice Ao17 t73.length co17:Value).ownBlock∧some k_ ≠ (.slice Ao29 t71.length co29:Value).ownBlock) (fun _=>False) rfl rfl ?aO ?aR (fun _ _ h=>h) (fun _ h=>h.elim) ?aF ?aB ?aS ?aL ?_;(case aR=>repeat (first|exact (Kd.B_reads' HO_13.out).2.2|(with_reducible refine Kd.C_alloc ?_ _)|(with_reducible refine Kd.C_drewN ?_ _)|(with_reducible refine Kd.C_drew ?_)));(case aB=>exact zb94);(case aF=>exact zb61);(case aO=>exact (by (with_reducible repeat (first|apply Kd.R_alloc|apply Kd.R_drewN|apply Kd.R_drew));exact Kd.R_mono HO98.out (fun _ hk=>⟨hk.1.1.2,⟨hk.1.2,hk.2⟩⟩)));(case aS=>exact zb91);(case aL=>have:=LMc39.out;omega);intro v934 w50 ho hb hg hat;rw [← Ny84.out] at ho;replace HO_13:=Aside0.mk (Kd.B_after (ok:=(fun k_=>some k_ ≠ (.slice Ao17 t73.length co17:Value).ownBlock∧some k_ ≠ (.slice Ao29 t71.length co29:Value).ownBlock)) zb49 hg hat);replace HO_69:=Aside0.mk (Kd.R_over' zb48 (Kd.R_typed (by (with_reducible repeat (first|apply Kd.R_alloc|apply Kd.R_drewN|apply Kd.R_drew));exact HO98.out)) zb33 hg);replace HO_67:=Aside0.mk (Kd.R_after (ok:=(fun k_=>some k_ ≠ (.slice Ao51 t76.length co51:Value).ownBlock∧some k_ ≠ (.slice Ao29 t71.length co29:Value).ownBlock)) zb32 hg hat);replace HO_80:=Aside0.mk (Kd.R_over' zb76 (Kd.R_typed (by (with_reducible repeat (first|apply Kd.R_alloc|apply Kd.R_drewN|apply Kd.R_drew));exact HO98.out)) zb33 hg);replace HO_77:=Aside0.mk (Kd.R_after (ok:=(fun k_=>some k_ ≠ (.slice Ao51 t76.length co51:Value).ownBlock∧some k_ ≠ (.slice Ao17 t73.length co17:Value).ownBlock)) zb50 hg hat);replace BK66:=Aside0.mk (blk_grown (g:=gb66) (o:=.cells #[.int .i64 t68,.string t78,.int .i64 t79,.slice Ao16 t75.length co16,.slice Ao17 t73.length co17] 62 (0,0)) zb25 hg (Kd.R_ne HO98.out BK66.out zb33));replace BK65:=Aside0.mk (blk_grown (g:=gb65) (o:=.cells #[.int .i64 t72,.string t82,.int .i64 t83,.slice Ao28 t74.length co28,.slice Ao29 t71.length co29] 62 (0,0)) zb37 hg (Kd.R_ne HO98.out BK65.out zb33));replace HB:=Aside0.mk (hb);have HO99:=Aside0.mk (ho);clear ho hb hg hat)|((with_reducible refine gate_builtin (b:=.append) (xs:=#[.tmp 62,.tmp 63]) rfl ?_);(try (refine gate_guard zb58 ?_;dsimp only));at_builtin;refine Kd.R_append_rows (Kd.int .u8) (w0:=w) w.heap.size rfl (.tmp 62) (.tmp 63) 22 5 (.int .u8 0) 1 rfl Tryz.underlying22 info5 rfl zb33 zb62 v934 y84 l3 _ _ _ (fun k_=>some k_ ≠ (.slice Ao51 t76.length co51:Value).ownBlock∧some k_ ≠ (.slice Ao17 t73.length co17:Value).ownBlock∧some k_ ≠ (.slice Ao29 t71.length co29:Value).ownBlock) (fun _=>False) rfl rfl ?aO ?aR (fun _ _ h=>h) (fun _ h=>h.elim) ?aF ?aB ?aS ?aL ?_;(case aR=>repeat (first|exact (Kd.C_below HR3.out HB.out)|(with_reducible refine Kd.C_alloc ?_ _)|(with_reducible refine Kd.C_drewN ?_ _)|(with_reducible refine Kd.C_drew ?_)));(case aB=>exact zb94);(case aF=>exact zb61);(case aO=>exact zb111);(case aS=>exact zb91);(case aL=>have:=LMc40.out;omega);intro v937 w52 ho hb hg hat;rw [← Ny88.out] at ho;replace HO_13:=Aside0.mk (Kd.B_after (ok:=(fun k_=>some k_ ≠ (.slice Ao17 t73.length co17:Value).ownBlock∧some k_ ≠ (.slice Ao29 t71.length co29:Value).ownBlock)) zb49 hg hat);replace HO_69:=Aside0.mk (Kd.R_over' zb48 (Kd.R_typed zb111) zb33 hg);replace HO_67:=Aside0.mk (Kd.R_after (ok:=(fun k_=>some k_ ≠ (.slice Ao51 t76.length co51:Value).ownBlock∧some k_ ≠ (.slice Ao29 t71.length co29:Value).ownBlock)) zb32 hg hat);replace HO_80:=Aside0.mk (Kd.R_over' zb76 (Kd.R_typed zb111) zb33 hg);replace HO_77:=Aside0.mk (Kd.R_after (ok:=(fun k_=>some k_ ≠ (.slice Ao51 t76.length co51:Value).ownBlock∧some k_ ≠ (.slice Ao17 t73.length co17:Value).ownBlock)) zb50 hg hat);replace BK66:=Aside0.mk (blk_grown (g:=gb66) (o:=.cells #[.int .i64 t68,.string t78,.int .i64 t79,.slice Ao16 t75.length co16,.slice Ao17 t73.length co17] 62 (0,0)) zb25 hg (Kd.R_ne HO99.out BK66.out zb33));replace BK65:=Aside0.mk (blk_grown (g:=gb65) (o:=.cells #[.int .i64 t72,.string t82,.int .i64 t83,.slice Ao28 t74.length co28,.slice Ao29 t71.length co29] 62 (0,0)) zb37 hg (Kd.R_ne HO99.out BK65.out zb33));replace HB:=Aside0.mk (hb);have HO92:=Aside0.mk (ho);clear ho hb hg hat;obtain ⟨Ao53,co53,eo53⟩:=Kd.R_slice HO92.out;subst eo53)|((with_reducible refine gate_callee (f:=39) rfl ?_);refine goesL_ (some 66) rfl rfl Tryz.func39 zb9 rfl #[.slice Ao53 y88.length co53,.string a1,.bool false] rfl zb1 ?_;(with_reducible refine (http_Response.calls kj21 _ _ y88 a1 false t81 t940 t941 t90 t93 t94 true _ ?side1 ?side2 A41.out).mono ?_);(case side1=>repeat (first|exact (Kd.R_reads' HO92.out).2.2|(with_reducible refine Kd.C_alloc ?_ _)|(with_reducible refine Kd.C_drewN ?_ _)|(with_reducible refine Kd.C_drew ?_)));(case side2=>exact (Kd.R_reads' HO92.out).2.1);rintro e w54 ⟨v943,v946,rfl,ho0,ho1,hb⟩;(try clear A41);refine ⟨_,rfl,?_⟩;have HO944:=Aside0.mk (Kd.R_lower (Kd.R_new' (Kd.R_new' ho0 (Kd.R_lt zb48)) (Kd.R_lt zb76)) (below_size zb14));replace HO_69:=Aside0.mk (Kd.R_elder' zb48 (Kd.R_base ho0) hb);replace HO_80:=Aside0.mk (Kd.R_elder' zb76 (Kd.R_base ho0) hb);have HO947:=Aside0.mk (Kd.R_lower (Kd.R_new' (Kd.R_new' (Kd.R_new' (Kd.R_new' ho1 (Kd.B_lt zb49)) (Kd.R_lt zb32)) (Kd.R_lt zb50)) (Kd.R_lt zb112)) (below_size zb14));replace HO_13:=Aside0.mk (Kd.B_elder' zb49 (Kd.R_base ho1) hb);replace HO_67:=Aside0.mk (Kd.R_elder' zb32 (Kd.R_base ho1) hb);replace HO_77:=Aside0.mk (Kd.R_elder' zb50 (Kd.R_base ho1) hb);replace HO92:=Aside0.mk (Kd.R_elder' zb112 (Kd.R_base ho1) hb);replace BK66:=Aside0.mk (blk_below (g:=gb66) (o:=.cells #[.int .i64 t68,.string t78,.int .i64 t79,.slice Ao16 t75.length co16,.slice Ao17 t73.length co17] 62 (0,0)) zb25 hb);replace BK65:=Aside0.mk (blk_below (g:=gb65) (o:=.cells #[.int .i64 t72,.string t82,.int .i64 t83,.slice Ao28 t74.length co28,.slice Ao29 t71.length co29] 62 (0,0)) zb37 hb);replace HB:=Aside0.mk (below_step zb14 hb);try clear hb ho0 ho1)|((with_reducible refine gate_dst (N:=14) rfl ?_);(try (refine gate_guard zb58 ?_;dsimp only));refine box_event rfl (N:=14) rfl (cs:=#[.int .i64 0,.string (⟨#[]⟩:ByteArray),.int .i64 0,.slice none 0 0,.slice none 0 0]) (t:=62) zS ?_;intro gb70 hg w55 hbox hb;replace HO_13:=Aside0.mk (Kd.B_below zb49 hb);replace HO_69:=Aside0.mk (Kd.R_below zb48 hb);replace HO_67:=Aside0.mk (Kd.R_below zb32 hb);replace HO_80:=Aside0.mk (Kd.R_below zb76 hb);replace HO_77:=Aside0.mk (Kd.R_below zb50 hb);replace HO92:=Aside0.mk (Kd.R_below zb112 hb);replace HO944:=Aside0.mk (Kd.R_below (by (with_reducible repeat (first|apply Kd.R_alloc|apply Kd.R_drewN|apply Kd.R_drew));exact HO944.out) hb);replace HO947:=Aside0.mk (Kd.R_below (by (with_reducible repeat (first|apply Kd.R_alloc|apply Kd.R_drewN|apply Kd.R_drew));exact HO947.out) hb);have BK70:=Aside0.mk (hbox);have GW70:=zG hg zb14;have GE70:=GW70;replace HB:=Aside0.mk (below_step zb14 hb);have NB66_950:=Aside0.mk ((by rw [hg];exact Nat.ne_of_lt (blk_lt (g:=gb66) (o:=.cells #[.int .i64 t68,.string t78,.int .i64 t79,.slice Ao16 t75.length co16,.slice Ao17 t73.length co17] 62 (0,0)) zb25):gb66 ≠ gb70));have NB70_916:=Aside0.mk ((by rw [hg];exact Nat.ne_of_gt (blk_lt (g:=gb66) (o:=.cells #[.int .i64 t68,.string t78,.int .i64 t79,.slice Ao16 t75.length co16,.slice Ao17 t73.length co17] 62 (0,0)) zb25):gb70 ≠ gb66));replace BK66:=Aside0.mk (blk_below (g:=gb66) (o:=.cells #[.int .i64 t68,.string t78,.int .i64 t79,.slice Ao16 t75.length co16,.slice Ao17 t73.length co17] 62 (0,0)) zb25 hb);have NB65_950:=Aside0.mk ((by rw [hg];exact Nat.ne_of_lt (blk_lt (g:=gb65) (o:=.cells #[.int .i64 t72,.string t82,.int .i64 t83,.slice Ao28 t74.length co28,.slice Ao29 t71.length co29] 62 (0,0)) zb37):gb65 ≠ gb70));have NB70_926:=Aside0.mk ((by rw [hg];exact Nat.ne_of_gt (blk_lt (g:=gb65) (o:=.cells #[.int .i64 t72,.string t82,.int .i64 t83,.slice Ao28 t74.length co28,.slice Ao29 t71.length co29] 62 (0,0)) zb37):gb70 ≠ gb65));replace BK65:=Aside0.mk (blk_below (g:=gb65) (o:=.cells #[.int .i64 t72,.string t82,.int .i64 t83,.slice Ao28 t74.length co28,.slice Ao29 t71.length co29] 62 (0,0)) zb37 hb);clear hb hbox hg;have hnb56:=NB70_916.out;have hnc56:=NB66_950.out;have hnb57:=NB70_926.out;have hnc57:=NB65_950.out;obtain ⟨hcz58_0,hcz58_1,hcz58_2,hcz58_3,hcz58_4,hfz58_0,hfz58_1,hfz58_2,hfz58_3,hfz58_4⟩:=zq5 BK70.out;obtain ⟨Ao59,co59,eo59⟩:=Kd.R_slice HO944.out;subst eo59;obtain ⟨Ao60,co60,eo60⟩:=Kd.R_slice HO947.out;subst eo60;have hnb61:=NB66_926.out;have hnc61:=NB65_916.out;obtain ⟨hcz62_0,hcz62_1,hcz62_2,hcz62_3,hcz62_4,hfz62_0,hfz62_1,hfz62_2,hfz62_3,hfz62_4⟩:=zq5 BK66.out;obtain ⟨hcz63_0,hcz63_1,hcz63_2,hcz63_3,hcz63_4,hfz63_0,hfz63_1,hfz63_2,hfz63_3,hfz63_4⟩:=zq5 BK65.out)|(go_at_call 25;(with_reducible refine (tollbarref01_SameBytes.calls kj21 _ _ t93 _ _ t71 true _ ?side1 ?side2 ?side3 ?side4 A45.out).mono ?_);(case side1=>refine (Kd.R_reads' (e:=5) (base:=w.heap.size) (ok:=fun k_=>((((True∧some k_ ≠ (.slice Ao51 t76.length co51:Value).ownBlock)∧some k_ ≠ (.slice Ao17 t73.length co17:Value).ownBlock)∧some k_ ≠ (.slice Ao29 t71.length co29:Value).ownBlock)∧some k_ ≠ (.slice Ao53 y88.length co53:Value).ownBlock)) (n:=t93.length) (c:=co60) ?_).2.2;exact (by (with_reducible repeat (first|apply Kd.R_alloc|apply Kd.R_drewN|apply Kd.R_drew));exact (Kd.R_mono (Kd.R_far (p:=⟨gb70,4,none⟩) (Kd.R_far (p:=⟨gb70,3,none⟩) (Kd.R_far (p:=⟨gb70,2,none⟩) (Kd.R_far (p:=⟨gb70,1,none⟩) (Kd.R_far (p:=⟨gb70,0,none⟩) (Kd.R_types HO947.out BK70.out (by decide)) (fun _ hk=>hk.2) (.int .i64 t81)) (fun _ hk=>hk.2) (.string t940)) (fun _ hk=>hk.2) (.int .i64 t941)) (fun _ hk=>hk.2) (.slice Ao59 t90.length co59)) (fun _ hk=>hk.2) (.slice Ao60 t93.length co60)) (fun _ h_=>h_.1))));(case side2=>exact (Kd.R_reads' HO947.out).2.1);(case side3=>refine (Kd.R_reads' (e:=5) (base:=w.heap.size) (ok:=fun k_=>(((some k_ ≠ (.slice Ao51 t76.length co51:Value).ownBlock∧some k_ ≠ (.slice Ao17 t73.length co17:Value).ownBlock)∧some k_ ≠ (.slice Ao53 y88.length co53:Value).ownBlock)∧some k_ ≠ (.slice Ao60 t93.length co60:Value).ownBlock)) (n:=t71.length) (c:=co29) ?_).2.2;exact (by (with_reducible repeat (first|apply Kd.R_alloc|apply Kd.R_drewN|apply Kd.R_drew));exact (Kd.R_mono (Kd.R_far (p:=⟨gb70,4,none⟩) (Kd.R_far (p:=⟨gb70,3,none⟩) (Kd.R_far (p:=⟨gb70,2,none⟩) (Kd.R_far (p:=⟨gb70,1,none⟩) (Kd.R_far (p:=⟨gb70,0,none⟩) (Kd.R_types HO_77.out BK70.out (by decide)) (fun _ hk=>hk.2) (.int .i64 t81)) (fun _ hk=>hk.2) (.string t940)) (fun _ hk=>hk.2) (.int .i64 t941)) (fun _ hk=>hk.2) (.slice Ao59 t90.length co59)) (fun _ hk=>hk.2) (.slice Ao60 t93.length co60)) (fun _ h_=>h_.1))));(case side4=>exact (Kd.R_reads' HO_77.out).2.1);rintro e w' ⟨rfl,⟨nd,rfl⟩⟩;(try clear A45))|(go_at_call 26;(with_reducible refine (tollbarref04_Same.calls kj21 _ _ t90 _ _ t74 t85 _ ?side1 ?side2 ?side3 ?side4 A47.out).mono ?_);(case side1=>refine (Kd.R_reads' (e:=36) (base:=w.heap.size) (ok:=fun k_=>((True∧some k_ ≠ (.slice Ao16 t75.length co16:Value).ownBlock)∧some k_ ≠ (.slice Ao28 t74.length co28:Value).ownBlock)) (n:=t90.length) (c:=co59) ?_).2.2;exact (by (with_reducible repeat (first|apply Kd.R_alloc|apply Kd.R_drewN|apply Kd.R_drew));exact (Kd.R_mono (Kd.R_far (p:=⟨gb70,4,none⟩) (Kd.R_far (p:=⟨gb70,3,none⟩) (Kd.R_far (p:=⟨gb70,2,none⟩) (Kd.R_far (p:=⟨gb70,1,none⟩) (Kd.R_far (p:=⟨gb70,0,none⟩) (Kd.R_types HO944.out BK70.out (by decide)) (fun _ hk=>hk.2) (.int .i64 t81)) (fun _ hk=>hk.2) (.string t940)) (fun _ hk=>hk.2) (.int .i64 t941)) (fun _ hk=>hk.2) (.slice Ao59 t90.length co59)) (fun _ hk=>hk.2) (.slice Ao60 t93.length co60)) (fun _ h_=>h_.1))));(case side2=>exact (Kd.R_reads' HO944.out).2.1);(case side3=>refine (Kd.R_reads' (e:=36) (base:=w.heap.size) (ok:=fun k_=>(some k_ ≠ (.slice Ao16 t75.length co16:Value).ownBlock∧some k_ ≠ (.slice Ao59 t90.length co59:Value).ownBlock)) (n:=t74.length) (c:=co28) ?_).2.2;exact (by (with_reducible repeat (first|apply Kd.R_alloc|apply Kd.R_drewN|apply Kd.R_drew));exact (Kd.R_mono (Kd.R_far (p:=⟨gb70,4,none⟩) (Kd.R_far (p:=⟨gb70,3,none⟩) (Kd.R_far (p:=⟨gb70,2,none⟩) (Kd.R_far (p:=⟨gb70,1,none⟩) (Kd.R_far (p:=⟨gb70,0,none⟩) (Kd.R_types HO_80.out BK70.out (by decide)) (fun _ hk=>hk.2) (.int .i64 t81)) (fun _ hk=>hk.2) (.string t940)) (fun _ hk=>hk.2) (.int .i64 t941)) (fun _ hk=>hk.2) (.slice Ao59 t90.length co59)) (fun _ hk=>hk.2) (.slice Ao60 t93.length co60)) (fun _ h_=>h_.1))));(case side4=>exact (Kd.R_reads' HO_80.out).2.1);rintro e w' ⟨rfl,⟨nd,rfl⟩⟩;(try clear A47)))
           go_ret
           exact ⟨zb3,zb57⟩
          ·replace c46:=Bool.eq_false_iff.mpr c46
           subst c46
           rw [if_neg (show ¬ (false=true) by decide)] at H
           exact absurd ((Option.some.inj H).trans HRT.out) zb33
         ·rw [if_neg c43] at H
          have c43b0:=beq_eq_false_iff_ne.mpr c43
          have c43b1:=bne_iff_ne.mpr c43
          exact absurd ((Option.some.inj H).trans HRT.out) zb33
        ·rw [if_neg c40] at H
         exact absurd H zb55
       ·rw [if_neg c39] at H
        exact absurd H zb55
/-- THE ONE PURE STATEMENT of tollbarlaw12_ScrubAnswers: yours. -/
def tollbarlaw12_ScrubAnswers.Pure:Prop := ∀ (l0:List Int) (a1:ByteArray) (a2:Bool) (l3:List Int),l0.length ≤ maxLen → l0.length * 1 ≤ 140737488351232 → (∀ x ∈ l0,(Lit.int .u8 x).wf=true) → a1.size ≤ 140737488351232 → l3.length ≤ maxLen → l3.length * 1 ≤ 140737488351232 → (∀ x ∈ l3,(Lit.int .u8 x).wf=true) → ∃ k,tollbarlaw12_ScrubAnswers.f k l0 a1 a2 l3=some true
end Go.Proofs.YtagffbblalldiaaGreatDoor.P
namespace Go.Proofs.YtagffbblalldiaaGreatDoor.Pure
open Go.RowKit Go.Proofs.YtagffbblalldiaaGreatDoor.P Go.Proofs.YtagffbblalldiaaGreatDoorW.PrintWords Go.Proofs.YtagffbblalldiaaGreatDoorW.PrintLast Go.Proofs.YtagffbblalldiaaGreatDoorW.PrintMore
set_option linter.unusedVariables false
set_option linter.unusedSimpArgs false
theorem str_append (xs ys:List Int):strOfNums (xs ++ ys)=strOfNums xs ++ strOfNums ys:=by
 apply ByteArray.ext
 simp [strOfNums]
theorem str_size (xs:List Int):(strOfNums xs).size=xs.length:=strOfNums_size xs
theorem rd_append_left (l x:List Int) (i:Int) (h0:0 ≤ i) (h:i < (l.length:Int)):rd (l ++ x) i=rd l i:=by
 unfold rd
 rw [List.getD_eq_getElem?_getD,List.getD_eq_getElem?_getD,List.getElem?_append_left (by omega)]
theorem rd_append_right (l x:List Int) (i:Int) (h:(l.length:Int) ≤ i):rd (l ++ x) i=rd x (i - l.length):=by
 unfold rd
 rw [List.getD_eq_getElem?_getD,List.getD_eq_getElem?_getD,List.getElem?_append_right (by omega)]
 congr 2
 omega
theorem take_two (l:List Int) (i:Int) (h0:0 ≤ i) (h:i + 1 < (l.length:Int)):l.take (i + 2).toNat=l.take i.toNat ++ [rd l i,rd l (i + 1)]:=by
 obtain ⟨n,rfl⟩:=Int.eq_ofNat_of_zero_le h0
 have e1:((n:Int) + 2).toNat=n + 1 + 1:=by omega
 have h1:n + 1 < l.length:=by omega
 rw [e1,List.take_succ_eq_append_getElem h1,List.take_succ_eq_append_getElem (by omega)]
 have e2:((n:Int) + 1).toNat=n + 1:=by omega
 simp only [Int.toNat_natCast,rd,e2,List.getD_eq_getElem?_getD,List.getElem?_eq_getElem h1,List.getElem?_eq_getElem (show n < l.length by omega),Option.getD_some,List.append_assoc,List.cons_append,List.nil_append]
theorem w64 {i:Int} {n:Nat} (c:Int) (h0:0 ≤ i) (h:i < (n:Int)) (hn:n ≤ 140737488355328) (hc0 : -3 ≤ c) (hc:c ≤ 3):wrap64 (i + c)=i + c:=by
 unfold wrap64;omega
theorem toList_data (s:ByteArray):s.toList=s.data.toList:=by
 simp [ByteArray.toList_eq]
theorem bytes_app (a b:ByteArray):bytesOf (a ++ b)=bytesOf a ++ bytesOf b:=by
 unfold bytesOf
 rw [ByteArray.data_append,Array.toList_append,List.map_append]
def mkS (l:List UInt8):ByteArray:=⟨l.toArray⟩
theorem mkS_data (l:List UInt8):(mkS l).data.toList=l:=by simp [mkS]
theorem mkS_self (s:ByteArray):mkS s.data.toList=s:=by simp [mkS]
theorem mkS_size (l:List UInt8):(mkS l).size=l.length:=by rw [← data_length,mkS_data]
theorem mkS_toList (l:List UInt8):(mkS l).toList=l:=by rw [toList_data,mkS_data]
theorem wn0 (n:Nat) (h:n ≤ 4398046511104):wrap64 ((n:Int) + 0)=(n:Int):=by unfold wrap64;omega
theorem wn1 (n:Nat) (h:n ≤ 4398046511104):wrap64 ((n:Int) + 1)=(n:Int) + 1:=by unfold wrap64;omega
theorem wnm (n:Nat) (h:n ≤ 4398046511104):wrap64 ((n:Int) + 1 - 1)=(n:Int):=by unfold wrap64;omega
theorem wi1 (i:Int) (h0:0 ≤ i) (h:i ≤ 4398046511104):wrap64 (i + 1)=i + 1:=by unfold wrap64;omega
theorem rdOf_mk (ps:List (List UInt8)) (i:Int) (h0:0 ≤ i) (h:i < (ps.length:Int)):rdOf ByteArray.empty (ps.map mkS) i=mkS (ps.getD i.toNat []):=by
 unfold rdOf
 rw [List.getD_eq_getElem?_getD,List.getElem?_map,List.getD_eq_getElem?_getD,List.getElem?_eq_getElem (by omega)]
 rfl
theorem mkS_extract (l:List UInt8) (a b:Nat):(mkS l).extract a b=mkS ((l.drop a).take (b - a)):=by
 rw [← mkS_self ((mkS l).extract a b),Lib.extract_data,mkS_data]
theorem mkS_bytes (l:List UInt8):bytesOf (mkS l)=l.map fun b=>(b.toNat:Int):=by unfold bytesOf;rw [mkS_data]
theorem toList_mk (s:ByteArray):s.toList=s.data.toList:=by simp [ByteArray.toList_eq]
theorem mkS_append (a b:List UInt8):mkS a ++ mkS b=mkS (a ++ b):=by
 apply ByteArray.ext
 simp [mkS]
theorem toList_inj {a b:ByteArray} (h:a.toList=b.toList):a=b:=by
 rw [toList_mk,toList_mk] at h
 rw [← mkS_self a,h,mkS_self]
theorem str_bytes (l:List UInt8):strOfNums (l.map fun b=>(b.toNat:Int))=mkS l:=by
 unfold strOfNums mkS
 rw [List.map_map]
 congr 2
 conv=>rhs;rw [← List.map_id l]
 exact List.map_congr_left fun b _=>by simp
theorem index_append (sp:UInt8) (a b:List UInt8) (h:sp ∉ a):Lib.indexByte (a ++ sp :: b) sp=a.length:=by
 induction a with
 | nil=>simp [Lib.indexByte]
 | cons c a ih =>
  have hc:c ≠ sp:=fun e=>h (e ▸ List.mem_cons_self ..)
  have hb:(c == sp)=false:=by simpa using hc
  have h3:=ih (fun e=>h (List.mem_cons_of_mem _ e))
  have hn:((a.length:Int) == -1)=false:=by simp only [beq_eq_false_iff_ne];omega
  simp [Lib.indexByte,hb,h3,hn]
theorem index_none (sp:UInt8) (a:List UInt8) (h:sp ∉ a):Lib.indexByte a sp = -1:=by
 induction a with
 | nil=>simp [Lib.indexByte]
 | cons c a ih =>
  have hc:c ≠ sp:=fun e=>h (e ▸ List.mem_cons_self ..)
  have hb:(c == sp)=false:=by simpa using hc
  have h3:=ih (fun e=>h (List.mem_cons_of_mem _ e))
  simp [Lib.indexByte,hb,h3]
theorem slIndex (s:List UInt8) (sp:UInt8):stringslite_Index.f (mkS s) ⟨#[sp]⟩=some (Lib.indexByte s sp):=by
 show some (Lib.indexByte (mkS s).data.toList sp)=_
 rw [mkS_data]
theorem Cut_no (sp:UInt8) (s:List UInt8) (h:sp ∉ s):strings_Cut.f (mkS s) ⟨#[sp]⟩=some (mkS s,(⟨#[]⟩:ByteArray),false):=by
 unfold strings_Cut.f stringslite_Cut.f
 rw [slIndex,index_none sp s h,Option.bind_some,if_neg (by decide),Option.bind_some]
theorem Cut_yes (sp:UInt8) (a b:List UInt8) (h:sp ∉ a) (hn:(a ++ sp :: b).length ≤ 140737488355328):strings_Cut.f (mkS (a ++ sp :: b)) ⟨#[sp]⟩=some (mkS a,mkS b,true):=by
 unfold strings_Cut.f stringslite_Cut.f
 have hl:(a ++ sp :: b).length=a.length + b.length + 1:=by rw [List.length_append,List.length_cons];omega
 rw [hl] at hn
 have h1:((⟨#[sp]⟩:ByteArray).size:Int)=1:=rfl
 have hw:wrap64 ((a.length:Int) + 1)=(a.length:Int) + 1:=by unfold wrap64;omega
 have e1:((a.length:Int) + 1).toNat=a.length + 1:=by omega
 rw [slIndex,index_append sp a b h,Option.bind_some,h1,hw,mkS_size,hl,if_pos (by omega),if_pos (by omega),if_pos (by omega),if_pos (by omega),if_pos (by omega),Option.bind_some,e1,Int.toNat_natCast,mkS_extract,mkS_extract,List.drop_zero,Nat.sub_zero,List.take_left,← List.drop_drop,List.drop_left]
 rw [show List.drop 1 (sp :: b)=b from rfl,List.take_of_length_le (by omega)]
/-- What stands ahead of the first sp,and behind it. -/
theorem split_first (sp:UInt8) (s:List UInt8):sp ∉ s ∨ ∃ a b,s=a ++ sp :: b∧sp ∉ a:=by
 induction s with
 | nil=>exact .inl (by simp)
 | cons c s ih =>
  by_cases hc:c=sp
  ·exact .inr ⟨[],s,by rw [hc];rfl,by simp⟩
  ·rcases ih with h|⟨a,b,rfl,h⟩
   ·refine .inl fun hm=>?_
    rcases List.mem_cons.1 hm with e|e
    ·exact hc e.symm
    ·exact h e
   ·refine .inr ⟨c :: a,b,rfl,fun hm=>?_⟩
    rcases List.mem_cons.1 hm with e|e
    ·exact hc e.symm
    ·exact h e
def tokB (c:Int):Bool:=(sign_Token_1.f c).getD false
def valB (c:Int):Bool:=(sign_Value_1.f c).getD false
theorem Token_f (s:ByteArray) (h:s.size ≤ 140737488355328):sign_Token.f s=some (!s.toList.isEmpty && (bytesOf s).all tokB):=if_pos h
theorem Value_f (s:ByteArray) (h:s.size ≤ 140737488355328):sign_Value.f s=some ((bytesOf s).all valB):=if_pos h
/-- Is a byte a blank? -/
def blk (b:UInt8):Bool:=([32,9]:List UInt8).contains b
/-- A text without blanks at its ends. -/
def trm (l:List UInt8):List UInt8:=(l.reverse.dropWhile blk).reverse.dropWhile blk
/-- No blank at either end. -/
def Clean (l:List UInt8):Prop:=(∀ a,l.head? = some a → blk a=false) ∧ ∀ a,l.getLast? = some a → blk a=false
theorem dw_self {p:UInt8 → Bool} {l:List UInt8} (h : ∀ a,l.head? = some a → p a=false):l.dropWhile p=l:=by
 cases l with
 | nil=>rfl
 | cons a l=>simp [List.dropWhile,h a rfl]
theorem dw_head (p:UInt8 → Bool) (l:List UInt8) : ∀ a,(l.dropWhile p).head? = some a → p a=false:=by
 induction l with
 | nil=>intro a h;simp at h
 | cons b l ih =>
  intro a h
  cases hb:p b
  ·simp [List.dropWhile,hb] at h;rw [← h];exact hb
  ·simp only [List.dropWhile,hb] at h;exact ih a h
theorem dw_append {p:UInt8 → Bool} (pre t:List UInt8) (h : ∀ a ∈ pre,p a=true):(pre ++ t).dropWhile p=t.dropWhile p:=by
 induction pre with
 | nil=>rfl
 | cons b l ih =>
  simp only [List.cons_append,List.dropWhile,h b (List.mem_cons_self ..)]
  exact ih (fun a ha=>h a (List.mem_cons_of_mem _ ha))
theorem dw_split (p:UInt8 → Bool) (l:List UInt8) : ∃ pre,l=pre ++ l.dropWhile p ∧ ∀ a ∈ pre,p a=true:=by
 induction l with
 | nil=>exact ⟨[],rfl,by simp⟩
 | cons b l ih =>
  obtain ⟨pre,h,hp⟩:=ih
  cases hb:p b
  ·exact ⟨[],by simp [List.dropWhile,hb],by simp⟩
  ·refine ⟨b :: pre,by simp only [List.dropWhile,hb,List.cons_append];rw [← h],?_⟩
   intro a ha
   rcases List.mem_cons.1 ha with rfl|ha
   ·exact hb
   ·exact hp a ha
theorem trm_clean (l:List UInt8):Clean (trm l):=by
 refine ⟨dw_head _ _,fun a ha=>?_⟩
 obtain ⟨pre,h,_⟩:=dw_split blk (l.reverse.dropWhile blk).reverse
 have hl:(l.reverse.dropWhile blk).reverse.getLast? = some a:=by
  rw [h,List.getLast?_append]
  unfold trm at ha
  rw [ha]
  rfl
 rw [List.getLast?_reverse] at hl
 exact dw_head _ _ a hl
theorem trm_self {l:List UInt8} (h:Clean l):trm l=l:=by
 unfold trm
 rw [dw_self (l:=l.reverse) (by intro a ha;rw [List.head?_reverse] at ha;exact h.2 a ha),List.reverse_reverse,dw_self h.1]
theorem trm_around (pre t post : List UInt8) (ht : Clean t) (h1 : ∀ a ∈ pre, blk a = true) (h2 : ∀ a ∈ post, blk a = true) : trm (pre ++ t ++ post) = t := by
  unfold trm
  rw [List.reverse_append, dw_append _ _ (by intro a ha; exact h2 a (List.mem_reverse.1 ha)), List.reverse_append]
  by_cases he : t = []
  · subst he
    have := dw_append (p := blk) pre.reverse [] (by intro a ha; exact h1 a (List.mem_reverse.1 ha))
    simp only [List.append_nil] at this
    simp [this]
  · have : (t.reverse ++ pre.reverse).dropWhile blk = t.reverse ++ pre.reverse := dw_self (by
      intro a ha
      rw [List.head?_append] at ha
      obtain ⟨b, hb⟩ : ∃ b, t.reverse.head? = some b := by
        cases hh : t.reverse with
        | nil => exact absurd (List.reverse_eq_nil_iff.1 hh) he
        | cons b _ => exact ⟨b, rfl⟩
      rw [hb] at ha
      obtain rfl : b = a := by simpa using ha
      rw [List.head?_reverse] at hb
      exact ht.2 _ hb)
    rw [this, List.reverse_append, List.reverse_reverse, List.reverse_reverse, dw_append _ _ h1, dw_self ht.1]
theorem trm_length (l:List UInt8):(trm l).length ≤ l.length:=by
 unfold trm
 have h1:((l.reverse.dropWhile blk).reverse.dropWhile blk).length ≤ (l.reverse.dropWhile blk).reverse.length:=(List.dropWhile_suffix _).length_le
 have h2:(l.reverse.dropWhile blk).length ≤ l.reverse.length:=(List.dropWhile_suffix _).length_le
 rw [List.length_reverse] at h1 h2
 omega
theorem Trim_f (s:ByteArray) (h:s.size ≤ 9223372036854775807):sign_Trim.f s=some ⟨(trm s.data.toList).toArray⟩:=by
 unfold sign_Trim.f strings_Trim.f
 rw [if_pos ⟨h,by decide,by decide⟩]
 rfl
/-- Is a field right? -/
def rightB (a t:ByteArray):Bool:=decide (a.size ≤ 100) && ((!a.toList.isEmpty && (bytesOf a).all tokB) && (decide (t.size ≤ 1000) && ((bytesOf t).all valB && (mkS (trm t.data.toList)).toList == t.toList)))
theorem Trim_mk (s:ByteArray) (h:s.size ≤ 9223372036854775807):sign_Trim.f s=some (mkS (trm s.data.toList)):=Trim_f s h
theorem field_right_f (a t:ByteArray):field_right.f a t=some (rightB a t):=by
 unfold field_right.f rightB
 by_cases h1:(a.size:Int) ≤ 100
 ·rw [if_pos h1,Token_f a (by omega),Option.bind_some,decide_eq_true (show a.size ≤ 100 by omega),Bool.true_and]
  cases hT:(!a.toList.isEmpty && (bytesOf a).all tokB)
  ·rw [if_neg (by simp),Bool.false_and]
  ·rw [if_pos rfl,Bool.true_and]
   by_cases h2:(t.size:Int) ≤ 1000
   ·rw [if_pos h2,Value_f t (by omega),Option.bind_some,decide_eq_true (show t.size ≤ 1000 by omega),Bool.true_and]
    cases (bytesOf t).all valB
    ·rw [if_neg (by simp),Bool.false_and]
    ·rw [if_pos rfl,Bool.true_and,Trim_mk t (by omega),Option.bind_some]
   ·rw [if_neg h2,decide_eq_false (show ¬ t.size ≤ 1000 by omega),Bool.false_and]
 ·rw [if_neg h1,decide_eq_false (show ¬ a.size ≤ 100 by omega),Bool.false_and]
def fieldOk (l:List UInt8):Bool:=if 58 ∈ l then rightB (mkS (l.takeWhile (· != 58))) (mkS (trm ((l.dropWhile (· != 58)).drop 1))) else false
theorem take_first (sp:UInt8) (a b:List UInt8) (h:sp ∉ a):(a ++ sp :: b).takeWhile (· != sp)=a∧((a ++ sp :: b).dropWhile (· != sp)).drop 1=b:=by
 induction a with
 | nil=>simp [List.takeWhile_cons,List.dropWhile_cons]
 | cons x a ih =>
  have hx:x ≠ sp:=fun e=>h (by rw [e];exact List.mem_cons_self ..)
  have:=ih (fun e=>h (List.mem_cons_of_mem _ e))
  simp only [List.cons_append,List.takeWhile_cons,List.dropWhile_cons,bne_iff_ne,ne_eq,hx,not_false_eq_true,if_true]
  exact ⟨by rw [this.1],this.2⟩
theorem fieldOk_no (l:List UInt8) (h:58 ∉ l):fieldOk l=false:=by unfold fieldOk;rw [if_neg h]
theorem fieldOk_yes (a b:List UInt8) (h:58 ∉ a):fieldOk (a ++ 58 :: b)=rightB (mkS a) (mkS (trm b)):=by
 unfold fieldOk
 obtain ⟨e1,e2⟩:=take_first 58 a b h
 rw [if_pos (by simp),e1,e2]
theorem field_f (l:List UInt8) (hn:l.length ≤ 140737488355328) : ∃ x y,field_Parse.f (mkS l)=some (x,y,if fieldOk l=true then 0 else 20):=by
 unfold field_Parse.f
 rcases split_first 58 l with h|⟨a,b,rfl,h⟩
 ·rw [Cut_no 58 l h,Option.bind_some,fieldOk_no l h]
  simp only
  rw [Trim_mk _ (by decide),Option.bind_some]
  exact ⟨_,_,rfl⟩
 ·rw [Cut_yes 58 a b h hn,Option.bind_some,fieldOk_yes a b h]
  simp only
  rw [Trim_mk _ (by rw [mkS_size];rw [List.length_append,List.length_cons] at hn;omega),Option.bind_some,if_pos trivial,field_right_f,Option.bind_some,mkS_data]
  cases rightB (mkS a) (mkS (trm b)) <;> exact ⟨_,_,rfl⟩
/-- The line at the place i of l,with the bound m;d bytes are left. -/
def cutAt (l:List Int) (m:Int):Nat → Int → (ByteArray × Int × Int)
 | 0,_=>((⟨#[]⟩:ByteArray),0,0)
 | d + 1,i =>
  if rd l i=10 then ((⟨#[]⟩:ByteArray),0,20)
  else if rd l i=13 then
   (if i + 1 < (l.length:Int) then (if rd l (i + 1)=10 then (strOfNums (l.take i.toNat),i + 2,0) else ((⟨#[]⟩:ByteArray),0,20)) else ((⟨#[]⟩:ByteArray),0,0))
  else if m ≤ i then ((⟨#[]⟩:ByteArray),0,2) else cutAt l m d (i + 1)
theorem cut_l0 (l:List Int) (a:Int) (hn:l.length ≤ 140737488355328) (d:Nat) : ∀ (k:Nat) (i:Int),0 ≤ i → (l.length:Int) - i=d → 3 * d + 3 ≤ k →
 line_Cut.l0 k l a l (l.length:Int) i=some (cutAt l (mx a 0) d i):=by
 induction d with
 | zero =>
  intro k i h0 hd hk
  obtain ⟨k,rfl⟩ : ∃ m,k=m + 1:=⟨k - 1,by omega⟩
  simp only [line_Cut.l0,cutAt];rw [if_neg (by omega)]
 | succ d ih =>
  intro k i h0 hd hk
  obtain ⟨k,rfl⟩ : ∃ m,k=m + 3:=⟨k - 3,by omega⟩
  have hlt:i < (l.length:Int):=by omega
  have hw1:wrap64 (i + 1)=i + 1:=w64 1 h0 hlt hn (by omega) (by omega)
  have hw2:wrap64 (i + 2)=i + 2:=w64 2 h0 hlt hn (by omega) (by omega)
  have ih' := ih k (i + 1) (by omega) (by omega) (by omega)
  unfold line_Cut.l0
  rw [if_pos hlt,if_pos h0,if_pos hlt]
  unfold line_Cut.j1 line_Cut.j2
  simp only [cutAt,hw1,hw2,ih']
  by_cases h10:rd l i=10
  ·simp [h10]
  ·rw [if_neg h10]
   by_cases h13:rd l i=13
   ·simp only [h13]
    by_cases h1:i + 1 < (l.length:Int)
    ·by_cases hr:rd l (i + 1)=10
     ·have hne : ¬ (i + 1=(l.length:Int)):=by omega
      have hle:i ≤ (l.length:Int):=by omega
      have h01:0 ≤ i + 1:=by omega
      simp [h1,hr,hne,hle,h01,h0]
     ·have h01:0 ≤ i + 1:=by omega
      simp [h1,hr,h01]
    ·have he:i + 1=(l.length:Int):=by omega
     simp [he]
   ·simp only [h13,if_false,h10]
    by_cases hm:mx a 0 ≤ i
    ·simp [hm]
    ·simp [hm]
/-- What Cut tells. -/
def cutSpec (l:List Int) (a:Int):(ByteArray × Int × Int):=cutAt l (mx a 0) l.length 0
theorem cut_f (l:List Int) (a:Int) (hn:l.length ≤ 140737488355328) (k:Nat) (hk:3 * l.length + 3 ≤ k):line_Cut.f k l a=some (cutSpec l a):=by
 unfold line_Cut.f cutSpec
 exact cut_l0 l a hn l.length k 0 (by omega) (by omega) hk
theorem cutA_shape (l:List Int) (m:Int) (d:Nat) : ∀ (i:Int),0 ≤ i → (l.length:Int) - i=d →
 ((cutAt l m d i).2.1 > 0∧(cutAt l m d i).2.1 ≤ l.length∧strOfNums (l.take (cutAt l m d i).2.1.toNat)=(cutAt l m d i).1 ++ (⟨#[13,10]⟩:ByteArray)∧((cutAt l m d i).1.size:Int)=(cutAt l m d i).2.1 - 2∧(cutAt l m d i).2.2=0)
 ∨ ((cutAt l m d i).2.1=0∧(cutAt l m d i).1=(⟨#[]⟩:ByteArray)):=by
 induction d with
 | zero=>intro i h0 hd;right;simp [cutAt]
 | succ d ih =>
  intro i h0 hd
  have hlt:i < (l.length:Int):=by omega
  have ih' := ih (i + 1) (by omega) (by omega)
  simp only [cutAt]
  by_cases h10:rd l i=10
  ·simp [h10]
  ·rw [if_neg h10]
   by_cases h13:rd l i=13
   ·rw [if_pos h13]
    by_cases h1:i + 1 < (l.length:Int)
    ·rw [if_pos h1]
     by_cases hr:rd l (i + 1)=10
     ·rw [if_pos hr]
      left
      refine ⟨by show i + 2 > 0;omega,by show i + 2 ≤ _;omega,?_,?_,rfl⟩
      ·show strOfNums (l.take (i + 2).toNat)=_
       rw [take_two l i h0 h1,str_append,h13,hr]
       rfl
      ·show ((strOfNums (l.take i.toNat)).size:Int)=i + 2 - 2
       rw [str_size,List.length_take]
       omega
     ·rw [if_neg hr];right;exact ⟨rfl,rfl⟩
    ·rw [if_neg h1];right;exact ⟨rfl,rfl⟩
   ·rw [if_neg h13]
    by_cases hm:m ≤ i
    ·rw [if_pos hm];right;exact ⟨rfl,rfl⟩
    ·rw [if_neg hm];exact ih'
theorem cutS_shape (l:List Int) (m:Int) :
 (cutSpec l m).2.1 > 0∧(cutSpec l m).2.1 ≤ l.length∧((cutSpec l m).1.size:Int)=(cutSpec l m).2.1 - 2∧(cutSpec l m).2.2=0 ∨ (cutSpec l m).2.1=0∧(cutSpec l m).1=(⟨#[]⟩:ByteArray):=by
 rcases cutA_shape l (mx m 0) l.length 0 (by omega) (by omega) with h|h
 ·exact Or.inl ⟨h.1,h.2.1,h.2.2.2.1,h.2.2.2.2⟩
 ·exact Or.inr h
theorem fold_tells (s:ByteArray) (hn:s.size ≤ 140737488355328):sign_Fold.f s=some (strOfNums ((bytesOf s).map foldC)):=if_pos hn
def Bytes (xs:List Int):Prop := ∀ x ∈ xs,0 ≤ x∧x ≤ 255
theorem bytes_of (s:ByteArray):Bytes (bytesOf s):=by
 intro x hx
 obtain ⟨b,_,rfl⟩:=List.mem_map.1 hx
 have:=b.toNat_lt
 omega
theorem foldC_byte (x:Int) (h0:0 ≤ x) (h1:x ≤ 255):0 ≤ foldC x∧foldC x ≤ 255:=by unfold foldC;split <;> omega
theorem bytes_fold {xs:List Int} (h:Bytes xs):Bytes (xs.map foldC):=by
 intro x hx
 obtain ⟨y,hy,rfl⟩:=List.mem_map.1 hx
 exact foldC_byte y (h y hy).1 (h y hy).2
theorem bytes_str {xs:List Int} (h:Bytes xs):bytesOf (strOfNums xs)=xs:=by
 unfold bytesOf
 rw [strOfNums_data,List.map_map]
 conv=>rhs;rw [← List.map_id xs]
 refine List.map_congr_left fun x hx=>?_
 have:=h x hx
 show ((UInt8.ofNat x.toNat).toNat:Int)=x
 rw [UInt8.toNat_ofNat']
 omega
theorem str_inj {xs ys:List Int} (hx:Bytes xs) (hy:Bytes ys):((strOfNums xs).toList == (strOfNums ys).toList)=decide (xs=ys):=by
 rw [Bool.eq_iff_iff,beq_iff_eq,decide_eq_true_eq]
 refine ⟨fun e=>?_,fun e=>by rw [e]⟩
 rw [← bytes_str hx,← bytes_str hy]
 unfold bytesOf
 rw [← toList_data,← toList_data,e]
theorem same_tells (a b:ByteArray) (ha:a.size ≤ 140737488355328) (hb:b.size ≤ 140737488355328):sign_Same.f a b=some (decide ((bytesOf a).map foldC=(bytesOf b).map foldC)):=by
 unfold sign_Same.f
 by_cases h:(a.size:Int)=b.size
 ·rw [if_pos h,fold_tells a ha,Option.bind_some,fold_tells b hb,Option.bind_some,str_inj (bytes_fold (bytes_of a)) (bytes_fold (bytes_of b))]
 ·rw [if_neg h]
  have hne : ¬ ((bytesOf a).map foldC=(bytesOf b).map foldC):=by
   intro e
   have:=congrArg List.length e
   rw [List.length_map,List.length_map,bytesOf_length,bytesOf_length] at this
   omega
  rw [decide_eq_false hne]
/-- How many commas. -/
def cntC (sp:UInt8):List UInt8 → Nat
 | []=>0
 | c :: l=>if c=sp then cntC sp l + 1 else cntC sp l
theorem cntC_count {sp:UInt8} (l:List UInt8):l.count sp=cntC sp l:=by
 induction l with
 | nil=>rfl
 | cons c l ih=>rw [List.count_cons,ih];by_cases hc:c=sp <;> simp [cntC,hc]
theorem cntC_append {sp:UInt8} (a b:List UInt8):cntC sp (a ++ b)=cntC sp a + cntC sp b:=by
 rw [← cntC_count,← cntC_count,← cntC_count,List.count_append]
theorem cntC_none {sp:UInt8} (l:List UInt8):cntC sp l=0 ↔ sp ∉ l:=by rw [← cntC_count];exact List.count_eq_zero
theorem cntC_le {sp:UInt8} (l:List UInt8):cntC sp l ≤ l.length:=by rw [← cntC_count];exact List.count_le_length
/-- The parts between commas. -/
def pcs (sp:UInt8):List UInt8 → List (List UInt8)
 | []=>[[]]
 | c :: l=>if c=sp then [] :: pcs sp l else (match pcs sp l with|p :: ps=>(c :: p) :: ps|[]=>[[c]])
theorem pcs_ne {sp:UInt8} (l:List UInt8) : ∃ p ps,pcs sp l=p :: ps:=by
 induction l with
 | nil=>exact ⟨[],[],rfl⟩
 | cons c l ih =>
  obtain ⟨p,ps,h⟩:=ih
  by_cases hc:c=sp
  ·exact ⟨[],pcs sp l,by simp [pcs,hc]⟩
  ·exact ⟨c :: p,ps,by simp [pcs,hc,h]⟩
theorem pcs_none {sp:UInt8} (l:List UInt8) (h:sp ∉ l):pcs sp l=[l]:=by
 induction l with
 | nil=>rfl
 | cons c l ih =>
  have hc:c ≠ sp:=fun e=>h (e ▸ List.mem_cons_self ..)
  simp [pcs,hc,ih (fun e=>h (List.mem_cons_of_mem _ e))]
theorem pcs_append {sp:UInt8} (a b:List UInt8):pcs sp (a ++ sp :: b)=pcs sp a ++ pcs sp b:=by
 induction a with
 | nil=>simp [pcs]
 | cons c a ih =>
  by_cases hc:c=sp
  ·simp [pcs,hc,ih]
  ·obtain ⟨p,ps,hp⟩:=pcs_ne (sp:=sp) a
   simp [pcs,hc,ih,hp]
theorem pcs_length {sp:UInt8} (l:List UInt8):(pcs sp l).length=cntC sp l + 1:=by
 induction l with
 | nil=>rfl
 | cons c l ih =>
  by_cases hc:c=sp
  ·simp [pcs,cntC,hc,ih]
  ·obtain ⟨p,ps,hp⟩:=pcs_ne (sp:=sp) l
   rw [hp] at ih
   simp only [pcs,hc,if_false,hp,cntC]
   simpa using ih
theorem pcs_le {sp:UInt8} (l:List UInt8) : ∀ p ∈ pcs sp l,p.length ≤ l.length:=by
 induction l with
 | nil=>intro p hp;simp [pcs] at hp;simp [hp]
 | cons c l ih =>
  intro p hp
  by_cases hc:c=sp
  ·simp only [pcs,hc,if_true] at hp
   rcases List.mem_cons.1 hp with rfl|hp
   ·simp
   ·have:=ih p hp;simp;omega
  ·obtain ⟨q,qs,hq⟩:=pcs_ne (sp:=sp) l
   simp only [pcs,hc,if_false,hq] at hp
   rcases List.mem_cons.1 hp with rfl|hp
   ·have:=ih q (by rw [hq];exact List.mem_cons_self ..);simp;omega
   ·have:=ih p (by rw [hq];exact List.mem_cons_of_mem _ hp);simp;omega
/-- What Split tells. -/
theorem index_splitC {sp:UInt8} (l:List UInt8) (h:0 < cntC sp l) : ∃ a b,l=a ++ sp :: b∧sp ∉ a∧Lib.indexByte l sp=a.length:=by
 induction l with
 | nil=>simp [cntC] at h
 | cons c l ih =>
  by_cases hc:c=sp
  ·exact ⟨[],l,by simp [hc],by simp,by simp [Lib.indexByte,hc]⟩
  ·have h' : 0 < cntC sp l:=by simpa [cntC,hc] using h
   obtain ⟨a,b,h1,h2,h3⟩:=ih h'
   refine ⟨c :: a,b,by simp [h1],?_,?_⟩
   ·intro hm
    rcases List.mem_cons.1 hm with e|e
    ·exact hc e.symm
    ·exact h2 e
   ·have hb:(c == sp)=false:=by simpa using hc
    have hn:((a.length:Int) == -1)=false:=by simp only [beq_eq_false_iff_ne];omega
    simp [Lib.indexByte,hb,h3,hn]
theorem gs_endC {sp:UInt8} (k:Nat) (s:ByteArray) (x3:Int) (x9:List ByteArray) (i:Nat) (hc:sp ∉ s.data.toList) (hx:x3=i) (hl:x9.length=i + 1) (hi:i ≤ 4398046511104) :
 strings_genSplit.l0 (k + 1) s ⟨#[sp]⟩ 0 x3 x9 i=some (x9.take i ++ (pcs sp s.data.toList).map mkS):=by
 simp only [strings_genSplit.l0]
 rw [if_neg (by omega),if_pos (by omega),if_pos (by omega),wn1 i hi,if_pos (by omega),if_pos (by omega),pcs_none _ hc]
 have e1:((i:Int) + 1).toNat=i + 1:=by omega
 rw [e1,Int.toNat_natCast,List.take_succ_eq_append_getElem (by rw [List.length_set];omega),List.take_set_of_le (Nat.le_refl _)]
 simp [mkS_self]
theorem extract_midC {sp : UInt8} (s : ByteArray) (a b : List UInt8) (hab : s.data.toList = a ++ sp :: b) : (s.extract (a.length + 1) s.size).data.toList = b ∧ s.extract 0 a.length = mkS a ∧ (s.extract (a.length + 1) s.size).size ≤ s.size := by
  have e2 : (s.extract (a.length + 1) s.size).data.toList = b := by
    rw [Lib.extract_to_end, hab, ← List.drop_drop, List.drop_left]; rfl
  refine ⟨e2, ?_, ?_⟩
  · have : (s.extract 0 a.length).data.toList = a := by
      rw [Lib.extract_data, hab, List.drop_zero, Nat.sub_zero, List.take_left]
    rw [← mkS_self (s.extract 0 _), this]
  · have hlen : a.length + b.length + 1 = s.size := by rw [← data_length, hab]; simp; omega
    rw [← data_length, e2]
    omega
theorem gs_stepC {sp:UInt8} (k:Nat) (s:ByteArray) (x3:Int) (x9:List ByteArray) (i:Nat) (a b:List UInt8) (hab:s.data.toList=a ++ sp :: b) (hidx:Lib.indexByte s.data.toList sp=a.length) (hx:(i:Int) < x3) (hl:i < x9.length) (hs:s.size ≤ 4398046511104) (hi:i ≤ 4398046511104) :
 ∀ R,strings_genSplit.l0 k (s.extract (a.length + 1) s.size) ⟨#[sp]⟩ 0 x3 (x9.set i (mkS a)) ((i:Int) + 1)=R → strings_genSplit.l0 (k + 1) s ⟨#[sp]⟩ 0 x3 x9 i=R:=by
 intro R hR
 have hlen:a.length + b.length + 1=s.size:=by rw [← data_length,hab];simp;omega
 have hix:strings_Index.f s ⟨#[sp]⟩=some (a.length:Int):=by
  show some (Lib.indexByte s.data.toList sp)=_
  rw [hidx]
 have hs1:((⟨#[sp]⟩:ByteArray).size:Int)=1:=rfl
 have e1:((a.length:Int) + 1).toNat=a.length + 1:=by omega
 obtain ⟨_,e3,_⟩:=extract_midC s a b hab
 simp only [strings_genSplit.l0]
 rw [if_pos hx,hix]
 rw [Option.bind_some]
 rw [if_neg (by omega),wn0 _ (by omega),hs1,wn1 _ (by omega),if_pos (by omega),if_pos (by omega),if_pos (by omega),if_pos (by omega),if_pos (by omega),if_pos (by omega),wn1 i hi,e1,Int.toNat_natCast,Int.toNat_natCast,e3]
 exact hR
theorem gs_l0C {sp:UInt8} (d:Nat) : ∀ (k:Nat) (s:ByteArray) (x3:Int) (x9:List ByteArray) (i:Nat),cntC sp s.data.toList=d → x3=i + d → x9.length=i + d + 1 → d + 1 ≤ k → s.size ≤ 4398046511104 →
 i + d ≤ 4398046511104 → strings_genSplit.l0 k s ⟨#[sp]⟩ 0 x3 x9 i=some (x9.take i ++ (pcs sp s.data.toList).map mkS):=by
 induction d with
 | zero =>
  intro k s x3 x9 i hc hx hl hk hs hid
  obtain ⟨k,rfl⟩ : ∃ m,k=m + 1:=⟨k - 1,by omega⟩
  exact gs_endC k s x3 x9 i ((cntC_none _).1 hc) (by omega) (by omega) (by omega)
 | succ d ih =>
  intro k s x3 x9 i hc hx hl hk hs hid
  obtain ⟨k,rfl⟩ : ∃ m,k=m + 1:=⟨k - 1,by omega⟩
  obtain ⟨a,b,hab,ha,hidx⟩:=index_splitC (sp:=sp) s.data.toList (by omega)
  obtain ⟨e2,_,e4⟩:=extract_midC s a b hab
  have hcb:cntC sp b=d:=by
   rw [hab,cntC_append,(cntC_none a).2 ha] at hc
   simp only [cntC,if_true] at hc
   omega
  refine gs_stepC k s x3 x9 i a b hab hidx (by omega) (by omega) hs (by omega) _ ?_
  have:=ih k (s.extract (a.length + 1) s.size) x3 (x9.set i (mkS a)) (i + 1) (by rw [e2];exact hcb) (by omega) (by rw [List.length_set];omega) (by omega) (by omega) (by omega)
  rw [show (((i + 1:Nat)):Int)=(i:Int) + 1 by omega] at this
  rw [this,e2,hab,pcs_append,pcs_none a ha,List.take_succ_eq_append_getElem (by rw [List.length_set];omega),List.take_set_of_le (Nat.le_refl _)]
  simp
theorem gs_firstC {sp:UInt8} (k:Nat) (s:ByteArray) (hs:s.size ≤ 4398046511103) :
 ∀ R,strings_genSplit.l0 k s ⟨#[sp]⟩ 0 ((cntC sp s.data.toList:Nat):Int) (List.replicate (cntC sp s.data.toList + 1) (⟨#[]⟩:ByteArray)) 0=R → strings_genSplit.f (k + 1) s ⟨#[sp]⟩ 0 (-1)=R:=by
 intro R hR
 have hcl:=cntC_le (sp:=sp) s.data.toList
 rw [data_length] at hcl
 have hcf:strings_Count.f s ⟨#[sp]⟩=some ((cntC sp s.data.toList:Nat):Int):=by
  rw [← cntC_count];rfl
 obtain ⟨c,hc⟩ : ∃ c,c=cntC sp s.data.toList:=⟨_,rfl⟩
 rw [← hc] at hcf hcl hR
 have hm:mn ((c:Int) + 1) ((s.size:Int) + 1)=(c:Int) + 1:=by unfold mn;split <;> omega
 have e1:((c:Int) + 1).toNat=c + 1:=by omega
 have hne : ¬ ((⟨#[sp]⟩:ByteArray).toList=[]):=by rw [toList_data];simp
 unfold strings_genSplit.f
 rw [if_neg (by decide),if_neg hne,if_pos (by decide),hcf]
 rw [Option.bind_some]
 simp only [strings_genSplit.j0]
 rw [wn1 c (by omega),wn1 s.size (by omega),hm,wnm c (by omega),e1,if_pos (by omega),if_pos (by omega)]
 exact hR
theorem Split_fC {sp:UInt8} (s:ByteArray) (hs:s.size ≤ 4398046511103) (k:Nat) (hk:s.size + 3 ≤ k):strings_Split.f k s ⟨#[sp]⟩=some ((pcs sp s.data.toList).map mkS):=by
 obtain ⟨k,rfl⟩ : ∃ m,k=m + 1:=⟨k - 1,by omega⟩
 have hcl:=cntC_le (sp:=sp) s.data.toList
 rw [data_length] at hcl
 unfold strings_Split.f
 have:=gs_l0C (cntC sp s.data.toList) k s ((cntC sp s.data.toList:Nat):Int) (List.replicate (cntC sp s.data.toList + 1) (⟨#[]⟩:ByteArray)) 0 rfl (by omega) (by rw [List.length_replicate];omega) (by omega) (by omega) (by omega)
 rw [show ((0:Nat):Int)=0 from rfl] at this
 rw [gs_firstC k s hs _ this]
 simp
/-- The parts of a list: trimmed,the empty ones left out. -/
def commaParts (l:List UInt8):List (List UInt8):=((pcs 44 l).map trm).filter (fun p => !p.isEmpty)
theorem comma_one (l:List UInt8) (h:44 ∉ l):commaParts l=if (trm l).isEmpty then [] else [trm l]:=by
 rw [commaParts,pcs_none l h]
 cases ht:(trm l).isEmpty <;> simp [ht]
theorem split_step (ps:List (List UInt8)) (i:Int) (h0:0 ≤ i) (hlt:i < (ps.length:Int)):((ps.drop i.toNat).map trm).filter (fun p => !p.isEmpty)=(if trm (ps.getD i.toNat [])=[] then [] else [trm (ps.getD i.toNat [])]) ++ ((ps.drop (i + 1).toNat).map trm).filter (fun p => !p.isEmpty):=by
 have hl:i.toNat < ps.length:=by omega
 have hg:ps.getD i.toNat []=ps[i.toNat]:=by rw [List.getD_eq_getElem?_getD,List.getElem?_eq_getElem hl];rfl
 rw [hg,List.drop_eq_getElem_cons hl,show (i + 1).toNat=i.toNat + 1 by omega,List.map_cons,List.filter_cons]
 by_cases he:trm ps[i.toNat]=[]
 ·rw [if_pos he,he];rfl
 ·rw [if_neg he,if_pos (by simpa using he)];rfl
theorem split_l0 (ps:List (List UInt8)) (hl : ∀ p ∈ ps,p.length ≤ 4398046511104) (hn:ps.length ≤ 4398046511104) (d:Nat) : ∀ (k:Nat) (out:List ByteArray) (i:Int),0 ≤ i → (ps.length:Int) - i=d → d + 1 ≤ k → (out.length:Int) ≤ i →
 sign_Split.l0 k out (ps.map mkS) (ps.length:Int) i=some (out ++ (((ps.drop i.toNat).map trm).filter (fun p => !p.isEmpty)).map mkS):=by
 induction d with
 | zero =>
  intro k out i h0 hd hk ho
  obtain ⟨k,rfl⟩ : ∃ m,k=m + 1:=⟨k - 1,by omega⟩
  simp only [sign_Split.l0]
  rw [if_neg (by omega),List.drop_of_length_le (by omega)]
  simp
 | succ d ih =>
  intro k out i h0 hd hk ho
  obtain ⟨k,rfl⟩ : ∃ m,k=m + 1:=⟨k - 1,by omega⟩
  have hlt:i.toNat < ps.length:=by omega
  have hg:ps.getD i.toNat []=ps[i.toNat]:=by rw [List.getD_eq_getElem?_getD,List.getElem?_eq_getElem hlt];rfl
  have hlp:=hl _ (List.getElem_mem hlt)
  rw [← hg] at hlp
  rw [split_step ps i h0 (by omega)]
  simp only [sign_Split.l0]
  rw [if_pos (by omega),if_pos h0,if_pos (by rw [List.length_map];omega),rdOf_mk ps i h0 (by omega),Trim_f _ (by rw [mkS_size];omega),mkS_data]
  simp only [Option.bind_some,wi1 i h0 (by omega)]
  rw [show (⟨(trm (ps.getD i.toNat [])).toArray⟩:ByteArray)=mkS (trm (ps.getD i.toNat [])) from rfl,mkS_toList]
  by_cases he:trm (ps.getD i.toNat [])=[]
  ·rw [if_pos he,if_pos he,ih k out (i + 1) (by omega) (by omega) (by omega) (by omega)]
   rfl
  ·rw [if_neg he,if_neg he,if_pos (by omega),ih k _ (i + 1) (by omega) (by omega) (by omega) (by rw [List.length_append];simp;omega)]
   simp only [List.map_append,List.map_cons,List.map_nil,List.append_assoc]
theorem signSplit_f (s:ByteArray) (hs:s.size ≤ 4398046511103) (k:Nat) (hk:s.size + 3 ≤ k):sign_Split.f k s=some ((commaParts s.data.toList).map mkS):=by
 unfold sign_Split.f
 have hpl:=pcs_length (sp:=44) s.data.toList
 have hcl:=cntC_le (sp:=44) s.data.toList
 rw [data_length] at hcl
 rw [Split_fC s hs k hk]
 simp only [Option.bind_some,List.length_map]
 rw [split_l0 (pcs 44 s.data.toList) (fun p hp=>by have:=pcs_le _ p hp;rw [data_length] at this;omega) (by omega) (pcs 44 s.data.toList).length k [] 0 (by omega) (by omega) (by omega) (by simp)]
 rfl
theorem rdT_at (xs:List (S36)) (i:Nat) (h:i < xs.length):rd_T36 xs (i:Int)=xs[i]:=by
 unfold rd_T36
 rw [Int.toNat_natCast,List.getD_eq_getElem?_getD,List.getElem?_eq_getElem h];rfl
theorem rdB_at (xs:List ByteArray) (i:Nat) (h:i < xs.length):rdOf ByteArray.empty xs (i:Int)=xs[i]:=by
 unfold rdOf
 rw [Int.toNat_natCast,List.getD_eq_getElem?_getD,List.getElem?_eq_getElem h];rfl
/-- The same names. -/
def sameN (a b:ByteArray):Bool:=decide ((bytesOf a).map foldC=(bytesOf b).map foldC)
theorem same_f (a b:ByteArray) (ha:a.size ≤ 140737488355328) (hb:b.size ≤ 140737488355328):sign_Same.f a b=some (sameN a b):=same_tells a b ha hb
/-- Few fields,of short texts. -/
def FB (fs:List (S36)):Prop:=fs.length ≤ 1000 ∧ ∀ f ∈ fs,f.f0.size ≤ 1048576∧f.f1.size ≤ 1048576
/-- The values of a name. -/
def getS (name:ByteArray):List (S36) → List ByteArray
 | []=>[]
 | f :: r=>if sameN f.f0 name=true then f.f1 :: getS name r else getS name r
theorem getS_len (name:ByteArray) : ∀ fs,(getS name fs).length ≤ fs.length
 | []=>Nat.le_refl _
 | f :: r=>by rw [getS];have:=getS_len name r;split <;> simp only [List.length_cons] <;> omega
theorem getS_mem (name:ByteArray) : ∀ (fs:List (S36)) (v:ByteArray),v ∈ getS name fs → ∃ f ∈ fs,v=f.f1∧sameN f.f0 name=true
 | [],v,h=>by cases h
 | f :: r,v,h=>by
  rw [getS] at h
  by_cases hs:sameN f.f0 name=true
  ·rw [if_pos hs] at h
   rcases List.mem_cons.1 h with rfl|h
   ·exact ⟨f,List.mem_cons_self,rfl,hs⟩
   ·obtain ⟨g,hg,e⟩:=getS_mem name r v h;exact ⟨g,List.mem_cons_of_mem _ hg,e⟩
  ·rw [if_neg hs] at h
   obtain ⟨g,hg,e⟩:=getS_mem name r v h;exact ⟨g,List.mem_cons_of_mem _ hg,e⟩
theorem get_l0 (name:ByteArray) (hn:name.size ≤ 1048576) (fs:List (S36)) (hf:FB fs) (d:Nat) : ∀ (k i:Nat) (out:List ByteArray),i + d=fs.length → d < k → out.length ≤ i →
 field_Get.l0 k name out fs (fs.length:Int) (i:Int)=some (out ++ getS name (fs.drop i)):=by
 have hfl:=hf.1
 induction d with
 | zero =>
  intro k i out hi hk ho
  obtain ⟨k,rfl⟩ : ∃ m,k=m + 1:=⟨k - 1,by omega⟩
  rw [field_Get.l0,if_neg (by omega),List.drop_of_length_le (by omega),getS,List.append_nil]
 | succ d ih =>
  intro k i out hi hk ho
  obtain ⟨k,rfl⟩ : ∃ m,k=m + 1:=⟨k - 1,by omega⟩
  have hlt:i < fs.length:=by omega
  have hb:=hf.2 _ (List.getElem_mem hlt)
  have hw:wrap64 ((i:Int) + 1)=((i + 1:Nat):Int):=by unfold wrap64;omega
  rw [field_Get.l0,if_pos (by omega),if_pos (by omega),if_pos (by omega),rdT_at fs i hlt,same_f _ _ (by omega) (by omega),Option.bind_some,hw,List.drop_eq_getElem_cons hlt,getS]
  by_cases hs:sameN fs[i].f0 name=true
  ·rw [if_pos hs,if_pos hs,if_pos (by omega),ih k (i + 1) _ (by omega) (by omega) (by rw [List.length_append];simp;omega)]
   simp only [List.append_assoc,List.singleton_append]
  ·rw [if_neg hs,if_neg hs,ih k (i + 1) _ (by omega) (by omega) (by omega)]
theorem Get_f (fs:List (S36)) (name:ByteArray) (hf:FB fs) (hn:name.size ≤ 1048576) (k:Nat) (hk:fs.length < k):field_Get.f k fs name=some (getS name fs):=by
 have:=get_l0 name hn fs hf fs.length k 0 [] (by omega) hk (Nat.zero_le _)
 rw [List.drop_zero,List.nil_append] at this
 exact this
/-- A value's parts. -/
def partsS (v:ByteArray):List ByteArray:=(commaParts v.data.toList).map mkS
theorem comma_len (l:List UInt8):(commaParts l).length ≤ l.length + 1:=by
 unfold commaParts
 have h1:=List.length_filter_le (fun p => !p.isEmpty) ((pcs 44 l).map trm)
 rw [List.length_map,pcs_length] at h1
 have h2:=cntC_le (sp:=44) l
 omega
theorem parts_len (v:ByteArray):(partsS v).length ≤ v.size + 1:=by
 unfold partsS
 rw [List.length_map]
 have:=comma_len v.data.toList
 rw [data_length] at this
 exact this
theorem comma_size (l:List UInt8) : ∀ p ∈ commaParts l,p.length ≤ l.length:=by
 intro p hp
 unfold commaParts at hp
 obtain ⟨q,hq,rfl⟩:=List.mem_map.1 (List.mem_filter.1 hp).1
 exact Nat.le_trans (trm_length q) (pcs_le l q hq)
theorem parts_size (v:ByteArray) : ∀ p ∈ partsS v,p.size ≤ v.size:=by
 intro p hp
 obtain ⟨q,hq,rfl⟩:=List.mem_map.1 hp
 rw [mkS_size,← data_length]
 exact comma_size _ q hq
theorem list_l0 (vs:List ByteArray) (hl:vs.length ≤ 1000) (hv : ∀ v ∈ vs,v.size ≤ 1048576) (d:Nat) : ∀ (k i:Nat) (out:List ByteArray),i + d=vs.length → d + 1048580 ≤ k → out.length ≤ 1048577 * i →
 field_List.l0 k out vs (vs.length:Int) (i:Int)=some (out ++ (vs.drop i).flatMap partsS):=by
 induction d with
 | zero =>
  intro k i out hi hk ho
  obtain ⟨k,rfl⟩ : ∃ m,k=m + 1:=⟨k - 1,by omega⟩
  rw [field_List.l0,if_neg (by omega),List.drop_of_length_le (by omega),List.flatMap_nil,List.append_nil]
 | succ d ih =>
  intro k i out hi hk ho
  obtain ⟨k,rfl⟩ : ∃ m,k=m + 1:=⟨k - 1,by omega⟩
  have hlt:i < vs.length:=by omega
  have hb:=hv _ (List.getElem_mem hlt)
  have hp:=parts_len vs[i]
  have hw:wrap64 ((i:Int) + 1)=((i + 1:Nat):Int):=by unfold wrap64;omega
  rw [field_List.l0,if_pos (by omega),if_pos (by omega),if_pos (by omega),rdB_at vs i hlt,signSplit_f _ (by omega) k (by omega),Option.bind_some,hw,List.drop_eq_getElem_cons hlt,List.flatMap_cons]
  have e:(commaParts vs[i].data.toList).map mkS=partsS vs[i]:=rfl
  rw [e,if_pos (by omega),ih k (i + 1) _ (by omega) (by omega) (by rw [List.length_append];omega),List.append_assoc]
/-- All parts of a name's values. -/
def listS (name:ByteArray) (fs:List (S36)):List ByteArray:=(getS name fs).flatMap partsS
theorem get_bounds (fs:List (S36)) (name:ByteArray) (hf:FB fs):(getS name fs).length ≤ 1000 ∧ ∀ v ∈ getS name fs,v.size ≤ 1048576:=by
 refine ⟨Nat.le_trans (getS_len name fs) hf.1,fun v hv=>?_⟩
 obtain ⟨f,hm,rfl,_⟩:=getS_mem name fs v hv
 exact (hf.2 f hm).2
theorem List_f (fs:List (S36)) (name:ByteArray) (hf:FB fs) (hn:name.size ≤ 1048576) (k:Nat) (hk:1049600 ≤ k):field_List.f k fs name=some (listS name fs):=by
 obtain ⟨h1,h2⟩:=get_bounds fs name hf
 have hfl:=hf.1
 unfold field_List.f
 rw [Get_f fs name hf hn k (by omega),Option.bind_some]
 have:=list_l0 (getS name fs) h1 h2 (getS name fs).length k 0 [] (by omega) (by omega) (by simp)
 rw [List.drop_zero,List.nil_append] at this
 exact this
theorem flat_len (B:Nat) : ∀ vs:List ByteArray,(∀ v ∈ vs,v.size ≤ B) → (vs.flatMap partsS).length ≤ vs.length * (B + 1)
 | [],_=>by simp
 | v :: r,h=>by
  rw [List.flatMap_cons,List.length_append,List.length_cons,Nat.succ_mul]
  have h1:=flat_len B r (fun u hu=>h u (List.mem_cons_of_mem _ hu))
  have h2:=parts_len v
  have h3:=h v List.mem_cons_self
  omega
theorem list_bounds (fs:List (S36)) (name:ByteArray) (hf:FB fs):(listS name fs).length ≤ 1048577000 ∧ ∀ p ∈ listS name fs,p.size ≤ 1048576:=by
 obtain ⟨h1,h2⟩:=get_bounds fs name hf
 refine ⟨?_,fun p hp=>?_⟩
 ·have h3:=flat_len 1048576 (getS name fs) h2
  unfold listS
  have h4:(getS name fs).length * 1048577 ≤ 1000 * 1048577:=Nat.mul_le_mul_right _ h1
  omega
 ·unfold listS at hp
  obtain ⟨v,hv,hp⟩:=List.mem_flatMap.1 hp
  exact Nat.le_trans (parts_size v p hp) (h2 v hv)
theorem any_f (q:ByteArray → Option Bool) (p:ByteArray → Bool) : ∀ l:List ByteArray,(∀ x ∈ l,q x=some (p x)) → anyO q l=some (l.any p)
 | [],_=>rfl
 | x :: r,h=>by
  rw [anyO,h x List.mem_cons_self,Option.bind_some,List.any_cons]
  cases hp:p x
  ·simp only [Bool.false_eq_true,if_false,Bool.false_or]
   exact any_f q p r (fun y hy=>h y (List.mem_cons_of_mem _ hy))
  ·simp
/-- Is a part among a name's? -/
def hasS (fs:List (S36)) (name part:ByteArray):Bool:=(listS name fs).any (fun p=>sameN p part)
theorem Has_f (fs:List (S36)) (name part:ByteArray) (hf:FB fs) (hn:name.size ≤ 1048576) (hp:part.size ≤ 1048576) (k:Nat) (hk:1049600 ≤ k):field_Has.f k fs name part=some (hasS fs name part):=by
 unfold field_Has.f
 rw [List_f fs name hf hn k hk,Option.bind_some]
 exact any_f _ _ _ (fun x hx=>same_f x part (by have:=(list_bounds fs name hf).2 x hx;omega) (by omega))
/-- The field that a line tells. -/
def fieldX (l:List UInt8):S36:=⟨mkS (l.takeWhile (· != 58)),mkS (trm ((l.dropWhile (· != 58)).drop 1))⟩
theorem field_ok (l:List UInt8) (hn:l.length ≤ 140737488355328) (hr:fieldOk l=true):field_Parse.f (mkS l)=some ((fieldX l).f0,(fieldX l).f1,0):=by
 unfold field_Parse.f
 rcases split_first 58 l with h|⟨a,b,rfl,h⟩
 ·rw [fieldOk_no l h] at hr;cases hr
 ·rw [fieldOk_yes a b h] at hr
  obtain ⟨e1,e2⟩:=take_first 58 a b h
  unfold fieldX
  rw [e1,e2,Cut_yes 58 a b h hn,Option.bind_some]
  simp only
  rw [Trim_mk _ (by rw [mkS_size];rw [List.length_append,List.length_cons] at hn;omega),Option.bind_some,if_pos trivial,field_right_f,Option.bind_some,mkS_data,hr]
  rfl
theorem field_no (l:List UInt8) (hn:l.length ≤ 140737488355328) (hr:fieldOk l=false) : ∃ x y,field_Parse.f (mkS l)=some (x,y,20):=by
 obtain ⟨x,y,h⟩:=field_f l hn
 rw [hr] at h
 exact ⟨x,y,h⟩
/-- The lines behind the first one;how many bytes the head has;a status. -/
def tailS (l:List Int) (e:Int):Nat → Nat → List ByteArray × Int × Int
 | 0,_=>([],0,0)
 | d + 1,p=>if (cutSpec (l.drop p) 2048).2.2=20 then ([],0,400)
  else if (cutSpec (l.drop p) 2048).2.1=0 then ([],0,e)
  else if (cutSpec (l.drop p) 2048).1.toList=[] then ([],(p:Int) + (cutSpec (l.drop p) 2048).2.1,0)
  else ((cutSpec (l.drop p) 2048).1 :: (tailS l e d (p + (cutSpec (l.drop p) 2048).2.1.toNat)).1,(tailS l e d (p + (cutSpec (l.drop p) 2048).2.1.toNat)).2)
/-- The lines of a head,without the empty one;how many bytes it has;a status. -/
def linesS (l:List Int) (e:Int):List ByteArray × Int × Int :=
 if (cutSpec l 2048).2.2=20 then ([],0,400)
 else if (cutSpec l 2048).2.1=0 then ([],0,e)
 else ((cutSpec l 2048).1 :: (tailS l e (l.length + 1) (cutSpec l 2048).2.1.toNat).1,(tailS l e (l.length + 1) (cutSpec l 2048).2.1.toNat).2)
/-- The fields that lines tell,n fields before them;a status. -/
def fieldsS:List ByteArray → Nat → List (S36) × Int
 | [],_=>([],0)
 | s :: ss,n=>if fieldOk s.data.toList=true then (if n=40 then ([],431) else if (fieldsS ss (n + 1)).2=0 then (fieldX s.data.toList :: (fieldsS ss (n + 1)).1,0) else ([],(fieldsS ss (n + 1)).2)) else ([],400)
def bdS (l:List Int):List Int:=l.take 2048
def extS (l:List Int):Int:=if 2048 ≤ (l.length:Int) then 431 else 0
theorem bdS_length (l:List Int):(bdS l).length ≤ 2048∧(bdS l).length ≤ l.length:=by unfold bdS;rw [List.length_take];omega
theorem mn_take (l:List Int):l.take (mn (l.length:Int) 2048).toNat=bdS l:=by
 unfold bdS mn
 split
 ·rfl
 ·rw [Int.toNat_natCast,List.take_of_length_le (Nat.le_refl _),List.take_of_length_le (by omega)]
theorem rightB_size {a t:ByteArray} (h:rightB a t=true):a.size ≤ 100∧t.size ≤ 1000:=by
 unfold rightB at h
 simp only [Bool.and_eq_true,decide_eq_true_eq] at h
 exact ⟨h.1,h.2.2.1⟩
theorem fieldX_right {l:List UInt8} (h:fieldOk l=true):rightB (fieldX l).f0 (fieldX l).f1=true:=by
 unfold fieldOk at h
 split at h
 ·exact h
 ·cases h
theorem fieldsS_FB (ss:List ByteArray) : ∀ n,n ≤ 40 → (fieldsS ss n).1.length + n ≤ 40 ∧ ∀ f ∈ (fieldsS ss n).1,rightB f.f0 f.f1=true:=by
 induction ss with
 | nil=>intro n hn;exact ⟨by simpa [fieldsS] using hn,fun f hf=>by cases hf⟩
 | cons s ss ih =>
  intro n hn
  rw [fieldsS]
  split
  ·rename_i h1
   split
   ·exact ⟨by simpa using hn,fun f hf=>by cases hf⟩
   ·rename_i h2
    have:=ih (n + 1) (by omega)
    split
    ·refine ⟨by simp only [List.length_cons];omega,fun f hf=>?_⟩
     rcases List.mem_cons.1 hf with rfl|hf
     ·exact fieldX_right h1
     ·exact this.2 f hf
    ·exact ⟨by simpa using hn,fun f hf=>by cases hf⟩
  ·exact ⟨by simpa using hn,fun f hf=>by cases hf⟩
theorem fields_FB (ss:List ByteArray):FB (fieldsS ss 0).1:=by
 have:=fieldsS_FB ss 0 (by omega)
 refine ⟨by omega,fun f hf=>?_⟩
 have:=rightB_size (this.2 f hf)
 omega
theorem tail_le (l:List Int) (e:Int) : ∀ (d p:Nat),p ≤ l.length → (tailS l e d p).2.1 ≤ (l.length:Int)∧0 ≤ (tailS l e d p).2.1∧((tailS l e d p).2.1 ≠ 0 → (tailS l e d p).2.2=0):=by
 intro d
 induction d with
 | zero=>intro p hp;exact ⟨by simp [tailS],by simp [tailS],fun _=>rfl⟩
 | succ d ih =>
  intro p hp
  have hsh:=cutS_shape (l.drop p) 2048
  have hdl:(l.drop p).length=l.length - p:=List.length_drop ..
  rw [tailS]
  split
  ·exact ⟨by simp,by simp,fun h=>absurd rfl h⟩
  ·split
   ·exact ⟨by simp,by simp,fun h=>absurd rfl h⟩
   ·rename_i h2
    have hz:(cutSpec (l.drop p) 2048).2.1 > 0∧(cutSpec (l.drop p) 2048).2.1 ≤ (l.length:Int) - p:=by rcases hsh with h|h <;> omega
    split
    ·exact ⟨by show (p:Int) + _ ≤ _;omega,by show 0 ≤ (p:Int) + _;omega,fun _=>rfl⟩
    ·exact ih _ (by omega)
theorem lines_le (l:List Int) (e:Int):(linesS l e).2.1 ≤ (l.length:Int)∧0 ≤ (linesS l e).2.1∧((linesS l e).2.1 ≠ 0 → (linesS l e).2.2=0)∧((linesS l e).1=[] → (linesS l e).2.1=0):=by
 have hsh:=cutS_shape l 2048
 unfold linesS
 split
 ·exact ⟨by simp,by simp,fun h=>absurd rfl h,fun _=>rfl⟩
 ·split
  ·exact ⟨by simp,by simp,fun h=>absurd rfl h,fun _=>rfl⟩
  ·rename_i h2
   have hz:(cutSpec l 2048).2.1 > 0∧(cutSpec l 2048).2.1 ≤ (l.length:Int):=by rcases hsh with h|h <;> omega
   have:=tail_le l e (l.length + 1) (cutSpec l 2048).2.1.toNat (by omega)
   exact ⟨this.1,this.2.1,this.2.2,fun h=>by cases h⟩
/-- A line's text has no 10,no 13: it is no longer than what it was cut from. -/
theorem cut_len (l:List Int) (h:l.length ≤ 2048):(cutSpec l 2048).1.size ≤ 2048:=by
 rcases cutS_shape l 2048 with h1|h1
 ·omega
 ·rw [h1.2];decide
def lineB (f:S36):ByteArray:=((f.f0 ++ (⟨#[58,32]⟩:ByteArray)) ++ f.f1) ++ (⟨#[13,10]⟩:ByteArray)
theorem lineB_size (f:S36):(lineB f).size=f.f0.size + f.f1.size + 4:=by
 unfold lineB
 rw [ByteArray.size_append,ByteArray.size_append,ByteArray.size_append]
 show f.f0.size + 2 + f.f1.size + 2=_
 omega
theorem Line_f (f:S36) (h:f.f0.size ≤ 1048576∧f.f1.size ≤ 1048576):field_Line.f f.f0 f.f1=some (lineB f):=by
 have e1:(f.f0 ++ (⟨#[58,32]⟩:ByteArray)).size=f.f0.size + 2:=ByteArray.size_append ..
 have e2:((f.f0 ++ (⟨#[58,32]⟩:ByteArray)) ++ f.f1).size=f.f0.size + 2 + f.f1.size:=by rw [ByteArray.size_append,e1]
 unfold field_Line.f lineB
 rw [if_pos (by omega),if_pos (by omega),if_pos (by omega)]
/-- The bytes of fields' lines. -/
def fLines:List (S36) → List Int
 | []=>[]
 | f :: fs=>bytesOf (lineB f) ++ fLines fs
/-- The value of a digit,or -1. -/
def digV (c:Int):Int:=Lib.indexByte [48,49,50,51,52,53,54,55,56,57,97,98,99,100,101,102] (foldC c).toNat.toUInt8
/-- The number of digits,from n on. -/
def numL (base:Int):List Int → Int → Option Int
 | [],n=>some n
 | c :: r,n=>if 0 ≤ digV c∧digV c < base then numL base r (n * base + digV c) else none
theorem digV_lt (c:Int) (h0:0 ≤ c) (h1:c ≤ 255):digV c < 16:=by
 obtain ⟨n,rfl⟩:=Int.eq_ofNat_of_zero_le h0
 have h : ∀ m:Fin 256,digV (m.val:Int) < 16:=by decide +kernel
 exact h ⟨n,by omega⟩
theorem one_fold (s:ByteArray) (i:Int) (h0:0 ≤ i) (h:i < (s.size:Int)):sign_Fold.f (s.extract i.toNat (i + 1).toNat)=some (strOfNums [foldC (bt s i)]):=by
 have hl:i.toNat < s.data.toList.length:=by rw [data_length];omega
 have e1:(s.extract i.toNat (i + 1).toNat).data.toList=[s.data.toList[i.toNat]]:=by
  rw [Lib.extract_data,show (i + 1).toNat - i.toNat=1 by omega,List.drop_eq_getElem_cons hl]
  rfl
 have hz:(s.extract i.toNat (i + 1).toNat).size=1:=by rw [← data_length,e1];rfl
 rw [fold_tells _ (by omega)]
 unfold bytesOf
 rw [e1]
 have e2:((s.data.toList[i.toNat]).toNat:Int)=bt s i:=by
  unfold bt
  rw [dif_pos (by omega)]
  rfl
 simp only [List.map_cons,List.map_nil,e2]
theorem bt_one (x:Int) (h0:0 ≤ x) (h1:x ≤ 255):bt (strOfNums [x]) 0=x:=by
 have h:=bytes_str (xs:=[x]) (by intro y hy;rw [List.mem_singleton.1 hy];exact ⟨h0,h1⟩)
 rw [← rd_bytesOf,h]
 rfl
theorem index_dig (s:ByteArray) (i:Int):strings_IndexByte.f (⟨#[48,49,50,51,52,53,54,55,56,57,97,98,99,100,101,102]⟩:ByteArray) (bt (strOfNums [foldC (bt s i)]) 0)=some (digV (bt s i)):=by
 have hr:=bt_range s i
 have hf:=foldC_byte _ hr.1 hr.2
 rw [bt_one _ hf.1 hf.2]
 rfl
theorem pow_pos' (b:Int) (hb:1 ≤ b) : ∀ n:Nat,1 ≤ b ^ n
 | 0=>by simp
 | n + 1=>by
  rw [Int.pow_succ]
  have h1:=pow_pos' b hb n
  have h2:=Int.mul_le_mul_of_nonneg_left hb (show 0 ≤ b ^ n by omega)
  rw [Int.mul_one] at h2
  omega
theorem pow_mono' (b:Int) (hb:1 ≤ b) (i:Nat) : ∀ d:Nat,b ^ i ≤ b ^ (i + d)
 | 0=>Int.le_refl _
 | d + 1=>by
  rw [← Nat.add_assoc,Int.pow_succ]
  have h0:=pow_mono' b hb i d
  have h1:=pow_pos' b hb (i + d)
  have h2:=Int.mul_le_mul_of_nonneg_left hb (show 0 ≤ b ^ (i + d) by omega)
  rw [Int.mul_one] at h2
  omega
/-- Too long: none. -/
theorem number_long (s:ByteArray) (base most:Int) (hm:(s.size:Int) > most) (hs:s.size ≤ 140737488355327) (d:Nat) : ∀ (k:Nat) (n i:Int),0 ≤ i → (s.size:Int) - i=d → 2 * d + 1 ≤ k →
 sign_number.l0 k s base most n (s.size:Int) i=some (0,false):=by
 induction d with
 | zero =>
  intro k n i h0 hd hk
  obtain ⟨k,rfl⟩ : ∃ m,k=m + 1:=⟨k - 1,by omega⟩
  simp only [sign_number.l0]
  rw [if_neg (by omega)]
  repeat' split
  all_goals first|rfl|(exfalso;omega)
 | succ d ih =>
  intro k n i h0 hd hk
  obtain ⟨k,rfl⟩ : ∃ m,k=m + 2:=⟨k - 2,by omega⟩
  have hw:wrap64 (i + 1)=i + 1:=by unfold wrap64;omega
  have ih' := fun n=>ih k n (i + 1) (by omega) (by omega) (by omega)
  simp only [sign_number.l0]
  rw [if_pos (by omega),if_pos h0,hw,if_pos (by omega),if_pos (by omega),one_fold s i h0 (by omega),Option.bind_some,if_pos (by rw [str_size];simp),index_dig,Option.bind_some]
  simp only [sign_number.j1]
  rw [hw,ih',ih']
  repeat' split
  all_goals rfl
theorem number_short (s : ByteArray) (base : Int) (most : Nat) (hb0 : 0 ≤ base) (hB : base ^ most ≤ 4611686018427387904) (hb1 : 1 ≤ base) (hm : s.size ≤ most) (hs : s.size ≤ 140737488355327) (d : Nat) : ∀ (k : Nat) (n : Int) (i : Nat), i + d = s.size → 2 * d + 1 ≤ k → 0 ≤ n → n + 1 ≤ base ^ i →
    sign_number.l0 k s base most n (s.size : Int) i = some (match numL base ((bytesOf s).drop i) n with | some v => if s.size = 0 then (0, false) else (v, true) | none => (0, false)) := by
  induction d with
  | zero =>
    intro k n i hi hk h0 hn
    obtain ⟨k, rfl⟩ : ∃ m, k = m + 1 := ⟨k - 1, by omega⟩
    rw [List.drop_of_length_le (by rw [bytesOf_length]; omega)]
    simp only [sign_number.l0, numL]
    rw [if_neg (by omega)]
    by_cases hz : s.size = 0
    · have he : s.toList = [] := by rw [toList_data]; exact List.eq_nil_of_length_eq_zero (by rw [data_length]; exact hz)
      rw [if_pos he, if_pos hz]
    · have he : ¬ (s.toList = []) := by
        intro e
        rw [toList_data] at e
        have := data_length s
        rw [e] at this
        exact hz this.symm
      rw [if_neg he, if_neg hz, if_neg (by omega)]
  | succ d ih =>
    intro k n i hi hk h0 hn
    obtain ⟨k, rfl⟩ : ∃ m, k = m + 2 := ⟨k - 2, by omega⟩
    have hw : wrap64 ((i : Int) + 1) = (i : Int) + 1 := by unfold wrap64; omega
    have hl : i < (bytesOf s).length := by rw [bytesOf_length]; omega
    have hg : (bytesOf s)[i] = bt s i := by rw [← rd_bytesOf]; simp [rd, List.getD_eq_getElem?_getD, List.getElem?_eq_getElem hl]
    have hr := bt_range s i
    have hP : base ^ (i + 1) = base ^ i * base := Int.pow_succ _ _
    have hle : base ^ (i + 1) ≤ base ^ most := by
      have := pow_mono' base hb1 (i + 1) (most - (i + 1))
      rwa [show i + 1 + (most - (i + 1)) = most by omega] at this
    have h1 := Int.mul_le_mul_of_nonneg_right hn hb0
    rw [Int.add_mul, ← hP, Int.one_mul] at h1
    have h2 : 0 ≤ n * base := Int.mul_nonneg h0 hb0
    have h3 : 0 ≤ base := hb0
    have hdl := digV_lt _ hr.1 hr.2
    rw [List.drop_eq_getElem_cons hl, hg]
    simp only [sign_number.l0, numL]
    rw [if_pos (by omega), if_pos (by omega), hw, if_pos (by omega), if_pos (by omega), one_fold s i (by omega) (by omega), Option.bind_some, if_pos (by rw [str_size]; simp), index_dig, Option.bind_some]
    simp only [sign_number.j1]
    obtain ⟨D, hD⟩ : ∃ D, D = digV (bt s i) := ⟨_, rfl⟩
    rw [← hD] at hdl ⊢
    by_cases hv : 0 ≤ D ∧ D < base
    · rw [if_neg (by omega), decide_eq_false (by omega), if_neg (by simp), if_pos (by omega), hw, if_pos hv]
      have e1 : wrap64 (wrap64 (n * base) + D) = n * base + D := by unfold wrap64; omega
      rw [e1]
      have := ih k (n * base + D) (i + 1) (by omega) (by omega) (by omega) (by omega)
      rw [show (((i + 1 : Nat)) : Int) = (i : Int) + 1 by omega] at this
      exact this
    · rw [if_neg hv]
      by_cases hn0 : D < 0
      · rw [if_pos hn0, if_pos trivial]
      · rw [if_neg hn0, decide_eq_true (by omega), if_pos rfl]
/-- What number tells. -/
def numSpec (s:ByteArray) (base:Int) (most:Nat):Int × Bool :=
 if s.size=0 ∨ s.size > most then (0,false) else match numL base (bytesOf s) 0 with|some v=>(v,true)|none=>(0,false)
theorem number_f (s:ByteArray) (base:Int) (most:Nat) (hb1:1 ≤ base) (hB:base ^ most ≤ 4611686018427387904) (hs:s.size ≤ 140737488355327) (k:Nat) (hk:2 * s.size + 1 ≤ k):sign_number.f k s base most=some (numSpec s base most):=by
 unfold sign_number.f numSpec
 by_cases hm:s.size > most
 ·rw [if_pos (Or.inr hm)]
  exact number_long s base most (by omega) hs s.size k 0 0 (by omega) (by omega) hk
 ·have:=number_short s base most (by omega) hB hb1 (by omega) hs s.size k 0 0 (by omega) hk (by omega) (by simp)
  rw [show ((0:Nat):Int)=0 from rfl] at this
  rw [this]
  by_cases hz:s.size=0
  ·rw [if_pos (Or.inl hz),List.drop_zero]
   cases numL base (bytesOf s) 0 <;> simp [hz]
  ·rw [if_neg (by omega),List.drop_zero]
   cases numL base (bytesOf s) 0 <;> simp [hz]
theorem Decimal_f (s:ByteArray) (hs:s.size ≤ 140737488355327) (k:Nat) (hk:2 * s.size + 1 ≤ k):sign_Decimal.f k s=some (numSpec s 10 18):=by
 unfold sign_Decimal.f
 rw [show (18:Int)=((18:Nat):Int) from rfl,number_f s 10 18 (by decide) (by decide) hs k hk,Option.bind_some]
theorem Hex_f (s:ByteArray) (hs:s.size ≤ 140737488355327) (k:Nat) (hk:2 * s.size + 1 ≤ k):sign_Hex.f k s=some (numSpec s 16 15):=by
 unfold sign_Hex.f
 rw [show (15:Int)=((15:Nat):Int) from rfl,number_f s 16 15 (by decide) (by decide) hs k hk,Option.bind_some]
/-- Blanks behind taken away. -/
def rtrim (l:List UInt8):List UInt8:=(l.reverse.dropWhile blk).reverse
theorem rtrim_len (l:List UInt8):(rtrim l).length ≤ l.length:=by
 unfold rtrim
 rw [List.length_reverse]
 have:=(List.dropWhile_sublist blk (l:=l.reverse)).length_le
 rw [List.length_reverse] at this
 exact this
/-- The size that a chunk's line tells;is it one? -/
def sizeS (l:List UInt8):Int × Bool :=
 ((numSpec (mkS (rtrim (l.takeWhile (· != 59)))) 16 15).1,(numSpec (mkS (rtrim (l.takeWhile (· != 59)))) 16 15).2 && (bytesOf (mkS ((l.dropWhile (· != 59)).drop 1))).all valB)
theorem take_none (sp:UInt8) (l:List UInt8) (h:sp ∉ l):l.takeWhile (· != sp)=l∧(l.dropWhile (· != sp)).drop 1=[]:=by
 induction l with
 | nil=>simp
 | cons x a ih =>
  have hx:x ≠ sp:=fun e=>h (by rw [e];exact List.mem_cons_self ..)
  have:=ih (fun e=>h (List.mem_cons_of_mem _ e))
  simp only [List.takeWhile_cons,List.dropWhile_cons,bne_iff_ne,ne_eq,hx,not_false_eq_true,if_true]
  exact ⟨by rw [this.1],this.2⟩
theorem sizeS_no (l:List UInt8) (h:59 ∉ l):sizeS l=numSpec (mkS (rtrim l)) 16 15:=by
 obtain ⟨e1,e2⟩:=take_none 59 l h
 unfold sizeS
 rw [e1,e2]
 have:(bytesOf (mkS [])).all valB=true:=by rw [mkS_bytes];rfl
 rw [this,Bool.and_true]
theorem sizeS_yes (a b:List UInt8) (h:59 ∉ a):sizeS (a ++ 59 :: b)=((numSpec (mkS (rtrim a)) 16 15).1,(numSpec (mkS (rtrim a)) 16 15).2 && (bytesOf (mkS b)).all valB):=by
 obtain ⟨e1,e2⟩:=take_first 59 a b h
 unfold sizeS
 rw [e1,e2]
theorem TrimRight_f (l:List UInt8) (hl:l.length ≤ 140737488355328):strings_TrimRight.f (mkS l) ⟨#[32,9]⟩=some (mkS (rtrim l)):=by
 unfold strings_TrimRight.f
 rw [if_pos ⟨by rw [mkS_size];omega,by decide,by decide⟩,mkS_data]
 rfl
theorem numL_bound (xs:List Int) : ∀ (n v:Int) (B:Int),0 ≤ n → n < B → numL 16 xs n=some v → 0 ≤ v∧v < B * 16 ^ xs.length:=by
 induction xs with
 | nil=>intro n v B h0 h1 h;simp only [numL,Option.some.injEq] at h;subst h;simpa using ⟨h0,h1⟩
 | cons x xs ih =>
  intro n v B h0 h1 h
  rw [numL] at h
  by_cases hd:0 ≤ digV x∧digV x < 16
  ·rw [if_pos hd] at h
   have:=ih _ v (B * 16) (by omega) (by omega) h
   rw [List.length_cons,Int.pow_succ,Int.mul_comm (16 ^ xs.length) 16,← Int.mul_assoc]
   exact this
  ·rw [if_neg hd] at h;cases h
theorem hexs_bound (s : ByteArray) : 0 ≤ (numSpec s 16 15).1 ∧ (numSpec s 16 15).1 ≤ 1152921504606846976 := by
  unfold numSpec
  split
  · exact ⟨by decide, by decide⟩
  · rename_i h
    cases hv : numL 16 (bytesOf s) 0 with
    | none => exact ⟨by decide, by decide⟩
    | some v =>
      have := numL_bound (bytesOf s) 0 v 1 (by decide) (by decide) hv
      have hl : (bytesOf s).length ≤ 15 := by rw [bytesOf_length]; omega
      have h2 : (16 : Int) ^ (bytesOf s).length ≤ 16 ^ 15 := by
        have := pow_mono' 16 (by decide) (bytesOf s).length (15 - (bytesOf s).length)
        rwa [show (bytesOf s).length + (15 - (bytesOf s).length) = 15 by omega] at this
      exact ⟨this.1, by simp only; have h3 : (16 : Int) ^ 15 = 1152921504606846976 := by decide
                        omega⟩
theorem size_bound (l:List UInt8):0 ≤ (sizeS l).1∧(sizeS l).1 ≤ 1152921504606846976:=hexs_bound _
theorem line_f (l:List Int) (p:Nat) (hp:p ≤ l.length) (hl:l.length ≤ 1000000) (k:Nat) (hk:3 * l.length + 3 ≤ k) :
 chunk_reader_line.f k l p=some ((cutSpec (l.drop p) 256).1,(cutSpec (l.drop p) 256).2.2,(p:Int) + (cutSpec (l.drop p) 256).2.1,decide ((cutSpec (l.drop p) 256).2.1=0) && decide ((cutSpec (l.drop p) 256).2.2=0)):=by
 unfold chunk_reader_line.f
 have hd:(l.drop p).length=l.length - p:=List.length_drop ..
 rw [if_pos (by omega),if_pos (by omega),Int.toNat_natCast,cut_f _ _ (by omega) k (by omega),Option.bind_some]
 have hw:wrap64 ((p:Int) + (cutSpec (l.drop p) 256).2.1)=(p:Int) + (cutSpec (l.drop p) 256).2.1:=by
  rcases cutS_shape (l.drop p) 256 with h|h <;> unfold wrap64 <;> omega
 rw [hw]
theorem size_f (l : List Int) (p : Nat) (hp : p ≤ l.length) (hl : l.length ≤ 1000000) (k : Nat) (hk : 3 * l.length + 3 ≤ k) :
    chunk_reader_size.f k l p = some (if (cutSpec (l.drop p) 256).2.2 = 0 then (if (cutSpec (l.drop p) 256).2.1 = 0 then (0, 0, (p : Int), true) else
        if (sizeS (cutSpec (l.drop p) 256).1.data.toList).2 = true then ((sizeS (cutSpec (l.drop p) 256).1.data.toList).1, 0, (p : Int) + (cutSpec (l.drop p) 256).2.1, false) else (0, 30, (p : Int) + (cutSpec (l.drop p) 256).2.1, false))
      else (0, (cutSpec (l.drop p) 256).2.2, (p : Int) + (cutSpec (l.drop p) 256).2.1, false)) := by
  unfold chunk_reader_size.f
  rw [line_f l p hp hl k hk, Option.bind_some]
  have hsh := cutS_shape (l.drop p) 256
  have hd : (l.drop p).length = l.length - p := List.length_drop ..
  obtain ⟨c, hc⟩ : ∃ c, c = cutSpec (l.drop p) 256 := ⟨_, rfl⟩
  rw [← hc] at hsh ⊢
  simp only
  by_cases h1 : c.2.2 = 0
  · rw [if_pos h1, if_pos h1]
    by_cases h2 : c.2.1 = 0
    · rw [if_pos h2, decide_eq_true h2, decide_eq_true h1, if_pos (by rfl), h2, Int.add_zero]
    · rw [if_neg h2, decide_eq_false h2, Bool.false_and, if_neg (by simp)]
      have hsz : c.1.data.toList.length ≤ 1000000 := by rw [data_length]; rcases hsh with h | h <;> omega
      have e0 : c.1 = mkS c.1.data.toList := (mkS_self _).symm
      obtain ⟨u, hu⟩ : ∃ u, u = c.1.data.toList := ⟨_, rfl⟩
      rw [← hu] at e0 hsz ⊢
      rw [e0]
      have hk2 : 2 * u.length + 1 ≤ k := by
        have : u.length = c.1.size := by rw [hu, data_length]
        rcases hsh with h | h <;> omega
      rcases split_first 59 u with h | ⟨a, b, hab, h⟩
      · have hr := rtrim_len u
        rw [Cut_no 59 u h, Option.bind_some]
        simp only
        rw [TrimRight_f u (by omega), Option.bind_some, Hex_f _ (by rw [mkS_size]; omega) k (by rw [mkS_size]; omega), Option.bind_some, sizeS_no u h]
        cases (numSpec (mkS (rtrim u)) 16 15).2
        · rw [if_neg (by simp), if_neg (by simp)]
        · rw [if_pos rfl, if_pos rfl, Value_f _ (by decide), Option.bind_some, if_pos (by rfl)]
      · subst hab
        have hab : (a ++ 59 :: b).length = a.length + b.length + 1 := by rw [List.length_append, List.length_cons]; omega
        have hr := rtrim_len a
        rw [Cut_yes 59 a b h (by omega), Option.bind_some]
        simp only
        rw [TrimRight_f a (by omega), Option.bind_some, Hex_f _ (by rw [mkS_size]; omega) k (by rw [mkS_size]; omega), Option.bind_some, sizeS_yes a b h]
        cases (numSpec (mkS (rtrim a)) 16 15).2
        · rw [if_neg (by simp), Bool.false_and, if_neg (by simp)]
        · rw [if_pos rfl, Bool.true_and, Value_f _ (by rw [mkS_size]; omega), Option.bind_some]
          cases (bytesOf (mkS b)).all valB <;> rfl
  · rw [if_neg h1, if_neg h1, decide_eq_false h1, Bool.and_false]
/-- The lines behind the last chunk, at most d more: the place behind them (0: they are not whole), the error. -/
def trailS (l : List Int) : Nat → Nat → Int × Int
  | 0, _ => (0, 3)
  | d + 1, p => if (cutSpec (l.drop p) 256).2.2 = 0 then (if (cutSpec (l.drop p) 256).2.1 = 0 then (0, 0)
      else if (cutSpec (l.drop p) 256).1.toList = [] then ((p : Int) + (cutSpec (l.drop p) 256).2.1, 0)
      else if fieldOk (cutSpec (l.drop p) 256).1.data.toList = true then trailS l d (p + (cutSpec (l.drop p) 256).2.1.toNat) else (0, 20))
    else (0, (cutSpec (l.drop p) 256).2.2)
/-- The body from a place on. -/
def decS (l : List Int) : Nat → Nat → Int → List Int → List Int × Int × Int
  | 0, _, _, _ => ([], 0, 0)
  | d + 1, p, left, out => if (cutSpec (l.drop p) 256).2.2 = 0 then (if (cutSpec (l.drop p) 256).2.1 = 0 then ([], 0, 0)
      else if (sizeS (cutSpec (l.drop p) 256).1.data.toList).2 = true then (if (sizeS (cutSpec (l.drop p) 256).1.data.toList).1 = 0 then
          (if (trailS l 41 (p + (cutSpec (l.drop p) 256).2.1.toNat)).2 = 0 then (if (trailS l 41 (p + (cutSpec (l.drop p) 256).2.1.toNat)).1 = 0 then ([], 0, 0) else (out, (trailS l 41 (p + (cutSpec (l.drop p) 256).2.1.toNat)).1, 0)) else ([], 0, (trailS l 41 (p + (cutSpec (l.drop p) 256).2.1.toNat)).2))
        else if (sizeS (cutSpec (l.drop p) 256).1.data.toList).1 > left then ([], 0, 2)
        else if (dataOf (l.drop (p + (cutSpec (l.drop p) 256).2.1.toNat)) ((p + (cutSpec (l.drop p) 256).2.1.toNat : Nat) : Int) (sizeS (cutSpec (l.drop p) 256).1.data.toList).1 false).2.1 = 0 then
          (if (dataOf (l.drop (p + (cutSpec (l.drop p) 256).2.1.toNat)) ((p + (cutSpec (l.drop p) 256).2.1.toNat : Nat) : Int) (sizeS (cutSpec (l.drop p) 256).1.data.toList).1 false).2.2.2 = true then ([], 0, 0)
            else decS l d (p + (cutSpec (l.drop p) 256).2.1.toNat + (sizeS (cutSpec (l.drop p) 256).1.data.toList).1.toNat + 2) (left - (sizeS (cutSpec (l.drop p) 256).1.data.toList).1) (out ++ (l.drop (p + (cutSpec (l.drop p) 256).2.1.toNat)).take (sizeS (cutSpec (l.drop p) 256).1.data.toList).1.toNat))
        else ([], 0, 20))
      else ([], 0, 30))
    else ([], 0, (cutSpec (l.drop p) 256).2.2)
theorem trail_f (l:List Int) (hl:l.length ≤ 1000000) : ∀ (d:Nat) (n p k:Nat),n + d=41 → 1 ≤ d → p ≤ l.length → d + 3 * l.length + 4 ≤ k →
 ∃ q m,chunk_reader_trailer.l k l p n=some ((trailS l d p).2,q,m)∧((trailS l d p).2=0 → (m=true ↔ (trailS l d p).1=0)∧(m=false → q=(trailS l d p).1)):=by
 intro d
 induction d with
 | zero=>intro n p k _ h;omega
 | succ d ih =>
  intro n p k hn _ hp hk
  obtain ⟨k,rfl⟩ : ∃ m,k=m + 1:=⟨k - 1,by omega⟩
  have hsh:=cutS_shape (l.drop p) 256
  have hd:(l.drop p).length=l.length - p:=List.length_drop ..
  rw [chunk_reader_trailer.l,line_f l p hp hl k (by omega),Option.bind_some,trailS]
  obtain ⟨c,hc⟩ : ∃ c,c=cutSpec (l.drop p) 256:=⟨_,rfl⟩
  rw [← hc] at hsh ⊢
  simp only
  by_cases h1:c.2.2=0
  ·rw [if_pos h1,if_pos h1]
   by_cases h2:c.2.1=0
   ·rw [if_pos h2,decide_eq_true h2,decide_eq_true h1,if_pos (by rfl)]
    exact ⟨_,_,rfl,fun _=>⟨by simp,by simp⟩⟩
   ·rw [if_neg h2,decide_eq_false h2,Bool.false_and,if_neg (by simp)]
    by_cases h3:c.1.toList=[]
    ·rw [if_pos h3,if_pos h3]
     refine ⟨_,_,rfl,fun _=>⟨⟨by simp,fun e=>?_⟩,fun _=>rfl⟩⟩
     simp only at e
     rcases hsh with h|h <;> omega
    ·rw [if_neg h3,if_neg h3]
     have hz:c.1.data.toList.length=c.1.size:=data_length _
     have hz2:c.2.1 > 0∧c.2.1 ≤ (l.length:Int) - p∧(c.1.size:Int)=c.2.1 - 2:=by rcases hsh with h|h <;> omega
     obtain ⟨x,y,hf⟩:=field_f c.1.data.toList (by omega)
     rw [mkS_self] at hf
     rw [hf,Option.bind_some]
     simp only
     cases fieldOk c.1.data.toList
     ·rw [if_neg (by simp),if_neg (by decide),if_neg (by simp)]
      exact ⟨_,_,rfl,fun e=>by simp at e⟩
     ·rw [if_pos rfl,if_pos rfl,if_pos rfl]
      by_cases h4:(n:Int)=40
      ·obtain rfl:d=0:=by omega
       rw [if_pos h4,trailS]
       exact ⟨_,_,rfl,fun e=>by simp at e⟩
      ·rw [if_neg h4]
       have:=ih (n + 1) (p + c.2.1.toNat) k (by omega) (by omega) (by omega) (by omega)
       rw [show ((p + c.2.1.toNat:Nat):Int)=(p:Int) + c.2.1 by omega,show ((n + 1:Nat):Int)=(n:Int) + 1 by omega] at this
       exact this
  ·rw [if_neg h1,if_neg h1]
   exact ⟨_,_,rfl,fun e=>absurd e h1⟩
theorem data_f (l:List Int) (p:Nat) (n:Int) (hp:p ≤ l.length) (h0:0 ≤ n) (h1:n ≤ 1152921504606846976):chunk_reader_data.f l p n false=some (dataOf (l.drop p) p n false):=by
 unfold chunk_reader_data.f
 rw [if_pos ⟨by omega,by omega,h0,by omega⟩,Int.toNat_natCast]
theorem data_shape (rest:List Int) (p n:Int) (h0:0 ≤ p) (hp:p ≤ 1000000) (n0:0 ≤ n) (hr:rest.length ≤ 1000000):(dataOf rest p n false).2.1=0 ∨ (dataOf rest p n false).2.1=20:=by
 unfold dataOf
 repeat' split
 all_goals first|exact Or.inl rfl|exact Or.inr rfl
theorem data_ok (rest:List Int) (p n:Int) (h0:0 ≤ p) (hp:p ≤ 1000000) (n0:0 ≤ n) (hr:rest.length ≤ 1000000) (h1:(dataOf rest p n false).2.1=0) (h2 : ¬ (dataOf rest p n false).2.2.2=true) :
 (dataOf rest p n false).1=rest.take n.toNat∧(dataOf rest p n false).2.2.1=p + (n + 2)∧n + 2 ≤ (rest.length:Int)∧rd rest n=13∧rd rest (n + 1)=10:=by
 unfold dataOf at h1 h2 ⊢
 by_cases a0:n < (rest.length:Int)
 ·rw [if_pos a0] at h1 h2 ⊢
  by_cases a1:rd rest n=13
  ·rw [if_pos a1] at h1 h2 ⊢
   by_cases a2:n + 1 < (rest.length:Int)
   ·rw [if_pos a2] at h1 h2 ⊢
    by_cases a3:rd rest (n + 1)=10
    ·rw [if_pos a3]
     exact ⟨rfl,by show wrap64 (p + (n + 2))=_;unfold wrap64;omega,by omega,a1,a3⟩
    ·rw [if_neg a3] at h1;simp at h1
   ·rw [if_neg a2] at h2;simp at h2
  ·rw [if_neg a1] at h1;simp at h1
 ·rw [if_neg a0] at h2;simp at h2
theorem dec_f (l:List Int) (hl:l.length ≤ 1000000) : ∀ (d p:Nat) (left:Int) (out:List Int) (k:Nat),p ≤ l.length → l.length < p + d → out.length ≤ p → 0 ≤ left → left ≤ 9223372036854775807 → d + 3 * l.length + 60 ≤ k →
 chunk_Decode.l k l p left out=some (decS l d p left out):=by
 intro d
 induction d with
 | zero=>intro p left out k h1 h2;omega
 | succ d ih =>
  intro p left out k hp hd ho hl0 hl1 hk
  obtain ⟨k,rfl⟩ : ∃ m,k=m + 1:=⟨k - 1,by omega⟩
  have hsh:=cutS_shape (l.drop p) 256
  have hdl:(l.drop p).length=l.length - p:=List.length_drop ..
  rw [chunk_Decode.l,size_f l p hp hl k (by omega),Option.bind_some,decS]
  obtain ⟨c,hc⟩ : ∃ c,c=cutSpec (l.drop p) 256:=⟨_,rfl⟩
  rw [← hc] at hsh ⊢
  by_cases h1:c.2.2=0
  ·rw [if_pos h1,if_pos h1]
   by_cases h2:c.2.1=0
   ·rw [if_pos h2,if_pos h2]
    simp
   ·have hz2:c.2.1 > 0∧c.2.1 ≤ (l.length:Int) - p∧(c.1.size:Int)=c.2.1 - 2:=by rcases hsh with h|h <;> omega
    rw [if_neg h2,if_neg h2]
    obtain ⟨z,hz⟩ : ∃ z,z=sizeS c.1.data.toList:=⟨_,rfl⟩
    have hzb:=size_bound c.1.data.toList
    rw [← hz] at hzb ⊢
    obtain ⟨q,hq⟩ : ∃ q,q=p + c.2.1.toNat:=⟨_,rfl⟩
    have hq2:(p:Int) + c.2.1=(q:Int):=by omega
    rw [← hq,hq2]
    by_cases h3:z.2=true
    ·rw [if_pos h3,if_pos h3]
     simp only
     rw [if_pos trivial,if_neg (by simp)]
     by_cases h4:z.1=0
     ·rw [if_pos h4,if_pos h4]
      obtain ⟨q',m,ht,hm⟩:=trail_f l hl 41 0 q k (by omega) (by omega) (by omega) (by omega)
      have ht' : chunk_reader_trailer.f k l q=some ((trailS l 41 q).2,q',m):=ht
      rw [ht',Option.bind_some]
      by_cases h5:(trailS l 41 q).2=0
      ·obtain ⟨hm1,hm2⟩:=hm h5
       rw [if_pos h5,if_pos h5]
       by_cases h6:(trailS l 41 q).1=0
       ·rw [if_pos h6,if_pos (hm1.2 h6)]
       ·have hmf:m=false:=by cases m with|false=>rfl|true=>exact absurd (hm1.1 rfl) h6
        rw [if_neg h6,hmf,if_neg (by simp),hm2 hmf]
      ·rw [if_neg h5,if_neg h5]
     ·rw [if_neg h4,if_neg h4]
      by_cases h5:z.1 > left
      ·rw [if_pos h5,if_pos h5]
      ·rw [if_neg h5,if_neg h5,data_f l q z.1 (by omega) hzb.1 hzb.2,Option.bind_some]
       have hdr:(l.drop q).length=l.length - q:=List.length_drop ..
       by_cases h6:(dataOf (l.drop q) (q:Int) z.1 false).2.1=0
       ·rw [if_pos h6,if_pos h6]
        by_cases h7:(dataOf (l.drop q) (q:Int) z.1 false).2.2.2=true
        ·rw [if_pos h7,if_pos h7]
        ·obtain ⟨e1,e2,e3,_,_⟩:=data_ok (l.drop q) q z.1 (by omega) (by omega) hzb.1 (by omega) h6 h7
         have htk:((l.drop q).take z.1.toNat).length ≤ z.1.toNat:=List.length_take_le ..
         rw [if_neg h7,if_neg h7,e1,e2,if_pos (by omega),show wrap64 (left - z.1)=left - z.1 by unfold wrap64;omega,show (q:Int) + (z.1 + 2)=((q + z.1.toNat + 2:Nat):Int) by omega]
         exact ih _ _ _ k (by omega) (by omega) (by rw [List.length_append];omega) (by omega) (by omega) (by omega)
       ·rcases data_shape (l.drop q) q z.1 (by omega) (by omega) hzb.1 (by omega) with e|e
        ·exact absurd e h6
        ·rw [if_neg h6,if_neg h6,e]
    ·rw [if_neg h3,if_neg h3]
     simp
  ·rw [if_neg h1,if_neg h1]
   simp only
   rw [if_neg h1]
theorem Decode_f (l:List Int) (most:Int) (hl:l.length ≤ 1000000) (hm:most ≤ 9223372036854775807) (k:Nat) (hk:4 * l.length + 70 ≤ k):chunk_Decode.f k l most=some (decS l (l.length + 1) 0 (mx most 0) []):=by
 unfold chunk_Decode.f
 exact dec_f l hl (l.length + 1) 0 (mx most 0) [] k (by omega) (by omega) (by simp) (by unfold mx;split <;> omega) (by unfold mx;split <;> omega) (by omega)
theorem numL_nn (b:Int) (hb:0 ≤ b) : ∀ (l:List Int) (n v:Int),0 ≤ n → numL b l n=some v → 0 ≤ v
 | [],n,v,hn,h=>by simp only [numL,Option.some.injEq] at h;omega
 | c :: r,n,v,hn,h=>by
  rw [numL] at h
  split at h
  ·next hc=>exact numL_nn b hb r _ v (by have:=Int.mul_nonneg hn hb;omega) h
  ·cases h
theorem num_nn (s:ByteArray):0 ≤ (numSpec s 10 18).1:=by
 unfold numSpec
 split
 ·exact Int.le_refl _
 ·split
  ·next v hv=>exact numL_nn 10 (by decide) _ 0 v (Int.le_refl _) hv
  ·exact Int.le_refl _
def lenNm:ByteArray:=⟨#[99,111,110,116,101,110,116,45,108,101,110,103,116,104]⟩
def teNm:ByteArray:=⟨#[116,114,97,110,115,102,101,114,45,101,110,99,111,100,105,110,103]⟩
def lenNM:ByteArray:=⟨#[67,111,110,116,101,110,116,45,76,101,110,103,116,104]⟩
def teNM:ByteArray:=⟨#[84,114,97,110,115,102,101,114,45,69,110,99,111,100,105,110,103]⟩
theorem getS_nm (p q:ByteArray) (h:(bytesOf p).map foldC=(bytesOf q).map foldC) : ∀ fs,getS p fs=getS q fs
 | []=>rfl
 | f :: r=>by rw [getS,getS,getS_nm p q h r];unfold sameN;rw [h]
theorem listS_nm (p q:ByteArray) (h:(bytesOf p).map foldC=(bytesOf q).map foldC) (fs:List (S36)):listS p fs=listS q fs:=by unfold listS;rw [getS_nm p q h]
theorem len_nm:(bytesOf lenNM).map foldC=(bytesOf lenNm).map foldC:=by decide +kernel
theorem te_nm:(bytesOf teNM).map foldC=(bytesOf teNm).map foldC:=by decide +kernel
/-- Is a name there? -/
def thereS (name:ByteArray) (fs:List (S36)):Bool:=decide (((getS name fs).length:Int) > 0)
theorem there_f (fs:List (S36)) (name:ByteArray) (hf:FB fs) (hn:name.size ≤ 1048576) (k:Nat) (hk:fs.length < k):frame_there.f k fs name=some (thereS name fs):=by
 unfold frame_there.f
 rw [Get_f fs name hf hn k hk,Option.bind_some];rfl
theorem thereLen_f (fs:List (S36)) (hf:FB fs) (k:Nat) (hk:fs.length < k):frame_there.f k fs ⟨#[67,111,110,116,101,110,116,45,76,101,110,103,116,104]⟩=some (thereS lenNm fs):=by
 have h:=there_f fs lenNM hf (by decide) k hk
 have e:thereS lenNM fs=thereS lenNm fs:=by unfold thereS;rw [getS_nm _ _ len_nm]
 rw [e] at h
 exact h
theorem thereTe_f (fs:List (S36)) (hf:FB fs) (k:Nat) (hk:fs.length < k):frame_there.f k fs ⟨#[84,114,97,110,115,102,101,114,45,69,110,99,111,100,105,110,103]⟩=some (thereS teNm fs):=by
 have h:=there_f fs teNM hf (by decide) k hk
 have e:thereS teNM fs=thereS teNm fs:=by unfold thereS;rw [getS_nm _ _ te_nm]
 rw [e] at h
 exact h
/-- The length that parts tell. -/
def lenS:List ByteArray → Int × Bool
 | []=>(0,false)
 | p :: r=>if (numSpec p 10 18).2=true∧(r.all fun q=>decide (numSpec q 10 18=((numSpec p 10 18).1,true)))=true then ((numSpec p 10 18).1,true) else (0,false)
theorem len_rest (ps:List ByteArray) (hl:ps.length ≤ 1048577000) (hs : ∀ p ∈ ps,p.size ≤ 1048576) (n:Int) (hn:0 ≤ n) (d:Nat) : ∀ (k i:Nat),i + d=ps.length → d + 2100000 ≤ k →
 frame_length.l0 k n ps (ps.length:Int) (i:Int)=some (if ((ps.drop i).all fun q=>decide (numSpec q 10 18=(n,true)))=true then (n,true) else (0,false)):=by
 induction d with
 | zero =>
  intro k i hi hk
  obtain ⟨k,rfl⟩ : ∃ m,k=m + 1:=⟨k - 1,by omega⟩
  rw [frame_length.l0,if_neg (by omega),List.drop_of_length_le (by omega),List.all_nil,if_pos rfl,decide_eq_true hn]
 | succ d ih =>
  intro k i hi hk
  obtain ⟨k,rfl⟩ : ∃ m,k=m + 1:=⟨k - 1,by omega⟩
  have hlt:i < ps.length:=by omega
  have hb:=hs _ (List.getElem_mem hlt)
  have hw:wrap64 ((i:Int) + 1)=((i + 1:Nat):Int):=by unfold wrap64;omega
  rw [frame_length.l0,if_pos (by omega),if_pos (by omega),if_pos (by omega),rdB_at ps i hlt,Decimal_f _ (by omega) k (by omega),Option.bind_some,hw,List.drop_eq_getElem_cons hlt,List.all_cons]
  obtain ⟨z,hz⟩ : ∃ z,z=numSpec ps[i] 10 18:=⟨_,rfl⟩
  rw [← hz]
  by_cases h1:z.2=true
  ·rw [if_pos h1,if_pos hn]
   by_cases h2:z.1=n
   ·have e:z=(n,true):=Prod.ext h2 h1
    rw [if_pos h2,h2,ih k (i + 1) (by omega) (by omega),decide_eq_true e,Bool.true_and]
   ·have e : ¬ z=(n,true):=fun e=>h2 (by rw [e])
    rw [if_neg h2,decide_eq_false e,Bool.false_and,if_neg (by simp)]
  ·have e : ¬ z=(n,true):=fun e=>h1 (by rw [e])
   rw [if_neg h1,decide_eq_false e,Bool.false_and,if_neg (by simp)]
theorem length_fs (fs:List (S36)) (hf:FB fs) (k:Nat) (hk:1060000000 ≤ k):frame_length.f k fs=some (if listS lenNm fs=[] then (-1,false) else lenS (listS lenNm fs)):=by
 have hlb:=list_bounds fs lenNm hf
 obtain ⟨ps,hps⟩ : ∃ ps,ps=listS lenNm fs:=⟨_,rfl⟩
 have hL:field_List.f k fs (⟨#[67,111,110,116,101,110,116,45,76,101,110,103,116,104]⟩:ByteArray)=some ps:=by
  have h:=List_f fs lenNM hf (by decide) k (by omega)
  rw [listS_nm _ _ len_nm,← hps] at h
  exact h
 unfold frame_length.f
 rw [hL,Option.bind_some,← hps]
 rw [← hps] at hlb
 obtain ⟨k,rfl⟩ : ∃ m,k=m + 1:=⟨k - 1,by omega⟩
 cases ps with
 | nil =>
  rw [frame_length.l0,if_neg (by simp),if_pos rfl]
  rfl
 | cons p r =>
  have hb:=hlb.2 p List.mem_cons_self
  have hr0:rdOf ByteArray.empty (p :: r) 0=p:=rdB_at (p :: r) 0 (by simp)
  rw [frame_length.l0,if_pos (by simp only [List.length_cons];omega),if_pos (by omega),if_pos (by simp only [List.length_cons];omega),hr0,Decimal_f _ (by omega) k (by omega),Option.bind_some,show (if (p :: r)=[] then ((-1:Int),false) else lenS (p :: r))=lenS (p :: r) from if_neg (by simp),lenS]
  obtain ⟨z,hz⟩ : ∃ z,z=numSpec p 10 18:=⟨_,rfl⟩
  have hnn:=num_nn p
  rw [← hz] at hnn ⊢
  by_cases h1:z.2=true
  ·have h:=len_rest (p :: r) hlb.1 hlb.2 z.1 hnn r.length k 1 (by simp only [List.length_cons];omega) (by have:=hlb.1;simp only [List.length_cons] at this;omega)
   have h' : frame_length.l0 k z.1 (p :: r) ((p :: r).length:Int) 1=_:=h
   rw [if_pos h1,if_neg (by decide),show wrap64 (0 + 1)=1 by unfold wrap64;omega,h']
   simp only [List.drop_succ_cons,List.drop_zero]
   by_cases h2:(r.all fun q=>decide (numSpec q 10 18=(z.1,true)))=true
   ·rw [if_pos h2,if_pos ⟨h1,h2⟩]
   ·rw [if_neg h2,if_neg (fun h=>h2 h.2)]
  ·rw [if_neg h1,if_neg (fun h=>h1 h.1)]
def chunkedW:ByteArray:=⟨#[99,104,117,110,107,101,100]⟩
/-- Are they chunked? -/
def chunkedS (fs:List (S36)):Bool:=match listS teNm fs with|[p]=>sameN p chunkedW|_=>false
theorem chunked_f (fs:List (S36)) (hf:FB fs) (k:Nat) (hk:1049600 ≤ k):frame_chunked.f k fs=some (chunkedS fs):=by
 have hlb:=list_bounds fs teNm hf
 have hL:field_List.f k fs (⟨#[84,114,97,110,115,102,101,114,45,69,110,99,111,100,105,110,103]⟩:ByteArray)=some (listS teNm fs):=by
  have h:=List_f fs teNM hf (by decide) k (by omega)
  rw [listS_nm _ _ te_nm] at h
  exact h
 unfold frame_chunked.f chunkedS
 rw [hL,Option.bind_some]
 match hps:listS teNm fs with
 | []=>rw [if_neg (by simp)]
 | [p] =>
  rw [hps] at hlb
  have hb:=hlb.2 p List.mem_cons_self
  have hr0:rdOf ByteArray.empty [p] 0=p:=rdB_at [p] 0 (by simp)
  rw [if_pos (by simp),if_pos (by simp),hr0,same_f p _ (by omega) (by decide),Option.bind_some]
  rfl
 | p :: q :: r=>rw [if_neg (by simp only [List.length_cons];omega)]
/-- How long a request's body is. -/
def reqLen (fs:List (S36)) (minor:Int):Int × Bool × Int :=
 if thereS teNm fs=true then (if thereS lenNm fs=true ∨ minor=0 then (0,false,400) else if chunkedS fs=true then (0,true,0) else (0,false,501))
 else if thereS lenNm fs=true then (if (lenS (listS lenNm fs)).2=true then (if (lenS (listS lenNm fs)).1 > 4096 then (0,false,413) else ((lenS (listS lenNm fs)).1,false,0)) else (0,false,400)) else (0,false,0)
theorem lenS_if (ps:List ByteArray):(if ps=[] then ((-1:Int),false) else lenS ps).2=(lenS ps).2∧((lenS ps).2=true → (if ps=[] then ((-1:Int),false) else lenS ps).1=(lenS ps).1):=by
 by_cases h:ps=[]
 ·rw [if_pos h,h];exact ⟨rfl,fun h=>by cases h⟩
 ·rw [if_neg h];exact ⟨rfl,fun _=>rfl⟩
theorem frameReq_f (fs:List (S36)) (minor:Int) (hf:FB fs) (k:Nat) (hk:1060000010 ≤ k):frame_Request.f k fs minor=some (reqLen fs minor):=by
 have hfl:=hf.1
 obtain ⟨k,rfl⟩ : ∃ m,k=m + 2:=⟨k - 2,by omega⟩
 obtain ⟨hl1,hl2⟩:=lenS_if (listS lenNm fs)
 unfold frame_Request.f reqLen
 rw [thereLen_f fs hf _ (by omega),Option.bind_some,thereTe_f fs hf _ (by omega),Option.bind_some,length_fs fs hf _ (by omega),Option.bind_some]
 obtain ⟨z,hz⟩ : ∃ z,z=(if listS lenNm fs=[] then ((-1:Int),false) else lenS (listS lenNm fs)):=⟨_,rfl⟩
 rw [← hz] at hl1 hl2 ⊢
 obtain ⟨y,hy⟩ : ∃ y,y=lenS (listS lenNm fs):=⟨_,rfl⟩
 rw [← hy] at hl1 hl2 ⊢
 have hj1 : ∀ L T b,frame_Request.j1 (k + 1) L T z.1 z.2 b=some (if b=true then (0,false,501) else if T=true then (0,true,0) else if L=true then (if y.2=true then (if y.1 > 4096 then (0,false,413) else (y.1,false,0)) else (0,false,400)) else (0,false,0)):=by
  intro L T b
  rw [frame_Request.j1,hl1]
  cases b <;> cases T <;> cases L <;> try rfl
  cases h:y.2
  ·rfl
  ·rw [hl2 h]
   by_cases h9:y.1 > 4096
   ·simp [h9]
   ·simp [h9]
 have hj0 : ∀ L T x,frame_Request.j0 (k + 2) fs L T z.1 z.2 x=some (if x=true then (0,false,400) else if T=true then (if chunkedS fs=true then (0,true,0) else (0,false,501)) else if L=true then (if y.2=true then (if y.1 > 4096 then (0,false,413) else (y.1,false,0)) else (0,false,400)) else (0,false,0)):=by
  intro L T x
  rw [frame_Request.j0,chunked_f fs hf (k + 1) (by omega),Option.bind_some,hj1,hj1]
  cases x <;> cases T <;> cases chunkedS fs <;> rfl
 rw [hj0,hj0,hj0]
 by_cases hm:minor=0
 ·rw [beq_iff_eq.2 hm]
  cases thereS teNm fs <;> cases thereS lenNm fs <;> simp [hm]
 ·rw [beq_eq_false_iff_ne.2 hm]
  cases thereS teNm fs <;> cases thereS lenNm fs <;> simp [hm]
/-- How a response's body is told. -/
def noBody (method:ByteArray) (code:Int):Bool:=(method.toList == [72,69,65,68]) || (decide (code < 200) || ((code == 204) || (code == 304)))
def respLen (method:ByteArray) (code minor:Int) (fs:List (S36)):Int × Int × Bool :=
 if noBody method code=true then (0,0,true)
 else if (reqLen fs minor).2.2=0 then (if (reqLen fs minor).2.1=true then (2,0,true) else if thereS lenNm fs=true then (1,(reqLen fs minor).1,true) else (3,0,true)) else (0,0,false)
theorem frameResp_f (method:ByteArray) (code:Int) (reason:ByteArray) (minor:Int) (fs:List (S36)) (b:List Int) (hf:FB fs) (k:Nat) (hk:1060000020 ≤ k):frame_Response.f k method code reason minor fs b=some (respLen method code minor fs):=by
 have hfl:=hf.1
 obtain ⟨k,rfl⟩ : ∃ m,k=m + 1:=⟨k - 1,by omega⟩
 have hj : ∀ x,frame_Response.j0 (k + 1) x code reason minor fs b=some (if x=true then (0,0,true) else if (reqLen fs minor).2.2=0 then (if (reqLen fs minor).2.1=true then (2,0,true) else if thereS lenNm fs=true then (1,(reqLen fs minor).1,true) else (3,0,true)) else (0,0,false)):=by
  intro x
  rw [frame_Response.j0,frameReq_f fs minor hf k (by omega),Option.bind_some,thereLen_f fs hf k (by omega),Option.bind_some]
  by_cases h1:(reqLen fs minor).2.2=0
  ·cases x <;> cases (reqLen fs minor).2.1 <;> cases thereS lenNm fs <;> simp [h1]
  ·cases x <;> simp [h1]
 unfold frame_Response.f respLen noBody
 by_cases h1:method.toList=[72,69,65,68]
 ·rw [if_pos h1,hj,if_pos rfl,beq_iff_eq.2 h1,Bool.true_or,if_pos rfl]
 ·rw [if_neg h1,beq_eq_false_iff_ne.2 h1,Bool.false_or]
  by_cases h2:code < 200
  ·rw [if_pos h2,hj,if_pos rfl,decide_eq_true h2,Bool.true_or,if_pos rfl]
  ·rw [if_neg h2,decide_eq_false h2,Bool.false_or]
   by_cases h3:code=204
   ·rw [if_pos h3,hj,if_pos rfl,beq_iff_eq.2 h3,Bool.true_or,if_pos rfl]
   ·rw [if_neg h3,hj,beq_eq_false_iff_ne.2 h3,Bool.false_or]
def bodyS (b:List Int) (size:Int) (coded:Bool):List Int × Int × Int :=
 if coded=true then (if (decS b (b.length + 1) 0 4096 []).2.2=2 then ([],-1,413) else if (decS b (b.length + 1) 0 4096 []).2.2=0 then (if (decS b (b.length + 1) 0 4096 []).2.1=0 then ([],-1,0) else ((decS b (b.length + 1) 0 4096 []).1,(decS b (b.length + 1) 0 4096 []).2.1,0)) else ([],-1,400))
 else if (b.length:Int) < size then ([],-1,0) else (b.take size.toNat,size,0)
theorem lenS_nn (ps:List ByteArray):0 ≤ (lenS ps).1:=by
 cases ps with
 | nil=>decide
 | cons p r =>
  rw [lenS]
  split
  ·exact num_nn p
  ·decide
theorem reqLen_size (fs:List (S36)) (m:Int):0 ≤ (reqLen fs m).1∧(reqLen fs m).1 ≤ 4096:=by
 have h0:0 ≤ (lenS (listS lenNm fs)).1:=lenS_nn _
 unfold reqLen
 repeat' split
 all_goals first|exact ⟨by decide,by decide⟩|(constructor <;> simp only [] <;> omega)
theorem byteAll {P:UInt8 → Prop} (h : ∀ n:Fin 256,P (UInt8.ofNat n.val)) (b:UInt8):P b:=by
 have:=h ⟨b.toNat,b.toNat_lt⟩
 rwa [show UInt8.ofNat (⟨b.toNat,b.toNat_lt⟩:Fin 256).val=b from UInt8.ofNat_toNat] at this
def digU (b:UInt8):Bool:=([48,49,50,51,52,53,54,55,56,57]:List UInt8).contains b
theorem dig_host (b:UInt8):digU b=decide (48 ≤ (b.toNat:Int)∧(b.toNat:Int) ≤ 57):=byteAll (P:=fun b=>digU b=decide (48 ≤ (b.toNat:Int)∧(b.toNat:Int) ≤ 57)) (by decide +kernel) b
theorem Fold_f (s:ByteArray) (hn:s.size ≤ 140737488355328):sign_Fold.f s=some (strOfNums ((bytesOf s).map foldC)):=if_pos hn
theorem str_len (xs:List Int):(strOfNums xs).size=xs.length:=str_size xs
theorem CutPrefix_f (s p:List UInt8):strings_CutPrefix.f (mkS s) (mkS p)=some (if s.take p.length=p then (mkS (s.drop p.length),true) else (mkS s,false)):=by
 unfold strings_CutPrefix.f stringslite_CutPrefix.f stringslite_HasPrefix.f
 rw [mkS_size,mkS_size]
 by_cases h:p.length ≤ s.length
 ·rw [if_pos (by omega),if_pos (by omega),if_pos (by omega),Option.bind_some,Int.toNat_natCast,mkS_extract,mkS_extract,mkS_toList,mkS_toList,List.drop_zero,Nat.sub_zero]
  by_cases e:s.take p.length=p
  ·rw [if_pos e,e,if_pos (by simp),if_pos (by omega),if_pos (by omega),Option.bind_some,List.take_of_length_le (by rw [List.length_drop];omega)]
  ·rw [if_neg e,if_neg (by simpa using e),Option.bind_some]
 ·rw [if_neg (by omega),Option.bind_some,if_neg (by decide),Option.bind_some,if_neg ?_]
  intro e
  have:=congrArg List.length e
  rw [List.length_take] at this
  omega
theorem CutPrefix_yes (s p:List UInt8) (h:s.take p.length=p):strings_CutPrefix.f (mkS s) (mkS p)=some (mkS (s.drop p.length),true):=by rw [CutPrefix_f,if_pos h]
theorem CutPrefix_no (s p:List UInt8) (h : ¬ s.take p.length=p):strings_CutPrefix.f (mkS s) (mkS p)=some (mkS s,false):=by rw [CutPrefix_f,if_neg h]
/-- The last digit of a version that is known. -/
def minL (l:List UInt8):Option Int:=if l=[72,84,84,80,47,49,46,48] then some 0 else if l=[72,84,84,80,47,49,46,49] then some 1 else none
theorem minor_f (l:List UInt8):line_minor.f (mkS l)=some (match minL l with|some n=>(n,true)|none=>(0,false)):=by
 unfold line_minor.f minL
 rw [mkS_toList]
 by_cases h1:l=[72,84,84,80,47,49,46,48]
 ·rw [if_pos h1,if_pos h1]
 ·rw [if_neg h1,if_neg h1]
  by_cases h2:l=[72,84,84,80,47,49,46,49]
  ·rw [if_pos h2,if_pos h2]
  ·rw [if_neg h2,if_neg h2]
/-- What is known of a request's beginning that is whole. -/
structure OpenOk (l:List Int) (o:ByteArray × ByteArray × Int × List (S36) × List Int × Int × Int × Bool × Int):Prop where
 pos:0 < o.2.2.2.2.2.1
 le:o.2.2.2.2.2.1 ≤ (l.length:Int)∧o.2.2.2.2.2.1 ≤ 2048
 code:o.2.2.2.2.2.2.2.2=0
 size:0 ≤ o.2.2.2.2.2.2.1∧o.2.2.2.2.2.2.1 ≤ 4096
 minor:o.2.2.1=0 ∨ o.2.2.1=1
 fields:o.2.2.2.1.length ≤ 40 ∧ ∀ f ∈ o.2.2.2.1,rightB f.f0 f.f1=true
 body:o.2.2.2.2.1=[]
def Cln (xs:List Int):Prop := ∀ x ∈ xs,x ≠ 13∧x ≠ 10
theorem cln_nil:Cln []:=fun x hx=>by cases hx
theorem cutT_line (xs:List Int) (hs:Cln xs) (r:List Int) (m:Int) (hm:(xs.length:Int) ≤ m) (d:Nat) : ∀ (j e:Nat),j + d=xs.length → e=d + 2 + r.length →
 cutAt (xs ++ ([13,10] ++ r)) m e j=(strOfNums xs,(xs.length:Int) + 2,0):=by
 induction d with
 | zero =>
  intro j e hj he
  subst he
  obtain rfl:j=xs.length:=by omega
  have e1:rd (xs ++ ([13,10] ++ r)) (xs.length:Int)=13:=by rw [rd_append_right _ _ _ (by omega),Int.sub_self];rfl
  have e2:rd (xs ++ ([13,10] ++ r)) ((xs.length:Int) + 1)=10:=by rw [rd_append_right _ _ _ (by omega),show (xs.length:Int) + 1 - xs.length=1 by omega];rfl
  rw [show 0 + 2 + r.length=(r.length + 1) + 1 by omega]
  simp only [cutAt]
  rw [e1,if_neg (by decide),if_pos rfl,if_pos (by rw [List.length_append];simp;omega),e2,if_pos rfl,Int.toNat_natCast,List.take_left]
 | succ d ih =>
  intro j e hj he
  subst he
  have hlt:j < xs.length:=by omega
  have e1:rd (xs ++ ([13,10] ++ r)) (j:Int)=xs[j]:=by
   rw [rd_append_left _ _ _ (by omega) (by omega)]
   simp [rd,List.getD_eq_getElem?_getD,List.getElem?_eq_getElem hlt]
  obtain ⟨h13,h10⟩:=hs _ (List.getElem_mem hlt)
  rw [show d + 1 + 2 + r.length=(d + 2 + r.length) + 1 by omega]
  simp only [cutAt]
  rw [e1,if_neg h10,if_neg h13,if_neg (by omega)]
  have:=ih (j + 1) (d + 2 + r.length) (by omega) rfl
  rw [show ((j + 1:Nat):Int)=(j:Int) + 1 by omega] at this
  exact this
theorem cutT (xs:List Int) (hs:Cln xs) (r:List Int) (m:Int) (hm:(xs.length:Int) ≤ m):cutSpec (xs ++ ([13,10] ++ r)) m=(strOfNums xs,(xs.length:Int) + 2,0):=by
 have e1:mx m 0=m:=by unfold mx;split <;> omega
 unfold cutSpec
 rw [e1]
 exact cutT_line xs hs r m hm xs.length 0 _ (by omega) (by rw [List.length_append,List.length_append];simp;omega)
/-- Lines,one behind the other. -/
def flatL:List (List Int) → List Int
 | []=>[]
 | s :: ss=>s ++ ([13,10] ++ flatL ss)
theorem str_nil (xs:List Int):(strOfNums xs).toList=[] ↔ xs=[]:=by
 have h:=str_size xs
 constructor
 ·intro e
  have:(strOfNums xs).size=0:=by rw [← data_length,← toList_data,e];rfl
  exact List.eq_nil_of_length_eq_zero (by omega)
 ·rintro rfl;rw [toList_data];rfl
def LinesOk (ss:List (List Int)):Prop := ∀ s ∈ ss,Cln s∧s ≠ []∧s.length ≤ 2048
theorem tail_text (L:List Int) (e:Int) (r:List Int) : ∀ (ss:List (List Int)) (p d:Nat),L.drop p=flatL ss ++ ([13,10] ++ r) → LinesOk ss → ss.length < d →
 tailS L e d p=(ss.map strOfNums,(p:Int) + ((flatL ss).length:Int) + 2,0):=by
 intro ss
 induction ss with
 | nil =>
  intro p d h hs hd
  obtain ⟨d,rfl⟩ : ∃ m,d=m + 1:=⟨d - 1,by simp only [List.length_nil] at hd;omega⟩
  have hc:=cutT [] cln_nil r 2048 (by decide)
  rw [List.nil_append] at hc
  rw [tailS,h,flatL,List.nil_append,hc,if_neg (by decide),if_neg (by decide),if_pos ((str_nil []).2 rfl)]
  simp
 | cons s ss ih =>
  intro p d h hs hd
  obtain ⟨d,rfl⟩ : ∃ m,d=m + 1:=⟨d - 1,by simp only [List.length_cons] at hd;omega⟩
  obtain ⟨h1,h2,h3⟩:=hs s (List.mem_cons_self ..)
  have hfl:flatL (s :: ss) ++ ([13,10] ++ r)=s ++ ([13,10] ++ (flatL ss ++ ([13,10] ++ r))):=by rw [flatL,List.append_assoc,List.append_assoc]
  rw [hfl] at h
  have hc:=cutT s h1 (flatL ss ++ ([13,10] ++ r)) 2048 (by omega)
  have hd2:L.drop (p + (s.length + 2))=flatL ss ++ ([13,10] ++ r):=by
   rw [← List.drop_drop,h,← List.append_assoc,List.drop_append_of_le_length (by simp),List.drop_of_length_le (by simp),List.nil_append]
  rw [tailS,h,hc]
  simp only
  rw [if_neg (by decide),if_neg (by omega),if_neg (fun he=>h2 ((str_nil s).1 he)),show ((s.length:Int) + 2).toNat=s.length + 2 by omega,
   ih (p + (s.length + 2)) d hd2 (fun t ht=>hs t (List.mem_cons_of_mem _ ht)) (by simp only [List.length_cons] at hd;omega)]
  simp only [List.map_cons,flatL,List.length_append,List.length_cons,List.length_nil,Prod.mk.injEq,true_and,and_true]
  omega
theorem flatL_len (ss:List (List Int)):ss.length ≤ (flatL ss).length:=by
 induction ss with
 | nil=>exact Nat.le_refl _
 | cons s ss ih=>simp only [flatL,List.length_append,List.length_cons,List.length_nil];omega
theorem lines_text (l:List Int) (e:Int) (s:List Int) (ss:List (List Int)) (r:List Int) (h:l=s ++ ([13,10] ++ (flatL ss ++ ([13,10] ++ r)))) (hs:Cln s) (hn:s.length ≤ 2048) (hss:LinesOk ss) :
 linesS l e=(strOfNums s :: ss.map strOfNums,(s.length:Int) + ((flatL ss).length:Int) + 4,0):=by
 have hc:=cutT s hs (flatL ss ++ ([13,10] ++ r)) 2048 (by omega)
 rw [← h] at hc
 have hd2:l.drop (s.length + 2)=flatL ss ++ ([13,10] ++ r):=by
  rw [h,← List.append_assoc,List.drop_append_of_le_length (by simp),List.drop_of_length_le (by simp),List.nil_append]
 have hf:=flatL_len ss
 have hl:l.length=s.length + 2 + (flatL ss).length + 2 + r.length:=by rw [h];simp only [List.length_append,List.length_cons,List.length_nil];omega
 unfold linesS
 rw [hc]
 simp only
 rw [if_neg (by decide),if_neg (by omega),show ((s.length:Int) + 2).toNat=s.length + 2 by omega,tail_text l e r ss (s.length + 2) (l.length + 1) hd2 hss (by omega)]
 simp only [Prod.mk.injEq,true_and,and_true]
 omega
/-- A field's line,without its end. -/
def fieldLn (f:S36):List Int:=bytesOf f.f0 ++ ([58,32] ++ bytesOf f.f1)
theorem tok_58:tokB 58=false:=by decide +kernel
theorem tok_13:tokB 13=false:=by decide +kernel
theorem tok_10:tokB 10=false:=by decide +kernel
theorem vl_13:valB 13=false:=by decide +kernel
theorem vl_10:valB 10=false:=by decide +kernel
theorem rightB_parts {a t:ByteArray} (h:rightB a t=true):a.toList.isEmpty=false∧(bytesOf a).all tokB=true∧(bytesOf t).all valB=true∧mkS (trm t.data.toList)=t:=by
 unfold rightB at h
 simp only [Bool.and_eq_true,decide_eq_true_eq,Bool.not_eq_true',beq_iff_eq] at h
 exact ⟨h.2.1.1,h.2.1.2,h.2.2.2.1,toList_inj h.2.2.2.2⟩
theorem fieldLn_ok (f:S36) (h:rightB f.f0 f.f1=true):Cln (fieldLn f)∧fieldLn f ≠ []∧(fieldLn f).length ≤ 1102:=by
 obtain ⟨_,h2,h3,_⟩:=rightB_parts h
 have hs:=rightB_size h
 refine ⟨fun x hx=>?_,(fun e=>?_),?_⟩
 ·unfold fieldLn at hx
  rcases List.mem_append.1 hx with hx|hx
  ·have:=List.all_eq_true.1 h2 x hx
   refine ⟨fun e=>?_,fun e=>?_⟩
   ·rw [e,tok_13] at this;cases this
   ·rw [e,tok_10] at this;cases this
  ·rcases List.mem_append.1 hx with hx|hx
   ·have:x=58 ∨ x=32:=by simpa using hx
    omega
   ·have:=List.all_eq_true.1 h3 x hx
    refine ⟨fun e=>?_,fun e=>?_⟩
    ·rw [e,vl_13] at this;cases this
    ·rw [e,vl_10] at this;cases this
 ·have:=congrArg List.length e
  unfold fieldLn at this
  simp only [List.length_append,List.length_cons,List.length_nil] at this
  omega
 ·unfold fieldLn
  simp only [List.length_append,List.length_cons,List.length_nil,bytesOf_length]
  omega
theorem fieldLn_data (f:S36):(strOfNums (fieldLn f)).data.toList=f.f0.data.toList ++ 58 :: (32 :: f.f1.data.toList):=by
 have e : ∀ s:ByteArray,bytesOf s=s.data.toList.map fun b=>(b.toNat:Int):=fun _=>rfl
 unfold fieldLn
 rw [str_append,str_append,e,e,str_bytes,str_bytes]
 simp [ByteArray.data_append,mkS,strOfNums]
theorem trm_32 (t:ByteArray) (h:mkS (trm t.data.toList)=t):mkS (trm (32 :: t.data.toList))=t:=by
 have e:trm t.data.toList=t.data.toList:=by
  have:=congrArg (fun s=>s.data.toList) h
  simp only [mkS_data] at this
  exact this
 have hc:Clean t.data.toList:=by rw [← e];exact trm_clean _
 have:=trm_around [32] t.data.toList [] hc (fun a ha=>by rw [List.mem_singleton.1 ha];decide) (fun a ha=>by cases ha)
 rw [List.append_nil] at this
 rw [show (32:UInt8) :: t.data.toList=[32] ++ t.data.toList from rfl,this,mkS_self]
theorem fieldLn_field (f:S36) (h:rightB f.f0 f.f1=true):fieldOk (strOfNums (fieldLn f)).data.toList=true∧fieldX (strOfNums (fieldLn f)).data.toList=f:=by
 obtain ⟨_,h2,_,h4⟩:=rightB_parts h
 have h58:(58:UInt8) ∉ f.f0.data.toList:=by
  intro hm
  have:(58:Int) ∈ bytesOf f.f0:=List.mem_map.2 ⟨58,hm,rfl⟩
  have:=List.all_eq_true.1 h2 58 this
  rw [tok_58] at this
  cases this
 rw [fieldLn_data]
 obtain ⟨e1,e2⟩:=take_first 58 f.f0.data.toList (32 :: f.f1.data.toList) h58
 refine ⟨?_,?_⟩
 ·rw [fieldOk_yes _ _ h58,trm_32 f.f1 h4,mkS_self];exact h
 ·unfold fieldX
  rw [e1,e2,trm_32 f.f1 h4,mkS_self]
theorem fields_text : ∀ (fs:List (S36)) (n:Nat),(∀ f ∈ fs,rightB f.f0 f.f1=true) → n + fs.length ≤ 40 → fieldsS ((fs.map fieldLn).map strOfNums) n=(fs,0):=by
 intro fs
 induction fs with
 | nil=>intro n _ _;rfl
 | cons f fs ih =>
  intro n hg hn
  simp only [List.length_cons] at hn
  obtain ⟨g1,g2⟩:=fieldLn_field f (hg f (List.mem_cons_self ..))
  rw [List.map_cons,List.map_cons,fieldsS,if_pos g1,if_neg (by omega),ih (n + 1) (fun x hx=>hg x (List.mem_cons_of_mem _ hx)) (by omega),if_pos rfl,g2]
/-- What is written of fields is their lines. -/
theorem fLines_flat (fs:List (S36)):fLines fs=flatL (fs.map fieldLn):=by
 induction fs with
 | nil=>rfl
 | cons f fs ih =>
  rw [fLines,List.map_cons,flatL,ih]
  unfold lineB fieldLn
  rw [bytes_app,bytes_app,bytes_app]
  show ((_ ++ [58,32]) ++ _) ++ [13,10] ++ _=_
  simp only [List.append_assoc]
/-- A head that is written is read: its line,its fields;what stands behind it is not looked at. -/
theorem back_lines (l:List Int) (hl:Cln l) (fs:List (S36)) (hf : ∀ f ∈ fs,rightB f.f0 f.f1=true) (hn:fs.length ≤ 40) (R:List Int) (hH:l.length + (fLines fs).length + 4 ≤ 2048) (X:List Int) (hX:X=(l ++ [13,10]) ++ fLines fs ++ [13,10] ++ R) :
 linesS (bdS X) (extS X)=(strOfNums l :: (fs.map fieldLn).map strOfNums,(l.length:Int) + ((fLines fs).length:Int) + 4,0):=by
 have hflat:=fLines_flat fs
 have e1:((l ++ [13,10]) ++ fLines fs ++ [13,10]).length=l.length + (fLines fs).length + 4:=by simp only [List.length_append,List.length_cons,List.length_nil];omega
 have hbd:bdS X=l ++ ([13,10] ++ (flatL (fs.map fieldLn) ++ ([13,10] ++ R.take (2048 - (l.length + (fLines fs).length + 4))))):=by
  unfold bdS
  rw [hX,List.take_append,e1,List.take_of_length_le (by omega),hflat]
  simp only [List.append_assoc]
 have hok:LinesOk (fs.map fieldLn):=fun t ht=>by
  obtain ⟨f,hfm,rfl⟩:=List.mem_map.1 ht
  obtain ⟨a1,a2,a3⟩:=fieldLn_ok f (hf f hfm)
  exact ⟨a1,a2,by omega⟩
 have:=lines_text (bdS X) (extS X) l (fs.map fieldLn) _ hbd hl (by omega) hok
 rw [this,hflat]
theorem getS_none (p:ByteArray) : ∀ (fs:List (S36)),(∀ f ∈ fs,sameN f.f0 p=false) → getS p fs=[]:=by
 intro fs
 induction fs with
 | nil=>intro _;rfl
 | cons f fs ih =>
  intro h
  rw [getS,if_neg (by simp [h f (List.mem_cons_self ..)]),ih (fun x hx=>h x (List.mem_cons_of_mem _ hx))]
def toI (l:List UInt8):List Int:=l.map fun b=>(b.toNat:Int)
theorem numL_snoc (b:Int) (xs:List Int) (c:Int) : ∀ n,numL b (xs ++ [c]) n=(numL b xs n).bind fun v=>if 0 ≤ digV c∧digV c < b then some (v * b + digV c) else none:=by
 induction xs with
 | nil=>intro n;simp [numL]
 | cons x xs ih =>
  intro n
  simp only [List.cons_append,numL]
  by_cases h:0 ≤ digV x∧digV x < b
  ·rw [if_pos h,if_pos h,ih]
  ·rw [if_neg h,if_neg h];rfl
/-- The decimal digits,as numbers. -/
def decI (u:Nat):List Int:=(Lib.decDigits u).map fun b=>(b.toNat:Int)
theorem decI_small (u:Nat) (h:u < 10):decI u=[48 + (u:Int)]:=by
 unfold decI
 rw [Lib.decDigits_one h,List.map_cons,List.map_nil]
 congr 1
 rw [UInt8.toNat_ofNat']
 omega
theorem decI_big (u:Nat) (h:10 ≤ u):decI u=decI (u / 10) ++ [48 + ((u % 10:Nat):Int)]:=by
 unfold decI
 rw [Lib.decDigits,dif_neg (by omega),List.map_append,List.map_cons,List.map_nil]
 congr 2
 rw [UInt8.toNat_ofNat']
 omega
theorem dec_str (u:Nat):(⟨(Lib.decDigits u).toArray⟩:ByteArray)=strOfNums (decI u):=by
 unfold decI strOfNums
 congr 2
 rw [List.map_map]
 conv=>lhs;rw [← List.map_id (Lib.decDigits u)]
 exact List.map_congr_left fun b _=>by simp
theorem dig_dec (d:Nat) (h:d < 10):digV (48 + (d:Int))=d:=by
 have : ∀ m:Fin 10,digV (48 + (m.val:Int))=(m.val:Int):=by decide +kernel
 exact this ⟨d,h⟩
theorem dec_back (u:Nat):numL 10 (decI u) 0=some (u:Int):=by
 induction u using Nat.strongRecOn with
 | _ u ih =>
  by_cases h:u < 10
  ·rw [decI_small u h]
   simp only [numL,dig_dec u h]
   rw [if_pos (by omega)]
   congr 1
   omega
  ·rw [decI_big u (by omega),numL_snoc,ih (u / 10) (by omega),Option.bind_some,dig_dec (u % 10) (by omega),if_pos (by omega)]
   congr 1
   omega
theorem dec_len (d:Nat) : ∀ u,u < 10 ^ (d + 1) → 1 ≤ (decI u).length∧(decI u).length ≤ d + 1:=by
 induction d with
 | zero=>intro u h;rw [decI_small u (by simpa using h)];simp
 | succ d ih =>
  intro u h
  by_cases h1:u < 10
  ·rw [decI_small u h1];simp
  ·have h2:u / 10 < 10 ^ (d + 1):=(Nat.div_lt_iff_lt_mul (by decide)).2 (by rwa [← Nat.pow_succ])
   have:=ih _ h2
   rw [decI_big u (by omega),List.length_append]
   simp
   omega
theorem bytes_decI (u:Nat):Bytes (decI u):=by
 intro x hx
 obtain ⟨b,_,rfl⟩:=List.mem_map.1 hx
 have:=b.toNat_lt
 omega
theorem dec_spec (u:Nat) (h:u < 10 ^ 18):numSpec (strOfNums (decI u)) 10 18=((u:Int),true):=by
 have hl:=dec_len 17 u h
 unfold numSpec
 rw [str_size,if_neg (by omega),bytes_str (bytes_decI u),dec_back]
theorem Text_f (n:Int) (h0 : -9223372036854775808 ≤ n) (h1:n ≤ 9223372036854775807):sign_Text.f n=some ⟨(Lib.itoa n).toArray⟩:=by
 unfold sign_Text.f strconv_FormatInt_93.f strconv_FormatInt_145.f
 rw [if_pos rfl,if_pos ⟨h0,h1⟩]
 rfl
/-- A response's line;C is its code. -/
def statLine (C T r:ByteArray):ByteArray:=(((((((⟨#[72,84,84,80,47,49,46]⟩:ByteArray) ++ T) ++ (⟨#[32]⟩:ByteArray)) ++ C) ++ (⟨#[32]⟩:ByteArray)) ++ r) ++ (⟨#[13,10]⟩:ByteArray))
theorem StatusLine_end (k:Nat) (C:ByteArray) (c:Int) (r:ByteArray) (n:Int) (f:List (S36)) (b:List Int) (T:ByteArray) (hT:sign_Text.f n=some T) (hs:T.size ≤ 20) (h1:r.size ≤ 140737488351232) (h2:C.size ≤ 20) (h3:3 ≤ C.size):line_StatusLine.l0 (k + 1) C c r n f b=some (statLine C T r):=by
 have e1:(⟨#[32]⟩:ByteArray).size=1:=rfl
 have e2:(⟨#[72,84,84,80,47,49,46]⟩:ByteArray).size=7:=rfl
 unfold line_StatusLine.l0 statLine
 rw [if_neg (by omega),hT,Option.bind_some]
 simp only [ByteArray.size_append]
 rw [if_pos (by omega),if_pos (by omega),if_pos (by omega),if_pos (by omega),if_pos (by omega),if_pos (by omega)]
theorem trail_le (l:List Int) : ∀ (d p:Nat),p ≤ l.length → (trailS l d p).1 ≤ (l.length:Int):=by
 intro d
 induction d with
 | zero=>intro p _;exact Int.natCast_nonneg _
 | succ d ih =>
  intro p hp
  have hsh:=cutS_shape (l.drop p) 256
  have hdl:(l.drop p).length=l.length - p:=List.length_drop ..
  rw [trailS]
  obtain ⟨c,hc⟩ : ∃ c,c=cutSpec (l.drop p) 256:=⟨_,rfl⟩
  rw [← hc] at hsh ⊢
  by_cases h1:c.2.2=0
  ·rw [if_pos h1]
   by_cases h2:c.2.1=0
   ·rw [if_pos h2];exact Int.natCast_nonneg _
   ·have hz2:c.2.1 > 0∧c.2.1 ≤ (l.length:Int) - p:=by rcases hsh with h|h <;> omega
    rw [if_neg h2]
    by_cases h3:c.1.toList=[]
    ·rw [if_pos h3];show (p:Int) + c.2.1 ≤ _;omega
    ·rw [if_neg h3]
     by_cases h4:fieldOk c.1.data.toList=true
     ·rw [if_pos h4];exact ih _ (by omega)
     ·rw [if_neg h4];exact Int.natCast_nonneg _
  ·rw [if_neg h1];exact Int.natCast_nonneg _
theorem dec_le (l:List Int) (hl:l.length ≤ 1000000) : ∀ (d p:Nat) (left:Int) (out:List Int),p ≤ l.length → (decS l d p left out).2.1 ≤ (l.length:Int):=by
 intro d
 induction d with
 | zero=>intro p left out _;exact Int.natCast_nonneg _
 | succ d ih =>
  intro p left out hp
  have hsh:=cutS_shape (l.drop p) 256
  have hdl:(l.drop p).length=l.length - p:=List.length_drop ..
  have hz0:(0:Int) ≤ (l.length:Int):=Int.natCast_nonneg _
  rw [decS]
  obtain ⟨c,hc⟩ : ∃ c,c=cutSpec (l.drop p) 256:=⟨_,rfl⟩
  rw [← hc] at hsh ⊢
  have hzb:=size_bound c.1.data.toList
  obtain ⟨z,hz⟩ : ∃ z,z=sizeS c.1.data.toList:=⟨_,rfl⟩
  obtain ⟨q,hq⟩ : ∃ q,q=p + c.2.1.toNat:=⟨_,rfl⟩
  rw [← hz] at hzb
  rw [← hz,← hq]
  by_cases h1:c.2.2=0
  ·rw [if_pos h1]
   by_cases h2:c.2.1=0
   ·rw [if_pos h2];exact hz0
   ·have hz2:c.2.1 > 0∧c.2.1 ≤ (l.length:Int) - p:=by rcases hsh with h|h <;> omega
    have hqd:(l.drop q).length=l.length - q:=List.length_drop ..
    rw [if_neg h2]
    by_cases h3:z.2=true
    ·rw [if_pos h3]
     by_cases h4:z.1=0
     ·rw [if_pos h4]
      by_cases h5:(trailS l 41 q).2=0
      ·rw [if_pos h5]
       by_cases h6:(trailS l 41 q).1=0
       ·rw [if_pos h6];exact hz0
       ·rw [if_neg h6];exact trail_le l 41 q (by omega)
      ·rw [if_neg h5];exact hz0
     ·rw [if_neg h4]
      by_cases h5:z.1 > left
      ·rw [if_pos h5];exact hz0
      ·rw [if_neg h5]
       by_cases h6:(dataOf (l.drop q) (q:Int) z.1 false).2.1=0
       ·rw [if_pos h6]
        by_cases h7:(dataOf (l.drop q) (q:Int) z.1 false).2.2.2=true
        ·rw [if_pos h7];exact hz0
        ·rw [if_neg h7]
         obtain ⟨_,_,e3,_,_⟩:=data_ok (l.drop q) q z.1 (by omega) (by omega) hzb.1 (by omega) h6 h7
         exact ih _ _ _ (by omega)
       ·rw [if_neg h6];exact hz0
    ·rw [if_neg h3];exact hz0
  ·rw [if_neg h1];exact hz0
theorem decS_size (l:List Int) (hb:l.length ≤ 1000000) : ∀ (d p:Nat) (left:Int) (out:List Int),p ≤ l.length → out.length ≤ l.length → l.length < p + d → out.length ≤ p → (decS l d p left out).1.length ≤ l.length:=by
 intro d
 induction d with
 | zero=>intro p left out h1 h2 h3;omega
 | succ d ih =>
  intro p left out hp ho hd hop
  have hsh:=cutS_shape (l.drop p) 256
  have hdl:(l.drop p).length=l.length - p:=List.length_drop ..
  rw [decS]
  obtain ⟨c,hc⟩ : ∃ c,c=cutSpec (l.drop p) 256:=⟨_,rfl⟩
  rw [← hc] at hsh ⊢
  by_cases h1:c.2.2=0
  ·rw [if_pos h1]
   by_cases h2:c.2.1=0
   ·rw [if_pos h2];simp
   ·have hz2:c.2.1 > 0∧c.2.1 ≤ (l.length:Int) - p:=by rcases hsh with h|h <;> omega
    have hzb:=size_bound c.1.data.toList
    have hdq:(l.drop (p + c.2.1.toNat)).length=l.length - (p + c.2.1.toNat):=List.length_drop ..
    rw [if_neg h2]
    split
    ·split
     ·split
      ·split
       ·simp
       ·exact ho
      ·simp
     ·split
      ·simp
      ·split
       ·split
        ·simp
        ·rename_i h6 h7
         obtain ⟨_,_,e3,_,_⟩:=data_ok (l.drop (p + c.2.1.toNat)) ((p + c.2.1.toNat:Nat):Int) (sizeS c.1.data.toList).1 (by omega) (by omega) hzb.1 (by omega) h6 h7
         have htk:((l.drop (p + c.2.1.toNat)).take (sizeS c.1.data.toList).1.toNat).length ≤ (sizeS c.1.data.toList).1.toNat:=List.length_take_le ..
         exact ih _ _ _ (by omega) (by rw [List.length_append];omega) (by omega) (by rw [List.length_append];omega)
       ·simp
    ·simp
  ·rw [if_neg h1];simp
theorem trail_pos (l:List Int) : ∀ (d p:Nat),0 ≤ (trailS l d p).1:=by
 intro d
 induction d with
 | zero=>intro p;exact Int.le_refl _
 | succ d ih =>
  intro p
  have hsh:=cutS_shape (l.drop p) 256
  rw [trailS]
  repeat' split
  ·exact Int.le_refl _
  ·show 0 ≤ (p:Int) + _
   rcases hsh with h|h <;> omega
  ·exact ih _
  ·exact Int.le_refl _
  ·exact Int.le_refl _
theorem dec_none' (l:List Int) : ∀ (d p:Nat) (left:Int) (out:List Int),¬ (decS l d p left out).2.1 > 0 → (decS l d p left out).2.2=0 → (decS l d p left out).1=[]∧(decS l d p left out).2.1=0:=by
 intro d
 induction d with
 | zero=>intro p left out _ _;exact ⟨rfl,rfl⟩
 | succ d ih =>
  intro p left out g1 g2
  rw [decS] at g1 g2 ⊢
  obtain ⟨c,hc⟩ : ∃ c,c=cutSpec (l.drop p) 256:=⟨_,rfl⟩
  rw [← hc] at g1 g2 ⊢
  obtain ⟨z,hz⟩ : ∃ z,z=sizeS c.1.data.toList:=⟨_,rfl⟩
  obtain ⟨q,hq⟩ : ∃ q,q=p + c.2.1.toNat:=⟨_,rfl⟩
  rw [← hz,← hq] at g1 g2 ⊢
  by_cases h1:c.2.2=0
  ·rw [if_pos h1] at g1 g2 ⊢
   by_cases h2:c.2.1=0
   ·rw [if_pos h2];exact ⟨rfl,rfl⟩
   ·rw [if_neg h2] at g1 g2 ⊢
    by_cases h3:z.2=true
    ·rw [if_pos h3] at g1 g2 ⊢
     by_cases h4:z.1=0
     ·rw [if_pos h4] at g1 g2 ⊢
      by_cases h5:(trailS l 41 q).2=0
      ·rw [if_pos h5] at g1 g2 ⊢
       by_cases h6:(trailS l 41 q).1=0
       ·rw [if_pos h6];exact ⟨rfl,rfl⟩
       ·rw [if_neg h6] at g1
        have:=trail_pos l 41 q
        exact absurd (show (trailS l 41 q).1 > 0 by omega) g1
      ·rw [if_neg h5];exact ⟨rfl,rfl⟩
     ·rw [if_neg h4] at g1 g2 ⊢
      by_cases h5:z.1 > left
      ·rw [if_pos h5];exact ⟨rfl,rfl⟩
      ·rw [if_neg h5] at g1 g2 ⊢
       by_cases h6:(dataOf (l.drop q) (q:Int) z.1 false).2.1=0
       ·rw [if_pos h6] at g1 g2 ⊢
        by_cases h7:(dataOf (l.drop q) (q:Int) z.1 false).2.2.2=true
        ·rw [if_pos h7];exact ⟨rfl,rfl⟩
        ·rw [if_neg h7] at g1 g2 ⊢
         exact ih _ _ _ g1 g2
       ·rw [if_neg h6];exact ⟨rfl,rfl⟩
    ·rw [if_neg h3];exact ⟨rfl,rfl⟩
  ·rw [if_neg h1];exact ⟨rfl,rfl⟩
theorem body_le (b:List Int) (hb:b.length ≤ 1000000) (size:Int) (hs:0 ≤ size) (coded:Bool):(bodyS b size coded).2.1 ≤ (b.length:Int)∧(-1 ≤ (bodyS b size coded).2.1)∧(bodyS b size coded).1.length ≤ b.length∧(0 ≤ (bodyS b size coded).2.1 → (bodyS b size coded).2.2=0):=by
 unfold bodyS
 cases coded
 ·rw [if_neg (show ¬ (false=true) by simp)]
  by_cases h:(b.length:Int) < size
  ·rw [if_pos h];exact ⟨by simp only [];omega,by decide,by simp,fun _=>rfl⟩
  ·rw [if_neg h];exact ⟨by simp only [];omega,by simp only [];omega,by simp only [List.length_take];omega,fun _=>rfl⟩
 ·rw [if_pos rfl]
  have hle:=dec_le b hb (b.length + 1) 0 4096 [] (by omega)
  have hsz:=decS_size b hb (b.length + 1) 0 4096 [] (by omega) (by simp) (by omega) (by simp)
  have hz:=dec_none' b (b.length + 1) 0 4096 []
  obtain ⟨r,hr⟩ : ∃ r,r=decS b (b.length + 1) 0 4096 []:=⟨_,rfl⟩
  rw [← hr] at hle hsz hz ⊢
  by_cases h1:r.2.2=2
  ·rw [if_pos h1];exact ⟨by simp only [];omega,by decide,by simp,fun h=>absurd h (by decide)⟩
  ·rw [if_neg h1]
   by_cases h2:r.2.2=0
   ·rw [if_pos h2]
    by_cases h3:r.2.1=0
    ·rw [if_pos h3];exact ⟨by simp only [];omega,by decide,by simp,fun _=>rfl⟩
    ·rw [if_neg h3]
     have:r.2.1 > 0:=by
      by_cases h4:r.2.1 > 0
      ·exact h4
      ·exact absurd (hz h4 h2).2 h3
     exact ⟨hle,by simp only [];omega,hsz,fun _=>rfl⟩
   ·rw [if_neg h2];exact ⟨by simp only [];omega,by decide,by simp,fun h=>absurd h (by decide)⟩
def statBad:Int × ByteArray × Int × (List (S36)) × List Int × Bool:=(0,(⟨#[]⟩:ByteArray),0,[],[],false)
def dig3 (a b c:UInt8):Bool:=digU a && (digU b && digU c)
def code3 (a b c:UInt8):Int:=100 * ((a.toNat:Int) - 48) + 10 * ((b.toNat:Int) - 48) + ((c.toNat:Int) - 48)
/-- What stands behind a status line's code. -/
def statEnd (n code:Int) (tl:List UInt8):Int × ByteArray × Int × (List (S36)) × List Int × Bool :=
 if code < 100 ∨ 599 < code then statBad else
 match tl with
 | []=>(code,mkS [],n,[],[],true)
 | x :: r=>if x=32∧(bytesOf (mkS r)).all valB=true∧r.length ≤ 100 then (code,mkS r,n,[],[],true) else statBad
/-- What a status line tells. -/
def statSpec (l:List UInt8):Int × ByteArray × Int × (List (S36)) × List Int × Bool :=
 match minL (l.take 8),l.drop 8 with
 | some n,x :: a :: b :: c :: tl=>if x=32 then (if dig3 a b c=true then statEnd n (code3 a b c) tl else statBad) else statBad
 | _,_=>statBad
theorem statSpec_yes {l:List UInt8} {n:Int} {a b c:UInt8} {tl:List UInt8} (h1:minL (l.take 8)=some n) (h2:l.drop 8=32 :: a :: b :: c :: tl):statSpec l=if dig3 a b c=true then statEnd n (code3 a b c) tl else statBad:=by
 unfold statSpec
 rw [h1,h2]
 exact if_pos rfl
theorem statEnd_out {n code:Int} {tl:List UInt8} (h:code < 100 ∨ 599 < code):statEnd n code tl=statBad:=by unfold statEnd;rw [if_pos h]
theorem statEnd_nil0 {n code:Int} (h : ¬ (code < 100 ∨ 599 < code)):statEnd n code []=(code,mkS [],n,[],[],true):=by unfold statEnd;rw [if_neg h]
theorem statEnd_cons {n code:Int} {x:UInt8} {r:List UInt8} (h : ¬ (code < 100 ∨ 599 < code)):statEnd n code (x :: r)=if x=32∧(bytesOf (mkS r)).all valB=true∧r.length ≤ 100 then (code,mkS r,n,[],[],true) else statBad:=by unfold statEnd;rw [if_neg h]
theorem statSpec_min {l:List UInt8} (h1:minL (l.take 8)=none):statSpec l=statBad:=by
 unfold statSpec
 rw [h1]
theorem statSpec_no {l:List UInt8} (h : ∀ a b c tl,l.drop 8 ≠ 32 :: a :: b :: c :: tl):statSpec l=statBad:=by
 unfold statSpec
 split
 ·rename_i h2
  split
  ·rename_i hx;subst hx;exact absurd h2 (h _ _ _ _)
  ·rfl
 ·rfl
theorem minL_some {l:List UInt8} {n:Int} (h:minL l=some n):l.length=8∧32 ∉ l∧((n=0∧l=[72,84,84,80,47,49,46,48]) ∨ (n=1∧l=[72,84,84,80,47,49,46,49])):=by
 unfold minL at h
 split at h
 ·rename_i e;subst e;exact ⟨rfl,by decide,.inl ⟨(Option.some.inj h).symm,rfl⟩⟩
 ·split at h
  ·rename_i e;subst e;exact ⟨rfl,by decide,.inr ⟨(Option.some.inj h).symm,rfl⟩⟩
  ·cases h
theorem digV_dig (a:UInt8):(digU a=true → digV (a.toNat:Int)=(a.toNat:Int) - 48)∧(0 ≤ digV (a.toNat:Int)∧digV (a.toNat:Int) < 10 ↔ digU a=true) :=
 byteAll (P:=fun a=>(digU a=true → digV (a.toNat:Int)=(a.toNat:Int) - 48)∧(0 ≤ digV (a.toNat:Int)∧digV (a.toNat:Int) < 10 ↔ digU a=true)) (by decide +kernel) a
theorem num3 (a b c:UInt8):numSpec (mkS [a,b,c]) 10 18=if dig3 a b c=true then (code3 a b c,true) else (0,false):=by
 obtain ⟨a1,a2⟩:=digV_dig a
 obtain ⟨b1,b2⟩:=digV_dig b
 obtain ⟨c1,c2⟩:=digV_dig c
 unfold numSpec dig3
 rw [mkS_size,if_neg (by simp),mkS_bytes]
 simp only [List.map_cons,List.map_nil,numL]
 cases ha:digU a
 ·rw [if_neg (fun h=>by have:=a2.1 h;rw [ha] at this;cases this)];rfl
 ·rw [if_pos (a2.2 ha)]
  cases hb:digU b
  ·rw [if_neg (fun h=>by have:=b2.1 h;rw [hb] at this;cases this)];rfl
  ·rw [if_pos (b2.2 hb)]
   cases hc:digU c
   ·rw [if_neg (fun h=>by have:=c2.1 h;rw [hc] at this;cases this)];rfl
   ·rw [if_pos (c2.2 hc),a1 ha,b1 hb,c1 hc]
    simp only [Bool.and_self,if_true]
    congr 1
    unfold code3
    omega
theorem code3_range {a b c:UInt8} (h:dig3 a b c=true):0 ≤ code3 a b c∧code3 a b c ≤ 999∧48 ≤ (a.toNat:Int)∧(a.toNat:Int) ≤ 57∧48 ≤ (b.toNat:Int)∧(b.toNat:Int) ≤ 57∧48 ≤ (c.toNat:Int)∧(c.toNat:Int) ≤ 57:=by
 unfold dig3 at h
 rw [Bool.and_eq_true,Bool.and_eq_true,dig_host,dig_host,dig_host,decide_eq_true_eq,decide_eq_true_eq,decide_eq_true_eq] at h
 unfold code3
 omega
theorem Status_rest (k:Nat) (n:Int) (rest:List UInt8) (hn:rest.length ≤ 140737488355327) (hk:10 ≤ k) (h3:3 ≤ rest.length) :
 line_Status.j0 (k + 1) (mkS rest) n false=some (match rest with|a :: b :: c :: tl=>if dig3 a b c=true then statEnd n (code3 a b c) tl else statBad|_=>statBad):=by
 obtain ⟨a,b,c,tl,rfl⟩ : ∃ a b c tl,rest=a :: b :: c :: tl:=by
  match rest,h3 with
  | a :: b :: c :: tl,_=>exact ⟨a,b,c,tl,rfl⟩
 have hl:(a :: b :: c :: tl).length=tl.length + 3:=rfl
 have e1:(mkS (a :: b :: c :: tl)).extract 0 3=mkS [a,b,c]:=by rw [mkS_extract];rfl
 have e2:(mkS (a :: b :: c :: tl)).extract 3 (tl.length + 3)=mkS tl:=by rw [mkS_extract,List.take_of_length_le (by rw [List.length_drop,hl];omega)];rfl
 have hz:(mkS [a,b,c]).size=3:=mkS_size _
 simp only [line_Status.j0]
 rw [if_neg (by simp),mkS_size,hl,if_pos (by decide),if_pos (by omega),e1,e2,Decimal_f _ (by omega) k (by omega),Option.bind_some,num3,show (⟨#[32]⟩:ByteArray)=mkS [32] from rfl,mkS_toList]
 cases hd:dig3 a b c
 ·simp only [Bool.false_eq_true,if_false]
  obtain ⟨R,hR⟩ : ∃ R,strings_CutPrefix.f (mkS tl) (mkS [32])=some R:=⟨_,CutPrefix_f _ _⟩
  rw [hR]
  rfl
 ·simp only [if_true]
  by_cases c1:code3 a b c < 100
  ·rw [statEnd_out (Or.inl c1)]
   obtain ⟨R,hR⟩ : ∃ R,strings_CutPrefix.f (mkS tl) (mkS [32])=some R:=⟨_,CutPrefix_f _ _⟩
   rw [hR,Option.bind_some,if_pos c1]
   rfl
  ·by_cases c2:code3 a b c > 599
   ·rw [statEnd_out (Or.inr c2)]
    obtain ⟨R,hR⟩ : ∃ R,strings_CutPrefix.f (mkS tl) (mkS [32])=some R:=⟨_,CutPrefix_f _ _⟩
    rw [hR,Option.bind_some,if_neg c1,if_pos c2]
    rfl
   ·have hc : ¬ (code3 a b c < 100 ∨ 599 < code3 a b c):=by omega
    cases tl with
    | nil =>
     rw [statEnd_nil0 hc,CutPrefix_no [] [32] (by simp),Option.bind_some,if_neg c1,if_neg c2,if_neg (by simp),if_pos rfl,Value_f _ (by rw [mkS_size];simp),Option.bind_some,if_pos (by rfl),if_neg (by rw [mkS_size];simp)]
    | cons x r =>
     have hr:r.length ≤ 140737488355327:=by simp only [List.length_cons] at hn;omega
     rw [statEnd_cons hc]
     by_cases hx:x=32
     ·subst hx
      rw [CutPrefix_yes (32 :: r) [32] (by rfl),Option.bind_some,if_neg c1,if_neg c2,if_pos rfl]
      rw [show List.drop ([32]:List UInt8).length (32 :: r)=r from rfl,Value_f _ (by rw [mkS_size];omega),Option.bind_some,mkS_size]
      cases hv:(bytesOf (mkS r)).all valB
      ·rw [if_neg (by simp),if_neg (fun h=>by cases h.2.1)];rfl
      ·by_cases h100:r.length ≤ 100
       ·rw [if_pos rfl,if_neg (by omega),if_pos ⟨rfl,rfl,h100⟩]
       ·rw [if_pos rfl,if_pos (by omega),if_neg (fun h=>h100 h.2.2)]
        rfl
     ·rw [CutPrefix_no (x :: r) [32] (by simpa using hx),Option.bind_some,if_neg c1,if_neg c2,if_neg (by simp),if_neg (by simp),if_neg (fun h=>hx h.1)]
      rfl
theorem Status_f (l:List UInt8) (hn:l.length ≤ 140737488355327) (k:Nat) (hk:20 ≤ k):line_Status.f k (mkS l)=some (statSpec l):=by
 obtain ⟨k,rfl⟩ : ∃ m,k=m + 1:=⟨k - 1,by omega⟩
 have hbad : ∀ x n,line_Status.j0 (k + 1) x n true=some statBad:=by intro x n;simp only [line_Status.j0];rfl
 unfold line_Status.f
 rcases split_first 32 l with h|⟨a,b,rfl,h⟩
 ·rw [Cut_no 32 l h,Option.bind_some,minor_f,Option.bind_some,if_neg (by simp),hbad,statSpec_no]
  intro a b c tl e
  exact h (List.mem_of_mem_drop (by rw [e];simp))
 ·rw [Cut_yes 32 a b h (by omega),Option.bind_some,minor_f,Option.bind_some,if_pos rfl]
  have hlen:(a ++ 32 :: b).length=a.length + b.length + 1:=by rw [List.length_append,List.length_cons];omega
  cases hm:minL a with
  | none =>
   rw [if_neg (by simp),hbad]

   congr 1
   cases h8:minL ((a ++ 32 :: b).take 8) with
   | none=>exact (statSpec_min h8).symm
   | some n =>
    refine (statSpec_no fun x y z tl e=>?_).symm
    obtain ⟨h1,h2,_⟩:=minL_some h8
    have hsp:a ++ 32 :: b=(a ++ 32 :: b).take 8 ++ 32 :: (x :: y :: z :: tl):=by rw [← e,List.take_append_drop]
    have ha:a=(a ++ 32 :: b).take 8:=by
     have i1:=index_append 32 a b h
     have i2:=index_append 32 ((a ++ 32 :: b).take 8) (x :: y :: z :: tl) h2
     rw [← hsp,i1,h1] at i2
     have:a.length=8:=by omega
     rw [← this,List.take_left]
    rw [ha,h8] at hm
    cases hm
  | some n =>
   obtain ⟨h1,_,_⟩:=minL_some hm
   have ht:(a ++ 32 :: b).take 8=a:=by rw [← h1,List.take_left]
   have hdr:(a ++ 32 :: b).drop 8=32 :: b:=by rw [← h1,List.drop_left]
   rw [if_pos rfl,mkS_size]
   by_cases h3:(b.length:Int) < 3
   ·rw [decide_eq_true h3,hbad,statSpec_no]
    intro x y z tl e
    rw [hdr] at e
    injection e with _ e
    rw [e] at h3
    simp only [List.length_cons] at h3
    omega
   ·rw [decide_eq_false h3,Status_rest k n b (by omega) (by omega) (by omega)]
    obtain ⟨x,y,z,tl,rfl⟩ : ∃ x y z tl,b=x :: y :: z :: tl:=by
     match b,h3 with
     | [],h=>exact absurd (by simp) h
     | [_],h=>exact absurd (by simp) h
     | [_,_],h=>exact absurd (by simp) h
     | x :: y :: z :: tl,_=>exact ⟨x,y,z,tl,rfl⟩
    rw [statSpec_yes (by rw [ht];exact hm) hdr]
def respBad (b:Bool):Int × ByteArray × Int × List (S36) × List Int × Int × Bool:=(0,⟨#[]⟩,0,[],[],0,b)
def restS (b:List Int) (kind size:Int) (ended:Bool):List Int × Int × Bool :=
 if kind=3 then (if (b.length:Int) > 4096 then ([],-1,false) else if ended=true then (b,(b.length:Int),true) else ([],-1,true))
 else ((bodyS b size (kind == 2)).1,(bodyS b size (kind == 2)).2.1,(bodyS b size (kind == 2)).2.2 == 0)
def respF (l:List Int) (y:Int × Int × Bool) (ended:Bool) (q:Int × ByteArray × Int × (List (S36)) × List Int × Bool) (g:List (S36)) (n:Int):Int × ByteArray × Int × List (S36) × List Int × Int × Bool :=
 if y.2.2=true then
  (if (restS (l.drop n.toNat) y.1 y.2.1 ended).2.1 < 0 then respBad ((restS (l.drop n.toNat) y.1 y.2.1 ended).2.2 && !ended)
   else if (restS (l.drop n.toNat) y.1 y.2.1 ended).2.2=true then (q.1,q.2.1,q.2.2.1,g,(restS (l.drop n.toNat) y.1 y.2.1 ended).1,n + (restS (l.drop n.toNat) y.1 y.2.1 ended).2.1,true) else respBad false)
 else respBad false
def respL (l:List Int) (m:ByteArray) (ended:Bool):List ByteArray × Int × Int → Int × ByteArray × Int × List (S36) × List Int × Int × Bool
 | ([],_,c)=>respBad (c == 0 && !ended)
 | (s :: ss,n,c)=>if (statSpec s.data.toList).2.2.2.2.2=true then (if (fieldsS ss 0).2=0 then (if n=0 then respBad (c == 0 && !ended) else respF l (respLen m (statSpec s.data.toList).1 (statSpec s.data.toList).2.2.1 (fieldsS ss 0).1) ended (statSpec s.data.toList) (fieldsS ss 0).1 n) else respBad false) else respBad false
/-- The response with which bytes begin. -/
def respS2 (l:List Int) (m:ByteArray) (ended:Bool):Int × ByteArray × Int × List (S36) × List Int × Int × Bool:=respL l m ended (linesS (bdS l) (extS l))
theorem lines_at (l:List Int):(linesS (bdS l) (extS l)).2.1 ≤ (l.length:Int)∧0 ≤ (linesS (bdS l) (extS l)).2.1∧(linesS (bdS l) (extS l)).2.1 ≤ 2048:=by
 have hb:=bdS_length l
 have:=lines_le (bdS l) (extS l)
 omega
theorem respLen_size (m:ByteArray) (c mi:Int) (fs:List (S36)):0 ≤ (respLen m c mi fs).2.1:=by
 have:=(reqLen_size fs mi).1
 unfold respLen
 repeat' split
 all_goals first|exact Int.le_refl _|exact this
theorem text_1:sign_Text.f 1=some ⟨#[49]⟩:=by
 show strconv_FormatInt_93.f 1 10=_
 unfold strconv_FormatInt_93.f strconv_FormatInt_145.f
 simp [Lib.itoa,Lib.decDigits]
theorem text3 (a b c:UInt8) (h:dig3 a b c=true) (h1:100 ≤ code3 a b c):sign_Text.f (code3 a b c)=some (mkS [a,b,c]):=by
 have hr:=code3_range h
 rw [Text_f _ (by omega) (by omega)]
 have hi:Lib.itoa (code3 a b c)=Lib.decDigits (code3 a b c).toNat:=by unfold Lib.itoa;rw [if_neg (by omega)]
 rw [hi,dec_str,← str_bytes]
 congr 2
 have e:code3 a b c=100 * ((a.toNat:Int) - 48) + 10 * ((b.toNat:Int) - 48) + ((c.toNat:Int) - 48):=rfl
 generalize code3 a b c=n at *
 rw [decI_big n.toNat (by omega),decI_big (n.toNat / 10) (by omega),decI_small (n.toNat / 10 / 10) (by omega)]
 simp only [List.map_cons,List.map_nil,List.cons_append,List.nil_append,List.cons.injEq,and_true]
 omega
theorem write_l (fs:List (S36)) (hf:FB fs) (b:List Int) (hb:b.length ≤ 1000000000) (d:Nat) : ∀ (k i:Nat) (out:List Int),i + d=fs.length → d < k → out.length + 2097156 * d ≤ 100000000000 →
 http_write.l k fs b (i:Int) out=some (((out ++ fLines (fs.drop i)) ++ [13,10]) ++ b):=by
 have hfl:=hf.1
 induction d with
 | zero =>
  intro k i out hi hk ho
  obtain ⟨k,rfl⟩ : ∃ m,k=m + 1:=⟨k - 1,by omega⟩
  rw [http_write.l,if_neg (by omega),if_pos (by omega),List.drop_of_length_le (by omega),fLines,List.append_nil]
 | succ d ih =>
  intro k i out hi hk ho
  obtain ⟨k,rfl⟩ : ∃ m,k=m + 1:=⟨k - 1,by omega⟩
  have hlt:i < fs.length:=by omega
  have hs:=hf.2 _ (List.getElem_mem hlt)
  have hz:=lineB_size fs[i]
  rw [http_write.l,if_pos (by omega),if_pos (by omega),rdT_at fs i hlt,Line_f _ hs,Option.bind_some,if_pos (by omega),show wrap64 ((i:Int) + 1)=((i + 1:Nat):Int) by unfold wrap64;omega,
   ih k (i + 1) (out ++ bytesOf (lineB fs[i])) (by omega) (by omega) (by rw [List.length_append,bytesOf_length];omega),List.drop_eq_getElem_cons hlt,fLines,List.append_assoc out]
theorem write_f (first:ByteArray) (fs:List (S36)) (hf:FB fs) (b:List Int) (hb:b.length ≤ 1000000000) (h1:first.size ≤ 1000000000) (k:Nat) (hk:1001 ≤ k):http_write.f k first fs b=some (((bytesOf first ++ fLines fs) ++ [13,10]) ++ b):=by
 have hfl:=hf.1
 have:=write_l fs hf b hb fs.length k 0 (bytesOf first) (by omega) (by omega) (by rw [bytesOf_length];omega)
 rw [List.drop_zero] at this
 exact this
/-- A status line of version 1.1. -/
def lineR (a b c:UInt8) (r:List UInt8):List UInt8:=[72,84,84,80,47,49,46,49,32,a,b,c,32] ++ r
theorem stat_parts (l:List UInt8) (h:(statSpec l).2.2.2.2.2=true) : ∃ a b c r,dig3 a b c=true ∧ ¬ (code3 a b c < 100 ∨ 599 < code3 a b c)∧(statSpec l).1=code3 a b c∧(statSpec l).2.1=mkS r∧(bytesOf (mkS r)).all valB=true∧r.length ≤ 100:=by
 cases hm:minL (l.take 8) with
 | none=>rw [statSpec_min hm] at h;cases h
 | some n =>
  by_cases hd : ∃ a b c tl,l.drop 8=32 :: a :: b :: c :: tl
  ·obtain ⟨a,b,c,tl,hd⟩:=hd
   rw [statSpec_yes hm hd] at h ⊢
   cases h3:dig3 a b c
   ·rw [h3] at h;cases h
   ·rw [h3] at h
    simp only [if_true] at h ⊢
    unfold statEnd at h ⊢
    split at h
    ·cases h
    ·rename_i hc
     rw [if_neg hc]
     cases tl with
     | nil=>exact ⟨a,b,c,[],h3,hc,rfl,rfl,by decide,by decide⟩
     | cons x r =>
      simp only at h ⊢
      split at h
      ·rename_i hx
       rw [if_pos hx]
       exact ⟨a,b,c,r,h3,hc,rfl,rfl,hx.2.1,hx.2.2⟩
      ·cases h
  ·rw [statSpec_no (fun a b c tl h' => hd ⟨a,b,c,tl,h'⟩)] at h
   cases h
theorem statR (a b c:UInt8) (r:List UInt8) (h3:dig3 a b c=true) (hc : ¬ (code3 a b c < 100 ∨ 599 < code3 a b c)) (hr:(bytesOf (mkS r)).all valB=true) (hl:r.length ≤ 100):statSpec (lineR a b c r)=(code3 a b c,mkS r,1,[],[],true):=by
 have h1:minL ((lineR a b c r).take 8)=some 1:=by
  show minL [72,84,84,80,47,49,46,49]=some 1
  decide
 rw [statSpec_yes h1 (show (lineR a b c r).drop 8=32 :: a :: b :: c :: 32 :: r from rfl),if_pos h3,statEnd_cons hc,if_pos ⟨rfl,hr,hl⟩]
theorem lineR_cln (a b c:UInt8) (r:List UInt8) (h3:dig3 a b c=true) (hr:(bytesOf (mkS r)).all valB=true):Cln (toI (lineR a b c r)):=by
 have hd : ∀ x:UInt8,digU x=true → (x.toNat:Int) ≠ 13∧(x.toNat:Int) ≠ 10:=fun x=>byteAll (P:=fun x=>digU x=true → (x.toNat:Int) ≠ 13∧(x.toNat:Int) ≠ 10) (by decide +kernel) x
 unfold dig3 at h3
 simp only [Bool.and_eq_true] at h3
 intro x hx
 unfold toI lineR at hx
 rw [List.map_append] at hx
 rcases List.mem_append.1 hx with hx|hx
 ·simp only [List.map_cons,List.map_nil,List.mem_cons,List.not_mem_nil,or_false] at hx
  rcases hx with rfl|rfl|rfl|rfl|rfl|rfl|rfl|rfl|rfl|rfl|rfl|rfl|rfl
  all_goals first|exact hd _ h3.1|exact hd _ h3.2.1|exact hd _ h3.2.2|decide
 ·have e:bytesOf (mkS r)=(mkS r).data.toList.map fun b=>(b.toNat:Int):=rfl
  rw [e,mkS_data] at hr
  have:=List.all_eq_true.1 hr x hx
  refine ⟨fun e=>?_,fun e=>?_⟩
  ·rw [e,vl_13] at this;cases this
  ·rw [e,vl_10] at this;cases this
theorem writeR (a b c:UInt8) (r:List UInt8) (h3:dig3 a b c=true) (hc : ¬ (code3 a b c < 100 ∨ 599 < code3 a b c)) (hl:r.length ≤ 100) (fs:List (S36)) (hf:FB fs) (B:List Int) (hb:B.length ≤ 1000000000) (k:Nat) (hk:1001 ≤ k) :
 http_WriteResponse.f k (code3 a b c) (mkS r) 1 fs B=some ((toI (lineR a b c r) ++ [13,10]) ++ fLines fs ++ [13,10] ++ B):=by
 obtain ⟨k,rfl⟩ : ∃ m,k=m + 1:=⟨k - 1,by omega⟩
 have ht:=text3 a b c h3 (by omega)
 have h2:line_StatusLine.f (k + 1) (code3 a b c) (mkS r) 1 fs B=some (mkS (lineR a b c r ++ [13,10])):=by
  unfold line_StatusLine.f
  rw [ht,Option.bind_some,StatusLine_end k (mkS [a,b,c]) (code3 a b c) (mkS r) 1 fs B (⟨#[49]⟩:ByteArray) text_1 (by decide) (by rw [mkS_size];omega) (by rw [mkS_size];simp) (by rw [mkS_size];simp)]
  unfold statLine
  rw [show (⟨#[72,84,84,80,47,49,46]⟩:ByteArray)=mkS [72,84,84,80,47,49,46] from rfl,show (⟨#[32]⟩:ByteArray)=mkS [32] from rfl,show (⟨#[13,10]⟩:ByteArray)=mkS [13,10] from rfl,show (⟨#[49]⟩:ByteArray)=mkS [49] from rfl,mkS_append,mkS_append,mkS_append,mkS_append,mkS_append,mkS_append]
  simp [lineR]
 have e:bytesOf (mkS (lineR a b c r ++ [13,10]))=toI (lineR a b c r) ++ [13,10]:=by
  have:bytesOf (mkS (lineR a b c r ++ [13,10]))=(mkS (lineR a b c r ++ [13,10])).data.toList.map fun b=>(b.toNat:Int):=rfl
  rw [this,mkS_data,List.map_append]
  rfl
 unfold http_WriteResponse.f
 rw [h2,Option.bind_some,write_f _ fs hf B hb (by rw [mkS_size];unfold lineR;simp only [List.length_append,List.length_cons,List.length_nil];omega) (k + 1) hk,e]
/-- What is written of a right response is read. -/
theorem back_resp (l:List UInt8) (hl:Cln (toI l)) (hq:(statSpec l).2.2.2.2.2=true) (fs:List (S36)) (hf : ∀ f ∈ fs,rightB f.f0 f.f1=true) (hn:fs.length ≤ 40) (R:List Int) (hH:l.length + (fLines fs).length + 4 ≤ 2048) (m:ByteArray) (e:Bool) (X:List Int)
 (hX:X=(toI l ++ [13,10]) ++ fLines fs ++ [13,10] ++ R):respS2 X m e=respF X (respLen m (statSpec l).1 (statSpec l).2.2.1 fs) e (statSpec l) fs ((l.length:Int) + ((fLines fs).length:Int) + 4)∧X.drop ((l.length:Int) + ((fLines fs).length:Int) + 4).toNat=R:=by
 have htl:(toI l).length=l.length:=List.length_map ..
 have hhl:((toI l ++ [13,10]) ++ fLines fs ++ [13,10]).length=l.length + (fLines fs).length + 4:=by simp only [List.length_append,List.length_cons,List.length_nil,htl];omega
 have:=back_lines (toI l) hl fs hf hn R (by rw [htl];exact hH) X hX
 refine ⟨?_,by rw [hX,show ((l.length:Int) + ((fLines fs).length:Int) + 4).toNat=((toI l ++ [13,10]) ++ fLines fs ++ [13,10]).length by omega,List.drop_left]⟩
 unfold respS2
 rw [this,respL,show (strOfNums (toI l)).data.toList=l by rw [show toI l=l.map fun b=>(b.toNat:Int) from rfl,str_bytes,mkS_data],if_pos hq,fields_text fs 0 hf (by omega),if_pos rfl,if_neg (by omega),htl]
theorem fLines_small : ∀ (fs:List (S36)),(∀ f ∈ fs,rightB f.f0 f.f1=true) → (fLines fs).length ≤ 1104 * fs.length:=by
 intro fs
 induction fs with
 | nil=>intro _;exact Nat.le_refl _
 | cons f fs ih =>
  intro h
  have h1:=rightB_size (h f (List.mem_cons_self ..))
  have h2:=ih (fun g hg=>h g (List.mem_cons_of_mem _ hg))
  rw [fLines,List.length_append,bytesOf_length,lineB_size,List.length_cons]
  omega
theorem right_FB (fs:List (S36)) (hn:fs.length ≤ 1000) (h : ∀ f ∈ fs,rightB f.f0 f.f1=true):FB fs :=
 ⟨hn,fun f hf=>by have:=rightB_size (h f hf);omega⟩
theorem toI_length (l:List UInt8):(toI l).length=l.length:=List.length_map ..
theorem getS_app (p:ByteArray) (a b:List (S36)):getS p (a ++ b)=getS p a ++ getS p b:=by
 induction a with
 | nil=>rfl
 | cons f a ih =>
  rw [List.cons_append,getS,getS,ih]
  split <;> rfl
theorem sameN_symm {a b:ByteArray} (h:sameN a b=true):sameN b a=true:=by
 unfold sameN at *
 rw [decide_eq_true_eq] at *
 exact h.symm
theorem decI_dig (d:Nat) : ∀ u,u < 10 ^ d → ∀ x ∈ decI u,48 ≤ x∧x ≤ 57:=by
 induction d with
 | zero =>
  intro u hu x hx
  obtain rfl:u=0:=by simpa using hu
  rw [decI_small 0 (by decide)] at hx
  have:=List.mem_singleton.1 hx
  omega
 | succ d ih =>
  intro u hu x hx
  by_cases h:u < 10
  ·rw [decI_small u h] at hx
   have:=List.mem_singleton.1 hx
   omega
  ·rw [decI_big u (by omega)] at hx
   rcases List.mem_append.1 hx with hx|hx
   ·exact ih (u / 10) (by rw [Nat.pow_succ] at hu;omega) x hx
   ·have:=List.mem_singleton.1 hx
    omega
theorem dig_facts : ∀ c:Fin 10,valB (48 + (c.val:Int))=true:=by decide +kernel
/-- A number's text: what is known of it. -/
theorem dec_text (u:Nat) (hu:u < 100000):rightB lenNM (strOfNums (decI u))=true∧partsS (strOfNums (decI u))=[strOfNums (decI u)]∧(strOfNums (decI u)).size ≤ 5:=by
 have hl:=dec_len 4 u (by omega)
 have hd:=decI_dig 5 u (by omega)
 have hsz:(strOfNums (decI u)).size=(decI u).length:=str_size _
 have hdat : ∀ a ∈ (strOfNums (decI u)).data.toList,48 ≤ a.toNat∧a.toNat ≤ 57:=by
  intro a ha
  have e:(strOfNums (decI u)).data.toList=(decI u).map fun n=>UInt8.ofNat n.toNat:=by simp [strOfNums]
  rw [e] at ha
  obtain ⟨x,hx,rfl⟩:=List.mem_map.1 ha
  have:=hd x hx
  rw [UInt8.toNat_ofNat_of_lt' (by show x.toNat < 256;omega)]
  omega
 have hblk : ∀ a ∈ (strOfNums (decI u)).data.toList,blk a=false:=by
  intro a ha
  have:=hdat a ha
  have e : ∀ c:Fin 256,48 ≤ c.val∧c.val ≤ 57 → blk (UInt8.ofNat c.val)=false:=by decide +kernel
  have h:=e ⟨a.toNat,a.toNat_lt⟩ this
  rw [UInt8.ofNat_toNat] at h
  exact h
 have htrm:trm (strOfNums (decI u)).data.toList=(strOfNums (decI u)).data.toList :=
  trm_self ⟨fun a ha=>hblk a (List.mem_of_mem_head? ha),fun a ha=>hblk a (List.mem_of_getLast? ha)⟩
 have hb:bytesOf (strOfNums (decI u))=(strOfNums (decI u)).data.toList.map fun b=>(b.toNat:Int):=rfl
 refine ⟨?_,?_,by omega⟩
 ·unfold rightB
  have h1:(!lenNM.toList.isEmpty && (bytesOf lenNM).all tokB)=true:=by decide +kernel
  have h2:(bytesOf (strOfNums (decI u))).all valB=true:=by
   refine List.all_eq_true.2 fun x hx=>?_
   rw [hb] at hx
   obtain ⟨a,ha,rfl⟩:=List.mem_map.1 hx
   have:=hdat a ha
   have:=dig_facts ⟨a.toNat - 48,by omega⟩
   rw [show (48 + ((a.toNat - 48:Nat):Int))=(a.toNat:Int) by omega] at this
   exact this
  rw [h1,h2,htrm,mkS_self,decide_eq_true (show lenNM.size ≤ 100 by decide),decide_eq_true (show (strOfNums (decI u)).size ≤ 1000 by omega),beq_self_eq_true]
  rfl
 ·unfold partsS
  rw [comma_one _ (fun h=>by have:=hdat 44 h;revert this;decide),htrm,if_neg ?_,List.map_cons,List.map_nil,mkS_self]
  rw [List.isEmpty_iff]
  intro he
  have:=data_length (strOfNums (decI u))
  rw [he] at this
  simp only [List.length_nil] at this
  omega
theorem body_plain (b more:List Int):bodyS (b ++ more) (b.length:Int) false=(b,(b.length:Int),0):=by
 unfold bodyS
 rw [if_neg (by simp),if_neg (by rw [List.length_append];omega),Int.toNat_natCast,List.take_left]
theorem fold_is (a p:ByteArray) (hp:(strOfNums ((bytesOf p).map foldC)).toList=p.toList):((strOfNums ((bytesOf a).map foldC)).toList=p.toList)=(sameN p a=true):=by
 have h:=str_inj (bytes_fold (bytes_of a)) (bytes_fold (bytes_of p))
 rw [hp] at h
 unfold sameN
 rw [decide_eq_true_eq]
 apply propext
 constructor
 ·intro e
  have:decide ((bytesOf a).map foldC=(bytesOf p).map foldC)=true:=by rw [← h];exact beq_iff_eq.2 e
  exact (of_decide_eq_true this).symm
 ·intro e
  have:((strOfNums ((bytesOf a).map foldC)).toList == p.toList)=true:=by rw [h];exact decide_eq_true e.symm
  exact beq_iff_eq.1 this
theorem some_or (b c:Bool):(if b=true then some true else some c)=some (b || c):=by cases b <;> rfl
/-- The kept names. -/
def keptNames:List ByteArray:=[⟨#[104,111,115,116]⟩,⟨#[99,111,110,116,101,110,116,45,108,101,110,103,116,104]⟩,⟨#[116,114,97,110,115,102,101,114,45,101,110,99,111,100,105,110,103]⟩,⟨#[99,111,110,110,101,99,116,105,111,110]⟩,⟨#[107,101,101,112,45,97,108,105,118,101]⟩,⟨#[112,114,111,120,121,45,99,111,110,110,101,99,116,105,111,110]⟩,⟨#[116,101]⟩,⟨#[116,114,97,105,108,101,114]⟩,⟨#[117,112,103,114,97,100,101]⟩,⟨#[101,120,112,101,99,116]⟩,⟨#[118,105,97]⟩]
def keptN (a:ByteArray):Bool:=keptNames.any (fun p=>sameN p a)
theorem Kept_f (a:ByteArray) (ha:a.size ≤ 1048576):conf_Kept.f a=some (keptN a):=by
 unfold conf_Kept.f
 rw [Fold_f a (by omega),Option.bind_some]
 have e : ∀ (p:ByteArray),p ∈ keptNames → ((strOfNums ((bytesOf a).map foldC)).toList=p.toList)=(sameN p a=true):=by
  intro p hp
  refine fold_is a p ?_
  have : ∀ p ∈ keptNames,(strOfNums ((bytesOf p).map foldC)).data=p.data:=by decide +kernel
  rw [toList_data,toList_data,this p hp]
 have l : ∀ (p:ByteArray) (q:List UInt8),p ∈ keptNames → p.toList=q → ((strOfNums ((bytesOf a).map foldC)).toList=q)=(sameN p a=true):=fun p q hp hq=>by rw [← hq];exact e p hp
 have e0:=l ⟨#[104,111,115,116]⟩ [104,111,115,116] (by simp [keptNames]) (toList_data _)
 have e1:=l ⟨#[99,111,110,116,101,110,116,45,108,101,110,103,116,104]⟩ [99,111,110,116,101,110,116,45,108,101,110,103,116,104] (by simp [keptNames]) (toList_data _)
 have e2:=l ⟨#[116,114,97,110,115,102,101,114,45,101,110,99,111,100,105,110,103]⟩ [116,114,97,110,115,102,101,114,45,101,110,99,111,100,105,110,103] (by simp [keptNames]) (toList_data _)
 have e3:=l ⟨#[99,111,110,110,101,99,116,105,111,110]⟩ [99,111,110,110,101,99,116,105,111,110] (by simp [keptNames]) (toList_data _)
 have e4:=l ⟨#[107,101,101,112,45,97,108,105,118,101]⟩ [107,101,101,112,45,97,108,105,118,101] (by simp [keptNames]) (toList_data _)
 have e5:=l ⟨#[112,114,111,120,121,45,99,111,110,110,101,99,116,105,111,110]⟩ [112,114,111,120,121,45,99,111,110,110,101,99,116,105,111,110] (by simp [keptNames]) (toList_data _)
 have e6:=l ⟨#[116,101]⟩ [116,101] (by simp [keptNames]) (toList_data _)
 have e7:=l ⟨#[116,114,97,105,108,101,114]⟩ [116,114,97,105,108,101,114] (by simp [keptNames]) (toList_data _)
 have e8:=l ⟨#[117,112,103,114,97,100,101]⟩ [117,112,103,114,97,100,101] (by simp [keptNames]) (toList_data _)
 have e9:=l ⟨#[101,120,112,101,99,116]⟩ [101,120,112,101,99,116] (by simp [keptNames]) (toList_data _)
 have e10:=l ⟨#[118,105,97]⟩ [118,105,97] (by simp [keptNames]) (toList_data _)
 simp only [e0,e1,e2,e3,e4,e5,e6,e7,e8,e9,e10]
 simp only [some_or]
 rfl
theorem sameN_name (x p q:ByteArray) (h:(bytesOf p).map foldC=(bytesOf q).map foldC):sameN x p=sameN x q:=by unfold sameN;rw [h]
theorem getS_name (p q:ByteArray) (h:(bytesOf p).map foldC=(bytesOf q).map foldC) : ∀ fs,getS p fs=getS q fs
 | []=>rfl
 | f :: r=>by rw [getS,getS,sameN_name _ p q h,getS_name p q h r]
theorem listS_name (p q:ByteArray) (h:(bytesOf p).map foldC=(bytesOf q).map foldC) (fs:List (S36)):listS p fs=listS q fs:=by unfold listS;rw [getS_name p q h]
def connN:ByteArray:=⟨#[99,111,110,110,101,99,116,105,111,110]⟩
theorem conn_has (fs:List (S36)) (a:ByteArray):hasS fs (⟨#[67,111,110,110,101,99,116,105,111,110]⟩:ByteArray) a=hasS fs connN a:=by
 unfold hasS
 rw [listS_name ⟨#[67,111,110,110,101,99,116,105,111,110]⟩ connN (by decide +kernel)]
/-- Does a name begin with x-tollbar-? -/
def ownN (a:ByteArray):Bool:=decide (10 ≤ a.size) && ((strOfNums ((bytesOf a).map foldC)).extract 0 10).toList == [120,45,116,111,108,108,98,97,114,45]
/-- Does a field of a name not go on? -/
def hopS (fs:List (S36)) (a:ByteArray):Bool:=keptN a || (ownN a || hasS fs connN a)
theorem fold_size (a:ByteArray):(strOfNums ((bytesOf a).map foldC)).size=a.size:=by rw [str_len,List.length_map,bytesOf_length]
theorem Hop_f (fs:List (S36)) (a:ByteArray) (hf:FB fs) (ha:a.size ≤ 1048576) (k:Nat) (hk:1049600 ≤ k):scrub_Hop.f k fs a=some (hopS fs a):=by
 unfold scrub_Hop.f hopS
 rw [Kept_f a ha,Option.bind_some]
 cases keptN a
 ·rw [if_neg (by simp),Fold_f a (by omega),Option.bind_some,Bool.false_or]
  have hp:strings_HasPrefix.f (strOfNums ((bytesOf a).map foldC)) (⟨#[120,45,116,111,108,108,98,97,114,45]⟩:ByteArray)=some (ownN a):=by
   have hs:(⟨#[120,45,116,111,108,108,98,97,114,45]⟩:ByteArray).size=10:=rfl
   unfold strings_HasPrefix.f stringslite_HasPrefix.f ownN
   rw [hs,fold_size]
   by_cases h:10 ≤ a.size
   ·rw [if_pos (by omega),if_pos (by omega),if_pos (by omega),decide_eq_true h,toList_data (⟨#[120,45,116,111,108,108,98,97,114,45]⟩:ByteArray)];rfl
   ·rw [if_neg (by omega),decide_eq_false h];rfl
  rw [hp,Option.bind_some]
  cases ownN a
  ·rw [if_neg (by simp),Has_f fs _ a hf (by decide) ha k hk,Option.bind_some,conn_has,Bool.false_or]
  ·rw [if_pos rfl,Bool.true_or]
 ·rw [if_pos rfl,Bool.true_or]
/-- The fields that go on. -/
def onwS (fs:List (S36)):List (S36):=fs.filter (fun f => !hopS fs f.f0)
theorem onw_l0 (fs:List (S36)) (hf:FB fs) (d:Nat) : ∀ (k i:Nat) (out:List (S36)),i + d=fs.length → d + 1049600 ≤ k → out.length ≤ i →
 scrub_onward.l0 k fs out fs (fs.length:Int) (i:Int)=some (out ++ (fs.drop i).filter (fun f => !hopS fs f.f0)):=by
 have hfl:=hf.1
 induction d with
 | zero =>
  intro k i out hi hk ho
  obtain ⟨k,rfl⟩ : ∃ m,k=m + 1:=⟨k - 1,by omega⟩
  rw [scrub_onward.l0,if_neg (by omega),List.drop_of_length_le (by omega),List.filter_nil,List.append_nil]
 | succ d ih =>
  intro k i out hi hk ho
  obtain ⟨k,rfl⟩ : ∃ m,k=m + 1:=⟨k - 1,by omega⟩
  have hlt:i < fs.length:=by omega
  have hb:=hf.2 _ (List.getElem_mem hlt)
  have hw:wrap64 ((i:Int) + 1)=((i + 1:Nat):Int):=by unfold wrap64;omega
  rw [scrub_onward.l0,if_pos (by omega),if_pos (by omega),if_pos (by omega),rdT_at fs i hlt,Hop_f fs _ hf hb.1 k (by omega),Option.bind_some,hw,List.drop_eq_getElem_cons hlt,List.filter_cons]
  cases hs:hopS fs fs[i].f0
  ·rw [if_neg (by simp),if_pos (by omega),if_pos (by simp),ih k (i + 1) _ (by omega) (by omega) (by rw [List.length_append];simp;omega)]
   simp only [List.append_assoc,List.singleton_append]
  ·rw [if_pos rfl,if_neg (by simp),ih k (i + 1) _ (by omega) (by omega) (by omega)]
theorem onward_f (fs:List (S36)) (hf:FB fs) (k:Nat) (hk:1050600 ≤ k):scrub_onward.f k fs=some (onwS fs):=by
 have hfl:=hf.1
 have:=onw_l0 fs hf fs.length k 0 [] (by omega) (by omega) (Nat.zero_le _)
 rw [List.drop_zero,List.nil_append] at this
 exact this
theorem onwS_FB (fs:List (S36)) (hf:FB fs):FB (onwS fs):=⟨Nat.le_trans (List.length_filter_le _ _) hf.1,fun f h=>hf.2 f (List.mem_filter.1 h).1⟩
theorem body_f (b:List Int) (hb:b.length ≤ 1000000) (size:Int) (hs:0 ≤ size) (coded:Bool) (k:Nat) (hk:4000100 ≤ k):http_body.f k b size coded=some (bodyS b size coded):=by
 unfold http_body.f bodyS
 cases coded
 ·rw [if_neg (show ¬ (false=true) by simp),if_neg (show ¬ (false=true) by simp)]
  by_cases h:(b.length:Int) < size
  ·rw [if_pos h,if_pos h]
  ·unfold bytes_Clone.f
   rw [if_neg h,if_neg h,if_pos hs,if_pos (by omega),if_pos (by rw [List.length_take];omega),Option.bind_some]
 ·rw [if_pos rfl,if_pos rfl,Decode_f b 4096 hb (by decide) k (by omega),Option.bind_some,show mx 4096 0=4096 by decide]
  obtain ⟨r,hr⟩ : ∃ r,r=decS b (b.length + 1) 0 4096 []:=⟨_,rfl⟩
  rw [← hr]
  by_cases h1:r.2.2=2
  ·rw [if_pos h1,if_pos h1]
  ·rw [if_neg h1,if_neg h1]
   by_cases h2:r.2.2=0
   ·rw [if_pos h2,if_pos h2]
    by_cases h3:r.2.1=0
    ·rw [if_pos h3,if_pos h3]
    ·rw [if_neg h3,if_neg h3]
   ·rw [if_neg h2,if_neg h2]
def headEnd (t:List ByteArray × Int × Int) (g:List (S36) × Int) (fs:List (S36)) (st:Option ByteArray):List (S36) × Int × Int × Option ByteArray :=
 if g.2=0 then (if t.2.1=0 then ([],0,t.2.2,st) else (fs ++ g.1,t.2.1,0,st)) else ([],0,g.2,st)
theorem head_l (fst:Nat → ByteArray → Option Int) (l:List Int) (hl:l.length ≤ 4398046511104) (st:Option ByteArray) : ∀ (d p k:Nat) (fs:List (S36)),0 < p → p ≤ (bdS l).length → (bdS l).length < p + d → fs.length ≤ 40 → d + 6200 ≤ k →
 http_head.l fst k l fs (p:Int) st=some (headEnd (tailS (bdS l) (extS l) d p) (fieldsS (tailS (bdS l) (extS l) d p).1 fs.length) fs st):=by
 intro d
 induction d with
 | zero=>intro p k fs _ h1 h2;omega
 | succ d ih =>
  intro p k fs h0 hp hd hf hk
  obtain ⟨k,rfl⟩ : ∃ m,k=m + 1:=⟨k - 1,by omega⟩
  have hb:=bdS_length l
  have hsh:=cutS_shape ((bdS l).drop p) 2048
  have hdl:((bdS l).drop p).length=(bdS l).length - p:=List.length_drop ..
  have hcl:=cut_len ((bdS l).drop p) (by omega)
  rw [http_head.l,mn_take,if_pos (by omega),if_pos (by omega),Int.toNat_natCast,cut_f _ 2048 (by omega) k (by omega),Option.bind_some,tailS]
  obtain ⟨c,hc⟩ : ∃ c,c=cutSpec ((bdS l).drop p) 2048:=⟨_,rfl⟩
  rw [← hc] at hsh hcl ⊢
  by_cases h1:c.2.2=20
  ·rw [if_pos h1,if_pos h1];rfl
  ·rw [if_neg h1,if_neg h1]
   by_cases h2:c.2.1=0
   ·rw [if_pos h2,if_pos h2]
    unfold extS
    split <;> rfl
   ·have hz:c.2.1 > 0∧c.2.1 ≤ ((bdS l).length:Int) - p:=by rcases hsh with h|h <;> omega
    have hw:wrap64 ((p:Int) + c.2.1)=((p + c.2.1.toNat:Nat):Int):=by unfold wrap64;omega
    have hw2:(p:Int) + c.2.1=((p + c.2.1.toNat:Nat):Int):=by omega
    rw [if_neg h2,if_neg h2,if_neg (show ¬ (p:Int)=0 by omega),hw,hw2]
    by_cases h3:c.1.toList=[]
    ·rw [if_pos h3,if_pos h3]
     unfold headEnd
     rw [fieldsS,if_pos rfl,if_neg (show ¬ ((p + c.2.1.toNat:Nat):Int)=0 by omega),List.append_nil]
    ·rw [if_neg h3,if_neg h3]
     have hcn:c.1.data.toList.length ≤ 2048:=by rw [data_length];exact hcl
     simp only [fieldsS]
     cases hfo:fieldOk c.1.data.toList
     ·obtain ⟨x,y,hxy⟩:=field_no c.1.data.toList (by omega) hfo
      rw [mkS_self] at hxy
      rw [hxy,Option.bind_some,if_neg (show ¬ ((20:Int)=0) by decide),if_neg (by simp)]
      rfl
     ·have hxy:=field_ok c.1.data.toList (by omega) hfo
      rw [mkS_self] at hxy
      rw [hxy,Option.bind_some,if_pos rfl,if_pos rfl]
      by_cases h4:fs.length=40
      ·rw [if_pos (show (fs.length:Int)=40 by omega),if_pos h4];rfl
      ·rw [if_neg (show ¬ (fs.length:Int)=40 by omega),if_neg h4,if_pos (by omega)]
       have hlen:(fs ++ [fieldX c.1.data.toList]).length=fs.length + 1:=by simp
       have:=ih (p + c.2.1.toNat) k (fs ++ [fieldX c.1.data.toList]) (by omega) (by omega) (by omega) (by omega) (by omega)
       rw [hlen] at this
       refine this.trans ?_
       obtain ⟨t,ht⟩ : ∃ t,t=tailS (bdS l) (extS l) d (p + c.2.1.toNat):=⟨_,rfl⟩
       rw [← ht]
       obtain ⟨g,hg⟩ : ∃ g,g=fieldsS t.1 (fs.length + 1):=⟨_,rfl⟩
       rw [← hg]
       unfold headEnd
       by_cases h5:g.2=0
       ·rw [if_pos h5,if_pos h5,if_pos rfl]
        by_cases h6:t.2.1=0
        ·rw [if_pos h6,if_pos h6]
        ·rw [if_neg h6,if_neg h6,List.append_assoc];rfl
       ·rw [if_neg h5,if_neg h5,if_neg h5]
theorem head_nil (fst:Nat → ByteArray → Option Int) (l:List Int) (k:Nat) (hk:8300 ≤ k) (h:(linesS (bdS l) (extS l)).1=[]):http_head.f fst (k + 1) l=some ([],0,(linesS (bdS l) (extS l)).2.2,none):=by
 have hb:=bdS_length l
 unfold linesS at h ⊢
 rw [http_head.f,http_head.l,mn_take,if_pos (by omega),if_pos (by omega),show (0:Int).toNat=0 from rfl,List.drop_zero,cut_f _ 2048 (by omega) k (by omega),Option.bind_some]
 obtain ⟨c,hc⟩ : ∃ c,c=cutSpec (bdS l) 2048:=⟨_,rfl⟩
 rw [← hc] at h ⊢
 by_cases h1:c.2.2=20
 ·rw [if_pos h1,if_pos h1]
 ·rw [if_neg h1] at h ⊢
  rw [if_neg h1]
  by_cases h2:c.2.1=0
  ·rw [if_pos h2,if_pos h2]
   unfold extS
   split <;> rfl
  ·rw [if_neg h2] at h;cases h
theorem head_cons (fst:Nat → ByteArray → Option Int) (l:List Int) (hl:l.length ≤ 4398046511104) (k:Nat) (hk:8300 ≤ k) (s:ByteArray) (ss:List ByteArray) (h:(linesS (bdS l) (extS l)).1=s :: ss) :
 http_head.f fst (k + 1) l=(fst k s).bind fun code=>if code=0 then some (headEnd (ss,(linesS (bdS l) (extS l)).2) (fieldsS ss 0) [] (some s)) else some ([],0,code,some s):=by
 have hb:=bdS_length l
 have hsh:=cutS_shape (bdS l) 2048
 unfold linesS at h ⊢
 rw [http_head.f,http_head.l,mn_take,if_pos (by omega),if_pos (by omega),show (0:Int).toNat=0 from rfl,List.drop_zero,cut_f _ 2048 (by omega) k (by omega),Option.bind_some]
 obtain ⟨c,hc⟩ : ∃ c,c=cutSpec (bdS l) 2048:=⟨_,rfl⟩
 rw [← hc] at h hsh ⊢
 by_cases h1:c.2.2=20
 ·rw [if_pos h1] at h;cases h
 ·rw [if_neg h1] at h ⊢
  rw [if_neg h1]
  by_cases h2:c.2.1=0
  ·rw [if_pos h2] at h;cases h
  ·have hz:c.2.1 > 0∧c.2.1 ≤ ((bdS l).length:Int):=by rcases hsh with h|h <;> omega
   have hw:wrap64 ((0:Int) + c.2.1)=((c.2.1.toNat:Nat):Int):=by unfold wrap64;omega
   rw [if_neg h2] at h ⊢
   rw [if_neg h2,if_pos rfl,hw,head_l fst l hl (some c.1) ((bdS l).length + 1) c.2.1.toNat k [] (by omega) (by omega) (by omega) (by simp) (by omega)]
   simp only [List.cons.injEq] at h
   rw [← h.1,← h.2]
   rfl
theorem tail_sizes (l:List Int) (e:Int) (hl:l.length ≤ 2048) : ∀ (d p:Nat),∀ s ∈ (tailS l e d p).1,s.size ≤ 2048:=by
 intro d
 induction d with
 | zero=>intro p s hs;cases hs
 | succ d ih =>
  intro p s hs
  have hdl:(l.drop p).length=l.length - p:=List.length_drop ..
  have hc:=cut_len (l.drop p) (by omega)
  rw [tailS] at hs
  split at hs
  ·cases hs
  ·split at hs
   ·cases hs
   ·split at hs
    ·cases hs
    ·rcases List.mem_cons.1 hs with rfl|hs
     ·exact hc
     ·exact ih _ s hs
theorem lines_sizes (l:List Int) (e:Int) (hl:l.length ≤ 2048) : ∀ s ∈ (linesS l e).1,s.size ≤ 2048:=by
 intro s hs
 have hc:=cut_len l hl
 unfold linesS at hs
 split at hs
 ·cases hs
 ·split at hs
  ·cases hs
  ·rcases List.mem_cons.1 hs with rfl|hs
   ·exact hc
   ·exact tail_sizes l e hl _ _ s hs
theorem statSpec_bare (l:List UInt8):(statSpec l).2.2.2.1=[]∧(statSpec l).2.2.2.2.1=[]:=by
 have hb:statBad.2.2.2.1=([]:List (S36))∧statBad.2.2.2.2.1=([]:List Int):=⟨rfl,rfl⟩
 unfold statSpec
 split
 ·split
  ·split
   ·unfold statEnd
    split
    ·exact hb
    ·split
     ·exact ⟨rfl,rfl⟩
     ·split
      ·exact ⟨rfl,rfl⟩
      ·exact hb
   ·exact hb
  ·exact hb
 ·exact hb
theorem rest_f (b:List Int) (hb:b.length ≤ 1000000) (kind size:Int) (hs:0 ≤ size) (ended:Bool) (k:Nat) (hk:4000100 ≤ k):http_rest.f k b kind size ended=some (restS b kind size ended):=by
 unfold http_rest.f restS
 by_cases h3:kind=3
 ·rw [if_pos h3,if_pos h3]
  by_cases h4:(b.length:Int) > 4096
  ·rw [if_pos h4,if_pos h4]
  ·rw [if_neg h4,if_neg h4]
   cases ended
   ·rw [if_neg (show ¬ (false=true) by simp),if_neg (show ¬ (false=true) by simp)]
   ·unfold bytes_Clone.f
    rw [if_pos rfl,if_pos rfl,if_pos (by omega),Option.bind_some]
 ·rw [if_neg h3,if_neg h3,body_f b hb size hs _ k hk,Option.bind_some]
theorem http_Response_f (l:List Int) (hl:l.length ≤ 1000000) (m:ByteArray) (ended:Bool) (k:Nat) (hk:1070000100 ≤ k):http_Response.f k l m ended=some (respS2 l m ended):=by
 obtain ⟨k,rfl⟩ : ∃ j,k=j + 1:=⟨k - 1,by omega⟩
 have hb:=bdS_length l
 have hsz:=lines_sizes (bdS l) (extS l) hb.1
 have hla:=lines_at l
 have hn1:=head_nil statusFst l k (by omega)
 have hn2:=head_cons statusFst l (by omega) k (by omega)
 unfold respS2 http_Response.f
 obtain ⟨L,hL⟩ : ∃ L,L=linesS (bdS l) (extS l):=⟨_,rfl⟩
 rw [← hL] at hsz hn1 hn2 hla ⊢
 obtain ⟨ss,n,c⟩:=L
 simp only at hla
 cases ss with
 | nil =>
  rw [hn1 rfl,Option.bind_some]
  rfl
 | cons s ss =>
  have hs:=hsz s (List.mem_cons_self ..)
  have hq : ∀ k,1000000 ≤ k → line_Status.f k s=some (statSpec s.data.toList):=fun k hk=>by
   have:=Status_f s.data.toList (by rw [data_length];omega) k (by omega)
   rw [mkS_self] at this
   exact this
  have hnil:=statSpec_bare s.data.toList
  have hr:statusFst k s=some (if (statSpec s.data.toList).2.2.2.2.2=true then 0 else 400):=by
   unfold statusFst
   rw [hq k (by omega),Option.bind_some,hnil.1,hnil.2,if_pos ⟨rfl,rfl⟩]
   split <;> rfl
  rw [hn2 s ss rfl,hr,Option.bind_some,respL]
  obtain ⟨q,hqq⟩ : ∃ q,q=statSpec s.data.toList:=⟨_,rfl⟩
  have hFB:=fields_FB ss
  rw [← hqq] at hq hnil ⊢
  obtain ⟨g,hg⟩ : ∃ g,g=fieldsS ss 0:=⟨_,rfl⟩
  rw [← hg] at hFB ⊢
  by_cases h1:q.2.2.2.2.2=true
  ·rw [if_pos h1,if_pos h1,if_pos rfl]
   unfold headEnd
   by_cases h2:g.2=0
   ·rw [if_pos h2,if_pos h2]
    simp only
    by_cases h3:n=0
    ·rw [if_pos h3,if_pos h3,Option.bind_some]
     rfl
    ·have hy:=respLen_size m q.1 q.2.2.1 g.1
     have hfr:=frameResp_f m q.1 q.2.1 q.2.2.1 g.1 [] hFB (k + 1) (by omega)
     rw [if_neg h3,if_neg h3,Option.bind_some,if_neg h3,Option.bind_some,hq _ (by omega),Option.bind_some,List.nil_append,hfr,Option.bind_some]
     obtain ⟨y,hyy⟩ : ∃ y,y=respLen m q.1 q.2.2.1 g.1:=⟨_,rfl⟩
     rw [← hyy] at hy ⊢
     unfold respF
     by_cases h4:y.2.2=true
     ·have hdl:(l.drop n.toNat).length=l.length - n.toNat:=List.length_drop ..
      rw [if_pos h4,if_pos h4,if_pos (show (0:Int) ≤ n by omega),if_pos (show n ≤ (l.length:Int) by omega),rest_f (l.drop n.toNat) (by omega) y.1 y.2.1 hy ended (k + 1) (by omega),Option.bind_some]
      have hb2:=body_le (l.drop n.toNat) (by omega) y.2.1 hy (y.1 == 2)
      have hrl:(restS (l.drop n.toNat) y.1 y.2.1 ended).2.1 ≤ ((l.drop n.toNat).length:Int):=by
       unfold restS
       split
       ·split
        ·show (-1:Int) ≤ _;omega
        ·split
         ·exact Int.le_refl _
         ·show (-1:Int) ≤ _;omega
       ·exact hb2.1
      obtain ⟨z,hz⟩ : ∃ z,z=restS (l.drop n.toNat) y.1 y.2.1 ended:=⟨_,rfl⟩
      rw [← hz] at hrl ⊢
      by_cases h5:z.2.1 < 0
      ·rw [if_pos h5,if_pos h5];rfl
      ·rw [if_neg h5,if_neg h5]
       by_cases h6:z.2.2=true
       ·rw [if_pos h6,if_pos h6,show wrap64 (n + z.2.1)=n + z.2.1 by unfold wrap64;omega]
       ·rw [if_neg h6,if_neg h6];rfl
     ·rw [if_neg h4,if_neg h4];rfl
   ·rw [if_neg h2,if_neg h2,Option.bind_some,if_pos rfl]
    have:(g.2 == 0)=false:=beq_eq_false_iff_ne.2 h2
    simp only [this,Bool.false_and]
    rfl
  ·rw [if_neg h1,if_neg h1,if_neg (by decide),Option.bind_some]
   rfl
def lenN:ByteArray:=⟨#[67,111,110,116,101,110,116,45,76,101,110,103,116,104]⟩
/-- The field that tells a body's length. -/
def lenF (n:Int):S36:=⟨lenN,⟨(Lib.itoa n).toArray⟩⟩
theorem length_f (n:Int) (h0 : -9223372036854775808 ≤ n) (h1:n ≤ 9223372036854775807):scrub_length.f n=some ((lenF n).f0,(lenF n).f1):=by
 unfold scrub_length.f
 rw [Text_f n h0 h1,Option.bind_some]
 rfl
theorem rp_dec (l:List Int) : ∀ (d p:Nat) (left:Int) (out:List Int),0 ≤ left → ((decS l d p left out).1.length:Int) ≤ (out.length:Int) + left:=by
 intro d
 induction d with
 | zero=>intro p left out h;rw [decS];simp only [List.length_nil];omega
 | succ d ih =>
  intro p left out h
  have hz:((([]:List Int).length:Int)) ≤ (out.length:Int) + left:=by simp only [List.length_nil];omega
  rw [decS]
  obtain ⟨c,hc⟩ : ∃ c,c=cutSpec (l.drop p) 256:=⟨_,rfl⟩
  rw [← hc]
  have hzb:=size_bound c.1.data.toList
  split
  ·split
   ·exact hz
   ·split
    ·split
     ·split
      ·split
       ·exact hz
       ·show (out.length:Int) ≤ _;omega
      ·exact hz
     ·split
      ·exact hz
      ·rename_i h5
       split
       ·split
        ·exact hz
        ·have htk:((l.drop (p + c.2.1.toNat)).take (sizeS c.1.data.toList).1.toNat).length ≤ (sizeS c.1.data.toList).1.toNat:=List.length_take_le ..
         have:=ih (p + c.2.1.toNat + (sizeS c.1.data.toList).1.toNat + 2) (left - (sizeS c.1.data.toList).1) (out ++ (l.drop (p + c.2.1.toNat)).take (sizeS c.1.data.toList).1.toNat) (by omega)
         rw [List.length_append] at this
         omega
       ·exact hz
    ·exact hz
  ·exact hz
theorem rp_body (b:List Int) (size:Int) (hs:0 ≤ size∧size ≤ 4096) (cd:Bool):(bodyS b size cd).1.length ≤ 4096:=by
 have h:=rp_dec b (b.length + 1) 0 4096 [] (by decide)
 simp only [List.length_nil] at h
 unfold bodyS
 split
 ·split
  ·exact Nat.zero_le _
  ·split
   ·split
    ·exact Nat.zero_le _
    ·show (decS b (b.length + 1) 0 4096 []).1.length ≤ 4096
     omega
   ·exact Nat.zero_le _
 ·split
  ·exact Nat.zero_le _
  ·show (b.take size.toNat).length ≤ 4096
   rw [List.length_take]
   omega
theorem rp_rest (b:List Int) (kind size:Int) (hs:0 ≤ size∧size ≤ 4096) (e:Bool):(restS b kind size e).1.length ≤ 4096:=by
 unfold restS
 split
 ·split
  ·exact Nat.zero_le _
  ·split
   ·show b.length ≤ 4096;omega
   ·exact Nat.zero_le _
 ·exact rp_body b size hs _
theorem rp_size (m:ByteArray) (c mi:Int) (fs:List (S36)):0 ≤ (respLen m c mi fs).2.1∧(respLen m c mi fs).2.1 ≤ 4096:=by
 have h:=reqLen_size fs mi
 unfold respLen
 split
 ·exact ⟨Int.le_refl _,(by decide:(0:Int) ≤ 4096)⟩
 ·split
  ·split
   ·exact ⟨Int.le_refl _,(by decide:(0:Int) ≤ 4096)⟩
   ·split
    ·exact h
    ·exact ⟨Int.le_refl _,(by decide:(0:Int) ≤ 4096)⟩
  ·exact ⟨Int.le_refl _,(by decide:(0:Int) ≤ 4096)⟩
/-- What is known of a response that is read. -/
theorem rp_parts (L:List Int) (m:ByteArray) (e:Bool) (h:(respS2 L m e).2.2.2.2.2.1 ≠ 0) : ∃ l:List UInt8,(statSpec l).2.2.2.2.2=true∧(respS2 L m e).1=(statSpec l).1∧(respS2 L m e).2.1=(statSpec l).2.1∧(respS2 L m e).2.2.1=(statSpec l).2.2.1 ∧
 (respS2 L m e).2.2.2.1.length ≤ 40∧(∀ f ∈ (respS2 L m e).2.2.2.1,rightB f.f0 f.f1=true)∧(respLen m (respS2 L m e).1 (respS2 L m e).2.2.1 (respS2 L m e).2.2.2.1).2.2=true∧(respS2 L m e).2.2.2.2.1.length ≤ 4096 ∧
 ((respLen m (respS2 L m e).1 (respS2 L m e).2.2.1 (respS2 L m e).2.2.2.1).1=0 → (respS2 L m e).2.2.2.2.1=[]):=by
 unfold respS2 at h ⊢
 obtain ⟨Y,hY⟩ : ∃ Y,Y=linesS (bdS L) (extS L):=⟨_,rfl⟩
 rw [← hY] at h ⊢
 obtain ⟨ss,n,cc⟩:=Y
 cases ss with
 | nil=>exact absurd rfl h
 | cons s ss =>
  have hfs:=fieldsS_FB ss 0 (by omega)
  rw [respL] at h ⊢
  split at h
  ·rename_i h1
   rw [if_pos h1]
   split at h
   ·rename_i h2
    rw [if_pos h2]
    split at h
    ·exact absurd rfl h
    ·rename_i h3
     rw [if_neg h3]
     unfold respF at h ⊢
     have hsz:=rp_size m (statSpec s.data.toList).1 (statSpec s.data.toList).2.2.1 (fieldsS ss 0).1
     obtain ⟨y,hy⟩ : ∃ y,y=respLen m (statSpec s.data.toList).1 (statSpec s.data.toList).2.2.1 (fieldsS ss 0).1:=⟨_,rfl⟩
     rw [← hy] at h hsz ⊢
     split at h
     ·rename_i h4
      rw [if_pos h4]
      split at h
      ·exact absurd rfl h
      ·rename_i h5
       rw [if_neg h5]
       split at h
       ·rename_i h6
        rw [if_pos h6]
        refine ⟨s.data.toList,h1,rfl,rfl,rfl,by have:=hfs.1;show (fieldsS ss 0).1.length ≤ 40;omega,hfs.2,by rw [← hy];exact h4,rp_rest _ _ _ hsz e,?_⟩
        intro h7
        rw [← hy] at h7
        show (restS (L.drop n.toNat) y.1 y.2.1 e).1=[]
        have hy1:y.2.1=0:=by
         rw [hy] at h7 h4 ⊢
         unfold respLen at h7 h4 ⊢
         split at h7
         ·rename_i c1;rw [if_pos c1]
         ·rename_i c1
          rw [if_neg c1] at h4 ⊢
          split at h7
          ·rename_i c2
           rw [if_pos c2] at h4 ⊢
           split at h7
           ·cases h7
           ·split at h7
            ·cases h7
            ·cases h7
          ·rename_i c2
           rw [if_neg c2] at h4
           cases h4
        rw [h7,hy1]
        unfold restS bodyS
        rw [if_neg (by decide),if_neg (by decide),if_neg (by omega)]
        rfl
       ·exact absurd rfl h
     ·exact absurd rfl h
   ·exact absurd rfl h
  ·exact absurd rfl h
theorem sameB_l0 (xs:List Int) (hn:xs.length ≤ 4398046511104) (d:Nat) : ∀ (k:Nat) (i:Int),0 ≤ i → (xs.length:Int) - i=d → d + 1 ≤ k → tollbarref01_SameBytes.l0 k xs xs i=some true:=by
 induction d with
 | zero =>
  intro k i h0 hd hk
  obtain ⟨k,rfl⟩ : ∃ m,k=m + 1:=⟨k - 1,by omega⟩
  simp only [tollbarref01_SameBytes.l0]
  rw [if_neg (by omega)]
 | succ d ih =>
  intro k i h0 hd hk
  obtain ⟨k,rfl⟩ : ∃ m,k=m + 1:=⟨k - 1,by omega⟩
  simp only [tollbarref01_SameBytes.l0]
  rw [if_pos (by omega),if_pos h0,if_pos (by omega),if_pos trivial,show wrap64 (i + 1)=i + 1 by unfold wrap64;omega]
  exact ih k (i + 1) (by omega) (by omega) (by omega)
theorem sameB_eq (xs:List Int) (hn:xs.length ≤ 4398046511104) (k:Nat) (hk:xs.length + 1 ≤ k):tollbarref01_SameBytes.f k xs xs=some true:=by
 unfold tollbarref01_SameBytes.f
 rw [if_pos rfl]
 exact sameB_l0 xs hn xs.length k 0 (by omega) (by omega) hk
theorem sameF_l0 (xs:List (S36)) (hn:xs.length ≤ 1000000) (d:Nat) : ∀ (k i:Nat),i + d=xs.length → d < k → tollbarref04_Same.l0 k xs xs (i:Int)=some true:=by
 induction d with
 | zero =>
  intro k i hi hk
  obtain ⟨k,rfl⟩ : ∃ m,k=m + 1:=⟨k - 1,by omega⟩
  rw [tollbarref04_Same.l0,if_neg (by omega)]
 | succ d ih =>
  intro k i hi hk
  obtain ⟨k,rfl⟩ : ∃ m,k=m + 1:=⟨k - 1,by omega⟩
  rw [tollbarref04_Same.l0,if_pos (by omega),if_pos (by omega),if_pos (by omega),if_pos rfl,if_pos rfl,show wrap64 ((i:Int) + 1)=((i + 1:Nat):Int) by unfold wrap64;omega]
  exact ih k (i + 1) (by omega) (by omega)
theorem sameF_eq (xs:List (S36)) (hn:xs.length ≤ 1000000) (k:Nat) (hk:xs.length < k):tollbarref04_Same.f k xs xs=some true:=by
 unfold tollbarref04_Same.f
 rw [if_pos rfl]
 exact sameF_l0 xs hn xs.length k 0 (by omega) hk
def closeF:S36:=⟨⟨#[67,111,110,110,101,99,116,105,111,110]⟩,⟨#[99,108,111,115,101]⟩⟩
/-- Has it a body? -/
def hasBody (method:ByteArray) (code minor:Int) (fs:List (S36)):Bool:=if (respLen method code minor fs).2.2=true then (respLen method code minor fs).1 != 0 else true
def respS (x2 has:Bool) (code:Int) (reason:ByteArray) (fs:List (S36)) (b:List Int):Int × ByteArray × Int × List (S36) × List Int :=
 (code,reason,1,(fs ++ (if has=true then [lenF (b.length:Int)] else [])) ++ (if x2=true then [closeF] else []),if has=true then b else [])
theorem resp_j0 (x2 has:Bool) (c0:Int) (r0:ByteArray) (m0:Int) (f0:List (S36)) (b:List Int) (hb:b.length ≤ 100000) (code:Int) (reason:ByteArray) (fs:List (S36)) (hf:fs.length ≤ 100000) (k:Nat) :
 scrub_Response.j0 (k + 1) x2 has c0 r0 m0 f0 b code reason 1 fs=some (respS x2 has code reason fs b):=by
 have hcl:bytes_Clone.f b=some b:=if_pos (by omega)
 have hc:scrub_closing.f=some (closeF.f0,closeF.f1):=rfl
 rw [scrub_Response.j0,hc]
 unfold respS
 cases has
 ·rw [if_neg (by simp)]
  cases x2
  ·rw [if_neg (by simp),if_neg (by simp),if_neg (by simp),if_neg (by simp),List.append_nil,List.append_nil]
  ·rw [if_pos rfl,Option.bind_some,if_pos (by omega),if_pos rfl,if_neg (by simp),if_neg (by simp),List.append_nil]
 ·have hl:(fs ++ [lenF (b.length:Int)]).length < 4398046511104:=by rw [List.length_append,List.length_singleton];omega
  rw [if_pos rfl,hcl,Option.bind_some,length_f _ (by omega) (by omega),Option.bind_some,if_pos (by omega),Option.bind_some]
  cases x2
  ·rw [if_neg (by simp),if_pos rfl,if_neg (by simp),if_pos rfl,List.append_nil]
  ·rw [if_pos rfl,Option.bind_some,if_pos hl,if_pos rfl,if_pos rfl,if_pos rfl]
theorem Response12_f (code:Int) (reason:ByteArray) (minor:Int) (fs:List (S36)) (b:List Int) (method:ByteArray) (x2:Bool) (hf:FB fs) (hb:b.length ≤ 100000) (k:Nat) (hk:1070000000 ≤ k) :
 scrub_Response.f k code reason minor fs b method x2=some (respS x2 (hasBody method code minor fs) code reason (onwS fs) b):=by
 have hol:=(onwS_FB fs hf).1
 obtain ⟨k,rfl⟩ : ∃ m,k=m + 1:=⟨k - 1,by omega⟩
 unfold scrub_Response.f hasBody
 rw [onward_f fs hf (k + 1) (by omega),Option.bind_some,frameResp_f method code reason minor fs b hf (k + 1) (by omega),Option.bind_some,resp_j0 _ _ _ _ _ _ b hb _ _ _ (by omega) k,resp_j0 _ _ _ _ _ _ b hb _ _ _ (by omega) k]
 split <;> rfl
theorem onw_none (p:ByteArray) (hp:p=teNm ∨ p=lenNm) (fs gs:List (S36)):getS p (gs.filter (fun f => !hopS fs f.f0))=[]:=by
 refine getS_none p _ fun f hf=>?_
 have h1:=(List.mem_filter.1 hf).2
 cases hs:sameN f.f0 p with
 | false=>rfl
 | true =>
  have h2:keptN f.f0=true:=by
   unfold keptN
   refine List.any_eq_true.2 ⟨p,?_,sameN_symm hs⟩
   rcases hp with rfl|rfl
   ·exact List.mem_cons_of_mem _ (List.mem_cons_of_mem _ (List.mem_cons_self ..))
   ·exact List.mem_cons_of_mem _ (List.mem_cons_self ..)
  have h3:hopS fs f.f0=true:=by unfold hopS;rw [h2];rfl
  rw [h3] at h1
  cases h1
theorem lenF_dec (u:Nat):lenF (u:Int)=⟨lenN,strOfNums (decI u)⟩:=by
 unfold lenF
 have hi:Lib.itoa (u:Int)=Lib.decDigits u:=by unfold Lib.itoa;rw [if_neg (by omega),Int.toNat_natCast]
 rw [hi,dec_str]
theorem ans_close:rightB closeF.f0 closeF.f1=true∧getS teNm [closeF]=[]∧getS lenNm [closeF]=[]:=⟨by decide +kernel,by decide +kernel,by decide +kernel⟩
theorem ans_len (fs:List (S36)) (u:Nat) (hu:u ≤ 4096) (x:Bool):reqLen ((onwS fs ++ [lenF (u:Int)]) ++ (if x=true then [closeF] else [])) 1=((u:Int),false,0)∧thereS lenNm ((onwS fs ++ [lenF (u:Int)]) ++ (if x=true then [closeF] else []))=true:=by
 obtain ⟨_,c2,c3⟩:=ans_close
 have c2' : getS teNm (if x=true then [closeF] else [])=[]:=by cases x <;> first|rfl|exact c2
 have c3' : getS lenNm (if x=true then [closeF] else [])=[]:=by cases x <;> first|rfl|exact c3
 have h2:getS teNm [lenF (u:Int)]=[]:=getS_none _ _ (fun f hf=>by rw [List.mem_singleton.1 hf,lenF_dec];show sameN lenNM teNm=false;decide +kernel)
 have h3:getS lenNm [lenF (u:Int)]=[strOfNums (decI u)]:=by
  rw [lenF_dec,getS,if_pos (show sameN lenN lenNm=true by decide +kernel)]
  rfl
 have ht:=dec_text u (by omega)
 have e1:getS teNm ((onwS fs ++ [lenF (u:Int)]) ++ (if x=true then [closeF] else []))=[]:=by
  rw [getS_app,getS_app,h2,c2',show getS teNm (onwS fs)=[] from onw_none teNm (Or.inl rfl) fs fs];rfl
 have e2:getS lenNm ((onwS fs ++ [lenF (u:Int)]) ++ (if x=true then [closeF] else []))=[strOfNums (decI u)]:=by
  rw [getS_app,getS_app,h3,c3',show getS lenNm (onwS fs)=[] from onw_none lenNm (Or.inr rfl) fs fs];rfl
 have e3:listS lenNm ((onwS fs ++ [lenF (u:Int)]) ++ (if x=true then [closeF] else []))=[strOfNums (decI u)]:=by
  unfold listS
  rw [e2,List.flatMap_cons,List.flatMap_nil,List.append_nil,ht.2.1]
 have e4:lenS [strOfNums (decI u)]=((u:Int),true):=by
  rw [lenS,dec_spec u (by omega)]
  simp
 have e5:thereS lenNm ((onwS fs ++ [lenF (u:Int)]) ++ (if x=true then [closeF] else []))=true:=by
  unfold thereS
  rw [e2]
  exact decide_eq_true (by simp)
 refine ⟨?_,e5⟩
 have e6:thereS teNm ((onwS fs ++ [lenF (u:Int)]) ++ (if x=true then [closeF] else []))=false:=by
  unfold thereS
  rw [e1]
  rfl
 unfold reqLen
 rw [e6,e5,e3,e4,if_neg (by simp),if_pos rfl,if_pos rfl,if_neg (by simp only;omega)]
/-- What is read of what was scrubbed and written. -/
theorem ans_back (m : ByteArray) (x : Bool) (code minor : Int) (reason : ByteArray) (fs : List (S36)) (B more : List Int) (l : List UInt8) (hq : (statSpec l).2.2.2.2.2 = true) (h1 : code = (statSpec l).1) (h2 : reason = (statSpec l).2.1)
    (hf : ∀ f ∈ fs, rightB f.f0 f.f1 = true) (hfl : fs.length ≤ 40) (hy : (respLen m code minor fs).2.2 = true) (hB : B.length ≤ 4096) (hB0 : (respLen m code minor fs).1 = 0 → B = []) (g : List (S36)) (b' : List Int)
    (hg : g = (onwS fs ++ (if hasBody m code minor fs = true then [lenF (B.length : Int)] else [])) ++ (if x = true then [closeF] else [])) (hb' : b' = if hasBody m code minor fs = true then B else []) (k : Nat) (hk : 1070000100 ≤ k) :
    ∃ y : List Int, http_WriteResponse.f k code reason 1 g b' = some y ∧ y.length ≤ 100000 ∧ b'.length ≤ 4096 ∧ b'.length ≤ y.length ∧
      (¬ (y.length : Int) - (b'.length : Int) > 2048 → g.length ≤ 40 → (respS2 (y ++ more) m false).1 = code ∧ (respS2 (y ++ more) m false).2.2.2.1 = g ∧ (respS2 (y ++ more) m false).2.2.2.2.1 = b' ∧ (respS2 (y ++ more) m false).2.2.2.2.2.1 = (y.length : Int) ∧ (respS2 (y ++ more) m false).2.2.2.2.2.2 = true) := by
  obtain ⟨a, b, c, r, d1, hc, p1, p2, hr, hrl⟩ := stat_parts l hq
  rw [← h1] at p1
  rw [← h2] at p2
  have hcl := ans_close
  have hol : (onwS fs).length ≤ fs.length := List.length_filter_le _ _
  have hor : ∀ f ∈ onwS fs, rightB f.f0 f.f1 = true := fun f h => hf f (List.mem_filter.1 h).1
  have hlr : rightB (lenF (B.length : Int)).f0 (lenF (B.length : Int)).f1 = true := by rw [lenF_dec]; exact (dec_text B.length (by omega)).1
  have hgr : ∀ f ∈ g, rightB f.f0 f.f1 = true := by
    intro f h
    rw [hg] at h
    rcases List.mem_append.1 h with h | h
    · rcases List.mem_append.1 h with h | h
      · exact hor f h
      · split at h
        · rw [List.mem_singleton.1 h]; exact hlr
        · cases h
    · split at h
      · rw [List.mem_singleton.1 h]; exact hcl.1
      · cases h
  have hgl : g.length ≤ 42 := by
    rw [hg, List.length_append, List.length_append]
    split <;> split <;> simp only [List.length_cons, List.length_nil] <;> omega
  have hFB := right_FB g (by omega) hgr
  have hfs := fLines_small g hgr
  have hbl : b'.length ≤ 4096 := by rw [hb']; split <;> first | exact hB | exact Nat.zero_le _
  have hll : (lineR a b c r).length = 13 + r.length := by unfold lineR; rw [List.length_append]; rfl
  have hw := writeR a b c r d1 hc hrl g hFB b' (by omega) k (by omega)
  rw [← p1, ← p2] at hw
  have hst := statR a b c r d1 hc hr hrl
  have hcln := lineR_cln a b c r d1 hr
  obtain ⟨y, hyy⟩ : ∃ y, y = (toI (lineR a b c r) ++ [13, 10]) ++ fLines g ++ [13, 10] ++ b' := ⟨_, rfl⟩
  have hyl : y.length = 17 + r.length + (fLines g).length + b'.length := by rw [hyy]; simp only [List.length_append, List.length_cons, List.length_nil, toI_length, hll]; omega
  rw [← hyy] at hw
  refine ⟨y, hw, by omega, hbl, by omega, fun hH hgn => ?_⟩
  obtain ⟨k1, k2⟩ := back_resp (lineR a b c r) hcln (by rw [hst]) g hgr hgn (b' ++ more) (by omega) m false (y ++ more) (by rw [hyy]; simp only [List.append_assoc])
  rw [hst] at k1
  simp only at k1
  rw [← p1, ← p2] at k1
  have hmb : ∀ z : Int, restS (b' ++ more) 1 (b'.length : Int) false = (b', (b'.length : Int), true) := by
    intro _
    unfold restS
    rw [if_neg (by decide), show ((1 : Int) == 2) = false from rfl, body_plain b' more]
    rfl
  have hfin : ∀ kind : Int, (kind = 0 ∧ b' = [] ∨ kind = 1) → respF (y ++ more) (kind, (b'.length : Int), true) false (code, reason, 1, [], [], true) g (((lineR a b c r).length : Int) + ((fLines g).length : Int) + 4) = (code, reason, 1, g, b', (y.length : Int), true) := by
    intro kind hkd
    have hrest : restS (b' ++ more) kind (b'.length : Int) false = (b', (b'.length : Int), true) := by
      rcases hkd with ⟨rfl, hb0⟩ | rfl
      · unfold restS
        rw [if_neg (by decide), show ((0 : Int) == 2) = false from rfl, body_plain b' more]
        rfl
      · exact hmb 0
    unfold respF
    rw [k2]
    simp only
    rw [if_pos trivial, hrest, if_neg (show ¬ (b', (b'.length : Int), true).2.1 < 0 by simp only; omega), if_pos rfl]
    simp only [Prod.mk.injEq, true_and, and_true]
    omega
  have hRL : ∃ kind : Int, (kind = 0 ∧ b' = [] ∨ kind = 1) ∧ respLen m code 1 g = (kind, (b'.length : Int), true) := by
    by_cases hnb : noBody m code = true
    · have e0 : respLen m code minor fs = (0, 0, true) := by unfold respLen; rw [if_pos hnb]
      have hh : hasBody m code minor fs = false := by unfold hasBody; rw [e0]; rfl
      have hbb : b' = [] := by rw [hb', hh]; rfl
      refine ⟨0, Or.inl ⟨rfl, hbb⟩, ?_⟩
      rw [hbb]
      unfold respLen
      rw [if_pos hnb]
      rfl
    · have hh : hasBody m code minor fs = true := by
        unfold hasBody
        rw [if_pos hy]
        unfold respLen at hy ⊢
        rw [if_neg hnb] at hy ⊢
        split at hy
        · rename_i c1
          rw [if_pos c1]
          split
          · rfl
          · split <;> rfl
        · cases hy
      rw [hh, if_pos rfl] at hg hb'
      have hl := ans_len fs B.length hB x
      rw [← hg] at hl
      refine ⟨1, Or.inr rfl, ?_⟩
      unfold respLen
      rw [if_neg hnb, hl.1, hl.2, hb']
      rfl
  obtain ⟨kind, hkd, hre⟩ := hRL
  rw [hre, hfin kind hkd] at k1
  rw [k1]
  exact ⟨rfl, rfl, rfl, rfl, rfl⟩
theorem ScrubAnswers:tollbarlaw12_ScrubAnswers.Pure:=by
 intro b m x more _ _ _ _ _ _ _
 refine ⟨1080000000,?_⟩
 unfold tollbarlaw12_ScrubAnswers.f
 rw [show tollbarlaw12_alive.f=some true from rfl,Option.bind_some,if_pos rfl,show (1080000000:Nat)=1079999999 + 1 from rfl]
 by_cases h1:(b.length:Int) > 6000
 ·rw [if_pos h1,tollbarlaw12_ScrubAnswers.j0,if_pos rfl]
 ·rw [if_neg h1]
  by_cases h2:(more.length:Int) > 1000
  ·rw [decide_eq_true h2,tollbarlaw12_ScrubAnswers.j0,if_pos rfl]
  ·rw [decide_eq_false h2,tollbarlaw12_ScrubAnswers.j0,if_neg (by simp),http_Response_f b (by omega) m true _ (by omega),Option.bind_some,show (1079999999:Nat)=1079999998 + 1 from rfl]
   by_cases c0:(respS2 b m true).2.2.2.2.2.1=0
   ·rw [if_pos c0,tollbarlaw12_ScrubAnswers.j1,if_pos rfl]
   ·rw [if_neg c0]
    obtain ⟨l,q1,q2,q3,q4,q5,q6,q7,q8,q9⟩:=rp_parts b m true c0
    obtain ⟨R,hR⟩ : ∃ R,R=respS2 b m true:=⟨_,rfl⟩
    rw [← hR] at q2 q3 q4 q5 q6 q7 q8 q9 ⊢
    obtain ⟨code,reason,minor,fs,B,n,ok⟩:=R
    simp only at q2 q3 q4 q5 q6 q7 q8 q9 ⊢
    cases ok
    ·rw [Bool.not_false,tollbarlaw12_ScrubAnswers.j1,if_pos rfl]
    ·rw [Bool.not_true,tollbarlaw12_ScrubAnswers.j1,if_neg (by simp),Response12_f code reason minor fs B m x (right_FB fs (by omega) q6) (by omega) _ (by omega),Option.bind_some]
     unfold respS
     simp only
     obtain ⟨g,hg⟩ : ∃ g,g=(onwS fs ++ (if hasBody m code minor fs=true then [lenF (B.length:Int)] else [])) ++ (if x=true then [closeF] else []):=⟨_,rfl⟩
     obtain ⟨b',hb'⟩ : ∃ b',b' = if hasBody m code minor fs=true then B else []:=⟨_,rfl⟩
     rw [← hg,← hb']
     obtain ⟨y,w1,w2,w3,w4,w5⟩:=ans_back m x code minor reason fs B more l q1 q2 q3 q6 q5 q7 q8 q9 g b' hg hb' 1079999998 (by omega)
     have hwr:wrap64 ((y.length:Int) - (b'.length:Int))=(y.length:Int) - (b'.length:Int):=by unfold wrap64;omega
     rw [w1,Option.bind_some,hwr,show (1079999998:Nat)=1079999997 + 1 from rfl]
     by_cases c1:(y.length:Int) - (b'.length:Int) > 2048
     ·rw [if_pos c1,tollbarlaw12_ScrubAnswers.j2,if_pos rfl]
     ·rw [if_neg c1]
      by_cases c2:(g.length:Int) > 40
      ·rw [decide_eq_true c2,tollbarlaw12_ScrubAnswers.j2,if_pos rfl]
      ·obtain ⟨v1,v2,v3,v4,v5⟩:=w5 c1 (by omega)
       rw [decide_eq_false c2,tollbarlaw12_ScrubAnswers.j2,if_neg (by simp),Option.bind_some,List.nil_append,if_pos (by simp only [List.length_nil];omega),Option.bind_some,if_pos (by omega),http_Response_f (y ++ more) (by rw [List.length_append];omega) m false _ (by omega),Option.bind_some,
        v5,if_pos rfl,v4,if_pos rfl,v1,if_pos rfl,v3,sameB_eq b' (by omega) _ (by omega),Option.bind_some,if_pos rfl,v2,sameF_eq g (by omega) _ (by omega),Option.bind_some]
end Go.Proofs.YtagffbblalldiaaGreatDoor.Pure
