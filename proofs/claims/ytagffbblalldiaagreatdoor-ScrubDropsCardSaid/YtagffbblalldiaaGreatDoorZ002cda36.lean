/- Each function below answers as its Lean twin says; plain lemmas; a row where its theorem stands. No further condition. (Laid by this repo's pack.py out of its texts and of the print's words.) -/
import Derived.Test.YtagffbblalldiaaGreatDoorZ2b888562
import Derived.Test.YtagffbblalldiaaGreatDoorZa244887e
import Derived.Test.YtagffbblalldiaaGreatDoorZ4c928cb8
import Derived.Test.YtagffbblalldiaaGreatDoorZa7d56fe0
import Derived.Lib.SlBytesConst
import Derived.Lib.Itoa
import Derived.Lib.IndexBytes
import Derived.Lib.Strings
import Derived.Shelf.Strings.SlTrimAscii
import Derived.Lib.SlTrimSet
import Derived.Lib.LastIndexByte
namespace Go.Proofs.YtagffbblalldiaaGreatDoor.P
open Go.RowKit Go.Proofs.YtagffbblalldiaaGreatDoorW.PrintWords Go.Proofs.YtagffbblalldiaaGreatDoorW.PrintLast Go.Proofs.YtagffbblalldiaaGreatDoorW.PrintMore
attribute [local go_sem] max2_int min2_int max_two min_two max_three min_three max_four min_four
set_option linter.unusedVariables false
set_option linter.unusedSimpArgs false
def al12_fs:List (S36):=[⟨⟨#[72,111,115,116]⟩,⟨#[104]⟩⟩,⟨⟨#[88]⟩,⟨#[49]⟩⟩,⟨⟨#[67,111,110,110,101,99,116,105,111,110]⟩,⟨#[120,44,32,99,108,111,115,101]⟩⟩,⟨⟨#[89]⟩,⟨#[50]⟩⟩]
def al12_out:List (S36):=[⟨⟨#[72,111,115,116]⟩,⟨#[104]⟩⟩,⟨⟨#[89]⟩,⟨#[50]⟩⟩,⟨⟨#[90]⟩,⟨#[51]⟩⟩]
def al12_len (n:Int):S36:=⟨⟨#[67,111,110,116,101,110,116,45,76,101,110,103,116,104]⟩,⟨(Lib.itoa n).toArray⟩⟩
theorem al12_1:scrub_Request.f 60 ⟨#[71,69,84]⟩ ⟨#[47]⟩ 1 al12_fs [] [] [] [⟨⟨#[90]⟩,⟨#[51]⟩⟩] [] 0 0 0 0 ⟨#[104]⟩ ⟨#[47,110]⟩=some (⟨#[71,69,84]⟩,⟨#[47,110]⟩,1,al12_out,[]):=by kernel_rfl
theorem al12_2:scrub_Own.f 404 true=some (404,⟨#[78,111,116,32,70,111,117,110,100]⟩,1,[al12_len 0,⟨⟨#[67,111,110,110,101,99,116,105,111,110]⟩,⟨#[99,108,111,115,101]⟩⟩],[]):=by kernel_rfl
theorem al12_3:scrub_Response.f 60 200 ⟨#[79,75]⟩ 0 al12_fs [97,98] ⟨#[71,69,84]⟩ false=some (200,⟨#[79,75]⟩,1,[⟨⟨#[89]⟩,⟨#[50]⟩⟩,al12_len 2],[97,98]):=by kernel_rfl
theorem al12_4:tollbarref04_Same.f 60 al12_out al12_out=some true:=by kernel_rfl
theorem al12_5:scrub_Hop.f 60 al12_fs ⟨#[120]⟩=some true:=by kernel_rfl
theorem al12_6:scrub_Hop.f 60 al12_fs ⟨#[121]⟩=some false:=by kernel_rfl
theorem al12_7:(⟨(Lib.itoa 2).toArray⟩:ByteArray)=⟨#[50]⟩:=by
 simp [Lib.itoa,Lib.decDigits_one]
def tollbarlaw12_alive.f:Option Bool:=some true
/-- The cells of fields in a row. -/
def fcells (xs:List (S36)):List Value:=xs.flatMap fun x=>[.string x.f0,.string x.f1]
theorem fcells_get : ∀ (xs:List (S36)) (j i:Nat) (x:S36) (u:Value),xs[j]? = some x → ([Value.string x.f0,.string x.f1])[i]? = some u → (fcells xs)[j * 2 + i]? = some u
 | [],j,i,x,u,h,_=>by simp at h
 | y :: r,0,i,x,u,h,hu=>by
  simp only [List.getElem?_cons_zero,Option.some.injEq] at h
  subst h
  have hi:i < 2:=by have:=(List.getElem?_eq_some_iff.1 hu).1;simpa using this
  show ([Value.string y.f0,.string y.f1] ++ fcells r)[0 * 2 + i]? = some u
  rw [Nat.zero_mul,Nat.zero_add,List.getElem?_append_left (by simpa using hi)]
  exact hu
 | y :: r,j + 1,i,x,u,h,hu=>by
  have hi:i < 2:=by have:=(List.getElem?_eq_some_iff.1 hu).1;simpa using this
  show ([Value.string y.f0,.string y.f1] ++ fcells r)[(j + 1) * 2 + i]? = some u
  rw [List.getElem?_append_right (by simp;omega)]
  have:=fcells_get r j i x u (by simpa using h) hu
  rw [show (j + 1) * 2 + i - ([Value.string y.f0,.string y.f1]:List Value).length=j * 2 + i by simp;omega]
  exact this
/-- A row of fields that a literal laid. -/
theorem C_fields (W:World) (g e:Nat) (xs:List (S36)) (fr:Nat × Nat) (hb:W.heap[g]? = some (.cells (fcells xs).toArray e fr)) (hm:xs.length ≤ 9223372036854775807):Kd.C k36 W (some ⟨g,0,none⟩) xs.length xs:=by
 refine ⟨rfl,hm,fun _=>⟨_,rfl,fun j x hj=>⟨[.string x.f0,.string x.f1],rfl,k36_mk W x,fun i u hu=>?_⟩⟩⟩
 rw [add_plain,cell_of_row _ _ _ _ _ _ hb]
 rw [List.getElem?_toArray]
 exact fcells_get xs j i x u hj hu
def al12_w (w:World):World:=(((w.alloc (.cells (fcells al12_fs).toArray 36)).alloc (.cells #[.string ⟨#[71,69,84]⟩,.string ⟨#[47]⟩,.int .i64 1,.slice (some ⟨w.heap.size,0,none⟩) 4 4,.slice none 0 0] 26)).alloc (.cells (fcells [⟨⟨#[90]⟩,⟨#[51]⟩⟩]).toArray 36)).alloc (.cells #[.slice none 0 0,.slice none 0 0,.slice (some ⟨w.heap.size + 1 + 1,0,none⟩) 1 1,.slice none 0 0,.int .i64 0,.int .i64 0,.int .i64 0,.int .i64 0] 46)
theorem al12_b0 (w:World):(al12_w w).heap[w.heap.size]? = some (.cells (fcells al12_fs).toArray 36):=blk_alloc (blk_alloc (blk_alloc (blk_new w _) _) _) _
theorem al12_b1 (w:World):(al12_w w).heap[w.heap.size + 1]? = some (.cells #[.string ⟨#[71,69,84]⟩,.string ⟨#[47]⟩,.int .i64 1,.slice (some ⟨w.heap.size,0,none⟩) 4 4,.slice none 0 0] 26):=by
 have h:=blk_new (w.alloc (.cells (fcells al12_fs).toArray 36)) (.cells #[.string ⟨#[71,69,84]⟩,.string ⟨#[47]⟩,.int .i64 1,.slice (some ⟨w.heap.size,0,none⟩) 4 4,.slice none 0 0] 26)
 have hz:(w.alloc (.cells (fcells al12_fs).toArray 36)).heap.size=w.heap.size + 1:=by simp
 rw [hz] at h
 exact blk_alloc (blk_alloc h _) _
theorem al12_b2 (w:World):(al12_w w).heap[w.heap.size + 1 + 1]? = some (.cells (fcells [⟨⟨#[90]⟩,⟨#[51]⟩⟩]).toArray 36):=by
 have h:=blk_new ((w.alloc (.cells (fcells al12_fs).toArray 36)).alloc (.cells #[.string ⟨#[71,69,84]⟩,.string ⟨#[47]⟩,.int .i64 1,.slice (some ⟨w.heap.size,0,none⟩) 4 4,.slice none 0 0] 26)) (.cells (fcells [⟨⟨#[90]⟩,⟨#[51]⟩⟩]).toArray 36)
 have hz:((w.alloc (.cells (fcells al12_fs).toArray 36)).alloc (.cells #[.string ⟨#[71,69,84]⟩,.string ⟨#[47]⟩,.int .i64 1,.slice (some ⟨w.heap.size,0,none⟩) 4 4,.slice none 0 0] 26)).heap.size=w.heap.size + 1 + 1:=by simp
 rw [hz] at h
 exact blk_alloc h _
theorem al12_below (w:World):Below w.heap.size w (al12_w w):=below_alloc (below_alloc (below_alloc (below_alloc (Below.refl _ _) _) _) _) _
set_option maxHeartbeats 8000000 in
set_option maxRecDepth 100000 in
theorem tollbarlaw12_alive.calls (r:Bool) (w:World) (h:tollbarlaw12_alive.f=some r) (ht:Tabs w) :
 Calls Tryz.prog 27 #[] w fun e w' => e = .returned (.bool r)∧Below w.heap.size w w' := by
 obtain rfl:=Option.some.inj h
 clear h
 have HTB:=Aside0.mk ht
 clear ht
 have hu1:=Tryz.underlying26
 have hu2:=Tryz.underlying46
 have hu3:=Tryz.underlying62
 have hu4:=Tryz.underlying36
 have kc:=fun (w:World) (C:Array Value) (n c:Nat)=>Lib.run_convert_bytes_const (P:=Tryz.prog) w 22 5 C n c Tryz.underlying22 Tryz.underlying5
 go_enter Tryz.func27,Tryz.ntmps27
 go_wp2_with fail
 go_at_call 30
 refine (scrub_Request.calls 60 ⟨#[71,69,84]⟩ ⟨#[47]⟩ 1 _ _ al12_fs _ _ [] _ _ [] _ _ [] _ _ [⟨⟨#[90]⟩,⟨#[51]⟩⟩] _ _ [] 0 0 0 0 ⟨#[104]⟩ ⟨#[47,110]⟩ _ _ _ _ _ (al12_w w) (C_fields _ _ _ _ _ (al12_b0 w) zb43) (Nat.le_refl _) (Kd.C_nil _ _) (Nat.le_refl _) (Kd.C_nil _ _) (Nat.le_refl _) (Kd.C_nil _ _) (Nat.le_refl _) (C_fields _ _ _ _ _ (al12_b2 w) zb43) (Nat.le_refl _) (Kd.C_nil _ _) (Nat.le_refl _) al12_1 (HTB.out.below (al12_below w))).mono ?_
 rintro e w1 ⟨v1,v2,rfl,hr1,hr2,hb⟩
 obtain ⟨A1,c1,rfl,hl1,hC1⟩:=Kd.R_reads hr1
 obtain ⟨A2,c2,rfl⟩:=Kd.R_slice hr2
 have B1:=Aside0.mk (below_step (al12_below w) hb)
 have R1:=Aside0.mk hC1
 have F0:=Aside0.mk (blk_below (al12_b0 w) hb)
 have F1:=Aside0.mk (blk_below (al12_b1 w) hb)
 clear hr1 hr2 hC1 hb
 go_wp2_with fail
 go_at_call 42
 refine (scrub_Own.calls 404 true _ _ _ _ _ _ al12_2 (HTB.out.below (below_alloc B1.out _))).mono ?_
 rintro e w2 ⟨v3,v4,rfl,hr3,hr4,hb⟩
 obtain ⟨A3,c3,rfl⟩:=Kd.R_slice hr3
 obtain ⟨A4,c4,rfl⟩:=Kd.R_slice hr4
 have B2:=Aside0.mk (below_step (below_alloc B1.out _) hb)
 have R2:=Aside0.mk (Kd.C_below (Kd.C_alloc R1.out _) hb)
 have G0:=Aside0.mk (blk_below (blk_alloc F0.out _) hb)
 have G1:=Aside0.mk (blk_below (blk_alloc F1.out _) hb)
 have G3:=Aside0.mk (blk_below (blk_new w1 _) hb)
 clear hr3 hr4 hb B1 R1 F0 F1
 have k1:(w2.alloc (.cells #[.int .i64 404,.string ⟨#[78,111,116,32,70,111,117,110,100]⟩,.int .i64 1,.slice A3 2 c3,.slice A4 0 c4] 62)).cell? ⟨w.heap.size + 1,3,none⟩=some (.slice (some ⟨w.heap.size,0,none⟩) 4 4):=(blk_cell (blk_alloc G1.out _) 3).trans rfl
 have hz:(w2.alloc (.cells #[.int .i64 404,.string ⟨#[78,111,116,32,70,111,117,110,100]⟩,.int .i64 1,.slice A3 2 c3,.slice A4 0 c4] 62)).heap.size=w2.heap.size + 1:=by simp
 have kc:=Lib.run_convert_bytes_const (P:=Tryz.prog) (w2.alloc (.cells #[.int .i64 404,.string ⟨#[78,111,116,32,70,111,117,110,100]⟩,.int .i64 1,.slice A3 2 c3,.slice A4 0 c4] 62)) 22 5 #[.int .u8 97,.int .u8 98] 2 2 Tryz.underlying22 Tryz.underlying5
 rw [hz] at kc
 have hcb:=C_const (w2.alloc (.cells #[.int .i64 404,.string ⟨#[78,111,116,32,70,111,117,110,100]⟩,.int .i64 1,.slice A3 2 c3,.slice A4 0 c4] 62)) 5 [97,98] (2,3) zb43
 rw [hz] at hcb
 have HCB:=Aside0.mk hcb
 clear hcb hz
 go_wp2_with fail
 go_at_call 40
 refine (scrub_Response.calls 60 200 ⟨#[79,75]⟩ 0 _ _ al12_fs _ _ [97,98] ⟨#[71,69,84]⟩ false _ _ _ _ _ _ (C_fields _ _ _ _ _ (blk_alloc (blk_alloc G0.out _) _) zb43) (Nat.le_refl _) HCB.out (Nat.le_refl _) al12_3 (HTB.out.below (below_alloc (below_alloc B2.out _) _))).mono ?_
 rintro e w3 ⟨v5,v6,rfl,hr5,hr6,hb⟩
 obtain ⟨A5,c5,rfl,hl5,hC5⟩:=Kd.R_reads hr5
 obtain ⟨A6,c6,rfl⟩:=Kd.R_slice hr6
 have B3:=Aside0.mk (below_step (below_alloc (below_alloc B2.out _) _) hb)
 have R3:=Aside0.mk (Kd.C_below (Kd.C_alloc (Kd.C_alloc R2.out _) _) hb)
 have H0:=Aside0.mk (blk_below (blk_alloc (blk_alloc G0.out _) _) hb)
 have H1:=Aside0.mk (blk_below (blk_alloc (blk_alloc G1.out _) _) hb)
 have H3:=Aside0.mk (blk_below (blk_alloc (blk_alloc G3.out _) _) hb)
 have H4:=Aside0.mk (blk_below (blk_alloc (blk_new w2 (.cells #[.int .i64 404,.string ⟨#[78,111,116,32,70,111,117,110,100]⟩,.int .i64 1,.slice A3 2 c3,.slice A4 0 c4] 62)) _) hb)
 have R5:=Aside0.mk hC5
 have R6:=Aside0.mk hr6
 clear B2 R2 G0 G1 G3 hr5 hC5 hb kc k1
 have s1:(w3.alloc (.cells #[.int .i64 200,.string ⟨#[79,75]⟩,.int .i64 1,.slice A5 2 c5,.slice A6 2 c6] 62)).cell? ⟨w1.heap.size,1,none⟩=some (.string ⟨#[47,110]⟩):=(blk_cell (blk_alloc H3.out _) 1).trans rfl
 have s2:(w3.alloc (.cells #[.int .i64 200,.string ⟨#[79,75]⟩,.int .i64 1,.slice A5 2 c5,.slice A6 2 c6] 62)).cell? ⟨w1.heap.size,2,none⟩=some (.int .i64 1):=(blk_cell (blk_alloc H3.out _) 2).trans rfl
 have s3:(w3.alloc (.cells #[.int .i64 200,.string ⟨#[79,75]⟩,.int .i64 1,.slice A5 2 c5,.slice A6 2 c6] 62)).cell? ⟨w1.heap.size,3,none⟩=some (.slice A1 3 c1):=(blk_cell (blk_alloc H3.out _) 3).trans rfl
 have hz:(w3.alloc (.cells #[.int .i64 200,.string ⟨#[79,75]⟩,.int .i64 1,.slice A5 2 c5,.slice A6 2 c6] 62)).heap.size=w3.heap.size + 1:=by simp
 have hlit:=C_fields ((w3.alloc (.cells #[.int .i64 200,.string ⟨#[79,75]⟩,.int .i64 1,.slice A5 2 c5,.slice A6 2 c6] 62)).alloc (.cells (fcells al12_out).toArray 36)) (w3.alloc (.cells #[.int .i64 200,.string ⟨#[79,75]⟩,.int .i64 1,.slice A5 2 c5,.slice A6 2 c6] 62)).heap.size 36 al12_out (0,0) (blk_new _ _) zb43
 rw [hz] at hlit
 have HLIT:=Aside0.mk hlit
 clear hlit hz
 go_wp2_with fail
 go_at_call 26
 refine (tollbarref04_Same.calls 60 _ _ al12_out _ _ al12_out true ((w3.alloc (.cells #[.int .i64 200,.string ⟨#[79,75]⟩,.int .i64 1,.slice A5 2 c5,.slice A6 2 c6] 62)).alloc (.cells (fcells al12_out).toArray 36)) (Kd.C_alloc (Kd.C_alloc R3.out _) _) hl1 HLIT.out (Nat.le_refl _) al12_4).mono ?_
 rintro e w4 ⟨rfl,hd⟩
 have hb:Below ((w3.alloc (.cells #[.int .i64 200,.string ⟨#[79,75]⟩,.int .i64 1,.slice A5 2 c5,.slice A6 2 c6] 62)).alloc (.cells (fcells al12_out).toArray 36)).heap.size ((w3.alloc (.cells #[.int .i64 200,.string ⟨#[79,75]⟩,.int .i64 1,.slice A5 2 c5,.slice A6 2 c6] 62)).alloc (.cells (fcells al12_out).toArray 36)) w4:=by
  obtain ⟨n,rfl⟩:=hd.out
  exact pw_below_drewN (Below.refl _ _) _
 have B4:=Aside0.mk (below_step (below_alloc (below_alloc B3.out _) _) hb)
 have J0:=Aside0.mk (blk_below (blk_alloc (blk_alloc H0.out _) _) hb)
 have J1:=Aside0.mk (blk_below (blk_alloc (blk_alloc H1.out _) _) hb)
 have J4:=Aside0.mk (blk_below (blk_alloc (blk_alloc H4.out _) _) hb)
 have J5:=Aside0.mk (blk_below (blk_alloc (blk_new w3 (.cells #[.int .i64 200,.string ⟨#[79,75]⟩,.int .i64 1,.slice A5 2 c5,.slice A6 2 c6] 62)) _) hb)
 have R7:=Aside0.mk (Kd.C_below (Kd.C_alloc (Kd.C_alloc R5.out _) _) hb)
 have R8:=Aside0.mk (Kd.R_below (Kd.R_alloc (Kd.R_alloc R6.out _) _) hb)
 clear hd hb B3 H0 H1 H4 R5 R6 R3 H3 HLIT s1 s2 s3
 have o0:w4.cell? ⟨w2.heap.size,0,none⟩=some (.int .i64 404):=(blk_cell J4.out 0).trans rfl
 have o3:w4.cell? ⟨w2.heap.size,3,none⟩=some (.slice A3 2 c3):=(blk_cell J4.out 3).trans rfl
 have p3:w4.cell? ⟨w3.heap.size,3,none⟩=some (.slice A5 2 c5):=(blk_cell J5.out 3).trans rfl
 have p4:w4.cell? ⟨w3.heap.size,4,none⟩=some (.slice A6 2 c6):=(blk_cell J5.out 4).trans rfl
 have r3:w4.cell? ⟨w.heap.size + 1,3,none⟩=some (.slice (some ⟨w.heap.size,0,none⟩) 4 4):=(blk_cell J1.out 3).trans rfl
 have hcv:(convert 22 9 (.slice A6 2 c6)).run Tryz.prog w4 = .ok (.string ⟨#[97,98]⟩) w4:=own_string (P:=Tryz.prog) Tryz.underlying22 Tryz.underlying5 Tryz.underlying9 (Kd.own_of_R R8.out)
 obtain ⟨ad5,e5,x50,x51⟩:=at_T36 R7.out 1 zb43 zb43
 have y51:w4.cell? ⟨(ad5.add 2).block,(ad5.add 2).off + 1,none⟩=some (.string ⟨#[50]⟩):=by
  have h:=x51
  rw [show (rd_T36 [⟨⟨#[89]⟩,⟨#[50]⟩⟩,al12_len 2] 1).f1=⟨#[50]⟩ from al12_7] at h
  exact h
 have z51:w4.cell? ⟨ad5.block,ad5.off + 2 + 1,none⟩=some (.string ⟨#[50]⟩):=by
  have h1:(ad5.add 2).block=ad5.block:=by simp [Addr.add]
  have h2:(ad5.add 2).off=ad5.off + 2:=by simp [Addr.add]
  rw [h1,h2] at y51
  exact y51
 subst e5
 clear x50 x51 y51
 go_wp2_with fail
 go_at_call 35
 refine (scrub_Hop.calls 60 _ _ al12_fs ⟨#[120]⟩ true w4 (C_fields _ _ _ _ _ J0.out zb43) (Nat.le_refl _) al12_5).mono ?_
 rintro e w5 ⟨rfl,hb⟩
 have r35:=pw_cell_below hb r3
 have K0:=Aside0.mk (blk_below J0.out hb)
 have B5:=Aside0.mk (below_step B4.out hb)
 clear hb
 go_wp2_with fail
 go_at_call 35
 refine (scrub_Hop.calls 60 _ _ al12_fs ⟨#[121]⟩ false w5 (C_fields _ _ _ _ _ K0.out zb43) (Nat.le_refl _) al12_6).mono ?_
 rintro e w6 ⟨rfl,hb⟩
 have B6:=Aside0.mk (below_step B5.out hb)
 clear hb
 go_wp2
 go_ret
 exact ⟨zb50,B6.out⟩
mutual
def tollbarlaw12_ScrubDrops.j0:Nat → List ByteArray → List ByteArray → List ByteArray → Bool → Option (Bool)
 | 0,_,_,_,_=>none
 | k + 1,x0,x1,x2,x31=>if x31=true then (some true) else (tollbarlaw12_ScrubDrops.l0 k x1 x2 x0 (x0.length:Int) 0 (⟨#[71,69,84]⟩:ByteArray) (⟨#[47]⟩:ByteArray) 1 ([]:List (S36)))
def tollbarlaw12_ScrubDrops.l0:Nat → List ByteArray → List ByteArray → List ByteArray → Int → Int → ByteArray → ByteArray → Int → List (S36) → Option (Bool)
 | 0,_,_,_,_,_,_,_,_,_=>none
 | k + 1,x1,x2,x33,x34,x35,x839000,x839001,x839002,x839003=>if x35 < x34 then (if 0 ≤ x35 then (if x35 < (x33.length:Int) then (if ((rdOf ByteArray.empty x33 x35).size:Int) > 30 then (some true) else (if x839003.length < 4398046511104 then (tollbarlaw12_ScrubDrops.l0 k x1 x2 x33 x34 (wrap64 (x35 + 1)) x839000 x839001 x839002 (x839003 ++ [(⟨rdOf ByteArray.empty x33 x35,strOfNums (([(wrap64 (97 + (Int.tmod x35 26))) % 256]:List Int))⟩:S36)])) else (none))) else (none)) else (none)) else ((conf_Default.f).bind fun bt846=>(tollbarlaw12_ScrubDrops.l1 k x1 x2 x2 (x2.length:Int) 0 x839000 x839001 x839002 x839003 bt846.1 bt846.2.1 bt846.2.2.1 x1 bt846.2.2.2.2.1 bt846.2.2.2.2.2.1 bt846.2.2.2.2.2.2.1 bt846.2.2.2.2.2.2.2))
def tollbarlaw12_ScrubDrops.l1:Nat → List ByteArray → List ByteArray → List ByteArray → Int → Int → ByteArray → ByteArray → Int → List (S36) → List (S83) → List (S85) → List (S36) → List ByteArray → Int → Int → Int → Int → Option (Bool)
 | 0,_,_,_,_,_,_,_,_,_,_,_,_,_,_,_,_,_=>none
 | k + 1,x1,x2,x60,x61,x62,x839000,x839001,x839002,x839003,x863000,x863001,x863002,x863003,x863004,x863005,x863006,x863007=>if x62 < x61 then (if 0 ≤ x62 then (if x62 < (x60.length:Int) then (if x863002.length < 4398046511104 then (tollbarlaw12_ScrubDrops.l1 k x1 x2 x60 x61 (wrap64 (x62 + 1)) x839000 x839001 x839002 x839003 x863000 x863001 (x863002 ++ [(⟨rdOf ByteArray.empty x60 x62,(⟨#[115,101,116]⟩:ByteArray)⟩:S36)]) x863003 x863004 x863005 x863006 x863007) else (none)) else (none)) else (none)) else ((conf_Check.f k x863000 x863001 x863002 x863003 x863004 x863005 x863006 x863007).bind fun t867=>(if t867=0 then ((scrub_Request.f k x839000 x839001 x839002 x839003 ([]:List Int) x863000 x863001 x863002 x863003 x863004 x863005 x863006 x863007 (⟨#[104]⟩:ByteArray) (⟨#[47]⟩:ByteArray)).bind fun bt868=>(tollbarlaw12_ScrubDrops.l2 k x1 x2 (([(⟨(⟨#[72,111,115,116]⟩:ByteArray),(⟨#[104]⟩:ByteArray)⟩:S36)]:List (S36))) x839003 (x839003.length:Int) 0 x839000 x839001 x839002 x839003 x863000 x863001 x863002 x863003 x863004 x863005 x863006 x863007 bt868.1 bt868.2.1 bt868.2.2.1 bt868.2.2.2.1 bt868.2.2.2.2)) else (some true)))
def tollbarlaw12_ScrubDrops.l2:Nat → List ByteArray → List ByteArray → List (S36) → List (S36) → Int → Int → ByteArray → ByteArray → Int → List (S36) → List (S83) → List (S85) → List (S36) → List ByteArray → Int → Int → Int → Int → ByteArray → ByteArray → Int → List (S36) → List Int → Option (Bool)
 | 0,_,_,_,_,_,_,_,_,_,_,_,_,_,_,_,_,_,_,_,_,_,_,_=>none
 | k + 1,x1,x2,x14,x83,x84,x85,x839000,x839001,x839002,x839003,x863000,x863001,x863002,x863003,x863004,x863005,x863006,x863007,x878000,x878001,x878002,x878003,x878004=>if x85 < x84 then (if 0 ≤ x85 then (if x85 < (x83.length:Int) then ((scrub_Hop.f k x839003 ((rd_T36 x83 x85).f0)).bind fun t887=>(if t887=true then (tollbarlaw12_ScrubDrops.l2 k x1 x2 x14 x83 x84 (wrap64 (x85 + 1)) x839000 x839001 x839002 x839003 x863000 x863001 x863002 x863003 x863004 x863005 x863006 x863007 x878000 x878001 x878002 x878003 x878004) else ((tollbarref04_In.f k x1 ((rd_T36 x83 x85).f0)).bind fun t888=>(if t888=true then (tollbarlaw12_ScrubDrops.l2 k x1 x2 x14 x83 x84 (wrap64 (x85 + 1)) x839000 x839001 x839002 x839003 x863000 x863001 x863002 x863003 x863004 x863005 x863006 x863007 x878000 x878001 x878002 x878003 x878004) else ((tollbarref04_In.f k x2 ((rd_T36 x83 x85).f0)).bind fun t889=>(if t889=true then (tollbarlaw12_ScrubDrops.l2 k x1 x2 x14 x83 x84 (wrap64 (x85 + 1)) x839000 x839001 x839002 x839003 x863000 x863001 x863002 x863003 x863004 x863005 x863006 x863007 x878000 x878001 x878002 x878003 x878004) else (if x14.length < 4398046511104 then (tollbarlaw12_ScrubDrops.l2 k x1 x2 (x14 ++ [(⟨(rd_T36 x83 x85).f0,(rd_T36 x83 x85).f1⟩:S36)]) x83 x84 (wrap64 (x85 + 1)) x839000 x839001 x839002 x839003 x863000 x863001 x863002 x863003 x863004 x863005 x863006 x863007 x878000 x878001 x878002 x878003 x878004) else (none)))))))) else (none)) else (none)) else (if x14.length + x863002.length < 4398046511104 then ((tollbarref04_Same.f k x878003 (x14 ++ x863002)).bind fun t884=>(if t884=true then (some ((x878004.length:Int) == 0)) else (some false))) else (none))
end
def tollbarlaw12_ScrubDrops.f (k:Nat) (l0:List ByteArray) (l1:List ByteArray) (l2:List ByteArray):Option (Bool):=(tollbarlaw12_alive.f).bind fun t837=>(if t837=true then (if (l0.length:Int) > 30 then (tollbarlaw12_ScrubDrops.j0 k l0 l1 l2 true) else (if (l1.length:Int) > 8 then (tollbarlaw12_ScrubDrops.j0 k l0 l1 l2 true) else (tollbarlaw12_ScrubDrops.j0 k l0 l1 l2 (decide ((l2.length:Int) > 8))))) else (some false))
def tollbarlaw12_ScrubDrops.T30:Bool × List (List Nat × List Nat):=(true,[([],[]),([0],[0]),([],[]),([],[]),([3],[3]),([2,4],[2,4]),([1,5,5],[1,5]),([6,6],[6]),([7],[7]),([8,7],[7,8]),([9,7],[7,9]),([10,7],[7,10]),([7,11],[7,11]),([12,7,0,1,2,3,4,5,6,7,8,9,10,11,12],[12])])
def tollbarlaw12_ScrubDrops.B30:List Nat:=[0,1,0,0,8,28,63,127,255,511,1023,2047,4095,8191]
theorem tollbarlaw12_ScrubDrops.tab30:rtab .any (opsOf Tryz.f7 30)=tollbarlaw12_ScrubDrops.T30:=by kernel_rfl
theorem tollbarlaw12_ScrubDrops.bits30:waitsOk tollbarlaw12_ScrubDrops.T30.2 tollbarlaw12_ScrubDrops.B30=true:=by kernel_rfl
set_option maxHeartbeats 8000000 in
set_option maxRecDepth 100000 in
theorem tollbarlaw12_ScrubDrops.calls (k:Nat) (A0:Option Addr) (c0:Nat) (l0:List ByteArray) (A1:Option Addr) (c1:Nat) (l1:List ByteArray) (A2:Option Addr) (c2:Nat) (l2:List ByteArray) (r:Bool) (w:World) (hr0:Kd.C Kd.string w A0 l0.length l0) (hc0:l0.length ≤ c0) (hr1:Kd.C Kd.string w A1 l1.length l1) (hc1:l1.length ≤ c1) (hr2:Kd.C Kd.string w A2 l2.length l2) (hc2:l2.length ≤ c2) (h:tollbarlaw12_ScrubDrops.f k l0 l1 l2=some r) (hr:r=true) (ht:Tabs w) :
 Calls Tryz.prog 7 #[.slice A0 l0.length c0,.slice A1 l1.length c1,.slice A2 l2.length c2] w fun e w' => e = .returned (.bool r)∧Below w.heap.size w w' := by
 have HTB:=Aside0.mk ht
 clear ht
 have HRT:=Aside0.mk hr
 clear hr
 have hu26:=Tryz.underlying26
 have hu36:=Tryz.underlying36
 have hu46:=Tryz.underlying46
 have HR0:=Aside0.mk hr0
 have HC0:=Aside0.mk hc0
 clear hr0 hc0
 have HR1:=Aside0.mk hr1
 have HC1:=Aside0.mk hc1
 clear hr1 hc1
 have HR2:=Aside0.mk hr2
 have HC2:=Aside0.mk hc2
 clear hr2 hc2
 have HB:=Aside0.mk (Below.refl w.heap.size w)
 unfold tollbarlaw12_ScrubDrops.f at h
 have H:=h
 clear h
 replace H:=Option.bind_eq_some_iff.mp H
 obtain ⟨t837,A40,H⟩:=H
 try dsimp only at H
 have A4:=Aside0.mk A40
 clear A40
 by_cases c5:t837=true;rotate_left
 ·replace c5:=Bool.eq_false_iff.mpr c5
  subst c5
  rw [if_neg (show ¬ (false=true) by decide)] at H
  exact absurd ((Option.some.inj H).trans HRT.out) zb43
 subst c5
 rw [if_pos rfl] at H
 have HC6:=Aside0.mk H
 clear H
 go_enter Tryz.func7,Tryz.ntmps7
 go_upto_region 3 with (first|((with_reducible refine gate_callee (f:=27) rfl ?_);refine goesL_ (some 17) rfl rfl Tryz.func27 zb10 rfl #[] rfl zb1 ?_;(with_reducible refine (tollbarlaw12_alive.calls  true _ A4.out ?hT).mono ?_);(case hT=>exact HTB.out.below zb9);rintro e w7 ⟨rfl,hb⟩;refine ⟨_,rfl,?_⟩;replace HB:=Aside0.mk (below_step zb0 hb);(try clear hb)))
 (try simp only [Act.put,zqA,zqB,zqC])
 go_cut [31] (fun v31 wc => ∃ (kq:Nat) (x31_5:Bool),v31 = .bool x31_5∧Aside0 (tollbarlaw12_ScrubDrops.j0 kq l0 l1 l2 x31_5=some r)∧Aside0 (kq ≤ k)∧Aside0 (Below w.heap.size w wc))
 case first =>
  have H:=HC6.out
  clear HC6
  by_cases c8:(l0.length:Int) > 30
  ·rw [if_pos c8] at H
   have c8b0:decide (30 < (l0.length:Int))=true:=decide_eq_true c8
   have c8b1:decide (30 < l0.length)=true:=decide_eq_true zb44
   clear c8
   (first|rw [c8b0]|(simp only [i64_w,i32_w];rw [c8b0])|rw [c8b1]|skip)
   have H' := Aside0.mk H
   clear H
   go_wp2
   go_meet
   case rel=>exact ⟨_,(true),zb6,H',⟨zb86⟩,⟨zb0⟩⟩
  rw [if_neg c8] at H
  have c8b0:decide (30 < (l0.length:Int))=false:=decide_eq_false c8
  have c8b1:decide (30 < l0.length)=false:=decide_eq_false zb44
  clear c8
  (first|rw [c8b0]|(simp only [i64_w,i32_w];rw [c8b0])|rw [c8b1]|skip)
  by_cases c9:(l1.length:Int) > 8
  ·rw [if_pos c9] at H
   have c9b0:decide (8 < (l1.length:Int))=true:=decide_eq_true c9
   have c9b1:decide (8 < l1.length)=true:=decide_eq_true zb44
   clear c9
   have H' := Aside0.mk H
   clear H
   go_wp2
   go_meet
   case rel=>exact ⟨_,(true),zb6,H',⟨zb86⟩,⟨zb0⟩⟩
  rw [if_neg c9] at H
  have c9b0:decide (8 < (l1.length:Int))=false:=decide_eq_false c9
  have c9b1:decide (8 < l1.length)=false:=decide_eq_false zb44
  clear c9
  have H' := Aside0.mk H
  clear H
  go_wp2
  go_meet
  case rel=>exact ⟨_,(decide ((l2.length:Int) > 8)),zb6,H',⟨zb86⟩,⟨zb0⟩⟩
 case rest =>
  clear HC6
  try clear c1
  try clear c2
  try clear p2
  try clear c5
  try clear c7
  try clear c8
  try clear c8b0
  try clear c8b1
  try clear c9
  try clear c9b0
  try clear c9b1
  obtain ⟨kq,x31_5,rfl,HA,HJ5,HB⟩:=hcut
  cases kq with
  | zero=>exact absurd HA.out (by simp [tollbarlaw12_ScrubDrops.j0])
  | succ kj5 =>
   have H:=HA.out
   clear HA
   simp only [tollbarlaw12_ScrubDrops.j0] at H
   by_cases c10:x31_5=true
   ·subst c10
    rw [if_pos rfl] at H
    obtain rfl:=Option.some.inj H
    go_wp2
    go_ret
    exact ⟨zb2,zb0⟩
   replace c10:=Bool.eq_false_iff.mpr c10
   subst c10
   rw [if_neg (show ¬ (false=true) by decide)] at H
   have H' := Aside0.mk H
   clear H
   go_wp2_with (first|((with_reducible refine gate_dst (N:=7) rfl ?_);(try (refine gate_guard zb64 ?_;dsimp only));refine box_event rfl (N:=7) rfl (cs:=#[.string (⟨#[]⟩:ByteArray),.string (⟨#[]⟩:ByteArray),.int .i64 0,.slice none 0 0,.slice none 0 0]) (t:=26) zS ?_;intro gb838 hg w11 hbox hb;have GW838:=zG hg zb0;have GE838:=GW838;have BK838:=Aside0.mk hbox;replace HB:=Aside0.mk (below_step zb0 hb);clear hb hbox hg;obtain ⟨hcz12_0,hcz12_1,hcz12_2,hcz12_3,hcz12_4,hfz12_0,hfz12_1,hfz12_2,hfz12_3,hfz12_4⟩:=zq5 BK838.out))
   go_loopg [35] kj5 (fun kq v35 w' => ∃ (x35_2:Int) (x127_2:List (S36)) (u127:Value),v35 = .int .i64 x35_2∧Aside0 (tollbarlaw12_ScrubDrops.l0 kq l1 l2 l0 (l0.length:Int) x35_2 (⟨#[71,69,84]⟩:ByteArray) (⟨#[47]⟩:ByteArray) 1 x127_2=some r)∧Aside0 (kq ≤ kj5)∧Aside0 (Kd.R k36 36 w' w.heap.size (fun _=>True) u127 x127_2)∧Aside0 (w'.heap[gb838]? = some (.cells #[.string (⟨#[71,69,84]⟩:ByteArray),.string (⟨#[47]⟩:ByteArray),.int .i64 1,u127,(.slice none 0 0)] 26 (0,0)))∧Aside0 (Below w.heap.size w w'))
   case atStart=>exact ⟨(0),(([]:List (S36))),(.slice none 0 0),zb6,H',⟨Nat.le_refl _⟩,⟨zb28⟩,⟨by (with_reducible repeat (first|refine blk_drewN ?_ _|refine blk_drew ?_|refine blk_alloc ?_ _));refine blk_put (cs:=#[.string (⟨#[71,69,84]⟩:ByteArray),.string (⟨#[47]⟩:ByteArray),.int .i64 1,.slice none 0 0,.slice none 0 0]) ?_ 4 _ rfl;(with_reducible repeat (first|refine blk_drewN ?_ _|refine blk_drew ?_|refine blk_alloc ?_ _));refine blk_put (cs:=#[.string (⟨#[71,69,84]⟩:ByteArray),.string (⟨#[47]⟩:ByteArray),.int .i64 1,.slice none 0 0,.slice none 0 0]) ?_ 3 _ rfl;(with_reducible repeat (first|refine blk_drewN ?_ _|refine blk_drew ?_|refine blk_alloc ?_ _));refine blk_put (cs:=#[.string (⟨#[71,69,84]⟩:ByteArray),.string (⟨#[47]⟩:ByteArray),.int .i64 0,.slice none 0 0,.slice none 0 0]) ?_ 2 _ rfl;(with_reducible repeat (first|refine blk_drewN ?_ _|refine blk_drew ?_|refine blk_alloc ?_ _));refine blk_put (cs:=#[.string (⟨#[71,69,84]⟩:ByteArray),.string (⟨#[]⟩:ByteArray),.int .i64 0,.slice none 0 0,.slice none 0 0]) ?_ 1 _ rfl;(with_reducible repeat (first|refine blk_drewN ?_ _|refine blk_drew ?_|refine blk_alloc ?_ _));refine blk_put (cs:=#[.string (⟨#[]⟩:ByteArray),.string (⟨#[]⟩:ByteArray),.int .i64 0,.slice none 0 0,.slice none 0 0]) ?_ 0 _ rfl;(with_reducible repeat (first|refine blk_drewN ?_ _|refine blk_drew ?_|refine blk_alloc ?_ _));exact BK838.out⟩,⟨zb24⟩⟩
   case round =>
    clear H'
    try clear c1
    try clear c2
    try clear p2
    try clear c5
    try clear c7
    try clear c8
    try clear c8b0
    try clear c8b1
    try clear c9
    try clear c9b0
    try clear c9b1
    try clear c10
    try clear hcz12_0
    try clear hcz12_1
    try clear hcz12_2
    try clear hcz12_3
    try clear hcz12_4
    try clear hfz12_0
    try clear hfz12_1
    try clear hfz12_2
    try clear hfz12_3
    try clear hfz12_4
    try clear p2
    obtain ⟨x35_2,x127_2,u127,rfl,HA,HK2,HO_127,BK838,HB⟩:=hrel
    cases gk with
    | zero=>exact absurd HA.out (by simp [tollbarlaw12_ScrubDrops.l0])
    | succ k2 =>
     have H:=HA.out
     clear HA
     simp only [tollbarlaw12_ScrubDrops.l0] at H
     by_cases c13:x35_2 < (l0.length:Int)
     ·rw [if_pos c13] at H
      have c13b0:=decide_eq_true c13
      clear c13
      by_cases c14:0 ≤ x35_2;rotate_left
      ·rw [if_neg c14] at H
       exact absurd H zb65
      rw [if_pos c14] at H
      have c14b0:=decide_eq_true c14
      clear c14
      by_cases c15:x35_2 < (l0.length:Int)
      ·rw [if_pos c15] at H
       have c15b0:=decide_eq_true c15
       clear c15
       by_cases c16:((rdOf ByteArray.empty l0 x35_2).size:Int) > 30
       ·rw [if_pos c16] at H
        have c16b0:decide (30 < ((rdOf ByteArray.empty l0 x35_2).size:Int))=true:=decide_eq_true c16
        have c16b1:decide (30 < (rdOf ByteArray.empty l0 x35_2).size)=true:=decide_eq_true zb44
        clear c16
        obtain rfl:=Option.some.inj H
        have p839:0 ≤ (x35_2:Int):=of_decide_eq_true zb5
        have q839:x35_2 < (l0.length:Int):=of_decide_eq_true zb5
        obtain ⟨ad839,e839,hx839_0⟩:=Kd.at_string HR0.out x35_2 p839 q839
        cases e839
        replace hx839_0:=(HB.out.cell (World.block_lt_of_cell? w _ hx839_0)).trans hx839_0
        replace p839:=eq_true p839
        replace q839:=eq_true q839
        go_wp2
        go_ret
        exact ⟨zb2,zb24⟩
       rw [if_neg c16] at H
       have c16b0:decide (30 < ((rdOf ByteArray.empty l0 x35_2).size:Int))=false:=decide_eq_false c16
       have c16b1:decide (30 < (rdOf ByteArray.empty l0 x35_2).size)=false:=decide_eq_false zb44
       clear c16
       obtain ⟨y840,hy840⟩ : ∃ y_:List Int,y_=(([(wrap64 (97 + (Int.tmod x35_2 26))) % 256]:List Int)):=⟨_,rfl⟩
       replace H:(if x127_2.length < 4398046511104 then (tollbarlaw12_ScrubDrops.l0 k2 l1 l2 l0 (l0.length:Int) (wrap64 (x35_2 + 1)) (⟨#[71,69,84]⟩:ByteArray) (⟨#[47]⟩:ByteArray) 1 (x127_2 ++ [(⟨rdOf ByteArray.empty l0 x35_2,strOfNums y840⟩:S36)])) else (none))=some r:=by first|(rw [hy840];with_reducible exact H)|(have H2_:=(Option.bind_some _ _).symm.trans H;rw [hy840];with_reducible exact H2_)|(have H2_:=(Option.bind_some _ _).symm.trans H;with_reducible exact H2_)|with_reducible exact H|(rw [hy840];exact H)|exact H
       have Ny840:=Aside0.mk hy840
       clear hy840
       by_cases c17:x127_2.length < 4398046511104;rotate_left
       ·rw [if_neg c17] at H
        exact absurd H zb65
       rw [if_pos c17] at H
       have LMc17:=Aside0.mk c17
       clear c17
       obtain ⟨y843,hy843⟩ : ∃ y_:List (S36),y_=(x127_2 ++ [(⟨rdOf ByteArray.empty l0 x35_2,strOfNums y840⟩:S36)]):=⟨_,rfl⟩
       replace H:(tollbarlaw12_ScrubDrops.l0 k2 l1 l2 l0 (l0.length:Int) (wrap64 (x35_2 + 1)) (⟨#[71,69,84]⟩:ByteArray) (⟨#[47]⟩:ByteArray) 1 y843)=some r:=by first|(rw [hy843];with_reducible exact H)|(have H2_:=(Option.bind_some _ _).symm.trans H;rw [hy843];with_reducible exact H2_)|(have H2_:=(Option.bind_some _ _).symm.trans H;with_reducible exact H2_)|with_reducible exact H|(rw [hy843];exact H)|exact H
       have Ny843:=Aside0.mk hy843
       clear hy843
       have H' := Aside0.mk H
       clear H
       have p839:0 ≤ (x35_2:Int):=of_decide_eq_true zb5
       have q839:x35_2 < (l0.length:Int):=of_decide_eq_true zb5
       obtain ⟨ad839,e839,hx839_0⟩:=Kd.at_string HR0.out x35_2 p839 q839
       cases e839
       replace hx839_0:=(HB.out.cell (World.block_lt_of_cell? w _ hx839_0)).trans hx839_0
       replace p839:=eq_true p839
       replace q839:=eq_true q839
       obtain ⟨hcz18_0,hcz18_1,hcz18_2,hcz18_3,hcz18_4,hfz18_0,hfz18_1,hfz18_2,hfz18_3,hfz18_4⟩:=zq5 BK838.out
       go_wp2_with (first|((with_reducible refine gate_dst (N:=50) rfl ?_);(try (refine gate_guard zb64 ?_;dsimp only));refine Kd.R_lit (Kd.int .u8) _ 5 ?hg (N:=50) ?hd (xs:=([(wrap64 (97 + (Int.tmod x35_2 26))) % 256]:List Int)) (inner:=[.int .u8 ((wrap64 (97 + (Int.tmod x35_2 26))) % 256)]) (ok:=fun _=>True) (okp:=fun _=>True) ?hr ?hp (fun _ hk=>hk) trivial (Below.refl _ _) (Nat.le_refl _) zb65 ?_;(case hd=>rfl);(case hg=>rfl);(case hr=>first|(go_simp;done)|(go_simp;rfl));(case hp=>exact (Reps.one (show Kd.M (Kd.int .u8) _ _ _ ((wrap64 (97 + (Int.tmod x35_2 26))) % 256) [.int .u8 ((wrap64 (97 + (Int.tmod x35_2 26))) % 256)] from rfl) (Reps.none _ _)));intro v841 w19 ho20 hb hg_ hnew_;clear hg_ hnew_;(first|rw [← Ny840.out] at ho20|(simp only [Int.reduceToNat] at ho20;rw [← Ny840.out] at ho20));replace HO_127:=Aside0.mk (Kd.R_below zb19 hb);have HO842:=Aside0.mk (Kd.R_lower ho20 (below_size zb24));replace BK838:=Aside0.mk (blk_below (g:=gb838) (o:=.cells #[.string (⟨#[71,69,84]⟩:ByteArray),.string (⟨#[47]⟩:ByteArray),.int .i64 1,u127,.slice none 0 0] 26 (0,0)) zb8 hb);replace HB:=Aside0.mk (below_step zb24 hb);clear hb ho20;have hcv21:=own_string (P:=Tryz.prog) Tryz.underlying22 Tryz.underlying5 Tryz.underlying9 (Kd.own_of_R HO842.out))|((with_reducible refine gate_builtin (b:=.append) (xs:=#[.tmp 44,.tmp 53]) rfl ?_);(try (refine gate_guard zb64 ?_;dsimp only));at_builtin;refine Kd.R_append k36 (w0:=w) w.heap.size rfl (.tmp 44) (.tmp 53) 24 36 (.agg #[(.string ⟨#[]⟩),(.string ⟨#[]⟩)]) 32 rfl Tryz.underlying24 info36 rfl zb43 zb44 u127 x127_2 (⟨rdOf ByteArray.empty l0 x35_2,strOfNums y840⟩:S36) [.string (rdOf ByteArray.empty l0 x35_2),.string (strOfNums y840)] (fun _=>True) (fun _=>False) rfl rfl ?aP (fun _ hk=>hk.elim) ?aF ?aO ?aB ?aS ?aL ?_;(case aP=>exact k36_mkM _ _ _ (⟨rdOf ByteArray.empty l0 x35_2,strOfNums y840⟩:S36));(case aB=>exact zb24);(case aF=>exact (fun _ _=>trivial));(case aO=>exact zb19);(case aS=>exact (below_size zb24));(case aL=>have:=LMc17.out;omega);intro v844 w22 ho hb hg hat;rw [← Ny843.out] at ho;replace BK838:=Aside0.mk (blk_grown (g:=gb838) (o:=.cells #[.string (⟨#[71,69,84]⟩:ByteArray),.string (⟨#[47]⟩:ByteArray),.int .i64 1,u127,.slice none 0 0] 26 (0,0)) zb8 hg (Kd.R_ne HO_127.out BK838.out zb43));replace HO842:=Aside0.mk (Kd.R_over' (by (with_reducible repeat (first|apply Kd.R_alloc|apply Kd.R_drewN|apply Kd.R_drew));exact HO842.out) (Kd.R_typed zb19) zb43 hg);replace HB:=Aside0.mk (hb);have HO845:=Aside0.mk (ho);clear ho hb hg hat;obtain ⟨Ao23,co23,eo23⟩:=Kd.R_slice HO845.out;subst eo23;obtain ⟨hcz24_0,hcz24_1,hcz24_2,hcz24_3,hcz24_4,hfz24_0,hfz24_1,hfz24_2,hfz24_3,hfz24_4⟩:=zq5 BK838.out))
       go_roundg k2
       case measure=>have:=HJ5.out;have:=HK2.out;omega
       case rel=>exact ⟨(wrap64 (x35_2 + 1)),(y843),(.slice Ao23 y843.length co23),zb6,H',⟨by have:=HJ5.out;have:=HK2.out;omega⟩,⟨by (with_reducible repeat (first|apply Kd.R_alloc|apply Kd.R_drewN|apply Kd.R_drew));exact Kd.R_mono (Kd.R_far (p:=⟨gb838,3,none⟩) (Kd.R_types HO845.out BK838.out (by decide)) (fun _ hk=>hk.2) (.slice Ao23 y843.length co23)) (fun _ hk=>trivial)⟩,⟨by (with_reducible repeat (first|refine blk_drewN ?_ _|refine blk_drew ?_|refine blk_alloc ?_ _));refine blk_put (cs:=#[.string (⟨#[71,69,84]⟩:ByteArray),.string (⟨#[47]⟩:ByteArray),.int .i64 1,u127,.slice none 0 0]) ?_ 3 _ rfl;(with_reducible repeat (first|refine blk_drewN ?_ _|refine blk_drew ?_|refine blk_alloc ?_ _));exact BK838.out⟩,⟨zb24⟩⟩
      ·rw [if_neg c15] at H
       exact absurd H zb65
     rw [if_neg c13] at H
     have c13b0:=decide_eq_false c13
     clear c13
     replace H:=Option.bind_eq_some_iff.mp H
     obtain ⟨⟨t846,t849,t852,t855,t858,t859,t860,t861⟩,A250,H⟩:=H
     try dsimp only at H
     have A25:=Aside0.mk A250
     clear A250
     have H' := Aside0.mk H
     clear H
     go_wp2_with (first|((with_reducible refine gate_callee (f:=38) rfl ?_);refine goesL_ (some 57) rfl rfl Tryz.func38 zb10 rfl #[] rfl zb1 ?_;(with_reducible refine (conf_Default.calls  t846 t849 t852 t855 t858 t859 t860 t861 _ A25.out).mono ?_);rintro e w26 ⟨v847,v850,v853,v856,rfl,ho0,ho1,ho2,ho3,hb⟩;(try clear A25);refine ⟨_,rfl,?_⟩;have HO848:=Aside0.mk (Kd.S_lower ho0 (below_size zb24));have HO851:=Aside0.mk (Kd.R_lower ho1 (below_size zb24));have HO854:=Aside0.mk (Kd.R_lower (Kd.R_new' ho2 (Kd.R_lt zb19)) (below_size zb24));replace HO_127:=Aside0.mk (Kd.R_elder' zb19 (Kd.R_base ho2) hb);have HO857:=Aside0.mk (Kd.R_lower ho3 (below_size zb24));replace BK838:=Aside0.mk (blk_below (g:=gb838) (o:=.cells #[.string (⟨#[71,69,84]⟩:ByteArray),.string (⟨#[47]⟩:ByteArray),.int .i64 1,u127,.slice none 0 0] 26 (0,0)) zb8 hb);replace HB:=Aside0.mk (below_step zb24 hb);try clear hb ho0 ho1 ho2 ho3)|((with_reducible refine gate_dst (N:=10) rfl ?_);(try (refine gate_guard zb64 ?_;dsimp only));refine box_event rfl (N:=10) rfl (cs:=#[.slice none 0 0,.slice none 0 0,.slice none 0 0,.slice none 0 0,.int .i64 0,.int .i64 0,.int .i64 0,.int .i64 0]) (t:=46) zS ?_;intro gb862 hg w27 hbox hb;replace HO_127:=Aside0.mk (Kd.R_below zb19 hb);replace HO848:=Aside0.mk (Kd.S_below (by (with_reducible repeat (first|apply Kd.S_alloc|apply Kd.S_drewN|apply Kd.S_drew));exact HO848.out) hb);replace HO851:=Aside0.mk (Kd.R_below (by (with_reducible repeat (first|apply Kd.R_alloc|apply Kd.R_drewN|apply Kd.R_drew));exact HO851.out) hb);replace HO854:=Aside0.mk (Kd.R_below (by (with_reducible repeat (first|apply Kd.R_alloc|apply Kd.R_drewN|apply Kd.R_drew));exact HO854.out) hb);replace HO857:=Aside0.mk (Kd.R_below (by (with_reducible repeat (first|apply Kd.R_alloc|apply Kd.R_drewN|apply Kd.R_drew));exact HO857.out) hb);have BK862:=Aside0.mk (hbox);have GW862:=zG hg zb24;have GE862:=GW862;replace HB:=Aside0.mk (below_step zb24 hb);have NB838_862:=Aside0.mk ((by rw [hg];exact Nat.ne_of_lt (blk_lt (g:=gb838) (o:=.cells #[.string (⟨#[71,69,84]⟩:ByteArray),.string (⟨#[47]⟩:ByteArray),.int .i64 1,u127,.slice none 0 0] 26 (0,0)) zb8):gb838 ≠ gb862));have NB862_838:=Aside0.mk ((by rw [hg];exact Nat.ne_of_gt (blk_lt (g:=gb838) (o:=.cells #[.string (⟨#[71,69,84]⟩:ByteArray),.string (⟨#[47]⟩:ByteArray),.int .i64 1,u127,.slice none 0 0] 26 (0,0)) zb8):gb862 ≠ gb838));replace BK838:=Aside0.mk (blk_below (g:=gb838) (o:=.cells #[.string (⟨#[71,69,84]⟩:ByteArray),.string (⟨#[47]⟩:ByteArray),.int .i64 1,u127,.slice none 0 0] 26 (0,0)) zb8 hb);clear hb hbox hg;obtain ⟨Ao28,co28,eo28⟩:=Kd.S_slice HO848.out;subst eo28;have hnb29:=NB862_838.out;have hnc29:=NB838_862.out;have hcz30_0:w27.cell? ⟨gb862,0,none⟩=some (.slice none 0 0):=(blk_cell BK862.out 0).trans rfl;have hcz30_1:w27.cell? ⟨gb862,1,none⟩=some (.slice none 0 0):=(blk_cell BK862.out 1).trans rfl;have hcz30_2:w27.cell? ⟨gb862,2,none⟩=some (.slice none 0 0):=(blk_cell BK862.out 2).trans rfl;have hcz30_3:w27.cell? ⟨gb862,3,none⟩=some (.slice none 0 0):=(blk_cell BK862.out 3).trans rfl;have hcz30_4:w27.cell? ⟨gb862,4,none⟩=some (.int .i64 0):=(blk_cell BK862.out 4).trans rfl;have hcz30_5:w27.cell? ⟨gb862,5,none⟩=some (.int .i64 0):=(blk_cell BK862.out 5).trans rfl;have hcz30_6:w27.cell? ⟨gb862,6,none⟩=some (.int .i64 0):=(blk_cell BK862.out 6).trans rfl;have hcz30_7:w27.cell? ⟨gb862,7,none⟩=some (.int .i64 0):=(blk_cell BK862.out 7).trans rfl;have hfz30_0:=blk_frozen BK862.out 0;have hfz30_1:=blk_frozen BK862.out 1;have hfz30_2:=blk_frozen BK862.out 2;have hfz30_3:=blk_frozen BK862.out 3;have hfz30_4:=blk_frozen BK862.out 4;have hfz30_5:=blk_frozen BK862.out 5;have hfz30_6:=blk_frozen BK862.out 6;have hfz30_7:=blk_frozen BK862.out 7;obtain ⟨Ao31,co31,eo31⟩:=Kd.R_slice HO851.out;subst eo31;obtain ⟨Ao32,co32,eo32⟩:=Kd.R_slice HO854.out;subst eo32;obtain ⟨Ao33,co33,eo33⟩:=Kd.R_slice HO857.out;subst eo33))
     go_loopg [62] k2 (fun kq v62 w' => ∃ (x62_3:Int) (x863002_3:List (S36)) (u863002:Value),v62 = .int .i64 x62_3∧Aside0 (tollbarlaw12_ScrubDrops.l1 kq l1 l2 l2 (l2.length:Int) x62_3 (⟨#[71,69,84]⟩:ByteArray) (⟨#[47]⟩:ByteArray) 1 x127_2 t846 t849 x863002_3 l1 t858 t859 t860 t861=some r)∧Aside0 (kq ≤ k2)∧Aside0 (Kd.R k36 36 w' w.heap.size (fun k_=>some k_ ≠ (u863002:Value).ownBlock) u127 x127_2)∧Aside0 (Kd.S k83 83 w' w.heap.size (fun _=>True) (.slice Ao28 t846.length co28) t846)∧Aside0 (Kd.R k85 85 w' w.heap.size (fun _=>True) (.slice Ao31 t849.length co31) t849)∧Aside0 (Kd.R k36 36 w' w.heap.size (fun k_=>some k_ ≠ (u127:Value).ownBlock) u863002 x863002_3)∧Aside0 (w'.heap[gb838]? = some (.cells #[.string (⟨#[71,69,84]⟩:ByteArray),.string (⟨#[47]⟩:ByteArray),.int .i64 1,u127,(.slice none 0 0)] 26 (0,0)))∧Aside0 (w'.heap[gb862]? = some (.cells #[(.slice Ao28 t846.length co28),(.slice Ao31 t849.length co31),u863002,(.slice A1 l1.length c1),.int .i64 t858,.int .i64 t859,.int .i64 t860,.int .i64 t861] 46 (0,0)))∧Aside0 (Below w.heap.size w w'))
     case atStart=>exact ⟨(0),(t852),(.slice Ao32 t852.length co32),zb6,H',⟨Nat.le_refl _⟩,⟨by (with_reducible repeat (first|apply Kd.R_alloc|apply Kd.R_drewN|apply Kd.R_drew));exact Kd.R_mono (Kd.R_far (p:=⟨gb862,3,none⟩) (Kd.R_far (p:=⟨gb862,7,none⟩) (Kd.R_far (p:=⟨gb862,6,none⟩) (Kd.R_far (p:=⟨gb862,5,none⟩) (Kd.R_far (p:=⟨gb862,4,none⟩) (Kd.R_far (p:=⟨gb862,3,none⟩) (Kd.R_far (p:=⟨gb862,2,none⟩) (Kd.R_far (p:=⟨gb862,1,none⟩) (Kd.R_far (p:=⟨gb862,0,none⟩) (Kd.R_types HO_127.out BK862.out (by decide)) (fun _ hk=>hk.2) (.slice Ao28 t846.length co28)) (fun _ hk=>hk.2) (.slice Ao31 t849.length co31)) (fun _ hk=>hk.2) (.slice Ao32 t852.length co32)) (fun _ hk=>hk.2) (.slice Ao33 t855.length co33)) (fun _ hk=>hk.2) (.int .i64 t858)) (fun _ hk=>hk.2) (.int .i64 t859)) (fun _ hk=>hk.2) (.int .i64 t860)) (fun _ hk=>hk.2) (.int .i64 t861)) (fun _ hk=>hk.2) (.slice A1 l1.length c1)) (fun _ hk=>hk.1.2)⟩,⟨by (with_reducible repeat (first|apply Kd.S_alloc|apply Kd.S_drewN|apply Kd.S_drew));exact Kd.S_mono (Kd.S_far (p:=⟨gb862,3,none⟩) (Kd.S_far (p:=⟨gb862,7,none⟩) (Kd.S_far (p:=⟨gb862,6,none⟩) (Kd.S_far (p:=⟨gb862,5,none⟩) (Kd.S_far (p:=⟨gb862,4,none⟩) (Kd.S_far (p:=⟨gb862,3,none⟩) (Kd.S_far (p:=⟨gb862,2,none⟩) (Kd.S_far (p:=⟨gb862,1,none⟩) (Kd.S_far (p:=⟨gb862,0,none⟩) (Kd.S_types HO848.out BK862.out (by decide)) (fun _ hk=>hk.2) (.slice Ao28 t846.length co28)) (fun _ hk=>hk.2) (.slice Ao31 t849.length co31)) (fun _ hk=>hk.2) (.slice Ao32 t852.length co32)) (fun _ hk=>hk.2) (.slice Ao33 t855.length co33)) (fun _ hk=>hk.2) (.int .i64 t858)) (fun _ hk=>hk.2) (.int .i64 t859)) (fun _ hk=>hk.2) (.int .i64 t860)) (fun _ hk=>hk.2) (.int .i64 t861)) (fun _ hk=>hk.2) (.slice A1 l1.length c1)) (fun _ hk=>trivial)⟩,⟨by (with_reducible repeat (first|apply Kd.R_alloc|apply Kd.R_drewN|apply Kd.R_drew));exact Kd.R_mono (Kd.R_far (p:=⟨gb862,3,none⟩) (Kd.R_far (p:=⟨gb862,7,none⟩) (Kd.R_far (p:=⟨gb862,6,none⟩) (Kd.R_far (p:=⟨gb862,5,none⟩) (Kd.R_far (p:=⟨gb862,4,none⟩) (Kd.R_far (p:=⟨gb862,3,none⟩) (Kd.R_far (p:=⟨gb862,2,none⟩) (Kd.R_far (p:=⟨gb862,1,none⟩) (Kd.R_far (p:=⟨gb862,0,none⟩) (Kd.R_types HO851.out BK862.out (by decide)) (fun _ hk=>hk.2) (.slice Ao28 t846.length co28)) (fun _ hk=>hk.2) (.slice Ao31 t849.length co31)) (fun _ hk=>hk.2) (.slice Ao32 t852.length co32)) (fun _ hk=>hk.2) (.slice Ao33 t855.length co33)) (fun _ hk=>hk.2) (.int .i64 t858)) (fun _ hk=>hk.2) (.int .i64 t859)) (fun _ hk=>hk.2) (.int .i64 t860)) (fun _ hk=>hk.2) (.int .i64 t861)) (fun _ hk=>hk.2) (.slice A1 l1.length c1)) (fun _ hk=>trivial)⟩,⟨by (with_reducible repeat (first|apply Kd.R_alloc|apply Kd.R_drewN|apply Kd.R_drew));exact Kd.R_mono (Kd.R_far (p:=⟨gb862,3,none⟩) (Kd.R_far (p:=⟨gb862,7,none⟩) (Kd.R_far (p:=⟨gb862,6,none⟩) (Kd.R_far (p:=⟨gb862,5,none⟩) (Kd.R_far (p:=⟨gb862,4,none⟩) (Kd.R_far (p:=⟨gb862,3,none⟩) (Kd.R_far (p:=⟨gb862,2,none⟩) (Kd.R_far (p:=⟨gb862,1,none⟩) (Kd.R_far (p:=⟨gb862,0,none⟩) (Kd.R_types HO854.out BK862.out (by decide)) (fun _ hk=>hk.2) (.slice Ao28 t846.length co28)) (fun _ hk=>hk.2) (.slice Ao31 t849.length co31)) (fun _ hk=>hk.2) (.slice Ao32 t852.length co32)) (fun _ hk=>hk.2) (.slice Ao33 t855.length co33)) (fun _ hk=>hk.2) (.int .i64 t858)) (fun _ hk=>hk.2) (.int .i64 t859)) (fun _ hk=>hk.2) (.int .i64 t860)) (fun _ hk=>hk.2) (.int .i64 t861)) (fun _ hk=>hk.2) (.slice A1 l1.length c1)) (fun _ hk=>hk.1.2)⟩,⟨by (with_reducible repeat (first|refine blk_drewN ?_ _|refine blk_drew ?_|refine blk_alloc ?_ _));refine blk_far ?_ NB838_862.out _;(with_reducible repeat (first|refine blk_drewN ?_ _|refine blk_drew ?_|refine blk_alloc ?_ _));refine blk_far ?_ NB838_862.out _;(with_reducible repeat (first|refine blk_drewN ?_ _|refine blk_drew ?_|refine blk_alloc ?_ _));refine blk_far ?_ NB838_862.out _;(with_reducible repeat (first|refine blk_drewN ?_ _|refine blk_drew ?_|refine blk_alloc ?_ _));refine blk_far ?_ NB838_862.out _;(with_reducible repeat (first|refine blk_drewN ?_ _|refine blk_drew ?_|refine blk_alloc ?_ _));refine blk_far ?_ NB838_862.out _;(with_reducible repeat (first|refine blk_drewN ?_ _|refine blk_drew ?_|refine blk_alloc ?_ _));refine blk_far ?_ NB838_862.out _;(with_reducible repeat (first|refine blk_drewN ?_ _|refine blk_drew ?_|refine blk_alloc ?_ _));refine blk_far ?_ NB838_862.out _;(with_reducible repeat (first|refine blk_drewN ?_ _|refine blk_drew ?_|refine blk_alloc ?_ _));refine blk_far ?_ NB838_862.out _;(with_reducible repeat (first|refine blk_drewN ?_ _|refine blk_drew ?_|refine blk_alloc ?_ _));refine blk_far ?_ NB838_862.out _;(with_reducible repeat (first|refine blk_drewN ?_ _|refine blk_drew ?_|refine blk_alloc ?_ _));exact BK838.out⟩,⟨by (with_reducible repeat (first|refine blk_drewN ?_ _|refine blk_drew ?_|refine blk_alloc ?_ _));refine blk_put (cs:=#[.slice Ao28 t846.length co28,.slice Ao31 t849.length co31,.slice Ao32 t852.length co32,.slice Ao33 t855.length co33,.int .i64 t858,.int .i64 t859,.int .i64 t860,.int .i64 t861]) ?_ 3 _ rfl;(with_reducible repeat (first|refine blk_drewN ?_ _|refine blk_drew ?_|refine blk_alloc ?_ _));refine blk_put (cs:=#[.slice Ao28 t846.length co28,.slice Ao31 t849.length co31,.slice Ao32 t852.length co32,.slice Ao33 t855.length co33,.int .i64 t858,.int .i64 t859,.int .i64 t860,.int .i64 0]) ?_ 7 _ rfl;(with_reducible repeat (first|refine blk_drewN ?_ _|refine blk_drew ?_|refine blk_alloc ?_ _));refine blk_put (cs:=#[.slice Ao28 t846.length co28,.slice Ao31 t849.length co31,.slice Ao32 t852.length co32,.slice Ao33 t855.length co33,.int .i64 t858,.int .i64 t859,.int .i64 0,.int .i64 0]) ?_ 6 _ rfl;(with_reducible repeat (first|refine blk_drewN ?_ _|refine blk_drew ?_|refine blk_alloc ?_ _));refine blk_put (cs:=#[.slice Ao28 t846.length co28,.slice Ao31 t849.length co31,.slice Ao32 t852.length co32,.slice Ao33 t855.length co33,.int .i64 t858,.int .i64 0,.int .i64 0,.int .i64 0]) ?_ 5 _ rfl;(with_reducible repeat (first|refine blk_drewN ?_ _|refine blk_drew ?_|refine blk_alloc ?_ _));refine blk_put (cs:=#[.slice Ao28 t846.length co28,.slice Ao31 t849.length co31,.slice Ao32 t852.length co32,.slice Ao33 t855.length co33,.int .i64 0,.int .i64 0,.int .i64 0,.int .i64 0]) ?_ 4 _ rfl;(with_reducible repeat (first|refine blk_drewN ?_ _|refine blk_drew ?_|refine blk_alloc ?_ _));refine blk_put (cs:=#[.slice Ao28 t846.length co28,.slice Ao31 t849.length co31,.slice Ao32 t852.length co32,.slice none 0 0,.int .i64 0,.int .i64 0,.int .i64 0,.int .i64 0]) ?_ 3 _ rfl;(with_reducible repeat (first|refine blk_drewN ?_ _|refine blk_drew ?_|refine blk_alloc ?_ _));refine blk_put (cs:=#[.slice Ao28 t846.length co28,.slice Ao31 t849.length co31,.slice none 0 0,.slice none 0 0,.int .i64 0,.int .i64 0,.int .i64 0,.int .i64 0]) ?_ 2 _ rfl;(with_reducible repeat (first|refine blk_drewN ?_ _|refine blk_drew ?_|refine blk_alloc ?_ _));refine blk_put (cs:=#[.slice Ao28 t846.length co28,.slice none 0 0,.slice none 0 0,.slice none 0 0,.int .i64 0,.int .i64 0,.int .i64 0,.int .i64 0]) ?_ 1 _ rfl;(with_reducible repeat (first|refine blk_drewN ?_ _|refine blk_drew ?_|refine blk_alloc ?_ _));refine blk_put (cs:=#[.slice none 0 0,.slice none 0 0,.slice none 0 0,.slice none 0 0,.int .i64 0,.int .i64 0,.int .i64 0,.int .i64 0]) ?_ 0 _ rfl;(with_reducible repeat (first|refine blk_drewN ?_ _|refine blk_drew ?_|refine blk_alloc ?_ _));exact BK862.out⟩,⟨zb23⟩⟩
     case round =>
      clear H'
      try clear c1
      try clear c2
      try clear p2
      try clear hcv2
      try clear c3
      try clear c5
      try clear p6
      try clear c7
      try clear c8
      try clear c8b0
      try clear c8b1
      try clear p8
      try clear q8
      try clear hx8
      try clear c9
      try clear c9b0
      try clear c9b1
      try clear c10
      try clear c13
      try clear c13b0
      try clear c14
      try clear c14b0
      try clear c15
      try clear c15b0
      try clear c16
      try clear c16b0
      try clear c16b1
      try clear c17
      try clear hcv21
      try clear c27
      try clear c29
      try clear hcz12_0
      try clear hcz12_1
      try clear hcz12_2
      try clear hcz12_3
      try clear hcz12_4
      try clear hcz18_0
      try clear hcz18_1
      try clear hcz18_2
      try clear hcz18_3
      try clear hcz18_4
      try clear hcz24_0
      try clear hcz24_1
      try clear hcz24_2
      try clear hcz24_3
      try clear hcz24_4
      try clear hcz30_0
      try clear hcz30_1
      try clear hcz30_2
      try clear hcz30_3
      try clear hcz30_4
      try clear hcz30_5
      try clear hcz30_6
      try clear hcz30_7
      try clear hfz12_0
      try clear hfz12_1
      try clear hfz12_2
      try clear hfz12_3
      try clear hfz12_4
      try clear hfz18_0
      try clear hfz18_1
      try clear hfz18_2
      try clear hfz18_3
      try clear hfz18_4
      try clear hfz24_0
      try clear hfz24_1
      try clear hfz24_2
      try clear hfz24_3
      try clear hfz24_4
      try clear hfz30_0
      try clear hfz30_1
      try clear hfz30_2
      try clear hfz30_3
      try clear hfz30_4
      try clear hfz30_5
      try clear hfz30_6
      try clear hfz30_7
      try clear hx839_0
      try clear p2
      try clear p839
      try clear q839
      obtain ⟨x62_3,x863002_3,u863002,rfl,HA,HK3,HO_127,HO_863000,HO_863001,HO_863002,BK838,BK862,HB⟩:=hrel
      cases gk with
      | zero=>exact absurd HA.out (by simp [tollbarlaw12_ScrubDrops.l1])
      | succ k3 =>
       have H:=HA.out
       clear HA
       simp only [tollbarlaw12_ScrubDrops.l1] at H
       by_cases c34:x62_3 < (l2.length:Int)
       ·rw [if_pos c34] at H
        have c34b0:=decide_eq_true c34
        clear c34
        by_cases c35:0 ≤ x62_3;rotate_left
        ·rw [if_neg c35] at H
         exact absurd H zb65
        rw [if_pos c35] at H
        have c35b0:=decide_eq_true c35
        clear c35
        by_cases c36:x62_3 < (l2.length:Int)
        ·rw [if_pos c36] at H
         have c36b0:=decide_eq_true c36
         clear c36
         by_cases c37:x863002_3.length < 4398046511104;rotate_left
         ·rw [if_neg c37] at H
          exact absurd H zb65
         rw [if_pos c37] at H
         have LMc37:=Aside0.mk c37
         clear c37
         obtain ⟨y864,hy864⟩ : ∃ y_:List (S36),y_=(x863002_3 ++ [(⟨rdOf ByteArray.empty l2 x62_3,(⟨#[115,101,116]⟩:ByteArray)⟩:S36)]):=⟨_,rfl⟩
         replace H:(tollbarlaw12_ScrubDrops.l1 k3 l1 l2 l2 (l2.length:Int) (wrap64 (x62_3 + 1)) (⟨#[71,69,84]⟩:ByteArray) (⟨#[47]⟩:ByteArray) 1 x127_2 t846 t849 y864 l1 t858 t859 t860 t861)=some r:=by first|(rw [hy864];with_reducible exact H)|(have H2_:=(Option.bind_some _ _).symm.trans H;rw [hy864];with_reducible exact H2_)|(have H2_:=(Option.bind_some _ _).symm.trans H;with_reducible exact H2_)|with_reducible exact H|(rw [hy864];exact H)|exact H
         have Ny864:=Aside0.mk hy864
         clear hy864
         have H' := Aside0.mk H
         clear H
         have p863:0 ≤ (x62_3:Int):=of_decide_eq_true zb5
         have q863:x62_3 < (l2.length:Int):=of_decide_eq_true zb5
         obtain ⟨ad863,e863,hx863_0⟩:=Kd.at_string HR2.out x62_3 p863 q863
         cases e863
         replace hx863_0:=(HB.out.cell (World.block_lt_of_cell? w _ hx863_0)).trans hx863_0
         replace p863:=eq_true p863
         replace q863:=eq_true q863
         have hnb38:=NB862_838.out
         have hnc38:=NB838_862.out
         have hcz39_0:wr.cell? ⟨gb862,0,none⟩=some (.slice Ao28 t846.length co28):=(blk_cell BK862.out 0).trans rfl
         have hcz39_1:wr.cell? ⟨gb862,1,none⟩=some (.slice Ao31 t849.length co31):=(blk_cell BK862.out 1).trans rfl
         have hcz39_2:wr.cell? ⟨gb862,2,none⟩=some (u863002):=(blk_cell BK862.out 2).trans rfl
         have hcz39_3:wr.cell? ⟨gb862,3,none⟩=some (.slice A1 l1.length c1):=(blk_cell BK862.out 3).trans rfl
         have hcz39_4:wr.cell? ⟨gb862,4,none⟩=some (.int .i64 t858):=(blk_cell BK862.out 4).trans rfl
         have hcz39_5:wr.cell? ⟨gb862,5,none⟩=some (.int .i64 t859):=(blk_cell BK862.out 5).trans rfl
         have hcz39_6:wr.cell? ⟨gb862,6,none⟩=some (.int .i64 t860):=(blk_cell BK862.out 6).trans rfl
         have hcz39_7:wr.cell? ⟨gb862,7,none⟩=some (.int .i64 t861):=(blk_cell BK862.out 7).trans rfl
         have hfz39_0:=blk_frozen BK862.out 0
         have hfz39_1:=blk_frozen BK862.out 1
         have hfz39_2:=blk_frozen BK862.out 2
         have hfz39_3:=blk_frozen BK862.out 3
         have hfz39_4:=blk_frozen BK862.out 4
         have hfz39_5:=blk_frozen BK862.out 5
         have hfz39_6:=blk_frozen BK862.out 6
         have hfz39_7:=blk_frozen BK862.out 7
         go_wp2_with (first|((with_reducible refine gate_builtin (b:=.append) (xs:=#[.tmp 67,.tmp 70]) rfl ?_);(try (refine gate_guard zb64 ?_;dsimp only));at_builtin;refine Kd.R_append k36 (w0:=w) w.heap.size rfl (.tmp 67) (.tmp 70) 24 36 (.agg #[(.string ⟨#[]⟩),(.string ⟨#[]⟩)]) 32 rfl Tryz.underlying24 info36 rfl zb43 zb44 u863002 x863002_3 (⟨rdOf ByteArray.empty l2 x62_3,(⟨#[115,101,116]⟩:ByteArray)⟩:S36) [.string (rdOf ByteArray.empty l2 x62_3),.string (⟨#[115,101,116]⟩:ByteArray)] (fun k_=>some k_ ≠ (u127:Value).ownBlock) (fun _=>False) rfl rfl ?aP (fun _ hk=>hk.elim) ?aF ?aO ?aB ?aS ?aL ?_;(case aP=>exact k36_mkM _ _ _ (⟨rdOf ByteArray.empty l2 x62_3,(⟨#[115,101,116]⟩:ByteArray)⟩:S36));(case aB=>exact zb23);(case aF=>exact (fun k_ hk=>Kd.fresh' (Kd.R_lt zb19) k_ hk));(case aO=>exact zb25);(case aS=>exact (below_size zb23));(case aL=>have:=LMc37.out;omega);intro v865 w40 ho hb hg hat;rw [← Ny864.out] at ho;replace HO_127:=Aside0.mk (Kd.R_after (ok:=(fun _=>True)) (by (with_reducible repeat (first|apply Kd.R_alloc|apply Kd.R_drewN|apply Kd.R_drew));exact Kd.R_mono HO_127.out (fun _ hk=>⟨trivial,hk⟩)) hg hat);replace HO_863000:=Aside0.mk (Kd.S_over' zb21 (Kd.R_typed zb25) zb43 hg);replace HO_863001:=Aside0.mk (Kd.R_over' zb22 (Kd.R_typed zb25) zb43 hg);replace BK838:=Aside0.mk (blk_grown (g:=gb838) (o:=.cells #[.string (⟨#[71,69,84]⟩:ByteArray),.string (⟨#[47]⟩:ByteArray),.int .i64 1,u127,.slice none 0 0] 26 (0,0)) zb8 hg (Kd.R_ne HO_863002.out BK838.out zb43));replace BK862:=Aside0.mk (blk_grown (g:=gb862) (o:=.cells #[.slice Ao28 t846.length co28,.slice Ao31 t849.length co31,u863002,.slice A1 l1.length c1,.int .i64 t858,.int .i64 t859,.int .i64 t860,.int .i64 t861] 46 (0,0)) zb13 hg (Kd.R_ne HO_863002.out BK862.out zb43));replace HB:=Aside0.mk (hb);have HO866:=Aside0.mk (ho);clear ho hb hg hat;obtain ⟨Ao41,co41,eo41⟩:=Kd.R_slice HO866.out;subst eo41;have hcz42_0:w40.cell? ⟨gb862,0,none⟩=some (.slice Ao28 t846.length co28):=(blk_cell BK862.out 0).trans rfl;have hcz42_1:w40.cell? ⟨gb862,1,none⟩=some (.slice Ao31 t849.length co31):=(blk_cell BK862.out 1).trans rfl;have hcz42_2:w40.cell? ⟨gb862,2,none⟩=some (u863002):=(blk_cell BK862.out 2).trans rfl;have hcz42_3:w40.cell? ⟨gb862,3,none⟩=some (.slice A1 l1.length c1):=(blk_cell BK862.out 3).trans rfl;have hcz42_4:w40.cell? ⟨gb862,4,none⟩=some (.int .i64 t858):=(blk_cell BK862.out 4).trans rfl;have hcz42_5:w40.cell? ⟨gb862,5,none⟩=some (.int .i64 t859):=(blk_cell BK862.out 5).trans rfl;have hcz42_6:w40.cell? ⟨gb862,6,none⟩=some (.int .i64 t860):=(blk_cell BK862.out 6).trans rfl;have hcz42_7:w40.cell? ⟨gb862,7,none⟩=some (.int .i64 t861):=(blk_cell BK862.out 7).trans rfl;have hfz42_0:=blk_frozen BK862.out 0;have hfz42_1:=blk_frozen BK862.out 1;have hfz42_2:=blk_frozen BK862.out 2;have hfz42_3:=blk_frozen BK862.out 3;have hfz42_4:=blk_frozen BK862.out 4;have hfz42_5:=blk_frozen BK862.out 5;have hfz42_6:=blk_frozen BK862.out 6;have hfz42_7:=blk_frozen BK862.out 7))
         go_roundg k3
         case measure=>have:=HJ5.out;have:=HK2.out;have:=HK3.out;omega
         case rel=>exact ⟨(wrap64 (x62_3 + 1)),(y864),(.slice Ao41 y864.length co41),zb6,H',⟨by have:=HJ5.out;have:=HK2.out;have:=HK3.out;omega⟩,⟨by (with_reducible repeat (first|apply Kd.R_alloc|apply Kd.R_drewN|apply Kd.R_drew));exact Kd.R_mono (Kd.R_far (p:=⟨gb862,2,none⟩) (Kd.R_types HO_127.out BK862.out (by decide)) (fun _ hk=>hk.2) (.slice Ao41 y864.length co41)) (fun _ hk=>hk.1.2)⟩,⟨by (with_reducible repeat (first|apply Kd.S_alloc|apply Kd.S_drewN|apply Kd.S_drew));exact Kd.S_mono (Kd.S_far (p:=⟨gb862,2,none⟩) (Kd.S_types HO_863000.out BK862.out (by decide)) (fun _ hk=>hk.2) (.slice Ao41 y864.length co41)) (fun _ hk=>trivial)⟩,⟨by (with_reducible repeat (first|apply Kd.R_alloc|apply Kd.R_drewN|apply Kd.R_drew));exact Kd.R_mono (Kd.R_far (p:=⟨gb862,2,none⟩) (Kd.R_types HO_863001.out BK862.out (by decide)) (fun _ hk=>hk.2) (.slice Ao41 y864.length co41)) (fun _ hk=>trivial)⟩,⟨by (with_reducible repeat (first|apply Kd.R_alloc|apply Kd.R_drewN|apply Kd.R_drew));exact Kd.R_mono (Kd.R_far (p:=⟨gb862,2,none⟩) (Kd.R_types HO866.out BK862.out (by decide)) (fun _ hk=>hk.2) (.slice Ao41 y864.length co41)) (fun _ hk=>hk.1)⟩,⟨by (with_reducible repeat (first|refine blk_drewN ?_ _|refine blk_drew ?_|refine blk_alloc ?_ _));refine blk_far ?_ NB838_862.out _;(with_reducible repeat (first|refine blk_drewN ?_ _|refine blk_drew ?_|refine blk_alloc ?_ _));exact BK838.out⟩,⟨by (with_reducible repeat (first|refine blk_drewN ?_ _|refine blk_drew ?_|refine blk_alloc ?_ _));refine blk_put (cs:=#[.slice Ao28 t846.length co28,.slice Ao31 t849.length co31,u863002,.slice A1 l1.length c1,.int .i64 t858,.int .i64 t859,.int .i64 t860,.int .i64 t861]) ?_ 2 _ rfl;(with_reducible repeat (first|refine blk_drewN ?_ _|refine blk_drew ?_|refine blk_alloc ?_ _));exact BK862.out⟩,⟨zb23⟩⟩
        ·rw [if_neg c36] at H
         exact absurd H zb65
       rw [if_neg c34] at H
       have c34b0:=decide_eq_false c34
       clear c34
       replace H:=Option.bind_eq_some_iff.mp H
       obtain ⟨t867,A430,H⟩:=H
       try dsimp only at H
       have A43:=Aside0.mk A430
       clear A430
       by_cases c44:t867=0;rotate_left
       ·rw [if_neg c44] at H
        have c44b0:=beq_eq_false_iff_ne.mpr c44
        have c44b1:=bne_iff_ne.mpr c44
        obtain rfl:=Option.some.inj H
        have hnb130:=NB862_838.out
        have hnc130:=NB838_862.out
        have hcz131_0:wr.cell? ⟨gb862,0,none⟩=some (.slice Ao28 t846.length co28):=(blk_cell BK862.out 0).trans rfl
        have hcz131_1:wr.cell? ⟨gb862,1,none⟩=some (.slice Ao31 t849.length co31):=(blk_cell BK862.out 1).trans rfl
        have hcz131_2:wr.cell? ⟨gb862,2,none⟩=some (u863002):=(blk_cell BK862.out 2).trans rfl
        have hcz131_3:wr.cell? ⟨gb862,3,none⟩=some (.slice A1 l1.length c1):=(blk_cell BK862.out 3).trans rfl
        have hcz131_4:wr.cell? ⟨gb862,4,none⟩=some (.int .i64 t858):=(blk_cell BK862.out 4).trans rfl
        have hcz131_5:wr.cell? ⟨gb862,5,none⟩=some (.int .i64 t859):=(blk_cell BK862.out 5).trans rfl
        have hcz131_6:wr.cell? ⟨gb862,6,none⟩=some (.int .i64 t860):=(blk_cell BK862.out 6).trans rfl
        have hcz131_7:wr.cell? ⟨gb862,7,none⟩=some (.int .i64 t861):=(blk_cell BK862.out 7).trans rfl
        have hfz131_0:=blk_frozen BK862.out 0
        have hfz131_1:=blk_frozen BK862.out 1
        have hfz131_2:=blk_frozen BK862.out 2
        have hfz131_3:=blk_frozen BK862.out 3
        have hfz131_4:=blk_frozen BK862.out 4
        have hfz131_5:=blk_frozen BK862.out 5
        have hfz131_6:=blk_frozen BK862.out 6
        have hfz131_7:=blk_frozen BK862.out 7
        obtain ⟨Ao132,co132,eo132⟩:=Kd.R_slice HO_863002.out
        subst eo132
        go_wp2_with (first|((with_reducible refine gate_callee (f:=29) rfl ?_);refine goesL_ (some 75) rfl rfl Tryz.func29 zb10 rfl #[.agg #[.slice Ao28 t846.length co28,.slice Ao31 t849.length co31,.slice Ao132 x863002_3.length co132,.slice A1 l1.length c1,.int .i64 t858,.int .i64 t859,.int .i64 t860,.int .i64 t861]] rfl zb1 ?_;(with_reducible refine (conf_Check.calls k3 _ _ t846 _ _ t849 _ _ x863002_3 _ _ l1 t858 t859 t860 t861 t867 _ ?side1 ?side2 ?side3 ?side4 ?side5 ?side6 ?side7 ?side8 A43.out).mono ?_);(case side1=>exact zb96);(case side2=>exact (Kd.S_reads' HO_863000.out).2.1);(case side3=>exact zb97);(case side4=>exact (Kd.R_reads' HO_863001.out).2.1);(case side5=>exact zb82);(case side6=>exact (Kd.R_reads' HO_863002.out).2.1);(case side7=>exact zb59);(case side8=>exact HC1.out);rintro e w133 ⟨rfl,hb⟩;(try clear A43);refine ⟨_,rfl,?_⟩;replace HO_127:=Aside0.mk (Kd.R_below zb19 hb);replace HO_863000:=Aside0.mk (Kd.S_below zb21 hb);replace HO_863001:=Aside0.mk (Kd.R_below zb22 hb);replace HO_863002:=Aside0.mk (Kd.R_below zb25 hb);replace BK838:=Aside0.mk (blk_below (g:=gb838) (o:=.cells #[.string (⟨#[71,69,84]⟩:ByteArray),.string (⟨#[47]⟩:ByteArray),.int .i64 1,u127,.slice none 0 0] 26 (0,0)) zb8 hb);replace BK862:=Aside0.mk (blk_below (g:=gb862) (o:=.cells #[.slice Ao28 t846.length co28,.slice Ao31 t849.length co31,.slice Ao132 x863002_3.length co132,.slice A1 l1.length c1,.int .i64 t858,.int .i64 t859,.int .i64 t860,.int .i64 t861] 46 (0,0)) zb13 hb);replace HB:=Aside0.mk (below_step zb23 hb);(try clear hb)))
        go_ret
        exact ⟨zb2,zb23⟩
       rw [if_pos c44] at H
       have c44b0:=beq_iff_eq.mpr c44
       have c44b1:=bne_eq_false_iff_eq.mpr c44
       clear c44
       replace H:=Option.bind_eq_some_iff.mp H
       obtain ⟨⟨t868,t869,t870,t871,t874⟩,A450,H⟩:=H
       try dsimp only at H
       have A45:=Aside0.mk A450
       clear A450
       obtain ⟨y878,hy878⟩ : ∃ y_:List (S36),y_=(([(⟨(⟨#[72,111,115,116]⟩:ByteArray),(⟨#[104]⟩:ByteArray)⟩:S36)]:List (S36))):=⟨_,rfl⟩
       replace H:(tollbarlaw12_ScrubDrops.l2 k3 l1 l2 y878 x127_2 (x127_2.length:Int) 0 (⟨#[71,69,84]⟩:ByteArray) (⟨#[47]⟩:ByteArray) 1 x127_2 t846 t849 x863002_3 l1 t858 t859 t860 t861 t868 t869 t870 t871 t874)=some r:=by first|(rw [hy878];with_reducible exact H)|(have H2_:=(Option.bind_some _ _).symm.trans H;rw [hy878];with_reducible exact H2_)|(have H2_:=(Option.bind_some _ _).symm.trans H;with_reducible exact H2_)|with_reducible exact H|(rw [hy878];exact H)|exact H
       have Ny878:=Aside0.mk hy878
       clear hy878
       have H' := Aside0.mk H
       clear H
       have hnb46:=NB862_838.out
       have hnc46:=NB838_862.out
       have hcz47_0:wr.cell? ⟨gb862,0,none⟩=some (.slice Ao28 t846.length co28):=(blk_cell BK862.out 0).trans rfl
       have hcz47_1:wr.cell? ⟨gb862,1,none⟩=some (.slice Ao31 t849.length co31):=(blk_cell BK862.out 1).trans rfl
       have hcz47_2:wr.cell? ⟨gb862,2,none⟩=some (u863002):=(blk_cell BK862.out 2).trans rfl
       have hcz47_3:wr.cell? ⟨gb862,3,none⟩=some (.slice A1 l1.length c1):=(blk_cell BK862.out 3).trans rfl
       have hcz47_4:wr.cell? ⟨gb862,4,none⟩=some (.int .i64 t858):=(blk_cell BK862.out 4).trans rfl
       have hcz47_5:wr.cell? ⟨gb862,5,none⟩=some (.int .i64 t859):=(blk_cell BK862.out 5).trans rfl
       have hcz47_6:wr.cell? ⟨gb862,6,none⟩=some (.int .i64 t860):=(blk_cell BK862.out 6).trans rfl
       have hcz47_7:wr.cell? ⟨gb862,7,none⟩=some (.int .i64 t861):=(blk_cell BK862.out 7).trans rfl
       have hfz47_0:=blk_frozen BK862.out 0
       have hfz47_1:=blk_frozen BK862.out 1
       have hfz47_2:=blk_frozen BK862.out 2
       have hfz47_3:=blk_frozen BK862.out 3
       have hfz47_4:=blk_frozen BK862.out 4
       have hfz47_5:=blk_frozen BK862.out 5
       have hfz47_6:=blk_frozen BK862.out 6
       have hfz47_7:=blk_frozen BK862.out 7
       obtain ⟨Ao48,co48,eo48⟩:=Kd.R_slice HO_863002.out
       subst eo48
       go_wp2_with (first|((with_reducible refine gate_callee (f:=29) rfl ?_);refine goesL_ (some 75) rfl rfl Tryz.func29 zb10 rfl #[.agg #[.slice Ao28 t846.length co28,.slice Ao31 t849.length co31,.slice Ao48 x863002_3.length co48,.slice A1 l1.length c1,.int .i64 t858,.int .i64 t859,.int .i64 t860,.int .i64 t861]] rfl zb1 ?_;(with_reducible refine (conf_Check.calls k3 _ _ t846 _ _ t849 _ _ x863002_3 _ _ l1 t858 t859 t860 t861 t867 _ ?side1 ?side2 ?side3 ?side4 ?side5 ?side6 ?side7 ?side8 A43.out).mono ?_);(case side1=>exact zb96);(case side2=>exact (Kd.S_reads' HO_863000.out).2.1);(case side3=>exact zb97);(case side4=>exact (Kd.R_reads' HO_863001.out).2.1);(case side5=>exact zb82);(case side6=>exact (Kd.R_reads' HO_863002.out).2.1);(case side7=>exact zb59);(case side8=>exact HC1.out);rintro e w49 ⟨rfl,hb⟩;(try clear A43);refine ⟨_,rfl,?_⟩;replace HO_127:=Aside0.mk (Kd.R_below zb19 hb);replace HO_863000:=Aside0.mk (Kd.S_below zb21 hb);replace HO_863001:=Aside0.mk (Kd.R_below zb22 hb);replace HO_863002:=Aside0.mk (Kd.R_below zb25 hb);replace BK838:=Aside0.mk (blk_below (g:=gb838) (o:=.cells #[.string (⟨#[71,69,84]⟩:ByteArray),.string (⟨#[47]⟩:ByteArray),.int .i64 1,u127,.slice none 0 0] 26 (0,0)) zb8 hb);replace BK862:=Aside0.mk (blk_below (g:=gb862) (o:=.cells #[.slice Ao28 t846.length co28,.slice Ao31 t849.length co31,.slice Ao48 x863002_3.length co48,.slice A1 l1.length c1,.int .i64 t858,.int .i64 t859,.int .i64 t860,.int .i64 t861] 46 (0,0)) zb13 hb);replace HB:=Aside0.mk (below_step zb23 hb);(try clear hb);obtain ⟨hcz50_0,hcz50_1,hcz50_2,hcz50_3,hcz50_4,hfz50_0,hfz50_1,hfz50_2,hfz50_3,hfz50_4⟩:=zq5 BK838.out;have hcz51_0:w49.cell? ⟨gb862,0,none⟩=some (.slice Ao28 t846.length co28):=(blk_cell BK862.out 0).trans rfl;have hcz51_1:w49.cell? ⟨gb862,1,none⟩=some (.slice Ao31 t849.length co31):=(blk_cell BK862.out 1).trans rfl;have hcz51_2:w49.cell? ⟨gb862,2,none⟩=some (.slice Ao48 x863002_3.length co48):=(blk_cell BK862.out 2).trans rfl;have hcz51_3:w49.cell? ⟨gb862,3,none⟩=some (.slice A1 l1.length c1):=(blk_cell BK862.out 3).trans rfl;have hcz51_4:w49.cell? ⟨gb862,4,none⟩=some (.int .i64 t858):=(blk_cell BK862.out 4).trans rfl;have hcz51_5:w49.cell? ⟨gb862,5,none⟩=some (.int .i64 t859):=(blk_cell BK862.out 5).trans rfl;have hcz51_6:w49.cell? ⟨gb862,6,none⟩=some (.int .i64 t860):=(blk_cell BK862.out 6).trans rfl;have hcz51_7:w49.cell? ⟨gb862,7,none⟩=some (.int .i64 t861):=(blk_cell BK862.out 7).trans rfl;have hfz51_0:=blk_frozen BK862.out 0;have hfz51_1:=blk_frozen BK862.out 1;have hfz51_2:=blk_frozen BK862.out 2;have hfz51_3:=blk_frozen BK862.out 3;have hfz51_4:=blk_frozen BK862.out 4;have hfz51_5:=blk_frozen BK862.out 5;have hfz51_6:=blk_frozen BK862.out 6;have hfz51_7:=blk_frozen BK862.out 7;obtain ⟨Ao52,co52,eo52⟩:=Kd.R_slice HO_127.out;subst eo52)|((with_reducible refine gate_callee (f:=30) rfl ?_);refine goesL_ (some 79) rfl rfl Tryz.func30 zb10 rfl #[.agg #[.string (⟨#[71,69,84]⟩:ByteArray),.string (⟨#[47]⟩:ByteArray),.int .i64 1,.slice Ao52 x127_2.length co52,.slice none 0 0],.agg #[.slice Ao28 t846.length co28,.slice Ao31 t849.length co31,.slice Ao48 x863002_3.length co48,.slice A1 l1.length c1,.int .i64 t858,.int .i64 t859,.int .i64 t860,.int .i64 t861],.string (⟨#[104]⟩:ByteArray),.string (⟨#[47]⟩:ByteArray)] rfl zb1 ?_;(refine (scrub_Request.calls k3 (⟨#[71,69,84]⟩:ByteArray) (⟨#[47]⟩:ByteArray) 1 _ _ x127_2 _ _ ([]:List Int) _ _ t846 _ _ t849 _ _ x863002_3 _ _ l1 t858 t859 t860 t861 (⟨#[104]⟩:ByteArray) (⟨#[47]⟩:ByteArray) t868 t869 t870 t871 t874 _ ?side1 ?side2 ?side3 ?side4 ?side5 ?side6 ?side7 ?side8 ?side9 ?side10 ?side11 ?side12 A45.out ?hT).mono ?_);(case hT=>exact HTB.out.below zb9);(case side1=>repeat (first|exact (Kd.R_reads' HO_127.out).2.2|(with_reducible refine Kd.C_alloc ?_ _)|(with_reducible refine Kd.C_drewN ?_ _)|(with_reducible refine Kd.C_drew ?_)));(case side2=>exact (Kd.R_reads' HO_127.out).2.1);(case side3=>exact Kd.C_nil _ _);(case side4=>exact Nat.le_refl _);(case side5=>exact zb96);(case side6=>exact (Kd.S_reads' HO_863000.out).2.1);(case side7=>exact zb97);(case side8=>exact (Kd.R_reads' HO_863001.out).2.1);(case side9=>exact zb82);(case side10=>exact (Kd.R_reads' HO_863002.out).2.1);(case side11=>exact zb59);(case side12=>exact HC1.out);rintro e w53 ⟨v872,v875,rfl,ho0,ho1,hb⟩;(try clear A45);refine ⟨_,rfl,?_⟩;replace HO_863000:=Aside0.mk (Kd.S_below zb21 hb);replace HO_863001:=Aside0.mk (Kd.R_below zb22 hb);have HO873:=Aside0.mk (Kd.R_lower (Kd.R_new' (Kd.R_new' ho0 (Kd.R_lt zb19)) (Kd.R_lt zb25)) (below_size zb23));replace HO_127:=Aside0.mk (Kd.R_elder' zb19 (Kd.R_base ho0) hb);replace HO_863002:=Aside0.mk (Kd.R_elder' zb25 (Kd.R_base ho0) hb);have HO876:=Aside0.mk (Kd.R_lower ho1 (below_size zb23));replace BK838:=Aside0.mk (blk_below (g:=gb838) (o:=.cells #[.string (⟨#[71,69,84]⟩:ByteArray),.string (⟨#[47]⟩:ByteArray),.int .i64 1,.slice Ao52 x127_2.length co52,.slice none 0 0] 26 (0,0)) zb8 hb);replace BK862:=Aside0.mk (blk_below (g:=gb862) (o:=.cells #[.slice Ao28 t846.length co28,.slice Ao31 t849.length co31,.slice Ao48 x863002_3.length co48,.slice A1 l1.length c1,.int .i64 t858,.int .i64 t859,.int .i64 t860,.int .i64 t861] 46 (0,0)) zb13 hb);replace HB:=Aside0.mk (below_step zb23 hb);try clear hb ho0 ho1)|((with_reducible refine gate_dst (N:=13) rfl ?_);(try (refine gate_guard zb64 ?_;dsimp only));refine box_event rfl (N:=13) rfl (cs:=#[.string (⟨#[]⟩:ByteArray),.string (⟨#[]⟩:ByteArray),.int .i64 0,.slice none 0 0,.slice none 0 0]) (t:=26) zS ?_;intro gb877 hg w54 hbox hb;replace HO_127:=Aside0.mk (Kd.R_below zb19 hb);replace HO_863000:=Aside0.mk (Kd.S_below zb21 hb);replace HO_863001:=Aside0.mk (Kd.R_below zb22 hb);replace HO_863002:=Aside0.mk (Kd.R_below zb25 hb);replace HO873:=Aside0.mk (Kd.R_below (by (with_reducible repeat (first|apply Kd.R_alloc|apply Kd.R_drewN|apply Kd.R_drew));exact HO873.out) hb);replace HO876:=Aside0.mk (Kd.R_below (by (with_reducible repeat (first|apply Kd.R_alloc|apply Kd.R_drewN|apply Kd.R_drew));exact HO876.out) hb);have BK877:=Aside0.mk (hbox);have GW877:=zG hg zb23;have GE877:=GW877;replace HB:=Aside0.mk (below_step zb23 hb);have NB838_877:=Aside0.mk ((by rw [hg];exact Nat.ne_of_lt (blk_lt (g:=gb838) (o:=.cells #[.string (⟨#[71,69,84]⟩:ByteArray),.string (⟨#[47]⟩:ByteArray),.int .i64 1,.slice Ao52 x127_2.length co52,.slice none 0 0] 26 (0,0)) zb8):gb838 ≠ gb877));have NB877_838:=Aside0.mk ((by rw [hg];exact Nat.ne_of_gt (blk_lt (g:=gb838) (o:=.cells #[.string (⟨#[71,69,84]⟩:ByteArray),.string (⟨#[47]⟩:ByteArray),.int .i64 1,.slice Ao52 x127_2.length co52,.slice none 0 0] 26 (0,0)) zb8):gb877 ≠ gb838));replace BK838:=Aside0.mk (blk_below (g:=gb838) (o:=.cells #[.string (⟨#[71,69,84]⟩:ByteArray),.string (⟨#[47]⟩:ByteArray),.int .i64 1,.slice Ao52 x127_2.length co52,.slice none 0 0] 26 (0,0)) zb8 hb);have NB862_877:=Aside0.mk ((by rw [hg];exact Nat.ne_of_lt (blk_lt (g:=gb862) (o:=.cells #[.slice Ao28 t846.length co28,.slice Ao31 t849.length co31,.slice Ao48 x863002_3.length co48,.slice A1 l1.length c1,.int .i64 t858,.int .i64 t859,.int .i64 t860,.int .i64 t861] 46 (0,0)) zb13):gb862 ≠ gb877));have NB877_862:=Aside0.mk ((by rw [hg];exact Nat.ne_of_gt (blk_lt (g:=gb862) (o:=.cells #[.slice Ao28 t846.length co28,.slice Ao31 t849.length co31,.slice Ao48 x863002_3.length co48,.slice A1 l1.length c1,.int .i64 t858,.int .i64 t859,.int .i64 t860,.int .i64 t861] 46 (0,0)) zb13):gb877 ≠ gb862));replace BK862:=Aside0.mk (blk_below (g:=gb862) (o:=.cells #[.slice Ao28 t846.length co28,.slice Ao31 t849.length co31,.slice Ao48 x863002_3.length co48,.slice A1 l1.length c1,.int .i64 t858,.int .i64 t859,.int .i64 t860,.int .i64 t861] 46 (0,0)) zb13 hb);clear hb hbox hg;have hnb55:=NB877_838.out;have hnc55:=NB838_877.out;have hnb56:=NB877_862.out;have hnc56:=NB862_877.out;obtain ⟨hcz57_0,hcz57_1,hcz57_2,hcz57_3,hcz57_4,hfz57_0,hfz57_1,hfz57_2,hfz57_3,hfz57_4⟩:=zq5 BK877.out;obtain ⟨Ao58,co58,eo58⟩:=Kd.R_slice HO873.out;subst eo58;obtain ⟨Ao59,co59,eo59⟩:=Kd.R_slice HO876.out;subst eo59)|((with_reducible refine gate_dst (N:=81) rfl ?_);(try (refine gate_guard zb64 ?_;dsimp only));refine Kd.R_lit k36 _ 36 ?hg (N:=81) ?hd (xs:=([(⟨(⟨#[72,111,115,116]⟩:ByteArray),(⟨#[104]⟩:ByteArray)⟩:S36)]:List (S36))) (inner:=[.string (⟨#[72,111,115,116]⟩:ByteArray),.string (⟨#[104]⟩:ByteArray)]) (ok:=fun _=>True) (okp:=fun _=>True) ?hr ?hp (fun _ hk=>hk) trivial (Below.refl _ _) (Nat.le_refl _) zb65 ?_;(case hd=>rfl);(case hg=>rfl);(case hr=>first|(go_simp;done)|(go_simp;rfl));(case hp=>exact (Reps.c2 (show Kd.M k36 _ _ _ (⟨(⟨#[72,111,115,116]⟩:ByteArray),(⟨#[104]⟩:ByteArray)⟩:S36) [.string (⟨#[72,111,115,116]⟩:ByteArray),.string (⟨#[104]⟩:ByteArray)] from (k36_mkM _ _ _ (⟨(⟨#[72,111,115,116]⟩:ByteArray),(⟨#[104]⟩:ByteArray)⟩:S36) )) (Reps.none _ _)));intro v879 w60 ho61 hb hg_ hnew_;clear hg_ hnew_;(first|rw [← Ny878.out] at ho61|(simp only [Int.reduceToNat] at ho61;rw [← Ny878.out] at ho61));replace HO_863000:=Aside0.mk (Kd.S_below (by (with_reducible repeat (first|apply Kd.S_alloc|apply Kd.S_drewN|apply Kd.S_drew));exact (Kd.S_mono (Kd.S_far (p:=⟨gb877,4,none⟩) (Kd.S_far (p:=⟨gb877,3,none⟩) (Kd.S_far (p:=⟨gb877,2,none⟩) (Kd.S_far (p:=⟨gb877,1,none⟩) (Kd.S_far (p:=⟨gb877,0,none⟩) (Kd.S_types HO_863000.out BK877.out (by decide)) (fun _ hk=>hk.2) (.string t868)) (fun _ hk=>hk.2) (.string t869)) (fun _ hk=>hk.2) (.int .i64 t870)) (fun _ hk=>hk.2) (.slice Ao58 t871.length co58)) (fun _ hk=>hk.2) (.slice Ao59 t874.length co59)) (fun _ h_=>h_.1))) hb);replace HO_863001:=Aside0.mk (Kd.R_below (by (with_reducible repeat (first|apply Kd.R_alloc|apply Kd.R_drewN|apply Kd.R_drew));exact (Kd.R_mono (Kd.R_far (p:=⟨gb877,4,none⟩) (Kd.R_far (p:=⟨gb877,3,none⟩) (Kd.R_far (p:=⟨gb877,2,none⟩) (Kd.R_far (p:=⟨gb877,1,none⟩) (Kd.R_far (p:=⟨gb877,0,none⟩) (Kd.R_types HO_863001.out BK877.out (by decide)) (fun _ hk=>hk.2) (.string t868)) (fun _ hk=>hk.2) (.string t869)) (fun _ hk=>hk.2) (.int .i64 t870)) (fun _ hk=>hk.2) (.slice Ao58 t871.length co58)) (fun _ hk=>hk.2) (.slice Ao59 t874.length co59)) (fun _ h_=>h_.1))) hb);replace HO876:=Aside0.mk (Kd.R_below (by (with_reducible repeat (first|apply Kd.R_alloc|apply Kd.R_drewN|apply Kd.R_drew));exact (Kd.R_mono (Kd.R_far (p:=⟨gb877,4,none⟩) (Kd.R_far (p:=⟨gb877,3,none⟩) (Kd.R_far (p:=⟨gb877,2,none⟩) (Kd.R_far (p:=⟨gb877,1,none⟩) (Kd.R_far (p:=⟨gb877,0,none⟩) (Kd.R_types HO876.out BK877.out (by decide)) (fun _ hk=>hk.2) (.string t868)) (fun _ hk=>hk.2) (.string t869)) (fun _ hk=>hk.2) (.int .i64 t870)) (fun _ hk=>hk.2) (.slice Ao58 t871.length co58)) (fun _ hk=>hk.2) (.slice Ao59 t874.length co59)) (fun _ h_=>h_.1))) hb);have HO880:=Aside0.mk (Kd.R_lower (Kd.R_new' (Kd.R_new' (Kd.R_new' ho61 (Kd.R_lt zb52)) (Kd.R_lt zb51)) (Kd.R_lt zb53)) (below_size zb14));replace HO_127:=Aside0.mk (Kd.R_elder' zb52 (Kd.R_base ho61) hb);replace HO_863002:=Aside0.mk (Kd.R_elder' zb51 (Kd.R_base ho61) hb);replace HO873:=Aside0.mk (Kd.R_elder' zb53 (Kd.R_base ho61) hb);replace BK838:=Aside0.mk (blk_below (g:=gb838) (o:=.cells #[.string (⟨#[71,69,84]⟩:ByteArray),.string (⟨#[47]⟩:ByteArray),.int .i64 1,.slice Ao52 x127_2.length co52,.slice none 0 0] 26 (0,0)) (by (with_reducible repeat (first|refine blk_drewN ?_ _|refine blk_drew ?_|refine blk_alloc ?_ _));refine blk_far ?_ NB838_877.out _;(with_reducible repeat (first|refine blk_drewN ?_ _|refine blk_drew ?_|refine blk_alloc ?_ _));refine blk_far ?_ NB838_877.out _;(with_reducible repeat (first|refine blk_drewN ?_ _|refine blk_drew ?_|refine blk_alloc ?_ _));refine blk_far ?_ NB838_877.out _;(with_reducible repeat (first|refine blk_drewN ?_ _|refine blk_drew ?_|refine blk_alloc ?_ _));refine blk_far ?_ NB838_877.out _;(with_reducible repeat (first|refine blk_drewN ?_ _|refine blk_drew ?_|refine blk_alloc ?_ _));refine blk_far ?_ NB838_877.out _;(with_reducible repeat (first|refine blk_drewN ?_ _|refine blk_drew ?_|refine blk_alloc ?_ _));exact BK838.out) hb);replace BK862:=Aside0.mk (blk_below (g:=gb862) (o:=.cells #[.slice Ao28 t846.length co28,.slice Ao31 t849.length co31,.slice Ao48 x863002_3.length co48,.slice A1 l1.length c1,.int .i64 t858,.int .i64 t859,.int .i64 t860,.int .i64 t861] 46 (0,0)) (by (with_reducible repeat (first|refine blk_drewN ?_ _|refine blk_drew ?_|refine blk_alloc ?_ _));refine blk_far ?_ NB862_877.out _;(with_reducible repeat (first|refine blk_drewN ?_ _|refine blk_drew ?_|refine blk_alloc ?_ _));refine blk_far ?_ NB862_877.out _;(with_reducible repeat (first|refine blk_drewN ?_ _|refine blk_drew ?_|refine blk_alloc ?_ _));refine blk_far ?_ NB862_877.out _;(with_reducible repeat (first|refine blk_drewN ?_ _|refine blk_drew ?_|refine blk_alloc ?_ _));refine blk_far ?_ NB862_877.out _;(with_reducible repeat (first|refine blk_drewN ?_ _|refine blk_drew ?_|refine blk_alloc ?_ _));refine blk_far ?_ NB862_877.out _;(with_reducible repeat (first|refine blk_drewN ?_ _|refine blk_drew ?_|refine blk_alloc ?_ _));exact BK862.out) hb);replace BK877:=Aside0.mk (blk_below (g:=gb877) (o:=.cells #[.string t868,.string t869,.int .i64 t870,.slice Ao58 t871.length co58,.slice Ao59 t874.length co59] 26 (0,0)) (by (with_reducible repeat (first|refine blk_drewN ?_ _|refine blk_drew ?_|refine blk_alloc ?_ _));refine blk_put (cs:=#[.string t868,.string t869,.int .i64 t870,.slice Ao58 t871.length co58,.slice none 0 0]) ?_ 4 _ rfl;(with_reducible repeat (first|refine blk_drewN ?_ _|refine blk_drew ?_|refine blk_alloc ?_ _));refine blk_put (cs:=#[.string t868,.string t869,.int .i64 t870,.slice none 0 0,.slice none 0 0]) ?_ 3 _ rfl;(with_reducible repeat (first|refine blk_drewN ?_ _|refine blk_drew ?_|refine blk_alloc ?_ _));refine blk_put (cs:=#[.string t868,.string t869,.int .i64 0,.slice none 0 0,.slice none 0 0]) ?_ 2 _ rfl;(with_reducible repeat (first|refine blk_drewN ?_ _|refine blk_drew ?_|refine blk_alloc ?_ _));refine blk_put (cs:=#[.string t868,.string (⟨#[]⟩:ByteArray),.int .i64 0,.slice none 0 0,.slice none 0 0]) ?_ 1 _ rfl;(with_reducible repeat (first|refine blk_drewN ?_ _|refine blk_drew ?_|refine blk_alloc ?_ _));refine blk_put (cs:=#[.string (⟨#[]⟩:ByteArray),.string (⟨#[]⟩:ByteArray),.int .i64 0,.slice none 0 0,.slice none 0 0]) ?_ 0 _ rfl;(with_reducible repeat (first|refine blk_drewN ?_ _|refine blk_drew ?_|refine blk_alloc ?_ _));exact BK877.out) hb);replace HB:=Aside0.mk (below_step zb14 hb);clear hb ho61;obtain ⟨hcz62_0,hcz62_1,hcz62_2,hcz62_3,hcz62_4,hfz62_0,hfz62_1,hfz62_2,hfz62_3,hfz62_4⟩:=zq5 BK838.out))
       go_loopg [14,85] k3 (fun kq v14 v85 w' => ∃ (x14_4:List (S36)) (x85_4:Int),v85 = .int .i64 x85_4∧Aside0 (tollbarlaw12_ScrubDrops.l2 kq l1 l2 x14_4 x127_2 (x127_2.length:Int) x85_4 (⟨#[71,69,84]⟩:ByteArray) (⟨#[47]⟩:ByteArray) 1 x127_2 t846 t849 x863002_3 l1 t858 t859 t860 t861 t868 t869 t870 t871 t874=some r)∧Aside0 (kq ≤ k3)∧Aside0 (Kd.R k36 36 w' w.heap.size (fun k_=>some k_ ≠ ((.slice Ao52 x127_2.length co52):Value).ownBlock∧some k_ ≠ ((.slice Ao52 x127_2.length co52):Value).ownBlock∧some k_ ≠ ((.slice Ao48 x863002_3.length co48):Value).ownBlock∧some k_ ≠ ((.slice Ao58 t871.length co58):Value).ownBlock) v14 x14_4)∧Aside0 (Kd.R k36 36 w' w.heap.size (fun k_=>some k_ ≠ (v14:Value).ownBlock∧some k_ ≠ ((.slice Ao48 x863002_3.length co48):Value).ownBlock∧some k_ ≠ ((.slice Ao58 t871.length co58):Value).ownBlock) (.slice Ao52 x127_2.length co52) x127_2)∧Aside0 (Kd.R k36 36 w' w.heap.size (fun k_=>some k_ ≠ (v14:Value).ownBlock∧some k_ ≠ ((.slice Ao48 x863002_3.length co48):Value).ownBlock∧some k_ ≠ ((.slice Ao58 t871.length co58):Value).ownBlock) (.slice Ao52 x127_2.length co52) x127_2)∧Aside0 (Kd.S k83 83 w' w.heap.size (fun _=>True) (.slice Ao28 t846.length co28) t846)∧Aside0 (Kd.R k85 85 w' w.heap.size (fun _=>True) (.slice Ao31 t849.length co31) t849)∧Aside0 (Kd.R k36 36 w' w.heap.size (fun k_=>some k_ ≠ (v14:Value).ownBlock∧some k_ ≠ ((.slice Ao52 x127_2.length co52):Value).ownBlock∧some k_ ≠ ((.slice Ao52 x127_2.length co52):Value).ownBlock∧some k_ ≠ ((.slice Ao58 t871.length co58):Value).ownBlock) (.slice Ao48 x863002_3.length co48) x863002_3)∧Aside0 (Kd.R k36 36 w' w.heap.size (fun k_=>some k_ ≠ (v14:Value).ownBlock∧some k_ ≠ ((.slice Ao52 x127_2.length co52):Value).ownBlock∧some k_ ≠ ((.slice Ao52 x127_2.length co52):Value).ownBlock∧some k_ ≠ ((.slice Ao48 x863002_3.length co48):Value).ownBlock) (.slice Ao58 t871.length co58) t871)∧Aside0 (Kd.R (Kd.int .u8) 5 w' w.heap.size (fun _=>True) (.slice Ao59 t874.length co59) t874)∧Aside0 (w'.heap[gb838]? = some (.cells #[.string (⟨#[71,69,84]⟩:ByteArray),.string (⟨#[47]⟩:ByteArray),.int .i64 1,(.slice Ao52 x127_2.length co52),(.slice none 0 0)] 26 (0,0)))∧Aside0 (w'.heap[gb862]? = some (.cells #[(.slice Ao28 t846.length co28),(.slice Ao31 t849.length co31),(.slice Ao48 x863002_3.length co48),(.slice A1 l1.length c1),.int .i64 t858,.int .i64 t859,.int .i64 t860,.int .i64 t861] 46 (0,0)))∧Aside0 (w'.heap[gb877]? = some (.cells #[.string t868,.string t869,.int .i64 t870,(.slice Ao58 t871.length co58),(.slice Ao59 t874.length co59)] 26 (0,0)))∧Aside0 (Below w.heap.size w w'))
       case atStart=>exact ⟨(y878),(0),zb6,H',⟨Nat.le_refl _⟩,⟨by (with_reducible repeat (first|apply Kd.R_alloc|apply Kd.R_drewN|apply Kd.R_drew));exact Kd.R_mono HO880.out (fun _ hk=>⟨hk.1.1.2,⟨hk.1.1.2,⟨hk.1.2,hk.2⟩⟩⟩)⟩,⟨zb121⟩,⟨zb121⟩,⟨zb21⟩,⟨zb22⟩,⟨by (with_reducible repeat (first|apply Kd.R_alloc|apply Kd.R_drewN|apply Kd.R_drew));exact Kd.R_mono HO_863002.out (fun _ hk=>⟨hk.2,⟨hk.1.1,⟨hk.1.1,hk.1.2⟩⟩⟩)⟩,⟨by (with_reducible repeat (first|apply Kd.R_alloc|apply Kd.R_drewN|apply Kd.R_drew));exact Kd.R_mono HO873.out (fun _ hk=>⟨hk.2,⟨hk.1.1.2,⟨hk.1.1.2,hk.1.2⟩⟩⟩)⟩,⟨by (with_reducible repeat (first|apply Kd.R_alloc|apply Kd.R_drewN|apply Kd.R_drew));exact HO876.out⟩,⟨zb8⟩,⟨zb13⟩,⟨zb17⟩,⟨zb14⟩⟩
       case round =>
        clear H'
        try clear c1
        try clear c2
        try clear p2
        try clear hcv2
        try clear c3
        try clear c4
        try clear c5
        try clear p6
        try clear c7
        try clear c8
        try clear c8b0
        try clear c8b1
        try clear p8
        try clear q8
        try clear hx8
        try clear c9
        try clear c9b0
        try clear c9b1
        try clear c10
        try clear c13
        try clear c13b0
        try clear c14
        try clear c14b0
        try clear c15
        try clear c15b0
        try clear c16
        try clear c16b0
        try clear c16b1
        try clear c17
        try clear hcv21
        try clear c27
        try clear c29
        try clear c30
        try clear c34
        try clear c34b0
        try clear c35
        try clear c35b0
        try clear c36
        try clear c36b0
        try clear c37
        try clear c38
        try clear c44
        try clear c44b0
        try clear c44b1
        try clear c46
        try clear c55
        try clear c56
        try clear hcz12_0
        try clear hcz12_1
        try clear hcz12_2
        try clear hcz12_3
        try clear hcz12_4
        try clear hcz18_0
        try clear hcz18_1
        try clear hcz18_2
        try clear hcz18_3
        try clear hcz18_4
        try clear hcz24_0
        try clear hcz24_1
        try clear hcz24_2
        try clear hcz24_3
        try clear hcz24_4
        try clear hcz30_0
        try clear hcz30_1
        try clear hcz30_2
        try clear hcz30_3
        try clear hcz30_4
        try clear hcz30_5
        try clear hcz30_6
        try clear hcz30_7
        try clear hcz39_0
        try clear hcz39_1
        try clear hcz39_2
        try clear hcz39_3
        try clear hcz39_4
        try clear hcz39_5
        try clear hcz39_6
        try clear hcz39_7
        try clear hcz42_0
        try clear hcz42_1
        try clear hcz42_2
        try clear hcz42_3
        try clear hcz42_4
        try clear hcz42_5
        try clear hcz42_6
        try clear hcz42_7
        try clear hcz47_0
        try clear hcz47_1
        try clear hcz47_2
        try clear hcz47_3
        try clear hcz47_4
        try clear hcz47_5
        try clear hcz47_6
        try clear hcz47_7
        try clear hcz50_0
        try clear hcz50_1
        try clear hcz50_2
        try clear hcz50_3
        try clear hcz50_4
        try clear hcz51_0
        try clear hcz51_1
        try clear hcz51_2
        try clear hcz51_3
        try clear hcz51_4
        try clear hcz51_5
        try clear hcz51_6
        try clear hcz51_7
        try clear hcz57_0
        try clear hcz57_1
        try clear hcz57_2
        try clear hcz57_3
        try clear hcz57_4
        try clear hcz62_0
        try clear hcz62_1
        try clear hcz62_2
        try clear hcz62_3
        try clear hcz62_4
        try clear hfz12_0
        try clear hfz12_1
        try clear hfz12_2
        try clear hfz12_3
        try clear hfz12_4
        try clear hfz18_0
        try clear hfz18_1
        try clear hfz18_2
        try clear hfz18_3
        try clear hfz18_4
        try clear hfz24_0
        try clear hfz24_1
        try clear hfz24_2
        try clear hfz24_3
        try clear hfz24_4
        try clear hfz30_0
        try clear hfz30_1
        try clear hfz30_2
        try clear hfz30_3
        try clear hfz30_4
        try clear hfz30_5
        try clear hfz30_6
        try clear hfz30_7
        try clear hfz39_0
        try clear hfz39_1
        try clear hfz39_2
        try clear hfz39_3
        try clear hfz39_4
        try clear hfz39_5
        try clear hfz39_6
        try clear hfz39_7
        try clear hfz42_0
        try clear hfz42_1
        try clear hfz42_2
        try clear hfz42_3
        try clear hfz42_4
        try clear hfz42_5
        try clear hfz42_6
        try clear hfz42_7
        try clear hfz47_0
        try clear hfz47_1
        try clear hfz47_2
        try clear hfz47_3
        try clear hfz47_4
        try clear hfz47_5
        try clear hfz47_6
        try clear hfz47_7
        try clear hfz50_0
        try clear hfz50_1
        try clear hfz50_2
        try clear hfz50_3
        try clear hfz50_4
        try clear hfz51_0
        try clear hfz51_1
        try clear hfz51_2
        try clear hfz51_3
        try clear hfz51_4
        try clear hfz51_5
        try clear hfz51_6
        try clear hfz51_7
        try clear hfz57_0
        try clear hfz57_1
        try clear hfz57_2
        try clear hfz57_3
        try clear hfz57_4
        try clear hfz62_0
        try clear hfz62_1
        try clear hfz62_2
        try clear hfz62_3
        try clear hfz62_4
        try clear hx839_0
        try clear hx863_0
        try clear p2
        try clear p6
        try clear p8
        try clear p839
        try clear p863
        try clear q8
        try clear q839
        try clear q863
        obtain ⟨x14_4,x85_4,rfl,HA,HK4,HO_14,HO_83,HO_127,HO_863000,HO_863001,HO_863002,HO_878003,HO_878004,BK838,BK862,BK877,HB⟩:=hrel
        cases gk with
        | zero=>exact absurd HA.out (by simp [tollbarlaw12_ScrubDrops.l2])
        | succ k4 =>
         have H:=HA.out
         clear HA
         simp only [tollbarlaw12_ScrubDrops.l2] at H
         by_cases c63:x85_4 < (x127_2.length:Int)
         ·rw [if_pos c63] at H
          have c63b0:=decide_eq_true c63
          clear c63
          by_cases c64:0 ≤ x85_4;rotate_left
          ·rw [if_neg c64] at H
           exact absurd H zb65
          rw [if_pos c64] at H
          have c64b0:=decide_eq_true c64
          clear c64
          by_cases c65:x85_4 < (x127_2.length:Int)
          ·rw [if_pos c65] at H
           have c65b0:=decide_eq_true c65
           clear c65
           replace H:=Option.bind_eq_some_iff.mp H
           obtain ⟨t887,A660,H⟩:=H
           try dsimp only at H
           have A66:=Aside0.mk A660
           clear A660
           by_cases c67:t887=true
           ·subst c67
            rw [if_pos rfl] at H
            have H' := Aside0.mk H
            clear H
            have p885:0 ≤ (x85_4:Int):=of_decide_eq_true zb5
            have q885:x85_4 < (x127_2.length:Int):=of_decide_eq_true zb5
            obtain ⟨ad885,e885,hx885_0,hx885_1⟩:=at_T36 (Kd.R_reads' HO_83.out).2.2 x85_4 p885 q885
            cases e885
            replace p885:=eq_true p885
            replace q885:=eq_true q885
            go_wp2_with (first|((with_reducible refine gate_dst (N:=16) rfl ?_);(try (refine gate_guard zb64 ?_;dsimp only));refine box_event rfl (N:=16) rfl (cs:=#[.string (⟨#[]⟩:ByteArray),.string (⟨#[]⟩:ByteArray)]) (t:=36) zS ?_;intro gb886 hg w68 hbox hb;replace HO_14:=Aside0.mk (Kd.R_below (Kd.R_elderB zb29 gb886 (Nat.le_of_eq hg.symm)) hb);replace HO_83:=Aside0.mk (Kd.R_below (Kd.R_elderB zb49 gb886 (Nat.le_of_eq hg.symm)) hb);replace HO_127:=Aside0.mk (Kd.R_below (Kd.R_elderB zb19 gb886 (Nat.le_of_eq hg.symm)) hb);replace HO_863000:=Aside0.mk (Kd.S_below zb21 hb);replace HO_863001:=Aside0.mk (Kd.R_below zb22 hb);replace HO_863002:=Aside0.mk (Kd.R_below (Kd.R_elderB zb25 gb886 (Nat.le_of_eq hg.symm)) hb);replace HO_878003:=Aside0.mk (Kd.R_below (Kd.R_elderB zb46 gb886 (Nat.le_of_eq hg.symm)) hb);replace HO_878004:=Aside0.mk (Kd.R_below zb30 hb);have BK886:=Aside0.mk (hbox);have GW886:=zG hg zb14;have GE886:=GW886;replace HB:=Aside0.mk (below_step zb14 hb);have NB838_886:=Aside0.mk ((by rw [hg];exact Nat.ne_of_lt (blk_lt (g:=gb838) (o:=.cells #[.string (⟨#[71,69,84]⟩:ByteArray),.string (⟨#[47]⟩:ByteArray),.int .i64 1,.slice (some ad885) x127_2.length co52,.slice none 0 0] 26 (0,0)) zb8):gb838 ≠ gb886));have NB886_838:=Aside0.mk ((by rw [hg];exact Nat.ne_of_gt (blk_lt (g:=gb838) (o:=.cells #[.string (⟨#[71,69,84]⟩:ByteArray),.string (⟨#[47]⟩:ByteArray),.int .i64 1,.slice (some ad885) x127_2.length co52,.slice none 0 0] 26 (0,0)) zb8):gb886 ≠ gb838));replace BK838:=Aside0.mk (blk_below (g:=gb838) (o:=.cells #[.string (⟨#[71,69,84]⟩:ByteArray),.string (⟨#[47]⟩:ByteArray),.int .i64 1,.slice (some ad885) x127_2.length co52,.slice none 0 0] 26 (0,0)) zb8 hb);have NB862_886:=Aside0.mk ((by rw [hg];exact Nat.ne_of_lt (blk_lt (g:=gb862) (o:=.cells #[.slice Ao28 t846.length co28,.slice Ao31 t849.length co31,.slice Ao48 x863002_3.length co48,.slice A1 l1.length c1,.int .i64 t858,.int .i64 t859,.int .i64 t860,.int .i64 t861] 46 (0,0)) zb13):gb862 ≠ gb886));have NB886_862:=Aside0.mk ((by rw [hg];exact Nat.ne_of_gt (blk_lt (g:=gb862) (o:=.cells #[.slice Ao28 t846.length co28,.slice Ao31 t849.length co31,.slice Ao48 x863002_3.length co48,.slice A1 l1.length c1,.int .i64 t858,.int .i64 t859,.int .i64 t860,.int .i64 t861] 46 (0,0)) zb13):gb886 ≠ gb862));replace BK862:=Aside0.mk (blk_below (g:=gb862) (o:=.cells #[.slice Ao28 t846.length co28,.slice Ao31 t849.length co31,.slice Ao48 x863002_3.length co48,.slice A1 l1.length c1,.int .i64 t858,.int .i64 t859,.int .i64 t860,.int .i64 t861] 46 (0,0)) zb13 hb);have NB877_886:=Aside0.mk ((by rw [hg];exact Nat.ne_of_lt (blk_lt (g:=gb877) (o:=.cells #[.string t868,.string t869,.int .i64 t870,.slice Ao58 t871.length co58,.slice Ao59 t874.length co59] 26 (0,0)) zb17):gb877 ≠ gb886));have NB886_877:=Aside0.mk ((by rw [hg];exact Nat.ne_of_gt (blk_lt (g:=gb877) (o:=.cells #[.string t868,.string t869,.int .i64 t870,.slice Ao58 t871.length co58,.slice Ao59 t874.length co59] 26 (0,0)) zb17):gb886 ≠ gb877));replace BK877:=Aside0.mk (blk_below (g:=gb877) (o:=.cells #[.string t868,.string t869,.int .i64 t870,.slice Ao58 t871.length co58,.slice Ao59 t874.length co59] 26 (0,0)) zb17 hb);clear hb hbox hg;have hnb69:=NB886_838.out;have hnc69:=NB838_886.out;have hnb70:=NB886_862.out;have hnc70:=NB862_886.out;have hnb71:=NB886_877.out;have hnc71:=NB877_886.out;obtain ⟨hcz72_0,hcz72_1,hfz72_0,hfz72_1⟩:=zq2 BK886.out;have hnb73:=NB838_862.out;have hnc73:=NB862_838.out;have hnb74:=NB838_877.out;have hnc74:=NB877_838.out;obtain ⟨hcz75_0,hcz75_1,hcz75_2,hcz75_3,hcz75_4,hfz75_0,hfz75_1,hfz75_2,hfz75_3,hfz75_4⟩:=zq5 BK838.out)|((with_reducible refine gate_callee (f:=35) rfl ?_);refine goesL_ (some 93) rfl rfl Tryz.func35 zb10 rfl #[.slice (some ad885) x127_2.length co52,.string ((rd_T36 x127_2 x85_4).f0)] rfl zb1 ?_;(with_reducible refine (scrub_Hop.calls k4 _ _ x127_2 ((rd_T36 x127_2 x85_4).f0) true _ ?side1 ?side2 A66.out).mono ?_);(case side1=>refine (Kd.R_reads' (e:=36) (base:=w.heap.size) (ok:=fun k_=>((some k_ ≠ (u14:Value).ownBlock∧(some k_ ≠ (.slice Ao48 x863002_3.length co48:Value).ownBlock∧some k_ ≠ (.slice Ao58 t871.length co58:Value).ownBlock))∧k_ ≠ gb886)) (n:=x127_2.length) (c:=co52) ?_).2.2;exact zb16);(case side2=>exact (Kd.R_reads' HO_127.out).2.1);rintro e w76 ⟨rfl,hb⟩;(try clear A66);refine ⟨_,rfl,?_⟩;replace HO_14:=Aside0.mk (Kd.R_below zb37 hb);replace HO_83:=Aside0.mk (Kd.R_below zb38 hb);replace HO_127:=Aside0.mk (Kd.R_below zb16 hb);replace HO_863000:=Aside0.mk (Kd.S_below zb40 hb);replace HO_863001:=Aside0.mk (Kd.R_below zb41 hb);replace HO_863002:=Aside0.mk (Kd.R_below zb35 hb);replace HO_878003:=Aside0.mk (Kd.R_below zb36 hb);replace HO_878004:=Aside0.mk (Kd.R_below zb42 hb);replace BK838:=Aside0.mk (blk_below (g:=gb838) (o:=.cells #[.string (⟨#[71,69,84]⟩:ByteArray),.string (⟨#[47]⟩:ByteArray),.int .i64 1,.slice (some ad885) x127_2.length co52,.slice none 0 0] 26 (0,0)) zb31 hb);replace BK862:=Aside0.mk (blk_below (g:=gb862) (o:=.cells #[.slice Ao28 t846.length co28,.slice Ao31 t849.length co31,.slice Ao48 x863002_3.length co48,.slice A1 l1.length c1,.int .i64 t858,.int .i64 t859,.int .i64 t860,.int .i64 t861] 46 (0,0)) zb32 hb);replace BK877:=Aside0.mk (blk_below (g:=gb877) (o:=.cells #[.string t868,.string t869,.int .i64 t870,.slice Ao58 t871.length co58,.slice Ao59 t874.length co59] 26 (0,0)) zb33 hb);replace BK886:=Aside0.mk (blk_below (g:=gb886) (o:=.cells #[.string ((rd_T36 x127_2 x85_4).f0),.string ((rd_T36 x127_2 x85_4).f1)] 36 (0,0)) zb27 hb);replace HB:=Aside0.mk (below_step zb9 hb);(try clear hb)))
            go_roundg k4
            case measure=>have:=HJ5.out;have:=HK2.out;have:=HK3.out;have:=HK4.out;omega
            case rel=>exact ⟨(x14_4),(wrap64 (x85_4 + 1)),zb6,H',⟨zb127⟩,⟨zb95⟩,⟨zb103⟩,⟨zb102⟩,⟨zb21⟩,⟨zb22⟩,⟨zb91⟩,⟨zb92⟩,⟨zb30⟩,⟨zb8⟩,⟨zb13⟩,⟨zb17⟩,⟨zb9⟩⟩
           replace c67:=Bool.eq_false_iff.mpr c67
           subst c67
           rw [if_neg (show ¬ (false=true) by decide)] at H
           replace H:=Option.bind_eq_some_iff.mp H
           obtain ⟨t888,A770,H⟩:=H
           try dsimp only at H
           have A77:=Aside0.mk A770
           clear A770
           by_cases c78:t888=true
           ·subst c78
            rw [if_pos rfl] at H
            have H' := Aside0.mk H
            clear H
            have p885:0 ≤ (x85_4:Int):=of_decide_eq_true zb5
            have q885:x85_4 < (x127_2.length:Int):=of_decide_eq_true zb5
            obtain ⟨ad885,e885,hx885_0,hx885_1⟩:=at_T36 (Kd.R_reads' HO_83.out).2.2 x85_4 p885 q885
            cases e885
            replace p885:=eq_true p885
            replace q885:=eq_true q885
            go_wp2_with (first|((with_reducible refine gate_dst (N:=16) rfl ?_);(try (refine gate_guard zb64 ?_;dsimp only));refine box_event rfl (N:=16) rfl (cs:=#[.string (⟨#[]⟩:ByteArray),.string (⟨#[]⟩:ByteArray)]) (t:=36) zS ?_;intro gb886 hg w79 hbox hb;replace HO_14:=Aside0.mk (Kd.R_below (Kd.R_elderB zb29 gb886 (Nat.le_of_eq hg.symm)) hb);replace HO_83:=Aside0.mk (Kd.R_below (Kd.R_elderB zb49 gb886 (Nat.le_of_eq hg.symm)) hb);replace HO_127:=Aside0.mk (Kd.R_below (Kd.R_elderB zb19 gb886 (Nat.le_of_eq hg.symm)) hb);replace HO_863000:=Aside0.mk (Kd.S_below zb21 hb);replace HO_863001:=Aside0.mk (Kd.R_below zb22 hb);replace HO_863002:=Aside0.mk (Kd.R_below (Kd.R_elderB zb25 gb886 (Nat.le_of_eq hg.symm)) hb);replace HO_878003:=Aside0.mk (Kd.R_below (Kd.R_elderB zb46 gb886 (Nat.le_of_eq hg.symm)) hb);replace HO_878004:=Aside0.mk (Kd.R_below zb30 hb);have BK886:=Aside0.mk (hbox);have GW886:=zG hg zb14;have GE886:=GW886;replace HB:=Aside0.mk (below_step zb14 hb);have NB838_886:=Aside0.mk ((by rw [hg];exact Nat.ne_of_lt (blk_lt (g:=gb838) (o:=.cells #[.string (⟨#[71,69,84]⟩:ByteArray),.string (⟨#[47]⟩:ByteArray),.int .i64 1,.slice (some ad885) x127_2.length co52,.slice none 0 0] 26 (0,0)) zb8):gb838 ≠ gb886));have NB886_838:=Aside0.mk ((by rw [hg];exact Nat.ne_of_gt (blk_lt (g:=gb838) (o:=.cells #[.string (⟨#[71,69,84]⟩:ByteArray),.string (⟨#[47]⟩:ByteArray),.int .i64 1,.slice (some ad885) x127_2.length co52,.slice none 0 0] 26 (0,0)) zb8):gb886 ≠ gb838));replace BK838:=Aside0.mk (blk_below (g:=gb838) (o:=.cells #[.string (⟨#[71,69,84]⟩:ByteArray),.string (⟨#[47]⟩:ByteArray),.int .i64 1,.slice (some ad885) x127_2.length co52,.slice none 0 0] 26 (0,0)) zb8 hb);have NB862_886:=Aside0.mk ((by rw [hg];exact Nat.ne_of_lt (blk_lt (g:=gb862) (o:=.cells #[.slice Ao28 t846.length co28,.slice Ao31 t849.length co31,.slice Ao48 x863002_3.length co48,.slice A1 l1.length c1,.int .i64 t858,.int .i64 t859,.int .i64 t860,.int .i64 t861] 46 (0,0)) zb13):gb862 ≠ gb886));have NB886_862:=Aside0.mk ((by rw [hg];exact Nat.ne_of_gt (blk_lt (g:=gb862) (o:=.cells #[.slice Ao28 t846.length co28,.slice Ao31 t849.length co31,.slice Ao48 x863002_3.length co48,.slice A1 l1.length c1,.int .i64 t858,.int .i64 t859,.int .i64 t860,.int .i64 t861] 46 (0,0)) zb13):gb886 ≠ gb862));replace BK862:=Aside0.mk (blk_below (g:=gb862) (o:=.cells #[.slice Ao28 t846.length co28,.slice Ao31 t849.length co31,.slice Ao48 x863002_3.length co48,.slice A1 l1.length c1,.int .i64 t858,.int .i64 t859,.int .i64 t860,.int .i64 t861] 46 (0,0)) zb13 hb);have NB877_886:=Aside0.mk ((by rw [hg];exact Nat.ne_of_lt (blk_lt (g:=gb877) (o:=.cells #[.string t868,.string t869,.int .i64 t870,.slice Ao58 t871.length co58,.slice Ao59 t874.length co59] 26 (0,0)) zb17):gb877 ≠ gb886));have NB886_877:=Aside0.mk ((by rw [hg];exact Nat.ne_of_gt (blk_lt (g:=gb877) (o:=.cells #[.string t868,.string t869,.int .i64 t870,.slice Ao58 t871.length co58,.slice Ao59 t874.length co59] 26 (0,0)) zb17):gb886 ≠ gb877));replace BK877:=Aside0.mk (blk_below (g:=gb877) (o:=.cells #[.string t868,.string t869,.int .i64 t870,.slice Ao58 t871.length co58,.slice Ao59 t874.length co59] 26 (0,0)) zb17 hb);clear hb hbox hg;have hnb80:=NB886_838.out;have hnc80:=NB838_886.out;have hnb81:=NB886_862.out;have hnc81:=NB862_886.out;have hnb82:=NB886_877.out;have hnc82:=NB877_886.out;obtain ⟨hcz83_0,hcz83_1,hfz83_0,hfz83_1⟩:=zq2 BK886.out;have hnb84:=NB838_862.out;have hnc84:=NB862_838.out;have hnb85:=NB838_877.out;have hnc85:=NB877_838.out;obtain ⟨hcz86_0,hcz86_1,hcz86_2,hcz86_3,hcz86_4,hfz86_0,hfz86_1,hfz86_2,hfz86_3,hfz86_4⟩:=zq5 BK838.out)|((with_reducible refine gate_callee (f:=35) rfl ?_);refine goesL_ (some 93) rfl rfl Tryz.func35 zb10 rfl #[.slice (some ad885) x127_2.length co52,.string ((rd_T36 x127_2 x85_4).f0)] rfl zb1 ?_;(with_reducible refine (scrub_Hop.calls k4 _ _ x127_2 ((rd_T36 x127_2 x85_4).f0) false _ ?side1 ?side2 A66.out).mono ?_);(case side1=>refine (Kd.R_reads' (e:=36) (base:=w.heap.size) (ok:=fun k_=>((some k_ ≠ (u14:Value).ownBlock∧(some k_ ≠ (.slice Ao48 x863002_3.length co48:Value).ownBlock∧some k_ ≠ (.slice Ao58 t871.length co58:Value).ownBlock))∧k_ ≠ gb886)) (n:=x127_2.length) (c:=co52) ?_).2.2;exact zb16);(case side2=>exact (Kd.R_reads' HO_127.out).2.1);rintro e w87 ⟨rfl,hb⟩;(try clear A66);refine ⟨_,rfl,?_⟩;replace HO_14:=Aside0.mk (Kd.R_below zb37 hb);replace HO_83:=Aside0.mk (Kd.R_below zb38 hb);replace HO_127:=Aside0.mk (Kd.R_below zb16 hb);replace HO_863000:=Aside0.mk (Kd.S_below zb40 hb);replace HO_863001:=Aside0.mk (Kd.R_below zb41 hb);replace HO_863002:=Aside0.mk (Kd.R_below zb35 hb);replace HO_878003:=Aside0.mk (Kd.R_below zb36 hb);replace HO_878004:=Aside0.mk (Kd.R_below zb42 hb);replace BK838:=Aside0.mk (blk_below (g:=gb838) (o:=.cells #[.string (⟨#[71,69,84]⟩:ByteArray),.string (⟨#[47]⟩:ByteArray),.int .i64 1,.slice (some ad885) x127_2.length co52,.slice none 0 0] 26 (0,0)) zb31 hb);replace BK862:=Aside0.mk (blk_below (g:=gb862) (o:=.cells #[.slice Ao28 t846.length co28,.slice Ao31 t849.length co31,.slice Ao48 x863002_3.length co48,.slice A1 l1.length c1,.int .i64 t858,.int .i64 t859,.int .i64 t860,.int .i64 t861] 46 (0,0)) zb32 hb);replace BK877:=Aside0.mk (blk_below (g:=gb877) (o:=.cells #[.string t868,.string t869,.int .i64 t870,.slice Ao58 t871.length co58,.slice Ao59 t874.length co59] 26 (0,0)) zb33 hb);replace BK886:=Aside0.mk (blk_below (g:=gb886) (o:=.cells #[.string ((rd_T36 x127_2 x85_4).f0),.string ((rd_T36 x127_2 x85_4).f1)] 36 (0,0)) zb27 hb);replace HB:=Aside0.mk (below_step zb9 hb);(try clear hb);obtain ⟨hcz88_0,hcz88_1,hfz88_0,hfz88_1⟩:=zq2 BK886.out)|(go_at_call 34;(with_reducible refine (tollbarref04_In.calls k4 _ _ l1 ((rd_T36 x127_2 x85_4).f0) true _ ?side1 ?side2 A77.out).mono ?_);(case side1=>exact zb59);(case side2=>exact HC1.out);rintro e w89 ⟨rfl,hb⟩;(try clear A77);replace HO_14:=Aside0.mk (Kd.R_below zb29 hb);replace HO_83:=Aside0.mk (Kd.R_below zb49 hb);replace HO_127:=Aside0.mk (Kd.R_below zb19 hb);replace HO_863000:=Aside0.mk (Kd.S_below zb21 hb);replace HO_863001:=Aside0.mk (Kd.R_below zb22 hb);replace HO_863002:=Aside0.mk (Kd.R_below zb25 hb);replace HO_878003:=Aside0.mk (Kd.R_below zb46 hb);replace HO_878004:=Aside0.mk (Kd.R_below zb30 hb);replace BK838:=Aside0.mk (blk_below (g:=gb838) (o:=.cells #[.string (⟨#[71,69,84]⟩:ByteArray),.string (⟨#[47]⟩:ByteArray),.int .i64 1,.slice (some ad885) x127_2.length co52,.slice none 0 0] 26 (0,0)) zb8 hb);replace BK862:=Aside0.mk (blk_below (g:=gb862) (o:=.cells #[.slice Ao28 t846.length co28,.slice Ao31 t849.length co31,.slice Ao48 x863002_3.length co48,.slice A1 l1.length c1,.int .i64 t858,.int .i64 t859,.int .i64 t860,.int .i64 t861] 46 (0,0)) zb13 hb);replace BK877:=Aside0.mk (blk_below (g:=gb877) (o:=.cells #[.string t868,.string t869,.int .i64 t870,.slice Ao58 t871.length co58,.slice Ao59 t874.length co59] 26 (0,0)) zb17 hb);replace BK886:=Aside0.mk (blk_below (g:=gb886) (o:=.cells #[.string ((rd_T36 x127_2 x85_4).f0),.string ((rd_T36 x127_2 x85_4).f1)] 36 (0,0)) zb71 hb);replace HB:=Aside0.mk (below_step zb9 hb);(try clear hb)))
            go_roundg k4
            case measure=>have:=HJ5.out;have:=HK2.out;have:=HK3.out;have:=HK4.out;omega
            case rel=>exact ⟨(x14_4),(wrap64 (x85_4 + 1)),zb6,H',⟨zb127⟩,⟨zb95⟩,⟨zb103⟩,⟨zb102⟩,⟨zb21⟩,⟨zb22⟩,⟨zb91⟩,⟨zb92⟩,⟨zb30⟩,⟨zb8⟩,⟨zb13⟩,⟨zb17⟩,⟨zb9⟩⟩
           replace c78:=Bool.eq_false_iff.mpr c78
           subst c78
           rw [if_neg (show ¬ (false=true) by decide)] at H
           replace H:=Option.bind_eq_some_iff.mp H
           obtain ⟨t889,A900,H⟩:=H
           try dsimp only at H
           have A90:=Aside0.mk A900
           clear A900
           by_cases c91:t889=true
           ·subst c91
            rw [if_pos rfl] at H
            have H' := Aside0.mk H
            clear H
            have p885:0 ≤ (x85_4:Int):=of_decide_eq_true zb5
            have q885:x85_4 < (x127_2.length:Int):=of_decide_eq_true zb5
            obtain ⟨ad885,e885,hx885_0,hx885_1⟩:=at_T36 (Kd.R_reads' HO_83.out).2.2 x85_4 p885 q885
            cases e885
            replace p885:=eq_true p885
            replace q885:=eq_true q885
            go_wp2_with (first|((with_reducible refine gate_dst (N:=16) rfl ?_);(try (refine gate_guard zb64 ?_;dsimp only));refine box_event rfl (N:=16) rfl (cs:=#[.string (⟨#[]⟩:ByteArray),.string (⟨#[]⟩:ByteArray)]) (t:=36) zS ?_;intro gb886 hg w92 hbox hb;replace HO_14:=Aside0.mk (Kd.R_below (Kd.R_elderB zb29 gb886 (Nat.le_of_eq hg.symm)) hb);replace HO_83:=Aside0.mk (Kd.R_below (Kd.R_elderB zb49 gb886 (Nat.le_of_eq hg.symm)) hb);replace HO_127:=Aside0.mk (Kd.R_below (Kd.R_elderB zb19 gb886 (Nat.le_of_eq hg.symm)) hb);replace HO_863000:=Aside0.mk (Kd.S_below zb21 hb);replace HO_863001:=Aside0.mk (Kd.R_below zb22 hb);replace HO_863002:=Aside0.mk (Kd.R_below (Kd.R_elderB zb25 gb886 (Nat.le_of_eq hg.symm)) hb);replace HO_878003:=Aside0.mk (Kd.R_below (Kd.R_elderB zb46 gb886 (Nat.le_of_eq hg.symm)) hb);replace HO_878004:=Aside0.mk (Kd.R_below zb30 hb);have BK886:=Aside0.mk (hbox);have GW886:=zG hg zb14;have GE886:=GW886;replace HB:=Aside0.mk (below_step zb14 hb);have NB838_886:=Aside0.mk ((by rw [hg];exact Nat.ne_of_lt (blk_lt (g:=gb838) (o:=.cells #[.string (⟨#[71,69,84]⟩:ByteArray),.string (⟨#[47]⟩:ByteArray),.int .i64 1,.slice (some ad885) x127_2.length co52,.slice none 0 0] 26 (0,0)) zb8):gb838 ≠ gb886));have NB886_838:=Aside0.mk ((by rw [hg];exact Nat.ne_of_gt (blk_lt (g:=gb838) (o:=.cells #[.string (⟨#[71,69,84]⟩:ByteArray),.string (⟨#[47]⟩:ByteArray),.int .i64 1,.slice (some ad885) x127_2.length co52,.slice none 0 0] 26 (0,0)) zb8):gb886 ≠ gb838));replace BK838:=Aside0.mk (blk_below (g:=gb838) (o:=.cells #[.string (⟨#[71,69,84]⟩:ByteArray),.string (⟨#[47]⟩:ByteArray),.int .i64 1,.slice (some ad885) x127_2.length co52,.slice none 0 0] 26 (0,0)) zb8 hb);have NB862_886:=Aside0.mk ((by rw [hg];exact Nat.ne_of_lt (blk_lt (g:=gb862) (o:=.cells #[.slice Ao28 t846.length co28,.slice Ao31 t849.length co31,.slice Ao48 x863002_3.length co48,.slice A1 l1.length c1,.int .i64 t858,.int .i64 t859,.int .i64 t860,.int .i64 t861] 46 (0,0)) zb13):gb862 ≠ gb886));have NB886_862:=Aside0.mk ((by rw [hg];exact Nat.ne_of_gt (blk_lt (g:=gb862) (o:=.cells #[.slice Ao28 t846.length co28,.slice Ao31 t849.length co31,.slice Ao48 x863002_3.length co48,.slice A1 l1.length c1,.int .i64 t858,.int .i64 t859,.int .i64 t860,.int .i64 t861] 46 (0,0)) zb13):gb886 ≠ gb862));replace BK862:=Aside0.mk (blk_below (g:=gb862) (o:=.cells #[.slice Ao28 t846.length co28,.slice Ao31 t849.length co31,.slice Ao48 x863002_3.length co48,.slice A1 l1.length c1,.int .i64 t858,.int .i64 t859,.int .i64 t860,.int .i64 t861] 46 (0,0)) zb13 hb);have NB877_886:=Aside0.mk ((by rw [hg];exact Nat.ne_of_lt (blk_lt (g:=gb877) (o:=.cells #[.string t868,.string t869,.int .i64 t870,.slice Ao58 t871.length co58,.slice Ao59 t874.length co59] 26 (0,0)) zb17):gb877 ≠ gb886));have NB886_877:=Aside0.mk ((by rw [hg];exact Nat.ne_of_gt (blk_lt (g:=gb877) (o:=.cells #[.string t868,.string t869,.int .i64 t870,.slice Ao58 t871.length co58,.slice Ao59 t874.length co59] 26 (0,0)) zb17):gb886 ≠ gb877));replace BK877:=Aside0.mk (blk_below (g:=gb877) (o:=.cells #[.string t868,.string t869,.int .i64 t870,.slice Ao58 t871.length co58,.slice Ao59 t874.length co59] 26 (0,0)) zb17 hb);clear hb hbox hg;have hnb93:=NB886_838.out;have hnc93:=NB838_886.out;have hnb94:=NB886_862.out;have hnc94:=NB862_886.out;have hnb95:=NB886_877.out;have hnc95:=NB877_886.out;obtain ⟨hcz96_0,hcz96_1,hfz96_0,hfz96_1⟩:=zq2 BK886.out;have hnb97:=NB838_862.out;have hnc97:=NB862_838.out;have hnb98:=NB838_877.out;have hnc98:=NB877_838.out;obtain ⟨hcz99_0,hcz99_1,hcz99_2,hcz99_3,hcz99_4,hfz99_0,hfz99_1,hfz99_2,hfz99_3,hfz99_4⟩:=zq5 BK838.out)|((with_reducible refine gate_callee (f:=35) rfl ?_);refine goesL_ (some 93) rfl rfl Tryz.func35 zb10 rfl #[.slice (some ad885) x127_2.length co52,.string ((rd_T36 x127_2 x85_4).f0)] rfl zb1 ?_;(with_reducible refine (scrub_Hop.calls k4 _ _ x127_2 ((rd_T36 x127_2 x85_4).f0) false _ ?side1 ?side2 A66.out).mono ?_);(case side1=>refine (Kd.R_reads' (e:=36) (base:=w.heap.size) (ok:=fun k_=>((some k_ ≠ (u14:Value).ownBlock∧(some k_ ≠ (.slice Ao48 x863002_3.length co48:Value).ownBlock∧some k_ ≠ (.slice Ao58 t871.length co58:Value).ownBlock))∧k_ ≠ gb886)) (n:=x127_2.length) (c:=co52) ?_).2.2;exact zb16);(case side2=>exact (Kd.R_reads' HO_127.out).2.1);rintro e w100 ⟨rfl,hb⟩;(try clear A66);refine ⟨_,rfl,?_⟩;replace HO_14:=Aside0.mk (Kd.R_below zb37 hb);replace HO_83:=Aside0.mk (Kd.R_below zb38 hb);replace HO_127:=Aside0.mk (Kd.R_below zb16 hb);replace HO_863000:=Aside0.mk (Kd.S_below zb40 hb);replace HO_863001:=Aside0.mk (Kd.R_below zb41 hb);replace HO_863002:=Aside0.mk (Kd.R_below zb35 hb);replace HO_878003:=Aside0.mk (Kd.R_below zb36 hb);replace HO_878004:=Aside0.mk (Kd.R_below zb42 hb);replace BK838:=Aside0.mk (blk_below (g:=gb838) (o:=.cells #[.string (⟨#[71,69,84]⟩:ByteArray),.string (⟨#[47]⟩:ByteArray),.int .i64 1,.slice (some ad885) x127_2.length co52,.slice none 0 0] 26 (0,0)) zb31 hb);replace BK862:=Aside0.mk (blk_below (g:=gb862) (o:=.cells #[.slice Ao28 t846.length co28,.slice Ao31 t849.length co31,.slice Ao48 x863002_3.length co48,.slice A1 l1.length c1,.int .i64 t858,.int .i64 t859,.int .i64 t860,.int .i64 t861] 46 (0,0)) zb32 hb);replace BK877:=Aside0.mk (blk_below (g:=gb877) (o:=.cells #[.string t868,.string t869,.int .i64 t870,.slice Ao58 t871.length co58,.slice Ao59 t874.length co59] 26 (0,0)) zb33 hb);replace BK886:=Aside0.mk (blk_below (g:=gb886) (o:=.cells #[.string ((rd_T36 x127_2 x85_4).f0),.string ((rd_T36 x127_2 x85_4).f1)] 36 (0,0)) zb27 hb);replace HB:=Aside0.mk (below_step zb9 hb);(try clear hb);obtain ⟨hcz101_0,hcz101_1,hfz101_0,hfz101_1⟩:=zq2 BK886.out)|(go_at_call 34;(with_reducible refine (tollbarref04_In.calls k4 _ _ l1 ((rd_T36 x127_2 x85_4).f0) false _ ?side1 ?side2 A77.out).mono ?_);(case side1=>exact zb59);(case side2=>exact HC1.out);rintro e w102 ⟨rfl,hb⟩;(try clear A77);replace HO_14:=Aside0.mk (Kd.R_below zb29 hb);replace HO_83:=Aside0.mk (Kd.R_below zb49 hb);replace HO_127:=Aside0.mk (Kd.R_below zb19 hb);replace HO_863000:=Aside0.mk (Kd.S_below zb21 hb);replace HO_863001:=Aside0.mk (Kd.R_below zb22 hb);replace HO_863002:=Aside0.mk (Kd.R_below zb25 hb);replace HO_878003:=Aside0.mk (Kd.R_below zb46 hb);replace HO_878004:=Aside0.mk (Kd.R_below zb30 hb);replace BK838:=Aside0.mk (blk_below (g:=gb838) (o:=.cells #[.string (⟨#[71,69,84]⟩:ByteArray),.string (⟨#[47]⟩:ByteArray),.int .i64 1,.slice (some ad885) x127_2.length co52,.slice none 0 0] 26 (0,0)) zb8 hb);replace BK862:=Aside0.mk (blk_below (g:=gb862) (o:=.cells #[.slice Ao28 t846.length co28,.slice Ao31 t849.length co31,.slice Ao48 x863002_3.length co48,.slice A1 l1.length c1,.int .i64 t858,.int .i64 t859,.int .i64 t860,.int .i64 t861] 46 (0,0)) zb13 hb);replace BK877:=Aside0.mk (blk_below (g:=gb877) (o:=.cells #[.string t868,.string t869,.int .i64 t870,.slice Ao58 t871.length co58,.slice Ao59 t874.length co59] 26 (0,0)) zb17 hb);replace BK886:=Aside0.mk (blk_below (g:=gb886) (o:=.cells #[.string ((rd_T36 x127_2 x85_4).f0),.string ((rd_T36 x127_2 x85_4).f1)] 36 (0,0)) zb71 hb);replace HB:=Aside0.mk (below_step zb9 hb);(try clear hb);obtain ⟨hcz103_0,hcz103_1,hfz103_0,hfz103_1⟩:=zq2 BK886.out)|(go_at_call 34;(with_reducible refine (tollbarref04_In.calls k4 _ _ l2 ((rd_T36 x127_2 x85_4).f0) true _ ?side1 ?side2 A90.out).mono ?_);(case side1=>exact zb111);(case side2=>exact HC2.out);rintro e w104 ⟨rfl,hb⟩;(try clear A90);replace HO_14:=Aside0.mk (Kd.R_below zb29 hb);replace HO_83:=Aside0.mk (Kd.R_below zb49 hb);replace HO_127:=Aside0.mk (Kd.R_below zb19 hb);replace HO_863000:=Aside0.mk (Kd.S_below zb21 hb);replace HO_863001:=Aside0.mk (Kd.R_below zb22 hb);replace HO_863002:=Aside0.mk (Kd.R_below zb25 hb);replace HO_878003:=Aside0.mk (Kd.R_below zb46 hb);replace HO_878004:=Aside0.mk (Kd.R_below zb30 hb);replace BK838:=Aside0.mk (blk_below (g:=gb838) (o:=.cells #[.string (⟨#[71,69,84]⟩:ByteArray),.string (⟨#[47]⟩:ByteArray),.int .i64 1,.slice (some ad885) x127_2.length co52,.slice none 0 0] 26 (0,0)) zb8 hb);replace BK862:=Aside0.mk (blk_below (g:=gb862) (o:=.cells #[.slice Ao28 t846.length co28,.slice Ao31 t849.length co31,.slice Ao48 x863002_3.length co48,.slice A1 l1.length c1,.int .i64 t858,.int .i64 t859,.int .i64 t860,.int .i64 t861] 46 (0,0)) zb13 hb);replace BK877:=Aside0.mk (blk_below (g:=gb877) (o:=.cells #[.string t868,.string t869,.int .i64 t870,.slice Ao58 t871.length co58,.slice Ao59 t874.length co59] 26 (0,0)) zb17 hb);replace BK886:=Aside0.mk (blk_below (g:=gb886) (o:=.cells #[.string ((rd_T36 x127_2 x85_4).f0),.string ((rd_T36 x127_2 x85_4).f1)] 36 (0,0)) zb71 hb);replace HB:=Aside0.mk (below_step zb9 hb);(try clear hb)))
            go_roundg k4
            case measure=>have:=HJ5.out;have:=HK2.out;have:=HK3.out;have:=HK4.out;omega
            case rel=>exact ⟨(x14_4),(wrap64 (x85_4 + 1)),zb6,H',⟨zb127⟩,⟨zb95⟩,⟨zb103⟩,⟨zb102⟩,⟨zb21⟩,⟨zb22⟩,⟨zb91⟩,⟨zb92⟩,⟨zb30⟩,⟨zb8⟩,⟨zb13⟩,⟨zb17⟩,⟨zb9⟩⟩
           replace c91:=Bool.eq_false_iff.mpr c91
           subst c91
           rw [if_neg (show ¬ (false=true) by decide)] at H
           by_cases c105:x14_4.length < 4398046511104;rotate_left
           ·rw [if_neg c105] at H
            exact absurd H zb65
           rw [if_pos c105] at H
           have LMc105:=Aside0.mk c105
           clear c105
           obtain ⟨y890,hy890⟩ : ∃ y_:List (S36),y_=(x14_4 ++ [(⟨(rd_T36 x127_2 x85_4).f0,(rd_T36 x127_2 x85_4).f1⟩:S36)]):=⟨_,rfl⟩
           replace H:(tollbarlaw12_ScrubDrops.l2 k4 l1 l2 y890 x127_2 (x127_2.length:Int) (wrap64 (x85_4 + 1)) (⟨#[71,69,84]⟩:ByteArray) (⟨#[47]⟩:ByteArray) 1 x127_2 t846 t849 x863002_3 l1 t858 t859 t860 t861 t868 t869 t870 t871 t874)=some r:=by first|(rw [hy890];with_reducible exact H)|(have H2_:=(Option.bind_some _ _).symm.trans H;rw [hy890];with_reducible exact H2_)|(have H2_:=(Option.bind_some _ _).symm.trans H;with_reducible exact H2_)|with_reducible exact H|(rw [hy890];exact H)|exact H
           have Ny890:=Aside0.mk hy890
           clear hy890
           have H' := Aside0.mk H
           clear H
           have p885:0 ≤ (x85_4:Int):=of_decide_eq_true zb5
           have q885:x85_4 < (x127_2.length:Int):=of_decide_eq_true zb5
           obtain ⟨ad885,e885,hx885_0,hx885_1⟩:=at_T36 (Kd.R_reads' HO_83.out).2.2 x85_4 p885 q885
           cases e885
           replace p885:=eq_true p885
           replace q885:=eq_true q885
           go_wp2_with (first|((with_reducible refine gate_dst (N:=16) rfl ?_);(try (refine gate_guard zb64 ?_;dsimp only));refine box_event rfl (N:=16) rfl (cs:=#[.string (⟨#[]⟩:ByteArray),.string (⟨#[]⟩:ByteArray)]) (t:=36) zS ?_;intro gb886 hg w106 hbox hb;replace HO_14:=Aside0.mk (Kd.R_below (Kd.R_elderB zb29 gb886 (Nat.le_of_eq hg.symm)) hb);replace HO_83:=Aside0.mk (Kd.R_below (Kd.R_elderB zb49 gb886 (Nat.le_of_eq hg.symm)) hb);replace HO_127:=Aside0.mk (Kd.R_below (Kd.R_elderB zb19 gb886 (Nat.le_of_eq hg.symm)) hb);replace HO_863000:=Aside0.mk (Kd.S_below zb21 hb);replace HO_863001:=Aside0.mk (Kd.R_below zb22 hb);replace HO_863002:=Aside0.mk (Kd.R_below (Kd.R_elderB zb25 gb886 (Nat.le_of_eq hg.symm)) hb);replace HO_878003:=Aside0.mk (Kd.R_below (Kd.R_elderB zb46 gb886 (Nat.le_of_eq hg.symm)) hb);replace HO_878004:=Aside0.mk (Kd.R_below zb30 hb);have BK886:=Aside0.mk (hbox);have GW886:=zG hg zb14;have GE886:=GW886;replace HB:=Aside0.mk (below_step zb14 hb);have NB838_886:=Aside0.mk ((by rw [hg];exact Nat.ne_of_lt (blk_lt (g:=gb838) (o:=.cells #[.string (⟨#[71,69,84]⟩:ByteArray),.string (⟨#[47]⟩:ByteArray),.int .i64 1,.slice (some ad885) x127_2.length co52,.slice none 0 0] 26 (0,0)) zb8):gb838 ≠ gb886));have NB886_838:=Aside0.mk ((by rw [hg];exact Nat.ne_of_gt (blk_lt (g:=gb838) (o:=.cells #[.string (⟨#[71,69,84]⟩:ByteArray),.string (⟨#[47]⟩:ByteArray),.int .i64 1,.slice (some ad885) x127_2.length co52,.slice none 0 0] 26 (0,0)) zb8):gb886 ≠ gb838));replace BK838:=Aside0.mk (blk_below (g:=gb838) (o:=.cells #[.string (⟨#[71,69,84]⟩:ByteArray),.string (⟨#[47]⟩:ByteArray),.int .i64 1,.slice (some ad885) x127_2.length co52,.slice none 0 0] 26 (0,0)) zb8 hb);have NB862_886:=Aside0.mk ((by rw [hg];exact Nat.ne_of_lt (blk_lt (g:=gb862) (o:=.cells #[.slice Ao28 t846.length co28,.slice Ao31 t849.length co31,.slice Ao48 x863002_3.length co48,.slice A1 l1.length c1,.int .i64 t858,.int .i64 t859,.int .i64 t860,.int .i64 t861] 46 (0,0)) zb13):gb862 ≠ gb886));have NB886_862:=Aside0.mk ((by rw [hg];exact Nat.ne_of_gt (blk_lt (g:=gb862) (o:=.cells #[.slice Ao28 t846.length co28,.slice Ao31 t849.length co31,.slice Ao48 x863002_3.length co48,.slice A1 l1.length c1,.int .i64 t858,.int .i64 t859,.int .i64 t860,.int .i64 t861] 46 (0,0)) zb13):gb886 ≠ gb862));replace BK862:=Aside0.mk (blk_below (g:=gb862) (o:=.cells #[.slice Ao28 t846.length co28,.slice Ao31 t849.length co31,.slice Ao48 x863002_3.length co48,.slice A1 l1.length c1,.int .i64 t858,.int .i64 t859,.int .i64 t860,.int .i64 t861] 46 (0,0)) zb13 hb);have NB877_886:=Aside0.mk ((by rw [hg];exact Nat.ne_of_lt (blk_lt (g:=gb877) (o:=.cells #[.string t868,.string t869,.int .i64 t870,.slice Ao58 t871.length co58,.slice Ao59 t874.length co59] 26 (0,0)) zb17):gb877 ≠ gb886));have NB886_877:=Aside0.mk ((by rw [hg];exact Nat.ne_of_gt (blk_lt (g:=gb877) (o:=.cells #[.string t868,.string t869,.int .i64 t870,.slice Ao58 t871.length co58,.slice Ao59 t874.length co59] 26 (0,0)) zb17):gb886 ≠ gb877));replace BK877:=Aside0.mk (blk_below (g:=gb877) (o:=.cells #[.string t868,.string t869,.int .i64 t870,.slice Ao58 t871.length co58,.slice Ao59 t874.length co59] 26 (0,0)) zb17 hb);clear hb hbox hg;have hnb107:=NB886_838.out;have hnc107:=NB838_886.out;have hnb108:=NB886_862.out;have hnc108:=NB862_886.out;have hnb109:=NB886_877.out;have hnc109:=NB877_886.out;obtain ⟨hcz110_0,hcz110_1,hfz110_0,hfz110_1⟩:=zq2 BK886.out;have hnb111:=NB838_862.out;have hnc111:=NB862_838.out;have hnb112:=NB838_877.out;have hnc112:=NB877_838.out;obtain ⟨hcz113_0,hcz113_1,hcz113_2,hcz113_3,hcz113_4,hfz113_0,hfz113_1,hfz113_2,hfz113_3,hfz113_4⟩:=zq5 BK838.out)|((with_reducible refine gate_callee (f:=35) rfl ?_);refine goesL_ (some 93) rfl rfl Tryz.func35 zb10 rfl #[.slice (some ad885) x127_2.length co52,.string ((rd_T36 x127_2 x85_4).f0)] rfl zb1 ?_;(with_reducible refine (scrub_Hop.calls k4 _ _ x127_2 ((rd_T36 x127_2 x85_4).f0) false _ ?side1 ?side2 A66.out).mono ?_);(case side1=>refine (Kd.R_reads' (e:=36) (base:=w.heap.size) (ok:=fun k_=>((some k_ ≠ (u14:Value).ownBlock∧(some k_ ≠ (.slice Ao48 x863002_3.length co48:Value).ownBlock∧some k_ ≠ (.slice Ao58 t871.length co58:Value).ownBlock))∧k_ ≠ gb886)) (n:=x127_2.length) (c:=co52) ?_).2.2;exact zb16);(case side2=>exact (Kd.R_reads' HO_127.out).2.1);rintro e w114 ⟨rfl,hb⟩;(try clear A66);refine ⟨_,rfl,?_⟩;replace HO_14:=Aside0.mk (Kd.R_below zb37 hb);replace HO_83:=Aside0.mk (Kd.R_below zb38 hb);replace HO_127:=Aside0.mk (Kd.R_below zb16 hb);replace HO_863000:=Aside0.mk (Kd.S_below zb40 hb);replace HO_863001:=Aside0.mk (Kd.R_below zb41 hb);replace HO_863002:=Aside0.mk (Kd.R_below zb35 hb);replace HO_878003:=Aside0.mk (Kd.R_below zb36 hb);replace HO_878004:=Aside0.mk (Kd.R_below zb42 hb);replace BK838:=Aside0.mk (blk_below (g:=gb838) (o:=.cells #[.string (⟨#[71,69,84]⟩:ByteArray),.string (⟨#[47]⟩:ByteArray),.int .i64 1,.slice (some ad885) x127_2.length co52,.slice none 0 0] 26 (0,0)) zb31 hb);replace BK862:=Aside0.mk (blk_below (g:=gb862) (o:=.cells #[.slice Ao28 t846.length co28,.slice Ao31 t849.length co31,.slice Ao48 x863002_3.length co48,.slice A1 l1.length c1,.int .i64 t858,.int .i64 t859,.int .i64 t860,.int .i64 t861] 46 (0,0)) zb32 hb);replace BK877:=Aside0.mk (blk_below (g:=gb877) (o:=.cells #[.string t868,.string t869,.int .i64 t870,.slice Ao58 t871.length co58,.slice Ao59 t874.length co59] 26 (0,0)) zb33 hb);replace BK886:=Aside0.mk (blk_below (g:=gb886) (o:=.cells #[.string ((rd_T36 x127_2 x85_4).f0),.string ((rd_T36 x127_2 x85_4).f1)] 36 (0,0)) zb27 hb);replace HB:=Aside0.mk (below_step zb9 hb);(try clear hb);obtain ⟨hcz115_0,hcz115_1,hfz115_0,hfz115_1⟩:=zq2 BK886.out)|(go_at_call 34;(with_reducible refine (tollbarref04_In.calls k4 _ _ l1 ((rd_T36 x127_2 x85_4).f0) false _ ?side1 ?side2 A77.out).mono ?_);(case side1=>exact zb59);(case side2=>exact HC1.out);rintro e w116 ⟨rfl,hb⟩;(try clear A77);replace HO_14:=Aside0.mk (Kd.R_below zb29 hb);replace HO_83:=Aside0.mk (Kd.R_below zb49 hb);replace HO_127:=Aside0.mk (Kd.R_below zb19 hb);replace HO_863000:=Aside0.mk (Kd.S_below zb21 hb);replace HO_863001:=Aside0.mk (Kd.R_below zb22 hb);replace HO_863002:=Aside0.mk (Kd.R_below zb25 hb);replace HO_878003:=Aside0.mk (Kd.R_below zb46 hb);replace HO_878004:=Aside0.mk (Kd.R_below zb30 hb);replace BK838:=Aside0.mk (blk_below (g:=gb838) (o:=.cells #[.string (⟨#[71,69,84]⟩:ByteArray),.string (⟨#[47]⟩:ByteArray),.int .i64 1,.slice (some ad885) x127_2.length co52,.slice none 0 0] 26 (0,0)) zb8 hb);replace BK862:=Aside0.mk (blk_below (g:=gb862) (o:=.cells #[.slice Ao28 t846.length co28,.slice Ao31 t849.length co31,.slice Ao48 x863002_3.length co48,.slice A1 l1.length c1,.int .i64 t858,.int .i64 t859,.int .i64 t860,.int .i64 t861] 46 (0,0)) zb13 hb);replace BK877:=Aside0.mk (blk_below (g:=gb877) (o:=.cells #[.string t868,.string t869,.int .i64 t870,.slice Ao58 t871.length co58,.slice Ao59 t874.length co59] 26 (0,0)) zb17 hb);replace BK886:=Aside0.mk (blk_below (g:=gb886) (o:=.cells #[.string ((rd_T36 x127_2 x85_4).f0),.string ((rd_T36 x127_2 x85_4).f1)] 36 (0,0)) zb71 hb);replace HB:=Aside0.mk (below_step zb9 hb);(try clear hb);obtain ⟨hcz117_0,hcz117_1,hfz117_0,hfz117_1⟩:=zq2 BK886.out)|(go_at_call 34;(with_reducible refine (tollbarref04_In.calls k4 _ _ l2 ((rd_T36 x127_2 x85_4).f0) false _ ?side1 ?side2 A90.out).mono ?_);(case side1=>exact zb111);(case side2=>exact HC2.out);rintro e w118 ⟨rfl,hb⟩;(try clear A90);replace HO_14:=Aside0.mk (Kd.R_below zb29 hb);replace HO_83:=Aside0.mk (Kd.R_below zb49 hb);replace HO_127:=Aside0.mk (Kd.R_below zb19 hb);replace HO_863000:=Aside0.mk (Kd.S_below zb21 hb);replace HO_863001:=Aside0.mk (Kd.R_below zb22 hb);replace HO_863002:=Aside0.mk (Kd.R_below zb25 hb);replace HO_878003:=Aside0.mk (Kd.R_below zb46 hb);replace HO_878004:=Aside0.mk (Kd.R_below zb30 hb);replace BK838:=Aside0.mk (blk_below (g:=gb838) (o:=.cells #[.string (⟨#[71,69,84]⟩:ByteArray),.string (⟨#[47]⟩:ByteArray),.int .i64 1,.slice (some ad885) x127_2.length co52,.slice none 0 0] 26 (0,0)) zb8 hb);replace BK862:=Aside0.mk (blk_below (g:=gb862) (o:=.cells #[.slice Ao28 t846.length co28,.slice Ao31 t849.length co31,.slice Ao48 x863002_3.length co48,.slice A1 l1.length c1,.int .i64 t858,.int .i64 t859,.int .i64 t860,.int .i64 t861] 46 (0,0)) zb13 hb);replace BK877:=Aside0.mk (blk_below (g:=gb877) (o:=.cells #[.string t868,.string t869,.int .i64 t870,.slice Ao58 t871.length co58,.slice Ao59 t874.length co59] 26 (0,0)) zb17 hb);replace BK886:=Aside0.mk (blk_below (g:=gb886) (o:=.cells #[.string ((rd_T36 x127_2 x85_4).f0),.string ((rd_T36 x127_2 x85_4).f1)] 36 (0,0)) zb71 hb);replace HB:=Aside0.mk (below_step zb9 hb);(try clear hb);obtain ⟨hcz119_0,hcz119_1,hfz119_0,hfz119_1⟩:=zq2 BK886.out)|((with_reducible refine gate_builtin (b:=.append) (xs:=#[.tmp 109,.tmp 111]) rfl ?_);(try (refine gate_guard zb64 ?_;dsimp only));at_builtin;refine Kd.R_append k36 (w0:=w) w.heap.size rfl (.tmp 109) (.tmp 111) 24 36 (.agg #[(.string ⟨#[]⟩),(.string ⟨#[]⟩)]) 32 rfl Tryz.underlying24 info36 rfl zb43 zb44 u14 x14_4 (⟨(rd_T36 x127_2 x85_4).f0,(rd_T36 x127_2 x85_4).f1⟩:S36) [.string ((rd_T36 x127_2 x85_4).f0),.string ((rd_T36 x127_2 x85_4).f1)] (fun k_=>some k_ ≠ (.slice (some ad885) x127_2.length co52:Value).ownBlock∧some k_ ≠ (.slice (some ad885) x127_2.length co52:Value).ownBlock∧some k_ ≠ (.slice Ao48 x863002_3.length co48:Value).ownBlock∧some k_ ≠ (.slice Ao58 t871.length co58:Value).ownBlock∧k_ ≠ gb886) (fun _=>False) rfl rfl ?aP (fun _ hk=>hk.elim) ?aF ?aO ?aB ?aS ?aL ?_;(case aP=>exact k36_mkM _ _ _ (⟨(rd_T36 x127_2 x85_4).f0,(rd_T36 x127_2 x85_4).f1⟩:S36));(case aB=>exact zb9);(case aF=>exact (fun k_ hk=>⟨Kd.fresh' (Kd.R_lt zb49) k_ hk,Kd.fresh' (Kd.R_lt zb19) k_ hk,Kd.fresh' (Kd.R_lt zb25) k_ hk,Kd.fresh' (Kd.R_lt zb46) k_ hk,Kd.freshB (g:=gb886) (o:=.cells #[.string ((rd_T36 x127_2 x85_4).f0),.string ((rd_T36 x127_2 x85_4).f1)] 36 (0,0)) zb71 k_ hk⟩));(case aO=>exact (by (with_reducible repeat (first|apply Kd.R_alloc|apply Kd.R_drewN|apply Kd.R_drew));exact Kd.R_mono HO_14.out (fun _ hk=>⟨hk.1.1,⟨hk.1.2.1,⟨hk.1.2.2.1,⟨hk.1.2.2.2,hk.2⟩⟩⟩⟩)));(case aS=>exact (below_size zb9));(case aL=>have:=LMc105.out;omega);intro v891 w120 ho hb hg hat;rw [← Ny890.out] at ho;replace HO_83:=Aside0.mk (Kd.R_after (ok:=(fun k_=>some k_ ≠ (.slice Ao48 x863002_3.length co48:Value).ownBlock∧some k_ ≠ (.slice Ao58 t871.length co58:Value).ownBlock∧k_ ≠ gb886)) (by (with_reducible repeat (first|apply Kd.R_alloc|apply Kd.R_drewN|apply Kd.R_drew));exact Kd.R_mono HO_83.out (fun _ hk=>⟨⟨hk.1.2.1,⟨hk.1.2.2,hk.2⟩⟩,hk.1.1⟩)) hg hat);replace HO_127:=Aside0.mk (Kd.R_after (ok:=(fun k_=>some k_ ≠ (.slice Ao48 x863002_3.length co48:Value).ownBlock∧some k_ ≠ (.slice Ao58 t871.length co58:Value).ownBlock∧k_ ≠ gb886)) (by (with_reducible repeat (first|apply Kd.R_alloc|apply Kd.R_drewN|apply Kd.R_drew));exact Kd.R_mono HO_127.out (fun _ hk=>⟨⟨hk.1.2.1,⟨hk.1.2.2,hk.2⟩⟩,hk.1.1⟩)) hg hat);replace HO_863000:=Aside0.mk (Kd.S_over' zb21 (Kd.R_typed zb29) zb43 hg);replace HO_863001:=Aside0.mk (Kd.R_over' zb22 (Kd.R_typed zb29) zb43 hg);replace HO_863002:=Aside0.mk (Kd.R_after (ok:=(fun k_=>some k_ ≠ (.slice (some ad885) x127_2.length co52:Value).ownBlock∧some k_ ≠ (.slice (some ad885) x127_2.length co52:Value).ownBlock∧some k_ ≠ (.slice Ao58 t871.length co58:Value).ownBlock∧k_ ≠ gb886)) (by (with_reducible repeat (first|apply Kd.R_alloc|apply Kd.R_drewN|apply Kd.R_drew));exact Kd.R_mono HO_863002.out (fun _ hk=>⟨⟨hk.1.2.1,⟨hk.1.2.2.1,⟨hk.1.2.2.2,hk.2⟩⟩⟩,hk.1.1⟩)) hg hat);replace HO_878003:=Aside0.mk (Kd.R_after (ok:=(fun k_=>some k_ ≠ (.slice (some ad885) x127_2.length co52:Value).ownBlock∧some k_ ≠ (.slice (some ad885) x127_2.length co52:Value).ownBlock∧some k_ ≠ (.slice Ao48 x863002_3.length co48:Value).ownBlock∧k_ ≠ gb886)) (by (with_reducible repeat (first|apply Kd.R_alloc|apply Kd.R_drewN|apply Kd.R_drew));exact Kd.R_mono HO_878003.out (fun _ hk=>⟨⟨hk.1.2.1,⟨hk.1.2.2.1,⟨hk.1.2.2.2,hk.2⟩⟩⟩,hk.1.1⟩)) hg hat);replace HO_878004:=Aside0.mk (Kd.R_over' zb30 (Kd.R_typed zb29) zb43 hg);replace BK838:=Aside0.mk (blk_grown (g:=gb838) (o:=.cells #[.string (⟨#[71,69,84]⟩:ByteArray),.string (⟨#[47]⟩:ByteArray),.int .i64 1,.slice (some ad885) x127_2.length co52,.slice none 0 0] 26 (0,0)) zb8 hg (Kd.R_ne HO_14.out BK838.out zb43));replace BK862:=Aside0.mk (blk_grown (g:=gb862) (o:=.cells #[.slice Ao28 t846.length co28,.slice Ao31 t849.length co31,.slice Ao48 x863002_3.length co48,.slice A1 l1.length c1,.int .i64 t858,.int .i64 t859,.int .i64 t860,.int .i64 t861] 46 (0,0)) zb13 hg (Kd.R_ne HO_14.out BK862.out zb43));replace BK877:=Aside0.mk (blk_grown (g:=gb877) (o:=.cells #[.string t868,.string t869,.int .i64 t870,.slice Ao58 t871.length co58,.slice Ao59 t874.length co59] 26 (0,0)) zb17 hg (Kd.R_ne HO_14.out BK877.out zb43));replace BK886:=Aside0.mk (blk_grown (g:=gb886) (o:=.cells #[.string ((rd_T36 x127_2 x85_4).f0),.string ((rd_T36 x127_2 x85_4).f1)] 36 (0,0)) zb71 hg (Kd.R_away HO_14.out (fun _ hk=>hk.2)));replace HB:=Aside0.mk (hb);have HO892:=Aside0.mk (ho);clear ho hb hg hat))
           go_roundg k4
           case measure=>have:=HJ5.out;have:=HK2.out;have:=HK3.out;have:=HK4.out;omega
           case rel=>exact ⟨(y890),(wrap64 (x85_4 + 1)),zb6,H',⟨zb127⟩,⟨by (with_reducible repeat (first|apply Kd.R_alloc|apply Kd.R_drewN|apply Kd.R_drew));exact Kd.R_mono HO892.out (fun _ hk=>⟨hk.1,⟨hk.2.1,⟨hk.2.2.1,hk.2.2.2.1⟩⟩⟩)⟩,⟨by (with_reducible repeat (first|apply Kd.R_alloc|apply Kd.R_drewN|apply Kd.R_drew));exact Kd.R_mono HO_83.out (fun _ hk=>⟨hk.2,⟨hk.1.1,hk.1.2.1⟩⟩)⟩,⟨by (with_reducible repeat (first|apply Kd.R_alloc|apply Kd.R_drewN|apply Kd.R_drew));exact Kd.R_mono HO_127.out (fun _ hk=>⟨hk.2,⟨hk.1.1,hk.1.2.1⟩⟩)⟩,⟨zb21⟩,⟨zb22⟩,⟨by (with_reducible repeat (first|apply Kd.R_alloc|apply Kd.R_drewN|apply Kd.R_drew));exact Kd.R_mono HO_863002.out (fun _ hk=>⟨hk.2,⟨hk.1.1,⟨hk.1.2.1,hk.1.2.2.1⟩⟩⟩)⟩,⟨by (with_reducible repeat (first|apply Kd.R_alloc|apply Kd.R_drewN|apply Kd.R_drew));exact Kd.R_mono HO_878003.out (fun _ hk=>⟨hk.2,⟨hk.1.1,⟨hk.1.2.1,hk.1.2.2.1⟩⟩⟩)⟩,⟨zb30⟩,⟨zb8⟩,⟨zb13⟩,⟨zb17⟩,⟨zb9⟩⟩
          ·rw [if_neg c65] at H
           exact absurd H zb65
         rw [if_neg c63] at H
         have c63b0:=decide_eq_false c63
         clear c63
         by_cases c121:x14_4.length + x863002_3.length < 4398046511104
         ·rw [if_pos c121] at H
          have LMc121:=Aside0.mk c121
          clear c121
          obtain ⟨y881,hy881⟩ : ∃ y_:List (S36),y_=(x14_4 ++ x863002_3):=⟨_,rfl⟩
          replace H:((tollbarref04_Same.f k4 t871 y881).bind fun t884=>(if t884=true then (some ((t874.length:Int) == 0)) else (some false)))=some r:=by first|(rw [hy881];with_reducible exact H)|(have H2_:=(Option.bind_some _ _).symm.trans H;rw [hy881];with_reducible exact H2_)|(have H2_:=(Option.bind_some _ _).symm.trans H;with_reducible exact H2_)|with_reducible exact H|(rw [hy881];exact H)|exact H
          have Ny881:=Aside0.mk hy881
          clear hy881
          replace H:=Option.bind_eq_some_iff.mp H
          obtain ⟨t884,A1220,H⟩:=H
          try dsimp only at H
          have A122:=Aside0.mk A1220
          clear A1220
          by_cases c123:t884=true
          ·subst c123
           rw [if_pos rfl] at H
           obtain rfl:=Option.some.inj H
           try go_wp2
           replace HO_14:=Aside0.mk (Kd.R_drew HO_14.out)
           replace HO_83:=Aside0.mk (Kd.R_drew HO_83.out)
           replace HO_127:=Aside0.mk (Kd.R_drew HO_127.out)
           replace HO_863000:=Aside0.mk (Kd.S_drew HO_863000.out)
           replace HO_863001:=Aside0.mk (Kd.R_drew HO_863001.out)
           replace HO_863002:=Aside0.mk (Kd.R_drew HO_863002.out)
           replace HO_878003:=Aside0.mk (Kd.R_drew HO_878003.out)
           replace HO_878004:=Aside0.mk (Kd.R_drew HO_878004.out)
           replace BK838:=Aside0.mk (blk_drew BK838.out)
           replace BK862:=Aside0.mk (blk_drew BK862.out)
           replace BK877:=Aside0.mk (blk_drew BK877.out)
           replace HB:=Aside0.mk (below_drew1 HB.out)
           refine start_ (n:=14) (S:=fun w' => w'.cell? ⟨gb877,0,none⟩=some (.string t868)∧w'.cell? ⟨gb877,1,none⟩=some (.string t869)∧w'.cell? ⟨gb877,2,none⟩=some (.int .i64 t870)∧w'.cell? ⟨gb877,3,none⟩=some (.slice Ao58 t871.length co58)∧w'.cell? ⟨gb877,4,none⟩=some (.slice Ao59 t874.length co59)∧w'.cell? ⟨gb862,0,none⟩=some (.slice Ao28 t846.length co28)∧w'.cell? ⟨gb862,1,none⟩=some (.slice Ao31 t849.length co31)∧w'.cell? ⟨gb862,2,none⟩=some (.slice Ao48 x863002_3.length co48)∧w'.cell? ⟨gb862,3,none⟩=some (.slice A1 l1.length c1)∧w'.cell? ⟨gb862,4,none⟩=some (.int .i64 t858)∧w'.cell? ⟨gb862,5,none⟩=some (.int .i64 t859)∧w'.cell? ⟨gb862,6,none⟩=some (.int .i64 t860)∧w'.cell? ⟨gb862,7,none⟩=some (.int .i64 t861)) (ds:=[]) (zl 14 0) zb10 rfl rfl ⟨(blk_cell BK877.out 0).trans rfl,(blk_cell BK877.out 1).trans rfl,(blk_cell BK877.out 2).trans rfl,(blk_cell BK877.out 3).trans rfl,(blk_cell BK877.out 4).trans rfl,(blk_cell BK862.out 0).trans rfl,(blk_cell BK862.out 1).trans rfl,(blk_cell BK862.out 2).trans rfl,(blk_cell BK862.out 3).trans rfl,(blk_cell BK862.out 4).trans rfl,(blk_cell BK862.out 5).trans rfl,(blk_cell BK862.out 6).trans rfl,(blk_cell BK862.out 7).trans rfl⟩ (fun hHeld=>?_);refine with_tabW tollbarlaw12_ScrubDrops.tab30 tollbarlaw12_ScrubDrops.bits30 (fun HT_ HW_=>?_)
           generalize wr.drew=w124 at HO_14 HO_83 HO_127 HO_863000 HO_863001 HO_863002 HO_878003 HO_878004 BK838 BK862 BK877 HB hHeld ⊢
           refine zpu 0 (N:=some 114) (zl 14 1) HT_.out rfl rfl ?_
           refine zpu 2 (N:=some 116) (zl 14 5) HT_.out rfl rfl ?_
           refine zpu 3 (N:=some 117) (zl 14 13) HT_.out rfl rfl ?_
           refine take_ (i:=1) (N:=some 115) (v:=?_) (a' := ?_) (zl 14 15) rfl rfl (take_ofW HT_.out HW_.out zb10) (fun _ _ _ h=>h) (Or.inl ⟨zb64,?_⟩) hHeld ?_ ?_
           rotate_left
           ·rintro w' ⟨s0,s1,s2,s3,s4,s5,s6,s7,s8,s9,s10,s11,s12⟩;go_simp;with_reducible rfl
           rotate_left
           ·simp only [Act.put,zqA,zqB,zqC,i64_w,i32_w];rfl
           refine take_ (i:=4) (N:=some 118) (v:=?_) (a' := ?_) (zl 14 31) rfl rfl (take_ofW HT_.out HW_.out zb10) (fun _ _ _ h=>h) (Or.inl ⟨zb64,?_⟩) hHeld ?_ ?_
           rotate_left
           ·rintro w' ⟨s0,s1,s2,s3,s4,s5,s6,s7,s8,s9,s10,s11,s12⟩;go_simp;with_reducible rfl
           rotate_left
           ·simp only [Act.put,zqA,zqB,zqC,i64_w,i32_w];rfl
           refine one_ (i:=5) (N:=some 119) (zl 14 63) rfl rfl (one_of HT_.out zb10) zb43 (fun K hK=>?_)
           refine Kd.R_append_rows_step k36 (w0:=w) w.heap.size zb64 (.tmp 116) (.tmp 118) 24 36 (.agg #[(.string ⟨#[]⟩),(.string ⟨#[]⟩)]) 32 rfl Tryz.underlying24 info36 rfl zb43 zb44 u14 x14_4 x863002_3 _ _ _ (fun k_=>some k_ ≠ (.slice Ao52 x127_2.length co52:Value).ownBlock∧some k_ ≠ (.slice Ao52 x127_2.length co52:Value).ownBlock∧some k_ ≠ (.slice Ao48 x863002_3.length co48:Value).ownBlock∧some k_ ≠ (.slice Ao58 t871.length co58:Value).ownBlock) (fun _=>False) rfl rfl ?aO ?aR (fun _ _ h=>h) (fun _ h=>h.elim) ?aF ?aB ?aS ?aL ?_
           (case aR=>exact zb82)
           (case aB=>exact zb14)
           (case aF=>exact (fun k_ hk=>⟨Kd.fresh' (Kd.R_lt zb49) k_ hk,Kd.fresh' (Kd.R_lt zb19) k_ hk,Kd.fresh' (Kd.R_lt zb25) k_ hk,Kd.fresh' (Kd.R_lt zb46) k_ hk⟩))
           (case aO=>exact zb29)
           (case aS=>exact (below_size zb14))
           (case aL=>have:=LMc121.out;omega)
           intro v882 w125 ho hb hg hat
           rw [← Ny881.out] at ho
           have n0_:=Aside0.mk (Kd.R_after (ok:=(fun k_=>some k_ ≠ (.slice Ao48 x863002_3.length co48:Value).ownBlock∧some k_ ≠ (.slice Ao58 t871.length co58:Value).ownBlock)) (by (with_reducible repeat (first|apply Kd.R_alloc|apply Kd.R_drewN|apply Kd.R_drew));exact Kd.R_mono HO_83.out (fun _ hk=>⟨⟨hk.2.1,hk.2.2⟩,hk.1⟩)) hg hat)
           have n1_:=Aside0.mk (Kd.R_after (ok:=(fun k_=>some k_ ≠ (.slice Ao48 x863002_3.length co48:Value).ownBlock∧some k_ ≠ (.slice Ao58 t871.length co58:Value).ownBlock)) (by (with_reducible repeat (first|apply Kd.R_alloc|apply Kd.R_drewN|apply Kd.R_drew));exact Kd.R_mono HO_127.out (fun _ hk=>⟨⟨hk.2.1,hk.2.2⟩,hk.1⟩)) hg hat)
           have n2_:=Aside0.mk (Kd.S_over' zb21 (Kd.R_typed zb29) zb43 hg)
           have n3_:=Aside0.mk (Kd.R_over' zb22 (Kd.R_typed zb29) zb43 hg)
           have n4_:=Aside0.mk (Kd.R_after (ok:=(fun k_=>some k_ ≠ (.slice Ao52 x127_2.length co52:Value).ownBlock∧some k_ ≠ (.slice Ao52 x127_2.length co52:Value).ownBlock∧some k_ ≠ (.slice Ao58 t871.length co58:Value).ownBlock)) (by (with_reducible repeat (first|apply Kd.R_alloc|apply Kd.R_drewN|apply Kd.R_drew));exact Kd.R_mono HO_863002.out (fun _ hk=>⟨⟨hk.2.1,⟨hk.2.2.1,hk.2.2.2⟩⟩,hk.1⟩)) hg hat)
           have n5_:=Aside0.mk (Kd.R_after (ok:=(fun k_=>some k_ ≠ (.slice Ao52 x127_2.length co52:Value).ownBlock∧some k_ ≠ (.slice Ao52 x127_2.length co52:Value).ownBlock∧some k_ ≠ (.slice Ao48 x863002_3.length co48:Value).ownBlock)) (by (with_reducible repeat (first|apply Kd.R_alloc|apply Kd.R_drewN|apply Kd.R_drew));exact Kd.R_mono HO_878003.out (fun _ hk=>⟨⟨hk.2.1,⟨hk.2.2.1,hk.2.2.2⟩⟩,hk.1⟩)) hg hat)
           have n6_:=Aside0.mk (Kd.R_over' zb30 (Kd.R_typed zb29) zb43 hg)
           have n7_:=Aside0.mk (blk_grown (g:=gb838) (o:=.cells #[.string (⟨#[71,69,84]⟩:ByteArray),.string (⟨#[47]⟩:ByteArray),.int .i64 1,.slice Ao52 x127_2.length co52,.slice none 0 0] 26 (0,0)) zb8 hg (Kd.R_ne HO_14.out BK838.out zb43))
           have n8_:=Aside0.mk (blk_grown (g:=gb862) (o:=.cells #[.slice Ao28 t846.length co28,.slice Ao31 t849.length co31,.slice Ao48 x863002_3.length co48,.slice A1 l1.length c1,.int .i64 t858,.int .i64 t859,.int .i64 t860,.int .i64 t861] 46 (0,0)) zb13 hg (Kd.R_ne HO_14.out BK862.out zb43))
           have n9_:=Aside0.mk (blk_grown (g:=gb877) (o:=.cells #[.string t868,.string t869,.int .i64 t870,.slice Ao58 t871.length co58,.slice Ao59 t874.length co59] 26 (0,0)) zb17 hg (Kd.R_ne HO_14.out BK877.out zb43))
           have n10_:=Aside0.mk (hb)
           have n11_:=Aside0.mk (ho)
           clear HO_83 HO_127 HO_863000 HO_863001 HO_863002 HO_878003 HO_878004 BK838 BK862 BK877 HB HO_14
           have HO_83:=n0_
           have HO_127:=n1_
           have HO_863000:=n2_
           have HO_863001:=n3_
           have HO_863002:=n4_
           have HO_878003:=n5_
           have HO_878004:=n6_
           have BK838:=n7_
           have BK862:=n8_
           have BK877:=n9_
           have HB:=n10_
           have HO883:=n11_
           clear n0_ n1_ n2_ n3_ n4_ n5_ n6_ n7_ n8_ n9_ n10_ n11_ ho hb hg hat
           obtain ⟨Ao126,co126,eo126⟩:=Kd.R_slice HO883.out
           (first|subst eo126|(injection eo126 with f1_ f2_ f3_;have f4_:=f1_.symm;have f5_:=f3_.symm;clear f1_ f2_ f3_;subst f4_;subst f5_))
           refine hK.out _ _ ⟨(blk_cell BK877.out 0).trans rfl,(blk_cell BK877.out 1).trans rfl,(blk_cell BK877.out 2).trans rfl,(blk_cell BK877.out 3).trans rfl,(blk_cell BK877.out 4).trans rfl,(blk_cell BK862.out 0).trans rfl,(blk_cell BK862.out 1).trans rfl,(blk_cell BK862.out 2).trans rfl,(blk_cell BK862.out 3).trans rfl,(blk_cell BK862.out 4).trans rfl,(blk_cell BK862.out 5).trans rfl,(blk_cell BK862.out 6).trans rfl,(blk_cell BK862.out 7).trans rfl⟩ (fun hHeld=>?_)
           clear hK K
           refine norm_ (a' := ?_) ?_ ?_
           rotate_left
           ·show Act.put _ (some 119) _=_
            simp only [Act.put,zqA,zqB,zqC,i64_w,i32_w]
            rfl
           refine one_ (i:=6) (N:=some 120) (zl 14 127) rfl rfl (one_of HT_.out zb10) zb43 (fun K hK=>?_)
           refine goes_ Tryz.func26 zb10 rfl #[.slice Ao58 t871.length co58,.slice Ao126 y881.length co126] zb64 rfl rfl zb1 ?_
           with_reducible refine (tollbarref04_Same.calls k4 _ _ t871 _ _ y881 true _ ?side1 ?side2 ?side3 ?side4 A122.out).mono ?_
           (case side1=>repeat (first|exact (Kd.R_reads' HO_878003.out).2.2|(with_reducible refine Kd.C_alloc ?_ _)|(with_reducible refine Kd.C_drewN ?_ _)|(with_reducible refine Kd.C_drew ?_)))
           (case side2=>exact (Kd.R_reads' HO_878003.out).2.1)
           (case side3=>repeat (first|exact (Kd.R_reads' HO883.out).2.2|(with_reducible refine Kd.C_alloc ?_ _)|(with_reducible refine Kd.C_drewN ?_ _)|(with_reducible refine Kd.C_drew ?_)))
           (case side4=>exact (Kd.R_reads' HO883.out).2.1)
           rintro e w' ⟨rfl,⟨nd,rfl⟩⟩
           refine ⟨_,rfl,?_⟩
           refine hK.out _ _ ⟨(blk_cell BK877.out 0).trans rfl,(blk_cell BK877.out 1).trans rfl,(blk_cell BK877.out 2).trans rfl,(blk_cell BK877.out 3).trans rfl,(blk_cell BK877.out 4).trans rfl,(blk_cell BK862.out 0).trans rfl,(blk_cell BK862.out 1).trans rfl,(blk_cell BK862.out 2).trans rfl,(blk_cell BK862.out 3).trans rfl,(blk_cell BK862.out 4).trans rfl,(blk_cell BK862.out 5).trans rfl,(blk_cell BK862.out 6).trans rfl,(blk_cell BK862.out 7).trans rfl⟩ (fun hHeld=>?_)
           clear hK K
           refine norm_ (a' := ?_) ?_ ?_
           rotate_left
           ·show Act.put _ (some 120) _=_
            simp only [Act.put,zqA,zqB,zqC,i64_w,i32_w]
            rfl
           refine zpu 7 (N:=some 121) (zl 14 255) HT_.out rfl rfl ?_
           refine zpu 8 (N:=some 122) (zl 14 511) HT_.out rfl rfl ?_
           refine take_ (i:=9) (N:=some 123) (v:=?_) (a' := ?_) (zl 14 1023) rfl rfl (take_ofW HT_.out HW_.out zb10) (fun _ _ _ h=>h) (Or.inl ⟨zb64,?_⟩) hHeld ?_ ?_
           rotate_left
           ·rintro w' ⟨s0,s1,s2,s3,s4,s5,s6,s7,s8,s9,s10,s11,s12⟩;go_simp;with_reducible rfl
           rotate_left
           ·simp only [Act.put,zqA,zqB,zqC,i64_w,i32_w];rfl
           refine zpu 10 (N:=some 124) (zl 14 2047) HT_.out rfl rfl ?_
           refine zpu 11 (N:=some 125) (zl 14 4095) HT_.out rfl rfl ?_
           refine zpu 12 (N:=some 126) (zl 14 8191) HT_.out rfl rfl ?_
           refine zpu 13 (N:=some 6) (zl 14 16383) HT_.out rfl rfl ?_
           refine done_ (done_of HT_.out zb10) ?_
           try go_wp2
           go_ret
           exact ⟨zb2,zb14⟩
          ·replace c123:=Bool.eq_false_iff.mpr c123
           subst c123
           rw [if_neg (show ¬ (false=true) by decide)] at H
           exact absurd ((Option.some.inj H).trans HRT.out) zb43
         ·rw [if_neg c121] at H
          exact absurd H zb65
end Go.Proofs.YtagffbblalldiaaGreatDoor.P
namespace Go.Proofs.YtagffbblalldiaaGreatDoor.Pure
open Go.RowKit Go.Proofs.YtagffbblalldiaaGreatDoor.P Go.Proofs.YtagffbblalldiaaGreatDoorW.PrintWords Go.Proofs.YtagffbblalldiaaGreatDoorW.PrintLast Go.Proofs.YtagffbblalldiaaGreatDoorW.PrintMore
set_option linter.unusedVariables false
set_option linter.unusedSimpArgs false
theorem str_size (xs:List Int):(strOfNums xs).size=xs.length:=strOfNums_size xs
theorem w64 {i:Int} {n:Nat} (c:Int) (h0:0 ≤ i) (h:i < (n:Int)) (hn:n ≤ 140737488355328) (hc0 : -3 ≤ c) (hc:c ≤ 3):wrap64 (i + c)=i + c:=by
 unfold wrap64;omega
theorem toList_data (s:ByteArray):s.toList=s.data.toList:=by
 simp [ByteArray.toList_eq]
theorem isEmpty_size (s:ByteArray):s.toList.isEmpty=decide (s.size=0):=by
 rw [toList_data,Bool.eq_iff_iff,List.isEmpty_iff,decide_eq_true_eq,← data_length]
 exact List.length_eq_zero_iff.symm
def mkS (l:List UInt8):ByteArray:=⟨l.toArray⟩
theorem mkS_data (l:List UInt8):(mkS l).data.toList=l:=by simp [mkS]
theorem mkS_self (s:ByteArray):mkS s.data.toList=s:=by simp [mkS]
theorem mkS_size (l:List UInt8):(mkS l).size=l.length:=by rw [← data_length,mkS_data]
theorem mkS_toList (l:List UInt8):(mkS l).toList=l:=by rw [toList_data,mkS_data]
theorem wn0 (n:Nat) (h:n ≤ 4398046511104):wrap64 ((n:Int) + 0)=(n:Int):=by unfold wrap64;omega
theorem wn1 (n:Nat) (h:n ≤ 4398046511104):wrap64 ((n:Int) + 1)=(n:Int) + 1:=by unfold wrap64;omega
theorem wnm (n:Nat) (h:n ≤ 4398046511104):wrap64 ((n:Int) + 1 - 1)=(n:Int):=by unfold wrap64;omega
theorem wi1 (i:Int) (h0:0 ≤ i) (h:i ≤ 4398046511104):wrap64 (i + 1)=i + 1:=by unfold wrap64;omega
theorem rdOf_mk (ps:List (List UInt8)) (i:Int) (h0:0 ≤ i) (h:i < (ps.length:Int)):rdOf ByteArray.empty (ps.map mkS) i=mkS (ps.getD i.toNat []):=by
 unfold rdOf
 rw [List.getD_eq_getElem?_getD,List.getElem?_map,List.getD_eq_getElem?_getD,List.getElem?_eq_getElem (by omega)]
 rfl
def tokB (c:Int):Bool:=(sign_Token_1.f c).getD false
def valB (c:Int):Bool:=(sign_Value_1.f c).getD false
theorem Token_f (s:ByteArray) (h:s.size ≤ 140737488355328):sign_Token.f s=some (!s.toList.isEmpty && (bytesOf s).all tokB):=if_pos h
theorem Value_f (s:ByteArray) (h:s.size ≤ 140737488355328):sign_Value.f s=some ((bytesOf s).all valB):=if_pos h
/-- Is a byte a blank? -/
def blk (b:UInt8):Bool:=([32,9]:List UInt8).contains b
/-- A text without blanks at its ends. -/
def trm (l:List UInt8):List UInt8:=(l.reverse.dropWhile blk).reverse.dropWhile blk
theorem trm_length (l:List UInt8):(trm l).length ≤ l.length:=by
 unfold trm
 have h1:((l.reverse.dropWhile blk).reverse.dropWhile blk).length ≤ (l.reverse.dropWhile blk).reverse.length:=(List.dropWhile_suffix _).length_le
 have h2:(l.reverse.dropWhile blk).length ≤ l.reverse.length:=(List.dropWhile_suffix _).length_le
 rw [List.length_reverse] at h1 h2
 omega
theorem Trim_f (s:ByteArray) (h:s.size ≤ 9223372036854775807):sign_Trim.f s=some ⟨(trm s.data.toList).toArray⟩:=by
 unfold sign_Trim.f strings_Trim.f
 rw [if_pos ⟨h,by decide,by decide⟩]
 rfl
/-- Is a field right? -/
def rightB (a t:ByteArray):Bool:=decide (a.size ≤ 100) && ((!a.toList.isEmpty && (bytesOf a).all tokB) && (decide (t.size ≤ 1000) && ((bytesOf t).all valB && (mkS (trm t.data.toList)).toList == t.toList)))
theorem Trim_mk (s:ByteArray) (h:s.size ≤ 9223372036854775807):sign_Trim.f s=some (mkS (trm s.data.toList)):=Trim_f s h
theorem field_right_f (a t:ByteArray):field_right.f a t=some (rightB a t):=by
 unfold field_right.f rightB
 by_cases h1:(a.size:Int) ≤ 100
 ·rw [if_pos h1,Token_f a (by omega),Option.bind_some,decide_eq_true (show a.size ≤ 100 by omega),Bool.true_and]
  cases hT:(!a.toList.isEmpty && (bytesOf a).all tokB)
  ·rw [if_neg (by simp),Bool.false_and]
  ·rw [if_pos rfl,Bool.true_and]
   by_cases h2:(t.size:Int) ≤ 1000
   ·rw [if_pos h2,Value_f t (by omega),Option.bind_some,decide_eq_true (show t.size ≤ 1000 by omega),Bool.true_and]
    cases (bytesOf t).all valB
    ·rw [if_neg (by simp),Bool.false_and]
    ·rw [if_pos rfl,Bool.true_and,Trim_mk t (by omega),Option.bind_some]
   ·rw [if_neg h2,decide_eq_false (show ¬ t.size ≤ 1000 by omega),Bool.false_and]
 ·rw [if_neg h1,decide_eq_false (show ¬ a.size ≤ 100 by omega),Bool.false_and]
theorem fold_tells (s:ByteArray) (hn:s.size ≤ 140737488355328):sign_Fold.f s=some (strOfNums ((bytesOf s).map foldC)):=if_pos hn
def Bytes (xs:List Int):Prop := ∀ x ∈ xs,0 ≤ x∧x ≤ 255
theorem bytes_of (s:ByteArray):Bytes (bytesOf s):=by
 intro x hx
 obtain ⟨b,_,rfl⟩:=List.mem_map.1 hx
 have:=b.toNat_lt
 omega
theorem foldC_byte (x:Int) (h0:0 ≤ x) (h1:x ≤ 255):0 ≤ foldC x∧foldC x ≤ 255:=by unfold foldC;split <;> omega
theorem bytes_fold {xs:List Int} (h:Bytes xs):Bytes (xs.map foldC):=by
 intro x hx
 obtain ⟨y,hy,rfl⟩:=List.mem_map.1 hx
 exact foldC_byte y (h y hy).1 (h y hy).2
theorem bytes_str {xs:List Int} (h:Bytes xs):bytesOf (strOfNums xs)=xs:=by
 unfold bytesOf
 rw [strOfNums_data,List.map_map]
 conv=>rhs;rw [← List.map_id xs]
 refine List.map_congr_left fun x hx=>?_
 have:=h x hx
 show ((UInt8.ofNat x.toNat).toNat:Int)=x
 rw [UInt8.toNat_ofNat']
 omega
theorem str_inj {xs ys:List Int} (hx:Bytes xs) (hy:Bytes ys):((strOfNums xs).toList == (strOfNums ys).toList)=decide (xs=ys):=by
 rw [Bool.eq_iff_iff,beq_iff_eq,decide_eq_true_eq]
 refine ⟨fun e=>?_,fun e=>by rw [e]⟩
 rw [← bytes_str hx,← bytes_str hy]
 unfold bytesOf
 rw [← toList_data,← toList_data,e]
theorem same_tells (a b:ByteArray) (ha:a.size ≤ 140737488355328) (hb:b.size ≤ 140737488355328):sign_Same.f a b=some (decide ((bytesOf a).map foldC=(bytesOf b).map foldC)):=by
 unfold sign_Same.f
 by_cases h:(a.size:Int)=b.size
 ·rw [if_pos h,fold_tells a ha,Option.bind_some,fold_tells b hb,Option.bind_some,str_inj (bytes_fold (bytes_of a)) (bytes_fold (bytes_of b))]
 ·rw [if_neg h]
  have hne : ¬ ((bytesOf a).map foldC=(bytesOf b).map foldC):=by
   intro e
   have:=congrArg List.length e
   rw [List.length_map,List.length_map,bytesOf_length,bytesOf_length] at this
   omega
  rw [decide_eq_false hne]
/-- How many commas. -/
def cntC (sp:UInt8):List UInt8 → Nat
 | []=>0
 | c :: l=>if c=sp then cntC sp l + 1 else cntC sp l
theorem cntC_count {sp:UInt8} (l:List UInt8):l.count sp=cntC sp l:=by
 induction l with
 | nil=>rfl
 | cons c l ih=>rw [List.count_cons,ih];by_cases hc:c=sp <;> simp [cntC,hc]
theorem cntC_append {sp:UInt8} (a b:List UInt8):cntC sp (a ++ b)=cntC sp a + cntC sp b:=by
 rw [← cntC_count,← cntC_count,← cntC_count,List.count_append]
theorem cntC_none {sp:UInt8} (l:List UInt8):cntC sp l=0 ↔ sp ∉ l:=by rw [← cntC_count];exact List.count_eq_zero
theorem cntC_le {sp:UInt8} (l:List UInt8):cntC sp l ≤ l.length:=by rw [← cntC_count];exact List.count_le_length
/-- The parts between commas. -/
def pcs (sp:UInt8):List UInt8 → List (List UInt8)
 | []=>[[]]
 | c :: l=>if c=sp then [] :: pcs sp l else (match pcs sp l with|p :: ps=>(c :: p) :: ps|[]=>[[c]])
theorem pcs_ne {sp:UInt8} (l:List UInt8) : ∃ p ps,pcs sp l=p :: ps:=by
 induction l with
 | nil=>exact ⟨[],[],rfl⟩
 | cons c l ih =>
  obtain ⟨p,ps,h⟩:=ih
  by_cases hc:c=sp
  ·exact ⟨[],pcs sp l,by simp [pcs,hc]⟩
  ·exact ⟨c :: p,ps,by simp [pcs,hc,h]⟩
theorem pcs_none {sp:UInt8} (l:List UInt8) (h:sp ∉ l):pcs sp l=[l]:=by
 induction l with
 | nil=>rfl
 | cons c l ih =>
  have hc:c ≠ sp:=fun e=>h (e ▸ List.mem_cons_self ..)
  simp [pcs,hc,ih (fun e=>h (List.mem_cons_of_mem _ e))]
theorem pcs_append {sp:UInt8} (a b:List UInt8):pcs sp (a ++ sp :: b)=pcs sp a ++ pcs sp b:=by
 induction a with
 | nil=>simp [pcs]
 | cons c a ih =>
  by_cases hc:c=sp
  ·simp [pcs,hc,ih]
  ·obtain ⟨p,ps,hp⟩:=pcs_ne (sp:=sp) a
   simp [pcs,hc,ih,hp]
theorem pcs_length {sp:UInt8} (l:List UInt8):(pcs sp l).length=cntC sp l + 1:=by
 induction l with
 | nil=>rfl
 | cons c l ih =>
  by_cases hc:c=sp
  ·simp [pcs,cntC,hc,ih]
  ·obtain ⟨p,ps,hp⟩:=pcs_ne (sp:=sp) l
   rw [hp] at ih
   simp only [pcs,hc,if_false,hp,cntC]
   simpa using ih
theorem pcs_le {sp:UInt8} (l:List UInt8) : ∀ p ∈ pcs sp l,p.length ≤ l.length:=by
 induction l with
 | nil=>intro p hp;simp [pcs] at hp;simp [hp]
 | cons c l ih =>
  intro p hp
  by_cases hc:c=sp
  ·simp only [pcs,hc,if_true] at hp
   rcases List.mem_cons.1 hp with rfl|hp
   ·simp
   ·have:=ih p hp;simp;omega
  ·obtain ⟨q,qs,hq⟩:=pcs_ne (sp:=sp) l
   simp only [pcs,hc,if_false,hq] at hp
   rcases List.mem_cons.1 hp with rfl|hp
   ·have:=ih q (by rw [hq];exact List.mem_cons_self ..);simp;omega
   ·have:=ih p (by rw [hq];exact List.mem_cons_of_mem _ hp);simp;omega
/-- What Split tells. -/
theorem index_splitC {sp:UInt8} (l:List UInt8) (h:0 < cntC sp l) : ∃ a b,l=a ++ sp :: b∧sp ∉ a∧Lib.indexByte l sp=a.length:=by
 induction l with
 | nil=>simp [cntC] at h
 | cons c l ih =>
  by_cases hc:c=sp
  ·exact ⟨[],l,by simp [hc],by simp,by simp [Lib.indexByte,hc]⟩
  ·have h' : 0 < cntC sp l:=by simpa [cntC,hc] using h
   obtain ⟨a,b,h1,h2,h3⟩:=ih h'
   refine ⟨c :: a,b,by simp [h1],?_,?_⟩
   ·intro hm
    rcases List.mem_cons.1 hm with e|e
    ·exact hc e.symm
    ·exact h2 e
   ·have hb:(c == sp)=false:=by simpa using hc
    have hn:((a.length:Int) == -1)=false:=by simp only [beq_eq_false_iff_ne];omega
    simp [Lib.indexByte,hb,h3,hn]
theorem gs_endC {sp:UInt8} (k:Nat) (s:ByteArray) (x3:Int) (x9:List ByteArray) (i:Nat) (hc:sp ∉ s.data.toList) (hx:x3=i) (hl:x9.length=i + 1) (hi:i ≤ 4398046511104) :
 strings_genSplit.l0 (k + 1) s ⟨#[sp]⟩ 0 x3 x9 i=some (x9.take i ++ (pcs sp s.data.toList).map mkS):=by
 simp only [strings_genSplit.l0]
 rw [if_neg (by omega),if_pos (by omega),if_pos (by omega),wn1 i hi,if_pos (by omega),if_pos (by omega),pcs_none _ hc]
 have e1:((i:Int) + 1).toNat=i + 1:=by omega
 rw [e1,Int.toNat_natCast,List.take_succ_eq_append_getElem (by rw [List.length_set];omega),List.take_set_of_le (Nat.le_refl _)]
 simp [mkS_self]
theorem extract_midC {sp : UInt8} (s : ByteArray) (a b : List UInt8) (hab : s.data.toList = a ++ sp :: b) : (s.extract (a.length + 1) s.size).data.toList = b ∧ s.extract 0 a.length = mkS a ∧ (s.extract (a.length + 1) s.size).size ≤ s.size := by
  have e2 : (s.extract (a.length + 1) s.size).data.toList = b := by
    rw [Lib.extract_to_end, hab, ← List.drop_drop, List.drop_left]; rfl
  refine ⟨e2, ?_, ?_⟩
  · have : (s.extract 0 a.length).data.toList = a := by
      rw [Lib.extract_data, hab, List.drop_zero, Nat.sub_zero, List.take_left]
    rw [← mkS_self (s.extract 0 _), this]
  · have hlen : a.length + b.length + 1 = s.size := by rw [← data_length, hab]; simp; omega
    rw [← data_length, e2]
    omega
theorem gs_stepC {sp:UInt8} (k:Nat) (s:ByteArray) (x3:Int) (x9:List ByteArray) (i:Nat) (a b:List UInt8) (hab:s.data.toList=a ++ sp :: b) (hidx:Lib.indexByte s.data.toList sp=a.length) (hx:(i:Int) < x3) (hl:i < x9.length) (hs:s.size ≤ 4398046511104) (hi:i ≤ 4398046511104) :
 ∀ R,strings_genSplit.l0 k (s.extract (a.length + 1) s.size) ⟨#[sp]⟩ 0 x3 (x9.set i (mkS a)) ((i:Int) + 1)=R → strings_genSplit.l0 (k + 1) s ⟨#[sp]⟩ 0 x3 x9 i=R:=by
 intro R hR
 have hlen:a.length + b.length + 1=s.size:=by rw [← data_length,hab];simp;omega
 have hix:strings_Index.f s ⟨#[sp]⟩=some (a.length:Int):=by
  show some (Lib.indexByte s.data.toList sp)=_
  rw [hidx]
 have hs1:((⟨#[sp]⟩:ByteArray).size:Int)=1:=rfl
 have e1:((a.length:Int) + 1).toNat=a.length + 1:=by omega
 obtain ⟨_,e3,_⟩:=extract_midC s a b hab
 simp only [strings_genSplit.l0]
 rw [if_pos hx,hix]
 rw [Option.bind_some]
 rw [if_neg (by omega),wn0 _ (by omega),hs1,wn1 _ (by omega),if_pos (by omega),if_pos (by omega),if_pos (by omega),if_pos (by omega),if_pos (by omega),if_pos (by omega),wn1 i hi,e1,Int.toNat_natCast,Int.toNat_natCast,e3]
 exact hR
theorem gs_l0C {sp:UInt8} (d:Nat) : ∀ (k:Nat) (s:ByteArray) (x3:Int) (x9:List ByteArray) (i:Nat),cntC sp s.data.toList=d → x3=i + d → x9.length=i + d + 1 → d + 1 ≤ k → s.size ≤ 4398046511104 →
 i + d ≤ 4398046511104 → strings_genSplit.l0 k s ⟨#[sp]⟩ 0 x3 x9 i=some (x9.take i ++ (pcs sp s.data.toList).map mkS):=by
 induction d with
 | zero =>
  intro k s x3 x9 i hc hx hl hk hs hid
  obtain ⟨k,rfl⟩ : ∃ m,k=m + 1:=⟨k - 1,by omega⟩
  exact gs_endC k s x3 x9 i ((cntC_none _).1 hc) (by omega) (by omega) (by omega)
 | succ d ih =>
  intro k s x3 x9 i hc hx hl hk hs hid
  obtain ⟨k,rfl⟩ : ∃ m,k=m + 1:=⟨k - 1,by omega⟩
  obtain ⟨a,b,hab,ha,hidx⟩:=index_splitC (sp:=sp) s.data.toList (by omega)
  obtain ⟨e2,_,e4⟩:=extract_midC s a b hab
  have hcb:cntC sp b=d:=by
   rw [hab,cntC_append,(cntC_none a).2 ha] at hc
   simp only [cntC,if_true] at hc
   omega
  refine gs_stepC k s x3 x9 i a b hab hidx (by omega) (by omega) hs (by omega) _ ?_
  have:=ih k (s.extract (a.length + 1) s.size) x3 (x9.set i (mkS a)) (i + 1) (by rw [e2];exact hcb) (by omega) (by rw [List.length_set];omega) (by omega) (by omega) (by omega)
  rw [show (((i + 1:Nat)):Int)=(i:Int) + 1 by omega] at this
  rw [this,e2,hab,pcs_append,pcs_none a ha,List.take_succ_eq_append_getElem (by rw [List.length_set];omega),List.take_set_of_le (Nat.le_refl _)]
  simp
theorem gs_firstC {sp:UInt8} (k:Nat) (s:ByteArray) (hs:s.size ≤ 4398046511103) :
 ∀ R,strings_genSplit.l0 k s ⟨#[sp]⟩ 0 ((cntC sp s.data.toList:Nat):Int) (List.replicate (cntC sp s.data.toList + 1) (⟨#[]⟩:ByteArray)) 0=R → strings_genSplit.f (k + 1) s ⟨#[sp]⟩ 0 (-1)=R:=by
 intro R hR
 have hcl:=cntC_le (sp:=sp) s.data.toList
 rw [data_length] at hcl
 have hcf:strings_Count.f s ⟨#[sp]⟩=some ((cntC sp s.data.toList:Nat):Int):=by
  rw [← cntC_count];rfl
 obtain ⟨c,hc⟩ : ∃ c,c=cntC sp s.data.toList:=⟨_,rfl⟩
 rw [← hc] at hcf hcl hR
 have hm:mn ((c:Int) + 1) ((s.size:Int) + 1)=(c:Int) + 1:=by unfold mn;split <;> omega
 have e1:((c:Int) + 1).toNat=c + 1:=by omega
 have hne : ¬ ((⟨#[sp]⟩:ByteArray).toList=[]):=by rw [toList_data];simp
 unfold strings_genSplit.f
 rw [if_neg (by decide),if_neg hne,if_pos (by decide),hcf]
 rw [Option.bind_some]
 simp only [strings_genSplit.j0]
 rw [wn1 c (by omega),wn1 s.size (by omega),hm,wnm c (by omega),e1,if_pos (by omega),if_pos (by omega)]
 exact hR
theorem Split_fC {sp:UInt8} (s:ByteArray) (hs:s.size ≤ 4398046511103) (k:Nat) (hk:s.size + 3 ≤ k):strings_Split.f k s ⟨#[sp]⟩=some ((pcs sp s.data.toList).map mkS):=by
 obtain ⟨k,rfl⟩ : ∃ m,k=m + 1:=⟨k - 1,by omega⟩
 have hcl:=cntC_le (sp:=sp) s.data.toList
 rw [data_length] at hcl
 unfold strings_Split.f
 have:=gs_l0C (cntC sp s.data.toList) k s ((cntC sp s.data.toList:Nat):Int) (List.replicate (cntC sp s.data.toList + 1) (⟨#[]⟩:ByteArray)) 0 rfl (by omega) (by rw [List.length_replicate];omega) (by omega) (by omega) (by omega)
 rw [show ((0:Nat):Int)=0 from rfl] at this
 rw [gs_firstC k s hs _ this]
 simp
/-- The parts of a list: trimmed,the empty ones left out. -/
def commaParts (l:List UInt8):List (List UInt8):=((pcs 44 l).map trm).filter (fun p => !p.isEmpty)
theorem split_step (ps:List (List UInt8)) (i:Int) (h0:0 ≤ i) (hlt:i < (ps.length:Int)):((ps.drop i.toNat).map trm).filter (fun p => !p.isEmpty)=(if trm (ps.getD i.toNat [])=[] then [] else [trm (ps.getD i.toNat [])]) ++ ((ps.drop (i + 1).toNat).map trm).filter (fun p => !p.isEmpty):=by
 have hl:i.toNat < ps.length:=by omega
 have hg:ps.getD i.toNat []=ps[i.toNat]:=by rw [List.getD_eq_getElem?_getD,List.getElem?_eq_getElem hl];rfl
 rw [hg,List.drop_eq_getElem_cons hl,show (i + 1).toNat=i.toNat + 1 by omega,List.map_cons,List.filter_cons]
 by_cases he:trm ps[i.toNat]=[]
 ·rw [if_pos he,he];rfl
 ·rw [if_neg he,if_pos (by simpa using he)];rfl
theorem split_l0 (ps:List (List UInt8)) (hl : ∀ p ∈ ps,p.length ≤ 4398046511104) (hn:ps.length ≤ 4398046511104) (d:Nat) : ∀ (k:Nat) (out:List ByteArray) (i:Int),0 ≤ i → (ps.length:Int) - i=d → d + 1 ≤ k → (out.length:Int) ≤ i →
 sign_Split.l0 k out (ps.map mkS) (ps.length:Int) i=some (out ++ (((ps.drop i.toNat).map trm).filter (fun p => !p.isEmpty)).map mkS):=by
 induction d with
 | zero =>
  intro k out i h0 hd hk ho
  obtain ⟨k,rfl⟩ : ∃ m,k=m + 1:=⟨k - 1,by omega⟩
  simp only [sign_Split.l0]
  rw [if_neg (by omega),List.drop_of_length_le (by omega)]
  simp
 | succ d ih =>
  intro k out i h0 hd hk ho
  obtain ⟨k,rfl⟩ : ∃ m,k=m + 1:=⟨k - 1,by omega⟩
  have hlt:i.toNat < ps.length:=by omega
  have hg:ps.getD i.toNat []=ps[i.toNat]:=by rw [List.getD_eq_getElem?_getD,List.getElem?_eq_getElem hlt];rfl
  have hlp:=hl _ (List.getElem_mem hlt)
  rw [← hg] at hlp
  rw [split_step ps i h0 (by omega)]
  simp only [sign_Split.l0]
  rw [if_pos (by omega),if_pos h0,if_pos (by rw [List.length_map];omega),rdOf_mk ps i h0 (by omega),Trim_f _ (by rw [mkS_size];omega),mkS_data]
  simp only [Option.bind_some,wi1 i h0 (by omega)]
  rw [show (⟨(trm (ps.getD i.toNat [])).toArray⟩:ByteArray)=mkS (trm (ps.getD i.toNat [])) from rfl,mkS_toList]
  by_cases he:trm (ps.getD i.toNat [])=[]
  ·rw [if_pos he,if_pos he,ih k out (i + 1) (by omega) (by omega) (by omega) (by omega)]
   rfl
  ·rw [if_neg he,if_neg he,if_pos (by omega),ih k _ (i + 1) (by omega) (by omega) (by omega) (by rw [List.length_append];simp;omega)]
   simp only [List.map_append,List.map_cons,List.map_nil,List.append_assoc]
theorem signSplit_f (s:ByteArray) (hs:s.size ≤ 4398046511103) (k:Nat) (hk:s.size + 3 ≤ k):sign_Split.f k s=some ((commaParts s.data.toList).map mkS):=by
 unfold sign_Split.f
 have hpl:=pcs_length (sp:=44) s.data.toList
 have hcl:=cntC_le (sp:=44) s.data.toList
 rw [data_length] at hcl
 rw [Split_fC s hs k hk]
 simp only [Option.bind_some,List.length_map]
 rw [split_l0 (pcs 44 s.data.toList) (fun p hp=>by have:=pcs_le _ p hp;rw [data_length] at this;omega) (by omega) (pcs 44 s.data.toList).length k [] 0 (by omega) (by omega) (by omega) (by simp)]
 rfl
theorem rdT_at (xs:List (S36)) (i:Nat) (h:i < xs.length):rd_T36 xs (i:Int)=xs[i]:=by
 unfold rd_T36
 rw [Int.toNat_natCast,List.getD_eq_getElem?_getD,List.getElem?_eq_getElem h];rfl
theorem rdB_at (xs:List ByteArray) (i:Nat) (h:i < xs.length):rdOf ByteArray.empty xs (i:Int)=xs[i]:=by
 unfold rdOf
 rw [Int.toNat_natCast,List.getD_eq_getElem?_getD,List.getElem?_eq_getElem h];rfl
/-- The same names. -/
def sameN (a b:ByteArray):Bool:=decide ((bytesOf a).map foldC=(bytesOf b).map foldC)
theorem same_f (a b:ByteArray) (ha:a.size ≤ 140737488355328) (hb:b.size ≤ 140737488355328):sign_Same.f a b=some (sameN a b):=same_tells a b ha hb
/-- Few fields,of short texts. -/
def FB (fs:List (S36)):Prop:=fs.length ≤ 1000 ∧ ∀ f ∈ fs,f.f0.size ≤ 1048576∧f.f1.size ≤ 1048576
/-- The values of a name. -/
def getS (name:ByteArray):List (S36) → List ByteArray
 | []=>[]
 | f :: r=>if sameN f.f0 name=true then f.f1 :: getS name r else getS name r
theorem getS_len (name:ByteArray) : ∀ fs,(getS name fs).length ≤ fs.length
 | []=>Nat.le_refl _
 | f :: r=>by rw [getS];have:=getS_len name r;split <;> simp only [List.length_cons] <;> omega
theorem getS_mem (name:ByteArray) : ∀ (fs:List (S36)) (v:ByteArray),v ∈ getS name fs → ∃ f ∈ fs,v=f.f1∧sameN f.f0 name=true
 | [],v,h=>by cases h
 | f :: r,v,h=>by
  rw [getS] at h
  by_cases hs:sameN f.f0 name=true
  ·rw [if_pos hs] at h
   rcases List.mem_cons.1 h with rfl|h
   ·exact ⟨f,List.mem_cons_self,rfl,hs⟩
   ·obtain ⟨g,hg,e⟩:=getS_mem name r v h;exact ⟨g,List.mem_cons_of_mem _ hg,e⟩
  ·rw [if_neg hs] at h
   obtain ⟨g,hg,e⟩:=getS_mem name r v h;exact ⟨g,List.mem_cons_of_mem _ hg,e⟩
theorem get_l0 (name:ByteArray) (hn:name.size ≤ 1048576) (fs:List (S36)) (hf:FB fs) (d:Nat) : ∀ (k i:Nat) (out:List ByteArray),i + d=fs.length → d < k → out.length ≤ i →
 field_Get.l0 k name out fs (fs.length:Int) (i:Int)=some (out ++ getS name (fs.drop i)):=by
 have hfl:=hf.1
 induction d with
 | zero =>
  intro k i out hi hk ho
  obtain ⟨k,rfl⟩ : ∃ m,k=m + 1:=⟨k - 1,by omega⟩
  rw [field_Get.l0,if_neg (by omega),List.drop_of_length_le (by omega),getS,List.append_nil]
 | succ d ih =>
  intro k i out hi hk ho
  obtain ⟨k,rfl⟩ : ∃ m,k=m + 1:=⟨k - 1,by omega⟩
  have hlt:i < fs.length:=by omega
  have hb:=hf.2 _ (List.getElem_mem hlt)
  have hw:wrap64 ((i:Int) + 1)=((i + 1:Nat):Int):=by unfold wrap64;omega
  rw [field_Get.l0,if_pos (by omega),if_pos (by omega),if_pos (by omega),rdT_at fs i hlt,same_f _ _ (by omega) (by omega),Option.bind_some,hw,List.drop_eq_getElem_cons hlt,getS]
  by_cases hs:sameN fs[i].f0 name=true
  ·rw [if_pos hs,if_pos hs,if_pos (by omega),ih k (i + 1) _ (by omega) (by omega) (by rw [List.length_append];simp;omega)]
   simp only [List.append_assoc,List.singleton_append]
  ·rw [if_neg hs,if_neg hs,ih k (i + 1) _ (by omega) (by omega) (by omega)]
theorem Get_f (fs:List (S36)) (name:ByteArray) (hf:FB fs) (hn:name.size ≤ 1048576) (k:Nat) (hk:fs.length < k):field_Get.f k fs name=some (getS name fs):=by
 have:=get_l0 name hn fs hf fs.length k 0 [] (by omega) hk (Nat.zero_le _)
 rw [List.drop_zero,List.nil_append] at this
 exact this
/-- A value's parts. -/
def partsS (v:ByteArray):List ByteArray:=(commaParts v.data.toList).map mkS
theorem comma_len (l:List UInt8):(commaParts l).length ≤ l.length + 1:=by
 unfold commaParts
 have h1:=List.length_filter_le (fun p => !p.isEmpty) ((pcs 44 l).map trm)
 rw [List.length_map,pcs_length] at h1
 have h2:=cntC_le (sp:=44) l
 omega
theorem parts_len (v:ByteArray):(partsS v).length ≤ v.size + 1:=by
 unfold partsS
 rw [List.length_map]
 have:=comma_len v.data.toList
 rw [data_length] at this
 exact this
theorem comma_size (l:List UInt8) : ∀ p ∈ commaParts l,p.length ≤ l.length:=by
 intro p hp
 unfold commaParts at hp
 obtain ⟨q,hq,rfl⟩:=List.mem_map.1 (List.mem_filter.1 hp).1
 exact Nat.le_trans (trm_length q) (pcs_le l q hq)
theorem parts_size (v:ByteArray) : ∀ p ∈ partsS v,p.size ≤ v.size:=by
 intro p hp
 obtain ⟨q,hq,rfl⟩:=List.mem_map.1 hp
 rw [mkS_size,← data_length]
 exact comma_size _ q hq
theorem list_l0 (vs:List ByteArray) (hl:vs.length ≤ 1000) (hv : ∀ v ∈ vs,v.size ≤ 1048576) (d:Nat) : ∀ (k i:Nat) (out:List ByteArray),i + d=vs.length → d + 1048580 ≤ k → out.length ≤ 1048577 * i →
 field_List.l0 k out vs (vs.length:Int) (i:Int)=some (out ++ (vs.drop i).flatMap partsS):=by
 induction d with
 | zero =>
  intro k i out hi hk ho
  obtain ⟨k,rfl⟩ : ∃ m,k=m + 1:=⟨k - 1,by omega⟩
  rw [field_List.l0,if_neg (by omega),List.drop_of_length_le (by omega),List.flatMap_nil,List.append_nil]
 | succ d ih =>
  intro k i out hi hk ho
  obtain ⟨k,rfl⟩ : ∃ m,k=m + 1:=⟨k - 1,by omega⟩
  have hlt:i < vs.length:=by omega
  have hb:=hv _ (List.getElem_mem hlt)
  have hp:=parts_len vs[i]
  have hw:wrap64 ((i:Int) + 1)=((i + 1:Nat):Int):=by unfold wrap64;omega
  rw [field_List.l0,if_pos (by omega),if_pos (by omega),if_pos (by omega),rdB_at vs i hlt,signSplit_f _ (by omega) k (by omega),Option.bind_some,hw,List.drop_eq_getElem_cons hlt,List.flatMap_cons]
  have e:(commaParts vs[i].data.toList).map mkS=partsS vs[i]:=rfl
  rw [e,if_pos (by omega),ih k (i + 1) _ (by omega) (by omega) (by rw [List.length_append];omega),List.append_assoc]
/-- All parts of a name's values. -/
def listS (name:ByteArray) (fs:List (S36)):List ByteArray:=(getS name fs).flatMap partsS
theorem get_bounds (fs:List (S36)) (name:ByteArray) (hf:FB fs):(getS name fs).length ≤ 1000 ∧ ∀ v ∈ getS name fs,v.size ≤ 1048576:=by
 refine ⟨Nat.le_trans (getS_len name fs) hf.1,fun v hv=>?_⟩
 obtain ⟨f,hm,rfl,_⟩:=getS_mem name fs v hv
 exact (hf.2 f hm).2
theorem List_f (fs:List (S36)) (name:ByteArray) (hf:FB fs) (hn:name.size ≤ 1048576) (k:Nat) (hk:1049600 ≤ k):field_List.f k fs name=some (listS name fs):=by
 obtain ⟨h1,h2⟩:=get_bounds fs name hf
 have hfl:=hf.1
 unfold field_List.f
 rw [Get_f fs name hf hn k (by omega),Option.bind_some]
 have:=list_l0 (getS name fs) h1 h2 (getS name fs).length k 0 [] (by omega) (by omega) (by simp)
 rw [List.drop_zero,List.nil_append] at this
 exact this
theorem flat_len (B:Nat) : ∀ vs:List ByteArray,(∀ v ∈ vs,v.size ≤ B) → (vs.flatMap partsS).length ≤ vs.length * (B + 1)
 | [],_=>by simp
 | v :: r,h=>by
  rw [List.flatMap_cons,List.length_append,List.length_cons,Nat.succ_mul]
  have h1:=flat_len B r (fun u hu=>h u (List.mem_cons_of_mem _ hu))
  have h2:=parts_len v
  have h3:=h v List.mem_cons_self
  omega
theorem list_bounds (fs:List (S36)) (name:ByteArray) (hf:FB fs):(listS name fs).length ≤ 1048577000 ∧ ∀ p ∈ listS name fs,p.size ≤ 1048576:=by
 obtain ⟨h1,h2⟩:=get_bounds fs name hf
 refine ⟨?_,fun p hp=>?_⟩
 ·have h3:=flat_len 1048576 (getS name fs) h2
  unfold listS
  have h4:(getS name fs).length * 1048577 ≤ 1000 * 1048577:=Nat.mul_le_mul_right _ h1
  omega
 ·unfold listS at hp
  obtain ⟨v,hv,hp⟩:=List.mem_flatMap.1 hp
  exact Nat.le_trans (parts_size v p hp) (h2 v hv)
theorem any_f (q:ByteArray → Option Bool) (p:ByteArray → Bool) : ∀ l:List ByteArray,(∀ x ∈ l,q x=some (p x)) → anyO q l=some (l.any p)
 | [],_=>rfl
 | x :: r,h=>by
  rw [anyO,h x List.mem_cons_self,Option.bind_some,List.any_cons]
  cases hp:p x
  ·simp only [Bool.false_eq_true,if_false,Bool.false_or]
   exact any_f q p r (fun y hy=>h y (List.mem_cons_of_mem _ hy))
  ·simp
/-- Is a part among a name's? -/
def hasS (fs:List (S36)) (name part:ByteArray):Bool:=(listS name fs).any (fun p=>sameN p part)
theorem Has_f (fs:List (S36)) (name part:ByteArray) (hf:FB fs) (hn:name.size ≤ 1048576) (hp:part.size ≤ 1048576) (k:Nat) (hk:1049600 ≤ k):field_Has.f k fs name part=some (hasS fs name part):=by
 unfold field_Has.f
 rw [List_f fs name hf hn k hk,Option.bind_some]
 exact any_f _ _ _ (fun x hx=>same_f x part (by have:=(list_bounds fs name hf).2 x hx;omega) (by omega))
theorem rightB_size {a t:ByteArray} (h:rightB a t=true):a.size ≤ 100∧t.size ≤ 1000:=by
 unfold rightB at h
 simp only [Bool.and_eq_true,decide_eq_true_eq] at h
 exact ⟨h.1,h.2.2.1⟩
theorem refFold_l0 (s:ByteArray) (hn:s.size ≤ 140737488355327) (d:Nat) : ∀ (k:Nat) (out:List Int) (i:Int),0 ≤ i → (s.size:Int) - i=d → d + 1 ≤ k → (out.length:Int)=i →
 tollbarref02_Fold.l0 k s out i=some (strOfNums (out ++ ((bytesOf s).drop i.toNat).map foldC)):=by
 induction d with
 | zero =>
  intro k out i h0 hd hk ho
  obtain ⟨k,rfl⟩ : ∃ m,k=m + 1:=⟨k - 1,by omega⟩
  simp only [tollbarref02_Fold.l0]
  rw [if_neg (by omega),List.drop_of_length_le (by rw [bytesOf_length];omega),List.map_nil,List.append_nil]
 | succ d ih =>
  intro k out i h0 hd hk ho
  obtain ⟨k,rfl⟩ : ∃ m,k=m + 1:=⟨k - 1,by omega⟩
  have hlt:i < (s.size:Int):=by omega
  have hl:i.toNat < (bytesOf s).length:=by rw [bytesOf_length];omega
  have hg:(bytesOf s)[i.toNat]=bt s i:=by rw [← rd_bytesOf];simp [rd,List.getD_eq_getElem?_getD,List.getElem?_eq_getElem hl]
  have hr:=bt_range s i
  have ih' := fun v=>ih k (out ++ [v]) (i + 1) (by omega) (by omega) (by omega) (by rw [List.length_append];simp;omega)
  have e1:(i + 1).toNat=i.toNat + 1:=by omega
  rw [List.drop_eq_getElem_cons hl,hg,List.map_cons]
  simp only [tollbarref02_Fold.l0]
  rw [if_pos hlt,if_pos h0,show wrap64 (i + 1)=i + 1 by unfold wrap64;omega]
  have hf : ∀ v,v=foldC (bt s i) → some (strOfNums (out ++ [v] ++ ((bytesOf s).drop (i.toNat + 1)).map foldC))=some (strOfNums (out ++ foldC (bt s i) :: ((bytesOf s).drop (i.toNat + 1)).map foldC)):=by
   intro v hv
   rw [hv,List.append_assoc]
   rfl
  have ho2:out.length < 140737488355328:=by omega
  by_cases h1:bt s i ≥ 65
  ·rw [if_pos h1]
   by_cases h2:bt s i ≤ 90
   ·rw [if_pos h2,if_pos ho2,ih',e1];exact hf _ (by unfold foldC;rw [if_pos ⟨h1,h2⟩];omega)
   ·rw [if_neg h2,if_pos ho2,ih',e1];exact hf _ (by unfold foldC;rw [if_neg (by omega)])
  ·rw [if_neg h1,if_pos ho2,ih',e1];exact hf _ (by unfold foldC;rw [if_neg (by omega)])
theorem refFold_f (s:ByteArray) (hn:s.size ≤ 140737488355327) (k:Nat) (hk:s.size + 1 ≤ k):tollbarref02_Fold.f k s=sign_Fold.f s:=by
 unfold tollbarref02_Fold.f sign_Fold.f
 rw [refFold_l0 s hn s.size k [] 0 (by omega) (by omega) hk rfl,if_pos (by omega)]
 rfl
theorem Fold_f (s:ByteArray) (hn:s.size ≤ 140737488355328):sign_Fold.f s=some (strOfNums ((bytesOf s).map foldC)):=if_pos hn
theorem str_len (xs:List Int):(strOfNums xs).size=xs.length:=str_size xs
def tgtB (c:Int):Bool:=(sign_Target_1.f c).getD false
theorem Target_f (s:ByteArray) (h:s.size ≤ 140737488355328):sign_Target.f s=some (!s.toList.isEmpty && (bytesOf s).all tgtB):=if_pos h
def tgtOk (s:ByteArray):Bool := !s.toList.isEmpty && (bytesOf s).all tgtB
theorem tgt_ne {s:ByteArray} (h:tgtOk s=true):0 < s.size:=by
 unfold tgtOk at h
 rw [isEmpty_size] at h
 rcases Nat.eq_zero_or_pos s.size with e|e
 ·rw [e] at h;simp at h
 ·exact e
/-- What is known of a request's beginning that is whole. -/
structure OpenOk (l:List Int) (o:ByteArray × ByteArray × Int × List (S36) × List Int × Int × Int × Bool × Int):Prop where
 pos:0 < o.2.2.2.2.2.1
 le:o.2.2.2.2.2.1 ≤ (l.length:Int)∧o.2.2.2.2.2.1 ≤ 2048
 code:o.2.2.2.2.2.2.2.2=0
 size:0 ≤ o.2.2.2.2.2.2.1∧o.2.2.2.2.2.2.1 ≤ 4096
 minor:o.2.2.1=0 ∨ o.2.2.1=1
 fields:o.2.2.2.1.length ≤ 40 ∧ ∀ f ∈ o.2.2.2.1,rightB f.f0 f.f1=true
 body:o.2.2.2.2.1=[]
theorem right_FB (fs:List (S36)) (hn:fs.length ≤ 1000) (h : ∀ f ∈ fs,rightB f.f0 f.f1=true):FB fs :=
 ⟨hn,fun f hf=>by have:=rightB_size (h f hf);omega⟩
theorem fold_is (a p:ByteArray) (hp:(strOfNums ((bytesOf p).map foldC)).toList=p.toList):((strOfNums ((bytesOf a).map foldC)).toList=p.toList)=(sameN p a=true):=by
 have h:=str_inj (bytes_fold (bytes_of a)) (bytes_fold (bytes_of p))
 rw [hp] at h
 unfold sameN
 rw [decide_eq_true_eq]
 apply propext
 constructor
 ·intro e
  have:decide ((bytesOf a).map foldC=(bytesOf p).map foldC)=true:=by rw [← h];exact beq_iff_eq.2 e
  exact (of_decide_eq_true this).symm
 ·intro e
  have:((strOfNums ((bytesOf a).map foldC)).toList == p.toList)=true:=by rw [h];exact decide_eq_true e.symm
  exact beq_iff_eq.1 this
theorem some_or (b c:Bool):(if b=true then some true else some c)=some (b || c):=by cases b <;> rfl
/-- The kept names. -/
def keptNames:List ByteArray:=[⟨#[104,111,115,116]⟩,⟨#[99,111,110,116,101,110,116,45,108,101,110,103,116,104]⟩,⟨#[116,114,97,110,115,102,101,114,45,101,110,99,111,100,105,110,103]⟩,⟨#[99,111,110,110,101,99,116,105,111,110]⟩,⟨#[107,101,101,112,45,97,108,105,118,101]⟩,⟨#[112,114,111,120,121,45,99,111,110,110,101,99,116,105,111,110]⟩,⟨#[116,101]⟩,⟨#[116,114,97,105,108,101,114]⟩,⟨#[117,112,103,114,97,100,101]⟩,⟨#[101,120,112,101,99,116]⟩,⟨#[118,105,97]⟩]
def keptN (a:ByteArray):Bool:=keptNames.any (fun p=>sameN p a)
theorem Kept_f (a:ByteArray) (ha:a.size ≤ 1048576):conf_Kept.f a=some (keptN a):=by
 unfold conf_Kept.f
 rw [Fold_f a (by omega),Option.bind_some]
 have e : ∀ (p:ByteArray),p ∈ keptNames → ((strOfNums ((bytesOf a).map foldC)).toList=p.toList)=(sameN p a=true):=by
  intro p hp
  refine fold_is a p ?_
  have : ∀ p ∈ keptNames,(strOfNums ((bytesOf p).map foldC)).data=p.data:=by decide +kernel
  rw [toList_data,toList_data,this p hp]
 have l : ∀ (p:ByteArray) (q:List UInt8),p ∈ keptNames → p.toList=q → ((strOfNums ((bytesOf a).map foldC)).toList=q)=(sameN p a=true):=fun p q hp hq=>by rw [← hq];exact e p hp
 have e0:=l ⟨#[104,111,115,116]⟩ [104,111,115,116] (by simp [keptNames]) (toList_data _)
 have e1:=l ⟨#[99,111,110,116,101,110,116,45,108,101,110,103,116,104]⟩ [99,111,110,116,101,110,116,45,108,101,110,103,116,104] (by simp [keptNames]) (toList_data _)
 have e2:=l ⟨#[116,114,97,110,115,102,101,114,45,101,110,99,111,100,105,110,103]⟩ [116,114,97,110,115,102,101,114,45,101,110,99,111,100,105,110,103] (by simp [keptNames]) (toList_data _)
 have e3:=l ⟨#[99,111,110,110,101,99,116,105,111,110]⟩ [99,111,110,110,101,99,116,105,111,110] (by simp [keptNames]) (toList_data _)
 have e4:=l ⟨#[107,101,101,112,45,97,108,105,118,101]⟩ [107,101,101,112,45,97,108,105,118,101] (by simp [keptNames]) (toList_data _)
 have e5:=l ⟨#[112,114,111,120,121,45,99,111,110,110,101,99,116,105,111,110]⟩ [112,114,111,120,121,45,99,111,110,110,101,99,116,105,111,110] (by simp [keptNames]) (toList_data _)
 have e6:=l ⟨#[116,101]⟩ [116,101] (by simp [keptNames]) (toList_data _)
 have e7:=l ⟨#[116,114,97,105,108,101,114]⟩ [116,114,97,105,108,101,114] (by simp [keptNames]) (toList_data _)
 have e8:=l ⟨#[117,112,103,114,97,100,101]⟩ [117,112,103,114,97,100,101] (by simp [keptNames]) (toList_data _)
 have e9:=l ⟨#[101,120,112,101,99,116]⟩ [101,120,112,101,99,116] (by simp [keptNames]) (toList_data _)
 have e10:=l ⟨#[118,105,97]⟩ [118,105,97] (by simp [keptNames]) (toList_data _)
 simp only [e0,e1,e2,e3,e4,e5,e6,e7,e8,e9,e10]
 simp only [some_or]
 rfl
theorem anyO_tot {α:Type} (q:α → Option Bool) : ∀ l:List α,(∀ x ∈ l,∃ b,q x=some b) → ∃ b,anyO q l=some b∧(b=false → ∀ x ∈ l,q x=some false)
 | [],_=>⟨false,rfl,fun _ x hx=>by cases hx⟩
 | x :: r,h=>by
  obtain ⟨b,hb⟩:=h x (List.mem_cons_self ..)
  obtain ⟨c,hc,hcc⟩:=anyO_tot q r (fun y hy=>h y (List.mem_cons_of_mem _ hy))
  rw [anyO,hb,Option.bind_some]
  cases b
  ·refine ⟨c,by rw [if_neg (by simp)];exact hc,fun e y hy=>?_⟩
   rcases List.mem_cons.1 hy with rfl|hy
   ·exact hb
   ·exact hcc e y hy
  ·exact ⟨true,by rw [if_pos rfl],fun e=>by cases e⟩
theorem allO_tot {α:Type} (q:α → Option Bool) : ∀ l:List α,(∀ x ∈ l,∃ b,q x=some b) → ∃ b,allO q l=some b∧(b=true → ∀ x ∈ l,q x=some true)
 | [],_=>⟨true,rfl,fun _ x hx=>by cases hx⟩
 | x :: r,h=>by
  obtain ⟨b,hb⟩:=h x (List.mem_cons_self ..)
  obtain ⟨c,hc,hcc⟩:=allO_tot q r (fun y hy=>h y (List.mem_cons_of_mem _ hy))
  rw [allO,hb,Option.bind_some]
  cases b
  ·exact ⟨false,by rw [if_neg (by simp)],fun e=>by cases e⟩
  ·refine ⟨c,by rw [if_pos rfl];exact hc,fun e y hy=>?_⟩
   rcases List.mem_cons.1 hy with rfl|hy
   ·exact hb
   ·exact hcc e y hy
theorem tbl_l0 (s:ByteArray) (d:Nat) : ∀ (k i:Nat),i + d=s.size → d < k → s.size ≤ 30 → ∃ b,table_Name.l0 k s (s.size:Int) (i:Int)=some b:=by
 induction d with
 | zero =>
  intro k i hi hk hs
  obtain ⟨k,rfl⟩ : ∃ m,k=m + 1:=⟨k - 1,by omega⟩
  exact ⟨true,by rw [table_Name.l0,if_neg (by omega)]⟩
 | succ d ih =>
  intro k i hi hk hs
  obtain ⟨k,rfl⟩ : ∃ m,k=m + 1:=⟨k - 1,by omega⟩
  obtain ⟨b,hb⟩:=ih k (i + 1) (by omega) (by omega) hs
  rw [table_Name.l0,if_pos (by omega),if_pos (by omega),if_pos (by omega),show wrap64 ((i:Int) + 1)=((i + 1:Nat):Int) by unfold wrap64;omega]
  repeat' split
  all_goals first|exact ⟨_,rfl⟩|exact ⟨b,hb⟩
theorem tbl_j0 (s:ByteArray) (k:Nat) (hk:40 ≤ k) (x:Bool) (hs:x=false → s.size ≤ 30) : ∃ b,table_Name.j0 k s x=some b:=by
 obtain ⟨k,rfl⟩ : ∃ m,k=m + 1:=⟨k - 1,by omega⟩
 rw [table_Name.j0]
 cases x
 ·rw [if_neg (by simp)]
  exact tbl_l0 s s.size k 0 (by omega) (by have:=hs rfl;omega) (hs rfl)
 ·exact ⟨false,by rw [if_pos rfl]⟩
theorem tbl_tot (s:ByteArray) (k:Nat) (hk:40 ≤ k) : ∃ b,table_Name.f k s=some b:=by
 unfold table_Name.f
 split
 ·exact tbl_j0 s k hk true (fun e=>by cases e)
 ·split
  ·exact tbl_j0 s k hk true (fun e=>by cases e)
  ·rename_i h1 h2
   have hp:0 < s.size:=by
    rcases Nat.eq_zero_or_pos s.size with h|h
    ·exfalso
     apply h1
     rw [toList_data]
     exact List.eq_nil_of_length_eq_zero (by rw [data_length];exact h)
    ·exact h
   rw [if_pos (by omega)]
   split
   ·exact tbl_j0 s k hk true (fun e=>by cases e)
   ·exact tbl_j0 s k hk _ (fun _=>by omega)
theorem path_tot (s:ByteArray) (hs:s.size ≤ 140737488355328) : ∃ b,conf_path.f s=some b:=by
 unfold conf_path.f
 have ht:sign_Target.f s=some (tgtOk s):=Target_f s hs
 rw [ht,Option.bind_some]
 cases h:tgtOk s
 ·exact ⟨false,by rw [if_neg (by simp)]⟩
 ·have:=tgt_ne h
  rw [if_pos rfl,if_pos (by omega)]
  split
  ·exact ⟨_,rfl⟩
  ·exact ⟨_,rfl⟩
theorem set_f (a t:ByteArray):conf_set.f a t=some (rightB a t && !keptN a):=by
 unfold conf_set.f field_Right.f
 rw [if_pos (by simp),anyO]
 unfold field_Right_1.f
 simp only
 rw [field_right_f,Option.bind_some,Option.bind_some]
 cases h:rightB a t
 ·rw [Bool.not_false,if_pos rfl,Option.bind_some,Option.bind_some,Bool.not_true,if_neg (by simp)]
  rfl
 ·rw [Bool.not_true,if_neg (by simp),anyO,Option.bind_some,Option.bind_some,Bool.not_false,if_pos rfl,Kept_f a (by have:=rightB_size h;omega),Option.bind_some]
  rfl
theorem drop_tot (a:ByteArray) (hs:a.size ≤ 140737488355328) : ∃ b,conf_drop.f a=some b∧(b=true → a.size ≤ 100∧keptN a=false):=by
 unfold conf_drop.f
 rw [Token_f a hs,Option.bind_some]
 split
 ·split
  ·rename_i h
   rw [Kept_f a (by omega),Option.bind_some]
   exact ⟨_,rfl,fun e=>⟨by omega,by simpa using e⟩⟩
  ·exact ⟨false,rfl,fun e=>by cases e⟩
 ·exact ⟨false,rfl,fun e=>by cases e⟩
theorem end_tot (us:List (S83)) (rts:List (S85)) (set:List (S36)) (drop:List ByteArray) (n4 n5 n6 n7:Int) : ∃ b,conf_right.e us rts set drop n4 n5 n6 n7=some b:=by
 unfold conf_right.e conf_numbers.f
 rw [Option.bind_some]
 obtain ⟨c,hc,_⟩:=anyO_tot (fun x:S131=>conf_right_1.f x.f0 x.f1 x.f2 x.f3) _ (fun x _=>by unfold conf_right_1.f;split <;> exact ⟨_,rfl⟩)
 exact ⟨!c,by rw [hc,Option.bind_some]⟩
set_option maxHeartbeats 4000000 in
theorem right_tot (us : List (S83)) (rts : List (S85)) (set : List (S36)) (drop : List ByteArray) (n4 n5 n6 n7 : Int) (hu : ∀ u ∈ us, ∀ a ∈ u.f1, a.size ≤ 140737488355328) (hr : ∀ r ∈ rts, r.f0.size ≤ 140737488355328 ∧ r.f2.size ≤ 140737488355328) (hd : ∀ n ∈ drop, n.size ≤ 140737488355328) (k : Nat) (hk : 40 ≤ k) :
    ∃ b, conf_right.f k us rts set drop n4 n5 n6 n7 = some b ∧ (b = true → (∀ f ∈ set, rightB f.f0 f.f1 = true ∧ keptN f.f0 = false) ∧ ∀ n ∈ drop, n.size ≤ 100 ∧ keptN n = false) := by
  unfold conf_right.f
  have q0 : ∀ u ∈ us, ∃ b, conf_up.f k u.f0 u.f1 = some b := fun u h => by
    unfold conf_up.f
    obtain ⟨b, hb⟩ := tbl_tot u.f0 k hk
    rw [hb, Option.bind_some]
    cases b
    · exact ⟨false, by rw [if_neg (by simp)]⟩
    · obtain ⟨c, hc, _⟩ := anyO_tot (fun a => conf_up_1.f a) u.f1 (fun a ha => by
        unfold conf_up_1.f
        have ht : sign_Target.f a = some (tgtOk a) := Target_f a (hu u h a ha)
        rw [ht, Option.bind_some]
        split
        · exact ⟨_, rfl⟩
        · exact ⟨_, rfl⟩)
      exact ⟨!c, by rw [if_pos rfl, hc, Option.bind_some]⟩
  have q1 : ∀ r ∈ rts, ∃ b, ((conf_path.f r.f0).bind fun b => if b = true then conf_path.f r.f2 else some false) = some b := fun r h => by
    obtain ⟨b, hb⟩ := path_tot r.f0 (hr r h).1
    obtain ⟨c, hc⟩ := path_tot r.f2 (hr r h).2
    rw [hb, Option.bind_some]
    cases b
    · exact ⟨false, by rw [if_neg (by simp)]⟩
    · exact ⟨c, by rw [if_pos rfl, hc]⟩
  obtain ⟨b0, h0, _⟩ := allO_tot (fun u => conf_up.f k u.f0 u.f1) us q0
  obtain ⟨b1, h1, _⟩ := allO_tot (fun r => (conf_path.f r.f0).bind fun b => if b = true then conf_path.f r.f2 else some false) rts q1
  obtain ⟨b2, h2, g2⟩ := allO_tot (fun f => conf_set.f f.f0 f.f1) set (fun f _ => ⟨_, set_f f.f0 f.f1⟩)
  obtain ⟨b3, h3, g3⟩ := allO_tot (fun s => conf_drop.f s) drop (fun n h => by obtain ⟨b, hb, _⟩ := drop_tot n (hd n h); exact ⟨b, hb⟩)
  rw [h0, Option.bind_some]
  cases b0
  · exact ⟨false, by rw [if_neg (by simp)], fun e => by cases e⟩
  · rw [if_pos rfl, h1, Option.bind_some]
    cases b1
    · exact ⟨false, by rw [if_neg (by simp)], fun e => by cases e⟩
    · rw [if_pos rfl, h2, Option.bind_some]
      cases b2
      · exact ⟨false, by rw [if_neg (by simp)], fun e => by cases e⟩
      · rw [if_pos rfl, h3, Option.bind_some]
        cases b3
        · exact ⟨false, by rw [if_neg (by simp)], fun e => by cases e⟩
        · rw [if_pos rfl]
          obtain ⟨c, hc⟩ := end_tot us rts set drop n4 n5 n6 n7
          refine ⟨c, hc, fun _ => ⟨fun f hf => ?_, fun n hn => ?_⟩⟩
          · have : conf_set.f f.f0 f.f1 = some true := g2 rfl f hf
            rw [set_f] at this
            injection this with this
            simpa using this
          · obtain ⟨b, hb, hbb⟩ := drop_tot n (hd n hn)
            have : conf_drop.f n = some true := g3 rfl n hn
            rw [hb] at this
            injection this with this
            exact hbb this
theorem many_tot (us:List (S83)) (rts:List (S85)) (set:List (S36)) (drop:List ByteArray) (n4 n5 n6 n7:Int) : ∃ b,conf_many.f us rts set drop n4 n5 n6 n7=some b∧(b=false → us.length ≤ 16∧rts.length ≤ 32∧set.length ≤ 16∧drop.length ≤ 16):=by
 unfold conf_many.f
 obtain ⟨c,hc,_⟩:=anyO_tot (fun u=>conf_many_1.f u.f0 u.f1) us (fun x _=>by unfold conf_many_1.f;split <;> exact ⟨_,rfl⟩)
 rw [hc,Option.bind_some]
 cases c
 ·rw [if_neg (by simp)]
  split
  ·exact ⟨true,rfl,fun e=>by cases e⟩
  ·split
   ·exact ⟨true,rfl,fun e=>by cases e⟩
   ·split
    ·exact ⟨true,rfl,fun e=>by cases e⟩
    ·exact ⟨_,rfl,fun e=>by have:=of_decide_eq_false e;omega⟩
 ·exact ⟨true,by rw [if_pos rfl],fun e=>by cases e⟩
/-- What a configuration's check tells: something;where it tells that all is right,the rules are few and right. -/
theorem check_tot (us:List (S83)) (rts:List (S85)) (set:List (S36)) (drop:List ByteArray) (n4 n5 n6 n7:Int) (hul:us.length ≤ 140737488355328) (hrl:rts.length ≤ 140737488355328) (hu : ∀ u ∈ us,u.f0.size ≤ 140737488355328 ∧ ∀ a ∈ u.f1,a.size ≤ 140737488355328)
 (hr : ∀ r ∈ rts,r.f0.size ≤ 140737488355328∧r.f1.size ≤ 140737488355328∧r.f2.size ≤ 140737488355328) (hd : ∀ n ∈ drop,n.size ≤ 140737488355328) (k:Nat) (hk:40 ≤ k) :
 ∃ e,conf_Check.f k us rts set drop n4 n5 n6 n7=some e∧(e=0 → set.length ≤ 16∧drop.length ≤ 16∧(∀ f ∈ set,rightB f.f0 f.f1=true∧keptN f.f0=false) ∧ ∀ n ∈ drop,n.size ≤ 100∧keptN n=false):=by
 unfold conf_Check.f
 rw [if_pos ⟨hul,hrl,fun u h=>(hu u h).1,fun r h=>⟨(hr r h).1,(hr r h).2.1⟩⟩]
 obtain ⟨m,hm,gm⟩:=many_tot us rts set drop n4 n5 n6 n7
 obtain ⟨b,hb,gb⟩:=right_tot us rts set drop n4 n5 n6 n7 (fun u h=>(hu u h).2) (fun r h=>⟨(hr r h).1,(hr r h).2.2⟩) hd k hk
 rw [hm,Option.bind_some]
 cases m
 ·rw [if_neg (by simp),hb,Option.bind_some]
  have:=gm rfl
  cases b
  ·exact ⟨1,by rw [if_neg (by simp)],fun e=>by cases e⟩
  ·exact ⟨_,by rw [if_pos rfl],fun _=>⟨this.2.2.1,this.2.2.2,(gb rfl).1,(gb rfl).2⟩⟩
 ·exact ⟨3,by rw [if_pos rfl],fun e=>by cases e⟩
theorem sameN_name (x p q:ByteArray) (h:(bytesOf p).map foldC=(bytesOf q).map foldC):sameN x p=sameN x q:=by unfold sameN;rw [h]
theorem getS_name (p q:ByteArray) (h:(bytesOf p).map foldC=(bytesOf q).map foldC) : ∀ fs,getS p fs=getS q fs
 | []=>rfl
 | f :: r=>by rw [getS,getS,sameN_name _ p q h,getS_name p q h r]
theorem listS_name (p q:ByteArray) (h:(bytesOf p).map foldC=(bytesOf q).map foldC) (fs:List (S36)):listS p fs=listS q fs:=by unfold listS;rw [getS_name p q h]
def connN:ByteArray:=⟨#[99,111,110,110,101,99,116,105,111,110]⟩
theorem conn_has (fs:List (S36)) (a:ByteArray):hasS fs (⟨#[67,111,110,110,101,99,116,105,111,110]⟩:ByteArray) a=hasS fs connN a:=by
 unfold hasS
 rw [listS_name ⟨#[67,111,110,110,101,99,116,105,111,110]⟩ connN (by decide +kernel)]
/-- Does a name begin with x-tollbar-? -/
def ownN (a:ByteArray):Bool:=decide (10 ≤ a.size) && ((strOfNums ((bytesOf a).map foldC)).extract 0 10).toList == [120,45,116,111,108,108,98,97,114,45]
/-- Does a field of a name not go on? -/
def hopS (fs:List (S36)) (a:ByteArray):Bool:=keptN a || (ownN a || hasS fs connN a)
theorem fold_size (a:ByteArray):(strOfNums ((bytesOf a).map foldC)).size=a.size:=by rw [str_len,List.length_map,bytesOf_length]
theorem Hop_f (fs:List (S36)) (a:ByteArray) (hf:FB fs) (ha:a.size ≤ 1048576) (k:Nat) (hk:1049600 ≤ k):scrub_Hop.f k fs a=some (hopS fs a):=by
 unfold scrub_Hop.f hopS
 rw [Kept_f a ha,Option.bind_some]
 cases keptN a
 ·rw [if_neg (by simp),Fold_f a (by omega),Option.bind_some,Bool.false_or]
  have hp:strings_HasPrefix.f (strOfNums ((bytesOf a).map foldC)) (⟨#[120,45,116,111,108,108,98,97,114,45]⟩:ByteArray)=some (ownN a):=by
   have hs:(⟨#[120,45,116,111,108,108,98,97,114,45]⟩:ByteArray).size=10:=rfl
   unfold strings_HasPrefix.f stringslite_HasPrefix.f ownN
   rw [hs,fold_size]
   by_cases h:10 ≤ a.size
   ·rw [if_pos (by omega),if_pos (by omega),if_pos (by omega),decide_eq_true h,toList_data (⟨#[120,45,116,111,108,108,98,97,114,45]⟩:ByteArray)];rfl
   ·rw [if_neg (by omega),decide_eq_false h];rfl
  rw [hp,Option.bind_some]
  cases ownN a
  ·rw [if_neg (by simp),Has_f fs _ a hf (by decide) ha k hk,Option.bind_some,conn_has,Bool.false_or]
  ·rw [if_pos rfl,Bool.true_or]
 ·rw [if_pos rfl,Bool.true_or]
/-- The fields that go on. -/
def onwS (fs:List (S36)):List (S36):=fs.filter (fun f => !hopS fs f.f0)
theorem onw_l0 (fs:List (S36)) (hf:FB fs) (d:Nat) : ∀ (k i:Nat) (out:List (S36)),i + d=fs.length → d + 1049600 ≤ k → out.length ≤ i →
 scrub_onward.l0 k fs out fs (fs.length:Int) (i:Int)=some (out ++ (fs.drop i).filter (fun f => !hopS fs f.f0)):=by
 have hfl:=hf.1
 induction d with
 | zero =>
  intro k i out hi hk ho
  obtain ⟨k,rfl⟩ : ∃ m,k=m + 1:=⟨k - 1,by omega⟩
  rw [scrub_onward.l0,if_neg (by omega),List.drop_of_length_le (by omega),List.filter_nil,List.append_nil]
 | succ d ih =>
  intro k i out hi hk ho
  obtain ⟨k,rfl⟩ : ∃ m,k=m + 1:=⟨k - 1,by omega⟩
  have hlt:i < fs.length:=by omega
  have hb:=hf.2 _ (List.getElem_mem hlt)
  have hw:wrap64 ((i:Int) + 1)=((i + 1:Nat):Int):=by unfold wrap64;omega
  rw [scrub_onward.l0,if_pos (by omega),if_pos (by omega),if_pos (by omega),rdT_at fs i hlt,Hop_f fs _ hf hb.1 k (by omega),Option.bind_some,hw,List.drop_eq_getElem_cons hlt,List.filter_cons]
  cases hs:hopS fs fs[i].f0
  ·rw [if_neg (by simp),if_pos (by omega),if_pos (by simp),ih k (i + 1) _ (by omega) (by omega) (by rw [List.length_append];simp;omega)]
   simp only [List.append_assoc,List.singleton_append]
  ·rw [if_pos rfl,if_neg (by simp),ih k (i + 1) _ (by omega) (by omega) (by omega)]
theorem onward_f (fs:List (S36)) (hf:FB fs) (k:Nat) (hk:1050600 ≤ k):scrub_onward.f k fs=some (onwS fs):=by
 have hfl:=hf.1
 have:=onw_l0 fs hf fs.length k 0 [] (by omega) (by omega) (Nat.zero_le _)
 rw [List.drop_zero,List.nil_append] at this
 exact this
theorem onwS_FB (fs:List (S36)) (hf:FB fs):FB (onwS fs):=⟨Nat.le_trans (List.length_filter_le _ _) hf.1,fun f h=>hf.2 f (List.mem_filter.1 h).1⟩
theorem refSame_f (a b:ByteArray) (ha:a.size ≤ 1048576) (hb:b.size ≤ 1048576) (k:Nat) (hk:1048578 ≤ k):tollbarref04_same.f k a b=some (sameN a b):=by
 unfold tollbarref04_same.f
 rw [refFold_f a (by omega) k (by omega),refFold_f b (by omega) k (by omega),Fold_f a (by omega),Fold_f b (by omega),Option.bind_some,Option.bind_some,str_inj (bytes_fold (bytes_of a)) (bytes_fold (bytes_of b))]
 rfl
theorem refIn_l0 (name:ByteArray) (hn:name.size ≤ 1048576) (ns:List ByteArray) (hl:ns.length ≤ 2000000000) (hs : ∀ n ∈ ns,n.size ≤ 1048576) (d:Nat) : ∀ (k i:Nat),i + d=ns.length → d + 1048580 ≤ k →
 tollbarref04_In.l0 k ns name (i:Int)=some ((ns.drop i).any (fun p=>sameN p name)):=by
 induction d with
 | zero =>
  intro k i hi hk
  obtain ⟨k,rfl⟩ : ∃ m,k=m + 1:=⟨k - 1,by omega⟩
  rw [tollbarref04_In.l0,if_neg (by omega),List.drop_of_length_le (by omega),List.any_nil]
 | succ d ih =>
  intro k i hi hk
  obtain ⟨k,rfl⟩ : ∃ m,k=m + 1:=⟨k - 1,by omega⟩
  have hlt:i < ns.length:=by omega
  have hb:=hs _ (List.getElem_mem hlt)
  have hw:wrap64 ((i:Int) + 1)=((i + 1:Nat):Int):=by unfold wrap64;omega
  rw [tollbarref04_In.l0,if_pos (by omega),if_pos (by omega),rdB_at ns i hlt,refSame_f _ _ (by omega) (by omega) k (by omega),Option.bind_some,hw,List.drop_eq_getElem_cons hlt,List.any_cons,ih k (i + 1) (by omega) (by omega)]
  cases sameN ns[i] name <;> simp
theorem refIn_f (ns:List ByteArray) (name:ByteArray) (hl:ns.length ≤ 2000000000) (hs : ∀ n ∈ ns,n.size ≤ 1048576) (hn:name.size ≤ 1048576) (k:Nat) (hk:ns.length + 1048580 ≤ k):tollbarref04_In.f k ns name=some (ns.any (fun p=>sameN p name)):=by
 have:=refIn_l0 name hn ns hl hs ns.length k 0 (by omega) (by omega)
 rw [List.drop_zero] at this
 exact this
theorem sameF_l0 (xs:List (S36)) (hn:xs.length ≤ 1000000) (d:Nat) : ∀ (k i:Nat),i + d=xs.length → d < k → tollbarref04_Same.l0 k xs xs (i:Int)=some true:=by
 induction d with
 | zero =>
  intro k i hi hk
  obtain ⟨k,rfl⟩ : ∃ m,k=m + 1:=⟨k - 1,by omega⟩
  rw [tollbarref04_Same.l0,if_neg (by omega)]
 | succ d ih =>
  intro k i hi hk
  obtain ⟨k,rfl⟩ : ∃ m,k=m + 1:=⟨k - 1,by omega⟩
  rw [tollbarref04_Same.l0,if_pos (by omega),if_pos (by omega),if_pos (by omega),if_pos rfl,if_pos rfl,show wrap64 ((i:Int) + 1)=((i + 1:Nat):Int) by unfold wrap64;omega]
  exact ih k (i + 1) (by omega) (by omega)
theorem sameF_eq (xs:List (S36)) (hn:xs.length ≤ 1000000) (k:Nat) (hk:xs.length < k):tollbarref04_Same.f k xs xs=some true:=by
 unfold tollbarref04_Same.f
 rw [if_pos rfl]
 exact sameF_l0 xs hn xs.length k 0 (by omega) hk
theorem Text_f (n:Int) (h0 : -9223372036854775808 ≤ n) (h1:n ≤ 9223372036854775807):sign_Text.f n=some ⟨(Lib.itoa n).toArray⟩:=by
 unfold sign_Text.f strconv_FormatInt_93.f strconv_FormatInt_145.f
 rw [if_pos rfl,if_pos ⟨h0,h1⟩]
 rfl
def lenN:ByteArray:=⟨#[67,111,110,116,101,110,116,45,76,101,110,103,116,104]⟩
/-- The field that tells a body's length. -/
def lenF (n:Int):S36:=⟨lenN,⟨(Lib.itoa n).toArray⟩⟩
theorem length_f (n:Int) (h0 : -9223372036854775808 ≤ n) (h1:n ≤ 9223372036854775807):scrub_length.f n=some ((lenF n).f0,(lenF n).f1):=by
 unfold scrub_length.f
 rw [Text_f n h0 h1,Option.bind_some]
 rfl
/-- Fields but those of some names. -/
def withoutS (fs:List (S36)) (ns:List ByteArray):List (S36):=fs.filter (fun f => !(ns.any (fun n=>sameN n f.f0)))
theorem wo_l0 (fs:List (S36)) (ns:List ByteArray) (hf:FB fs) (hn : ∀ n ∈ ns,n.size ≤ 1048576) (d:Nat) : ∀ (k i:Nat) (out:List (S36)),i + d=fs.length → d < k → out.length ≤ i →
 field_Without.l0 k fs ns out (i:Int)=some (out ++ (fs.drop i).filter (fun f => !(ns.any (fun n=>sameN n f.f0)))):=by
 have hfl:=hf.1
 induction d with
 | zero =>
  intro k i out hi hk ho
  obtain ⟨k,rfl⟩ : ∃ m,k=m + 1:=⟨k - 1,by omega⟩
  rw [field_Without.l0,if_neg (by omega),List.drop_of_length_le (by omega),List.filter_nil,List.append_nil]
 | succ d ih =>
  intro k i out hi hk ho
  obtain ⟨k,rfl⟩ : ∃ m,k=m + 1:=⟨k - 1,by omega⟩
  have hlt:i < fs.length:=by omega
  have hb:=hf.2 _ (List.getElem_mem hlt)
  have hw:wrap64 ((i:Int) + 1)=((i + 1:Nat):Int):=by unfold wrap64;omega
  have ha:anyO (fun n=>sign_Same.f n (rd_T36 fs (i:Int)).f0) ns=some (ns.any (fun n=>sameN n fs[i].f0)):=by
   rw [rdT_at fs i hlt]
   exact any_f _ _ _ (fun x hx=>same_f x _ (by have:=hn x hx;omega) (by omega))
  rw [field_Without.l0,if_pos (by omega),if_pos (by omega),ha,Option.bind_some,hw,List.drop_eq_getElem_cons hlt,List.filter_cons,rdT_at fs i hlt]
  cases hs:ns.any (fun n=>sameN n fs[i].f0)
  ·rw [if_neg (by simp),if_pos (by omega),if_pos (by simp),ih k (i + 1) _ (by omega) (by omega) (by rw [List.length_append];simp;omega)]
   simp only [List.append_assoc,List.singleton_append]
  ·rw [if_pos rfl,if_neg (by simp),ih k (i + 1) _ (by omega) (by omega) (by omega)]
theorem Without_f (fs:List (S36)) (ns:List ByteArray) (hf:FB fs) (hn : ∀ n ∈ ns,n.size ≤ 1048576) (k:Nat) (hk:fs.length < k):field_Without.f k fs ns=some (withoutS fs ns):=by
 have:=wo_l0 fs ns hf hn fs.length k 0 [] (by omega) hk (Nat.zero_le _)
 rw [List.drop_zero,List.nil_append] at this
 exact this
/-- Is a body's length told? -/
def needS (m:ByteArray) (b:List Int):Bool:=decide ((b.length:Int) > 0) || ((m.toList == [80,79,83,84]) || ((m.toList == [80,85,84]) || (m.toList == [80,65,84,67,72])))
def reqFields (m:ByteArray) (fs:List (S36)) (b:List Int) (set:List (S36)) (drop:List ByteArray) (h:ByteArray):List (S36) :=
 (((⟨(⟨#[72,111,115,116]⟩:ByteArray),h⟩:S36) :: withoutS (onwS fs) (drop ++ set.map (·.f0))) ++ set) ++ (if needS m b=true then [lenF (b.length:Int)] else [])
theorem req_names (h t : ByteArray) (set : List (S36)) (hs : set.length ≤ 1000) (m tg : ByteArray) (mi : Int) (fs : List (S36)) (b : List Int) (us : List (S83)) (rts : List (S85)) (set2 : List (S36)) (drop : List ByteArray) (n4 n5 n6 n7 : Int) (d : Nat) :
    ∀ (K i : Nat) (x9 : List ByteArray), i + d = set.length → x9.length + d ≤ 100000 → scrub_Request.l0 (K + d) h t x9 set (set.length : Int) (i : Int) m tg mi fs b us rts set2 drop n4 n5 n6 n7 = scrub_Request.l0 K h t (x9 ++ (set.drop i).map (·.f0)) set (set.length : Int) (set.length : Int) m tg mi fs b us rts set2 drop n4 n5 n6 n7 := by
  induction d with
  | zero => intro K i x9 hi _; obtain rfl : i = set.length := by omega
            rw [List.drop_of_length_le (Nat.le_refl _), List.map_nil, List.append_nil, Nat.add_zero]
  | succ d ih =>
    intro K i x9 hi hx
    have hlt : i < set.length := by omega
    have hw : wrap64 ((i : Int) + 1) = ((i + 1 : Nat) : Int) := by unfold wrap64; omega
    rw [show K + (d + 1) = (K + d) + 1 by omega, scrub_Request.l0, if_pos (by omega), if_pos (by omega), if_pos (by omega), if_pos (by omega), rdT_at set i hlt, hw, ih K (i + 1) _ (by omega) (by rw [List.length_append]; simp; omega), List.drop_eq_getElem_cons hlt, List.map_cons, List.append_assoc]
    rfl
theorem req_j1 (t:ByteArray) (fs:List (S36)) (hfl:fs.length ≤ 100000) (m tg:ByteArray) (mi:Int) (ofs:List (S36)) (b:List Int) (hb:b.length ≤ 100000) (need:Bool) (k:Nat) :
 scrub_Request.j1 (k + 1) t fs need m tg mi ofs b=some (m,t,1,fs ++ (if need=true then [lenF (b.length:Int)] else []),b):=by
 have hcl:bytes_Clone.f b=some b:=if_pos (by omega)
 rw [scrub_Request.j1]
 cases need
 ·rw [if_neg (by simp),hcl,Option.bind_some,if_neg (by simp),List.append_nil]
 ·rw [if_pos rfl,length_f _ (by omega) (by omega),Option.bind_some,if_pos (by omega),hcl,Option.bind_some,if_pos rfl]
theorem Request12_f (m tg:ByteArray) (mi:Int) (fs:List (S36)) (b:List Int) (us:List (S83)) (rts:List (S85)) (set:List (S36)) (drop:List ByteArray) (n4 n5 n6 n7:Int) (h t:ByteArray)
 (hf:FB fs) (hs:FB set) (hd:drop.length ≤ 1000 ∧ ∀ n ∈ drop,n.size ≤ 1048576) (hb:b.length ≤ 100000) (k:Nat) (hk:1060000 ≤ k) :
 scrub_Request.f k m tg mi fs b us rts set drop n4 n5 n6 n7 h t=some (m,t,1,reqFields m fs b set drop h,b):=by
 have hsl:=hs.1
 have hof:=onwS_FB fs hf
 have hol:=hof.1
 have hcl:slices_Clone_string_string.f drop=some drop:=if_pos (by omega)
 have hgone : ∀ n ∈ drop ++ set.map (·.f0),n.size ≤ 1048576:=by
  intro n hn
  rcases List.mem_append.1 hn with hn|hn
  ·exact hd.2 n hn
  ·obtain ⟨f,hm,rfl⟩:=List.mem_map.1 hn;exact (hs.2 f hm).1
 obtain ⟨K,rfl⟩ : ∃ K,k=(K + 2) + set.length:=⟨k - 2 - set.length,by omega⟩
 have hw:(withoutS (onwS fs) (drop ++ set.map (·.f0))).length ≤ 1000:=Nat.le_trans (List.length_filter_le _ _) hol
 have h1:=req_names h t set hsl m tg mi fs b us rts set drop n4 n5 n6 n7 set.length (K + 2) 0 drop (by omega) (by omega)
 rw [List.drop_zero] at h1
 unfold scrub_Request.f
 rw [hcl,Option.bind_some]
 refine Eq.trans h1 ?_
 have hh1 : ∀ y:List (S36),(y=[(⟨(⟨#[72,111,115,116]⟩:ByteArray),h⟩:S36)]) → y.length=1:=fun y e=>by rw [e];rfl
 rw [scrub_Request.l0,if_neg (by omega),Option.bind_some,onward_f fs hf (K + 1) (by omega),Option.bind_some,Without_f (onwS fs) _ hof hgone (K + 1) (by omega),Option.bind_some,if_pos (by simp only [List.length_cons,List.length_nil];omega),Option.bind_some,
  if_pos (by simp only [List.length_append,List.length_cons,List.length_nil];omega),Option.bind_some]
 have hbig:(([(⟨(⟨#[72,111,115,116]⟩:ByteArray),h⟩:S36)] ++ withoutS (onwS fs) (drop ++ set.map (·.f0))) ++ set).length ≤ 100000:=by simp only [List.length_append,List.length_cons,List.length_nil];omega
 unfold reqFields needS
 by_cases c1:(b.length:Int) > 0
 ·rw [if_pos c1,decide_eq_true c1,req_j1 t _ hbig m tg mi fs b hb true K,Bool.true_or]
  rfl
 ·rw [if_neg c1,decide_eq_false c1,Bool.false_or]
  by_cases c2:m.toList=[80,79,83,84]
  ·rw [if_pos c2,req_j1 t _ hbig m tg mi fs b hb _ K,beq_iff_eq.2 c2,Bool.true_or]
   rfl
  ·rw [if_neg c2,beq_eq_false_iff_ne.2 c2,Bool.false_or]
   by_cases c3:m.toList=[80,85,84]
   ·rw [if_pos c3,req_j1 t _ hbig m tg mi fs b hb _ K,beq_iff_eq.2 c3,Bool.true_or]
    rfl
   ·rw [if_neg c3,req_j1 t _ hbig m tg mi fs b hb _ K,beq_eq_false_iff_ne.2 c3,Bool.false_or]
    rfl
def dropF (n:ByteArray) (i:Nat):S36:=⟨n,strOfNums [(wrap64 (97 + (Int.tmod (i:Int) 26))) % 256]⟩
def dropFs:List ByteArray → Nat → List (S36)
 | [],_=>[]
 | n :: r,i=>dropF n i :: dropFs r (i + 1)
theorem dropFs_snoc (l:List ByteArray) (n:ByteArray) : ∀ i,dropFs (l ++ [n]) i=dropFs l i ++ [dropF n (i + l.length)]:=by
 induction l with
 | nil=>intro i;rfl
 | cons x l ih =>
  intro i
  rw [List.cons_append,dropFs,ih,dropFs,List.cons_append,List.length_cons,show i + 1 + l.length=i + (l.length + 1) by omega]
theorem dropFs_len (l:List ByteArray) : ∀ i,(dropFs l i).length=l.length:=by
 induction l with
 | nil=>intro i;rfl
 | cons x l ih=>intro i;rw [dropFs,List.length_cons,ih,List.length_cons]
theorem dropFs_small (l:List ByteArray) (h : ∀ n ∈ l,n.size ≤ 30) : ∀ i,∀ f ∈ dropFs l i,f.f0.size ≤ 1048576∧f.f1.size ≤ 1048576:=by
 induction l with
 | nil=>intro i f hf;cases hf
 | cons x l ih =>
  intro i f hf
  rw [dropFs] at hf
  rcases List.mem_cons.1 hf with rfl|hf
  ·refine ⟨by have:=h x (List.mem_cons_self ..);show x.size ≤ _;omega,?_⟩
   show (strOfNums [_]).size ≤ 1048576
   rw [str_size,List.length_singleton]
   omega
  ·exact ih (fun n hn=>h n (List.mem_cons_of_mem _ hn)) (i + 1) f hf
def setF (n:ByteArray):S36:=⟨n,⟨#[115,101,116]⟩⟩
theorem setF_names (l:List ByteArray):(l.map setF).map (·.f0)=l:=by
 rw [List.map_map]
 conv=>rhs;rw [← List.map_id l]
 rfl
/-- Does a field go on? -/
def goesB (F:List (S36)) (drop set:List ByteArray) (f:S36):Bool := !hopS F f.f0 && (!(drop.any fun n=>sameN n f.f0) && !(set.any fun n=>sameN n f.f0))
theorem drops_l2 (drop set:List ByteArray) (hd:drop.length ≤ 16 ∧ ∀ n ∈ drop,n.size ≤ 1048576) (hs:set.length ≤ 16 ∧ ∀ n ∈ set,n.size ≤ 1048576) (m t:ByteArray) (mi:Int) (F:List (S36)) (hF:FB F) (c0:List (S83)) (c1:List (S85)) (c2:List (S36)) (c3:List ByteArray) (c4 c5 c6 c7:Int)
 (om ot:ByteArray) (omi:Int) (of:List (S36)) (hc2:c2.length ≤ 16) (hof:of.length ≤ 2000) (w0:List (S36)) (hw0:w0.length ≤ 1) (hfin:of=(w0 ++ F.filter (goesB F drop set)) ++ c2) (d:Nat) : ∀ (k i:Nat) (acc:List (S36)),i + d=F.length → acc=w0 ++ (F.take i).filter (goesB F drop set) → 1060000 + d ≤ k →
 tollbarlaw12_ScrubDrops.l2 k drop set acc F (F.length:Int) (i:Int) m t mi F c0 c1 c2 c3 c4 c5 c6 c7 om ot omi of []=some true:=by
 have hFl:=hF.1
 induction d with
 | zero =>
  intro k i acc hi ha hk
  obtain ⟨k,rfl⟩ : ∃ m,k=m + 1:=⟨k - 1,by omega⟩
  have hal:acc.length ≤ 1 + F.length:=by rw [ha,List.length_append];have:=List.length_filter_le (goesB F drop set) (F.take i);rw [List.length_take] at this;omega
  rw [tollbarlaw12_ScrubDrops.l2,if_neg (by omega),if_pos (by omega)]
  have e:acc ++ c2=of:=by rw [hfin,ha,List.take_of_length_le (by omega)]
  rw [e,sameF_eq of (by omega) k (by omega),Option.bind_some,if_pos rfl]
  rfl
 | succ d ih =>
  intro k i acc hi ha hk
  obtain ⟨k,rfl⟩ : ∃ m,k=m + 1:=⟨k - 1,by omega⟩
  have hlt:i < F.length:=by omega
  have hk1:1060000 + d ≤ k:=by omega
  have q1:(i:Int) < (F.length:Int):=by omega
  have q2:(0:Int) ≤ (i:Int):=by omega
  have q3:i + 1 + d=F.length:=by omega
  have hw:wrap64 ((i:Int) + 1)=((i + 1:Nat):Int):=by unfold wrap64;omega
  have hkb:1049600 ≤ k:=by omega
  have hb:=hF.2 _ (List.getElem_mem hlt)
  have hal:acc.length ≤ 1 + F.length:=by rw [ha,List.length_append];have:=List.length_filter_le (goesB F drop set) (F.take i);rw [List.length_take] at this;omega
  have q4:acc.length < 4398046511104:=by omega
  clear hal
  have htk:(F.take (i + 1)).filter (goesB F drop set)=(F.take i).filter (goesB F drop set) ++ (if goesB F drop set F[i]=true then [F[i]] else []):=by
   rw [List.take_succ_eq_append_getElem hlt,List.filter_append,List.filter_cons,List.filter_nil]
  have skip:goesB F drop set F[i]=false → tollbarlaw12_ScrubDrops.l2 k drop set acc F (F.length:Int) ((i + 1:Nat):Int) m t mi F c0 c1 c2 c3 c4 c5 c6 c7 om ot omi of []=some true:=fun hg =>
   ih k (i + 1) acc q3 (by rw [htk,hg,ha];simp) hk1
  have hHop:=Hop_f F _ hF hb.1 k hkb
  rw [tollbarlaw12_ScrubDrops.l2,if_pos q1,if_pos q2,if_pos q1,rdT_at F i hlt,hHop,Option.bind_some,hw]
  cases h1:hopS F F[i].f0
  ·rw [if_neg (by simp),refIn_f drop _ (by omega) hd.2 hb.1 k (by omega),Option.bind_some]
   cases h2:drop.any fun n=>sameN n F[i].f0
   ·rw [if_neg (by simp),refIn_f set _ (by omega) hs.2 hb.1 k (by omega),Option.bind_some]
    cases h3:set.any fun n=>sameN n F[i].f0
    ·rw [if_neg (by simp),if_pos q4]
     have hg:goesB F drop set F[i]=true:=by unfold goesB;rw [h1,h2,h3];rfl
     exact ih k (i + 1) _ q3 (by rw [htk,hg,ha,if_pos rfl,List.append_assoc]) hk1
    ·rw [if_pos rfl]
     exact skip (by unfold goesB;rw [h1,h2,h3];rfl)
   ·rw [if_pos rfl]
    exact skip (by unfold goesB;rw [h1,h2];rfl)
  ·rw [if_pos rfl]
   exact skip (by unfold goesB;rw [h1];rfl)
theorem drops_fields (F:List (S36)) (drop set:List ByteArray) (h:ByteArray):reqFields (⟨#[71,69,84]⟩:ByteArray) F [] (set.map setF) drop h=([(⟨(⟨#[72,111,115,116]⟩:ByteArray),h⟩:S36)] ++ F.filter (goesB F drop set)) ++ set.map setF:=by
 unfold reqFields
 have hn:needS (⟨#[71,69,84]⟩:ByteArray) []=false:=by kernel_rfl
 rw [hn,if_neg (by simp),List.append_nil,setF_names]
 congr 1
 rw [List.singleton_append]
 congr 1
 unfold withoutS onwS
 rw [List.filter_filter]
 refine List.filter_congr fun f _=>?_
 unfold goesB
 rw [List.any_append]
 cases hopS F f.f0 <;> cases (drop.any fun n=>sameN n f.f0) <;> cases (set.any fun n=>sameN n f.f0) <;> rfl
theorem drops_l1 (drop set:List ByteArray) (hdl:drop.length ≤ 8) (hsl:set.length ≤ 8) (hdb : ∀ n ∈ drop,n.size ≤ 140737488351232) (F:List (S36)) (hF:FB F) (d:Nat) : ∀ (k i:Nat) (acc:List (S36)),i + d=set.length → acc=(set.take i).map setF → 1070000100 + d ≤ k →
 tollbarlaw12_ScrubDrops.l1 k drop set set (set.length:Int) (i:Int) (⟨#[71,69,84]⟩:ByteArray) (⟨#[47]⟩:ByteArray) 1 F [] [] acc drop 100 1 3 50=some true:=by
 have hFl:=hF.1
 induction d with
 | zero =>
  intro k i acc hi ha hk
  obtain ⟨k,rfl⟩ : ∃ m,k=m + 1:=⟨k - 1,by omega⟩
  have ha2:acc=set.map setF:=by rw [ha,List.take_of_length_le (by omega)]
  obtain ⟨e,he,hee⟩:=check_tot [] [] acc drop 100 1 3 50 (by decide) (by decide) (fun u h=>by cases h) (fun r h=>by cases h) (fun n h=>by have:=hdb n h;omega) k (by omega)
  rw [tollbarlaw12_ScrubDrops.l1,if_neg (by omega),he,Option.bind_some]
  by_cases c:e=0
  ·obtain ⟨s1,s2,s3,s4⟩:=hee c
   have hset : ∀ n ∈ set,n.size ≤ 100:=fun n hn=>by
    have:=(s3 (setF n) (by rw [ha2];exact List.mem_map.2 ⟨n,hn,rfl⟩)).1
    exact (rightB_size this).1
   have hFBs:FB acc:=right_FB acc (by omega) (fun f h=>(s3 f h).1)
   have hR:=Request12_f (⟨#[71,69,84]⟩:ByteArray) (⟨#[47]⟩:ByteArray) 1 F [] [] [] acc drop 100 1 3 50 (⟨#[104]⟩:ByteArray) (⟨#[47]⟩:ByteArray) hF hFBs ⟨by omega,fun n h=>by have:=(s4 n h).1;omega⟩ (by simp) k (by omega)
   have hfi:=drops_fields F drop set (⟨#[104]⟩:ByteArray)
   rw [← ha2] at hfi
   have hlen:(reqFields (⟨#[71,69,84]⟩:ByteArray) F [] acc drop (⟨#[104]⟩:ByteArray)).length ≤ 2000:=by
    rw [hfi,List.length_append,List.length_append]
    have:=List.length_filter_le (goesB F drop set) F
    simp only [List.length_cons,List.length_nil]
    omega
   rw [if_pos c,hR,Option.bind_some]
   simp only
   exact drops_l2 drop set ⟨by omega,fun n h=>by have:=(s4 n h).1;omega⟩ ⟨by omega,fun n h=>by have:=hset n h;omega⟩ _ _ 1 F hF [] [] acc drop 100 1 3 50 _ _ 1 _ (by omega) hlen [(⟨(⟨#[72,111,115,116]⟩:ByteArray),(⟨#[104]⟩:ByteArray)⟩:S36)] (by simp) hfi F.length k 0 _ (by omega) (by simp) (by omega)
  ·rw [if_neg c]
 | succ d ih =>
  intro k i acc hi ha hk
  obtain ⟨k,rfl⟩ : ∃ m,k=m + 1:=⟨k - 1,by omega⟩
  have hlt:i < set.length:=by omega
  have hal:acc.length ≤ 8:=by rw [ha,List.length_map,List.length_take];omega
  rw [tollbarlaw12_ScrubDrops.l1,if_pos (by omega),if_pos (by omega),if_pos (by omega),if_pos (by omega),rdB_at set i hlt,show wrap64 ((i:Int) + 1)=((i + 1:Nat):Int) by unfold wrap64;omega]
  refine ih k (i + 1) _ (by omega) ?_ (by omega)
  rw [List.take_succ_eq_append_getElem hlt,List.map_append,ha]
  rfl
theorem drops_l0 (names drop set:List ByteArray) (hnl:names.length ≤ 30) (hdl:drop.length ≤ 8) (hsl:set.length ≤ 8) (hdb : ∀ n ∈ drop,n.size ≤ 140737488351232) (d:Nat) : ∀ (k i:Nat) (acc:List (S36)),i + d=names.length → acc=dropFs (names.take i) 0 → (∀ n ∈ names.take i,n.size ≤ 30) → 1070000200 + d ≤ k →
 tollbarlaw12_ScrubDrops.l0 k drop set names (names.length:Int) (i:Int) (⟨#[71,69,84]⟩:ByteArray) (⟨#[47]⟩:ByteArray) 1 acc=some true:=by
 induction d with
 | zero =>
  intro k i acc hi ha hs hk
  obtain ⟨k,rfl⟩ : ∃ m,k=m + 1:=⟨k - 1,by omega⟩
  have hal:acc.length ≤ 30:=by rw [ha,dropFs_len,List.length_take];omega
  have hF:FB acc:=⟨by omega,by rw [ha];exact dropFs_small _ hs 0⟩
  rw [tollbarlaw12_ScrubDrops.l0,if_neg (by omega)]
  unfold conf_Default.f
  rw [Option.bind_some]
  exact drops_l1 drop set hdl hsl hdb acc hF set.length k 0 [] (by omega) rfl (by omega)
 | succ d ih =>
  intro k i acc hi ha hs hk
  obtain ⟨k,rfl⟩ : ∃ m,k=m + 1:=⟨k - 1,by omega⟩
  have hlt:i < names.length:=by omega
  have hal:acc.length ≤ 30:=by rw [ha,dropFs_len,List.length_take];omega
  have htk:names.take (i + 1)=names.take i ++ [names[i]]:=List.take_succ_eq_append_getElem hlt
  rw [tollbarlaw12_ScrubDrops.l0,if_pos (by omega),if_pos (by omega),if_pos (by omega),rdB_at names i hlt]
  by_cases c:((names[i]).size:Int) > 30
  ·rw [if_pos c]
  ·rw [if_neg c,if_pos (by omega),show wrap64 ((i:Int) + 1)=((i + 1:Nat):Int) by unfold wrap64;omega]
   refine ih k (i + 1) _ (by omega) ?_ ?_ (by omega)
   ·rw [htk,dropFs_snoc,ha,List.length_take,show 0 + min i names.length=i by omega]
    rfl
   ·intro n hn
    rw [htk] at hn
    rcases List.mem_append.1 hn with hn|hn
    ·exact hs n hn
    ·rw [List.mem_singleton.1 hn];omega
theorem ScrubDrops (l0 l1 l2:List ByteArray) (_:l0.length ≤ 140737488351232∧l0.length ≤ maxLen ∧ ∀ y ∈ l0,y.size ≤ 140737488351232∧y.size ≤ maxLen) (h1:l1.length ≤ 140737488351232∧l1.length ≤ maxLen ∧ ∀ y ∈ l1,y.size ≤ 140737488351232∧y.size ≤ maxLen)
 (_:l2.length ≤ 140737488351232∧l2.length ≤ maxLen ∧ ∀ y ∈ l2,y.size ≤ 140737488351232∧y.size ≤ maxLen) : ∃ k,tollbarlaw12_ScrubDrops.f k l0 l1 l2=some true:=by
 refine ⟨1080000000,?_⟩
 unfold tollbarlaw12_ScrubDrops.f
 rw [show tollbarlaw12_alive.f=some true from rfl,Option.bind_some,if_pos rfl,show (1080000000:Nat)=1079999999 + 1 from rfl]
 by_cases c0:(l0.length:Int) > 30
 ·rw [if_pos c0,tollbarlaw12_ScrubDrops.j0,if_pos rfl]
 ·rw [if_neg c0]
  by_cases c1:(l1.length:Int) > 8
  ·rw [if_pos c1,tollbarlaw12_ScrubDrops.j0,if_pos rfl]
  ·rw [if_neg c1]
   by_cases c2:(l2.length:Int) > 8
   ·rw [decide_eq_true c2,tollbarlaw12_ScrubDrops.j0,if_pos rfl]
   ·rw [decide_eq_false c2,tollbarlaw12_ScrubDrops.j0,if_neg (by simp)]
    exact drops_l0 l0 l1 l2 (by omega) (by omega) (by omega) (fun n h=>(h1.2.2 n h).1) l0.length 1079999999 0 [] (by omega) rfl (fun n h=>by cases h) (by omega)
end Go.Proofs.YtagffbblalldiaaGreatDoor.Pure
