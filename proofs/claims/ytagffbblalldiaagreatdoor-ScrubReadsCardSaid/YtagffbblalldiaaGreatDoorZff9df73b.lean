/- Each function below answers as its Lean twin says; plain lemmas; a row where its theorem stands. No further condition. (Laid by this repo's pack.py out of its texts and of the print's words.) -/
import Derived.Test.YtagffbblalldiaaGreatDoorZ3d8491c0
import Derived.Test.YtagffbblalldiaaGreatDoorZ71cf0ab3
import Derived.Test.YtagffbblalldiaaGreatDoorZ02602194
import Derived.Test.YtagffbblalldiaaGreatDoorZ819dcbb6
import Derived.Test.YtagffbblalldiaaGreatDoorZ1c8098a7
import Derived.Lib.SlBytesConst
import Derived.Lib.Itoa
import Derived.Lib.IndexBytes
import Derived.Lib.Strings
import Derived.Shelf.Strings.SlTrimAscii
import Derived.Lib.SlTrimSet
import Derived.Lib.LastIndexByte
namespace Go.Proofs.YtagffbblalldiaaGreatDoor.P
open Go.RowKit Go.Proofs.YtagffbblalldiaaGreatDoorW.PrintWords Go.Proofs.YtagffbblalldiaaGreatDoorW.PrintLast Go.Proofs.YtagffbblalldiaaGreatDoorW.PrintMore
attribute [local go_sem] max2_int min2_int max_two min_two max_three min_three max_four min_four
set_option linter.unusedVariables false
set_option linter.unusedSimpArgs false
def al12_fs:List (S36):=[⟨⟨#[72,111,115,116]⟩,⟨#[104]⟩⟩,⟨⟨#[88]⟩,⟨#[49]⟩⟩,⟨⟨#[67,111,110,110,101,99,116,105,111,110]⟩,⟨#[120,44,32,99,108,111,115,101]⟩⟩,⟨⟨#[89]⟩,⟨#[50]⟩⟩]
def al12_out:List (S36):=[⟨⟨#[72,111,115,116]⟩,⟨#[104]⟩⟩,⟨⟨#[89]⟩,⟨#[50]⟩⟩,⟨⟨#[90]⟩,⟨#[51]⟩⟩]
def al12_len (n:Int):S36:=⟨⟨#[67,111,110,116,101,110,116,45,76,101,110,103,116,104]⟩,⟨(Lib.itoa n).toArray⟩⟩
theorem al12_1:scrub_Request.f 60 ⟨#[71,69,84]⟩ ⟨#[47]⟩ 1 al12_fs [] [] [] [⟨⟨#[90]⟩,⟨#[51]⟩⟩] [] 0 0 0 0 ⟨#[104]⟩ ⟨#[47,110]⟩=some (⟨#[71,69,84]⟩,⟨#[47,110]⟩,1,al12_out,[]):=by kernel_rfl
theorem al12_2:scrub_Own.f 404 true=some (404,⟨#[78,111,116,32,70,111,117,110,100]⟩,1,[al12_len 0,⟨⟨#[67,111,110,110,101,99,116,105,111,110]⟩,⟨#[99,108,111,115,101]⟩⟩],[]):=by kernel_rfl
theorem al12_3:scrub_Response.f 60 200 ⟨#[79,75]⟩ 0 al12_fs [97,98] ⟨#[71,69,84]⟩ false=some (200,⟨#[79,75]⟩,1,[⟨⟨#[89]⟩,⟨#[50]⟩⟩,al12_len 2],[97,98]):=by kernel_rfl
theorem al12_4:tollbarref04_Same.f 60 al12_out al12_out=some true:=by kernel_rfl
theorem al12_5:scrub_Hop.f 60 al12_fs ⟨#[120]⟩=some true:=by kernel_rfl
theorem al12_6:scrub_Hop.f 60 al12_fs ⟨#[121]⟩=some false:=by kernel_rfl
theorem al12_7:(⟨(Lib.itoa 2).toArray⟩:ByteArray)=⟨#[50]⟩:=by
 simp [Lib.itoa,Lib.decDigits_one]
def tollbarlaw12_alive.f:Option Bool:=some true
/-- The cells of fields in a row. -/
def fcells (xs:List (S36)):List Value:=xs.flatMap fun x=>[.string x.f0,.string x.f1]
theorem fcells_get : ∀ (xs:List (S36)) (j i:Nat) (x:S36) (u:Value),xs[j]? = some x → ([Value.string x.f0,.string x.f1])[i]? = some u → (fcells xs)[j * 2 + i]? = some u
 | [],j,i,x,u,h,_=>by simp at h
 | y :: r,0,i,x,u,h,hu=>by
  simp only [List.getElem?_cons_zero,Option.some.injEq] at h
  subst h
  have hi:i < 2:=by have:=(List.getElem?_eq_some_iff.1 hu).1;simpa using this
  show ([Value.string y.f0,.string y.f1] ++ fcells r)[0 * 2 + i]? = some u
  rw [Nat.zero_mul,Nat.zero_add,List.getElem?_append_left (by simpa using hi)]
  exact hu
 | y :: r,j + 1,i,x,u,h,hu=>by
  have hi:i < 2:=by have:=(List.getElem?_eq_some_iff.1 hu).1;simpa using this
  show ([Value.string y.f0,.string y.f1] ++ fcells r)[(j + 1) * 2 + i]? = some u
  rw [List.getElem?_append_right (by simp;omega)]
  have:=fcells_get r j i x u (by simpa using h) hu
  rw [show (j + 1) * 2 + i - ([Value.string y.f0,.string y.f1]:List Value).length=j * 2 + i by simp;omega]
  exact this
/-- A row of fields that a literal laid. -/
theorem C_fields (W:World) (g e:Nat) (xs:List (S36)) (fr:Nat × Nat) (hb:W.heap[g]? = some (.cells (fcells xs).toArray e fr)) (hm:xs.length ≤ 9223372036854775807):Kd.C k36 W (some ⟨g,0,none⟩) xs.length xs:=by
 refine ⟨rfl,hm,fun _=>⟨_,rfl,fun j x hj=>⟨[.string x.f0,.string x.f1],rfl,k36_mk W x,fun i u hu=>?_⟩⟩⟩
 rw [add_plain,cell_of_row _ _ _ _ _ _ hb]
 rw [List.getElem?_toArray]
 exact fcells_get xs j i x u hj hu
def al12_w (w:World):World:=(((w.alloc (.cells (fcells al12_fs).toArray 36)).alloc (.cells #[.string ⟨#[71,69,84]⟩,.string ⟨#[47]⟩,.int .i64 1,.slice (some ⟨w.heap.size,0,none⟩) 4 4,.slice none 0 0] 26)).alloc (.cells (fcells [⟨⟨#[90]⟩,⟨#[51]⟩⟩]).toArray 36)).alloc (.cells #[.slice none 0 0,.slice none 0 0,.slice (some ⟨w.heap.size + 1 + 1,0,none⟩) 1 1,.slice none 0 0,.int .i64 0,.int .i64 0,.int .i64 0,.int .i64 0] 46)
theorem al12_b0 (w:World):(al12_w w).heap[w.heap.size]? = some (.cells (fcells al12_fs).toArray 36):=blk_alloc (blk_alloc (blk_alloc (blk_new w _) _) _) _
theorem al12_b1 (w:World):(al12_w w).heap[w.heap.size + 1]? = some (.cells #[.string ⟨#[71,69,84]⟩,.string ⟨#[47]⟩,.int .i64 1,.slice (some ⟨w.heap.size,0,none⟩) 4 4,.slice none 0 0] 26):=by
 have h:=blk_new (w.alloc (.cells (fcells al12_fs).toArray 36)) (.cells #[.string ⟨#[71,69,84]⟩,.string ⟨#[47]⟩,.int .i64 1,.slice (some ⟨w.heap.size,0,none⟩) 4 4,.slice none 0 0] 26)
 have hz:(w.alloc (.cells (fcells al12_fs).toArray 36)).heap.size=w.heap.size + 1:=by simp
 rw [hz] at h
 exact blk_alloc (blk_alloc h _) _
theorem al12_b2 (w:World):(al12_w w).heap[w.heap.size + 1 + 1]? = some (.cells (fcells [⟨⟨#[90]⟩,⟨#[51]⟩⟩]).toArray 36):=by
 have h:=blk_new ((w.alloc (.cells (fcells al12_fs).toArray 36)).alloc (.cells #[.string ⟨#[71,69,84]⟩,.string ⟨#[47]⟩,.int .i64 1,.slice (some ⟨w.heap.size,0,none⟩) 4 4,.slice none 0 0] 26)) (.cells (fcells [⟨⟨#[90]⟩,⟨#[51]⟩⟩]).toArray 36)
 have hz:((w.alloc (.cells (fcells al12_fs).toArray 36)).alloc (.cells #[.string ⟨#[71,69,84]⟩,.string ⟨#[47]⟩,.int .i64 1,.slice (some ⟨w.heap.size,0,none⟩) 4 4,.slice none 0 0] 26)).heap.size=w.heap.size + 1 + 1:=by simp
 rw [hz] at h
 exact blk_alloc h _
theorem al12_below (w:World):Below w.heap.size w (al12_w w):=below_alloc (below_alloc (below_alloc (below_alloc (Below.refl _ _) _) _) _) _
set_option maxHeartbeats 8000000 in
set_option maxRecDepth 100000 in
theorem tollbarlaw12_alive.calls (r:Bool) (w:World) (h:tollbarlaw12_alive.f=some r) (ht:Tabs w) :
 Calls Tryz.prog 27 #[] w fun e w' => e = .returned (.bool r)∧Below w.heap.size w w' := by
 obtain rfl:=Option.some.inj h
 clear h
 have HTB:=Aside0.mk ht
 clear ht
 have hu1:=Tryz.underlying26
 have hu2:=Tryz.underlying46
 have hu3:=Tryz.underlying62
 have hu4:=Tryz.underlying36
 have kc:=fun (w:World) (C:Array Value) (n c:Nat)=>Lib.run_convert_bytes_const (P:=Tryz.prog) w 22 5 C n c Tryz.underlying22 Tryz.underlying5
 go_enter Tryz.func27,Tryz.ntmps27
 go_wp2_with fail
 go_at_call 30
 refine (scrub_Request.calls 60 ⟨#[71,69,84]⟩ ⟨#[47]⟩ 1 _ _ al12_fs _ _ [] _ _ [] _ _ [] _ _ [⟨⟨#[90]⟩,⟨#[51]⟩⟩] _ _ [] 0 0 0 0 ⟨#[104]⟩ ⟨#[47,110]⟩ _ _ _ _ _ (al12_w w) (C_fields _ _ _ _ _ (al12_b0 w) zb47) (Nat.le_refl _) (Kd.C_nil _ _) (Nat.le_refl _) (Kd.C_nil _ _) (Nat.le_refl _) (Kd.C_nil _ _) (Nat.le_refl _) (C_fields _ _ _ _ _ (al12_b2 w) zb47) (Nat.le_refl _) (Kd.C_nil _ _) (Nat.le_refl _) al12_1 (HTB.out.below (al12_below w))).mono ?_
 rintro e w1 ⟨v1,v2,rfl,hr1,hr2,hb⟩
 obtain ⟨A1,c1,rfl,hl1,hC1⟩:=Kd.R_reads hr1
 obtain ⟨A2,c2,rfl⟩:=Kd.R_slice hr2
 have B1:=Aside0.mk (below_step (al12_below w) hb)
 have R1:=Aside0.mk hC1
 have F0:=Aside0.mk (blk_below (al12_b0 w) hb)
 have F1:=Aside0.mk (blk_below (al12_b1 w) hb)
 clear hr1 hr2 hC1 hb
 go_wp2_with fail
 go_at_call 42
 refine (scrub_Own.calls 404 true _ _ _ _ _ _ al12_2 (HTB.out.below (below_alloc B1.out _))).mono ?_
 rintro e w2 ⟨v3,v4,rfl,hr3,hr4,hb⟩
 obtain ⟨A3,c3,rfl⟩:=Kd.R_slice hr3
 obtain ⟨A4,c4,rfl⟩:=Kd.R_slice hr4
 have B2:=Aside0.mk (below_step (below_alloc B1.out _) hb)
 have R2:=Aside0.mk (Kd.C_below (Kd.C_alloc R1.out _) hb)
 have G0:=Aside0.mk (blk_below (blk_alloc F0.out _) hb)
 have G1:=Aside0.mk (blk_below (blk_alloc F1.out _) hb)
 have G3:=Aside0.mk (blk_below (blk_new w1 _) hb)
 clear hr3 hr4 hb B1 R1 F0 F1
 have k1:(w2.alloc (.cells #[.int .i64 404,.string ⟨#[78,111,116,32,70,111,117,110,100]⟩,.int .i64 1,.slice A3 2 c3,.slice A4 0 c4] 62)).cell? ⟨w.heap.size + 1,3,none⟩=some (.slice (some ⟨w.heap.size,0,none⟩) 4 4):=(blk_cell (blk_alloc G1.out _) 3).trans rfl
 have hz:(w2.alloc (.cells #[.int .i64 404,.string ⟨#[78,111,116,32,70,111,117,110,100]⟩,.int .i64 1,.slice A3 2 c3,.slice A4 0 c4] 62)).heap.size=w2.heap.size + 1:=by simp
 have kc:=Lib.run_convert_bytes_const (P:=Tryz.prog) (w2.alloc (.cells #[.int .i64 404,.string ⟨#[78,111,116,32,70,111,117,110,100]⟩,.int .i64 1,.slice A3 2 c3,.slice A4 0 c4] 62)) 22 5 #[.int .u8 97,.int .u8 98] 2 2 Tryz.underlying22 Tryz.underlying5
 rw [hz] at kc
 have hcb:=C_const (w2.alloc (.cells #[.int .i64 404,.string ⟨#[78,111,116,32,70,111,117,110,100]⟩,.int .i64 1,.slice A3 2 c3,.slice A4 0 c4] 62)) 5 [97,98] (2,3) zb47
 rw [hz] at hcb
 have HCB:=Aside0.mk hcb
 clear hcb hz
 go_wp2_with fail
 go_at_call 40
 refine (scrub_Response.calls 60 200 ⟨#[79,75]⟩ 0 _ _ al12_fs _ _ [97,98] ⟨#[71,69,84]⟩ false _ _ _ _ _ _ (C_fields _ _ _ _ _ (blk_alloc (blk_alloc G0.out _) _) zb47) (Nat.le_refl _) HCB.out (Nat.le_refl _) al12_3 (HTB.out.below (below_alloc (below_alloc B2.out _) _))).mono ?_
 rintro e w3 ⟨v5,v6,rfl,hr5,hr6,hb⟩
 obtain ⟨A5,c5,rfl,hl5,hC5⟩:=Kd.R_reads hr5
 obtain ⟨A6,c6,rfl⟩:=Kd.R_slice hr6
 have B3:=Aside0.mk (below_step (below_alloc (below_alloc B2.out _) _) hb)
 have R3:=Aside0.mk (Kd.C_below (Kd.C_alloc (Kd.C_alloc R2.out _) _) hb)
 have H0:=Aside0.mk (blk_below (blk_alloc (blk_alloc G0.out _) _) hb)
 have H1:=Aside0.mk (blk_below (blk_alloc (blk_alloc G1.out _) _) hb)
 have H3:=Aside0.mk (blk_below (blk_alloc (blk_alloc G3.out _) _) hb)
 have H4:=Aside0.mk (blk_below (blk_alloc (blk_new w2 (.cells #[.int .i64 404,.string ⟨#[78,111,116,32,70,111,117,110,100]⟩,.int .i64 1,.slice A3 2 c3,.slice A4 0 c4] 62)) _) hb)
 have R5:=Aside0.mk hC5
 have R6:=Aside0.mk hr6
 clear B2 R2 G0 G1 G3 hr5 hC5 hb kc k1
 have s1:(w3.alloc (.cells #[.int .i64 200,.string ⟨#[79,75]⟩,.int .i64 1,.slice A5 2 c5,.slice A6 2 c6] 62)).cell? ⟨w1.heap.size,1,none⟩=some (.string ⟨#[47,110]⟩):=(blk_cell (blk_alloc H3.out _) 1).trans rfl
 have s2:(w3.alloc (.cells #[.int .i64 200,.string ⟨#[79,75]⟩,.int .i64 1,.slice A5 2 c5,.slice A6 2 c6] 62)).cell? ⟨w1.heap.size,2,none⟩=some (.int .i64 1):=(blk_cell (blk_alloc H3.out _) 2).trans rfl
 have s3:(w3.alloc (.cells #[.int .i64 200,.string ⟨#[79,75]⟩,.int .i64 1,.slice A5 2 c5,.slice A6 2 c6] 62)).cell? ⟨w1.heap.size,3,none⟩=some (.slice A1 3 c1):=(blk_cell (blk_alloc H3.out _) 3).trans rfl
 have hz:(w3.alloc (.cells #[.int .i64 200,.string ⟨#[79,75]⟩,.int .i64 1,.slice A5 2 c5,.slice A6 2 c6] 62)).heap.size=w3.heap.size + 1:=by simp
 have hlit:=C_fields ((w3.alloc (.cells #[.int .i64 200,.string ⟨#[79,75]⟩,.int .i64 1,.slice A5 2 c5,.slice A6 2 c6] 62)).alloc (.cells (fcells al12_out).toArray 36)) (w3.alloc (.cells #[.int .i64 200,.string ⟨#[79,75]⟩,.int .i64 1,.slice A5 2 c5,.slice A6 2 c6] 62)).heap.size 36 al12_out (0,0) (blk_new _ _) zb47
 rw [hz] at hlit
 have HLIT:=Aside0.mk hlit
 clear hlit hz
 go_wp2_with fail
 go_at_call 26
 refine (tollbarref04_Same.calls 60 _ _ al12_out _ _ al12_out true ((w3.alloc (.cells #[.int .i64 200,.string ⟨#[79,75]⟩,.int .i64 1,.slice A5 2 c5,.slice A6 2 c6] 62)).alloc (.cells (fcells al12_out).toArray 36)) (Kd.C_alloc (Kd.C_alloc R3.out _) _) hl1 HLIT.out (Nat.le_refl _) al12_4).mono ?_
 rintro e w4 ⟨rfl,hd⟩
 have hb:Below ((w3.alloc (.cells #[.int .i64 200,.string ⟨#[79,75]⟩,.int .i64 1,.slice A5 2 c5,.slice A6 2 c6] 62)).alloc (.cells (fcells al12_out).toArray 36)).heap.size ((w3.alloc (.cells #[.int .i64 200,.string ⟨#[79,75]⟩,.int .i64 1,.slice A5 2 c5,.slice A6 2 c6] 62)).alloc (.cells (fcells al12_out).toArray 36)) w4:=by
  obtain ⟨n,rfl⟩:=hd.out
  exact pw_below_drewN (Below.refl _ _) _
 have B4:=Aside0.mk (below_step (below_alloc (below_alloc B3.out _) _) hb)
 have J0:=Aside0.mk (blk_below (blk_alloc (blk_alloc H0.out _) _) hb)
 have J1:=Aside0.mk (blk_below (blk_alloc (blk_alloc H1.out _) _) hb)
 have J4:=Aside0.mk (blk_below (blk_alloc (blk_alloc H4.out _) _) hb)
 have J5:=Aside0.mk (blk_below (blk_alloc (blk_new w3 (.cells #[.int .i64 200,.string ⟨#[79,75]⟩,.int .i64 1,.slice A5 2 c5,.slice A6 2 c6] 62)) _) hb)
 have R7:=Aside0.mk (Kd.C_below (Kd.C_alloc (Kd.C_alloc R5.out _) _) hb)
 have R8:=Aside0.mk (Kd.R_below (Kd.R_alloc (Kd.R_alloc R6.out _) _) hb)
 clear hd hb B3 H0 H1 H4 R5 R6 R3 H3 HLIT s1 s2 s3
 have o0:w4.cell? ⟨w2.heap.size,0,none⟩=some (.int .i64 404):=(blk_cell J4.out 0).trans rfl
 have o3:w4.cell? ⟨w2.heap.size,3,none⟩=some (.slice A3 2 c3):=(blk_cell J4.out 3).trans rfl
 have p3:w4.cell? ⟨w3.heap.size,3,none⟩=some (.slice A5 2 c5):=(blk_cell J5.out 3).trans rfl
 have p4:w4.cell? ⟨w3.heap.size,4,none⟩=some (.slice A6 2 c6):=(blk_cell J5.out 4).trans rfl
 have r3:w4.cell? ⟨w.heap.size + 1,3,none⟩=some (.slice (some ⟨w.heap.size,0,none⟩) 4 4):=(blk_cell J1.out 3).trans rfl
 have hcv:(convert 22 9 (.slice A6 2 c6)).run Tryz.prog w4 = .ok (.string ⟨#[97,98]⟩) w4:=own_string (P:=Tryz.prog) Tryz.underlying22 Tryz.underlying5 Tryz.underlying9 (Kd.own_of_R R8.out)
 obtain ⟨ad5,e5,x50,x51⟩:=at_T36 R7.out 1 zb47 zb47
 have y51:w4.cell? ⟨(ad5.add 2).block,(ad5.add 2).off + 1,none⟩=some (.string ⟨#[50]⟩):=by
  have h:=x51
  rw [show (rd_T36 [⟨⟨#[89]⟩,⟨#[50]⟩⟩,al12_len 2] 1).f1=⟨#[50]⟩ from al12_7] at h
  exact h
 have z51:w4.cell? ⟨ad5.block,ad5.off + 2 + 1,none⟩=some (.string ⟨#[50]⟩):=by
  have h1:(ad5.add 2).block=ad5.block:=by simp [Addr.add]
  have h2:(ad5.add 2).off=ad5.off + 2:=by simp [Addr.add]
  rw [h1,h2] at y51
  exact y51
 subst e5
 clear x50 x51 y51
 go_wp2_with fail
 go_at_call 35
 refine (scrub_Hop.calls 60 _ _ al12_fs ⟨#[120]⟩ true w4 (C_fields _ _ _ _ _ J0.out zb47) (Nat.le_refl _) al12_5).mono ?_
 rintro e w5 ⟨rfl,hb⟩
 have r35:=pw_cell_below hb r3
 have K0:=Aside0.mk (blk_below J0.out hb)
 have B5:=Aside0.mk (below_step B4.out hb)
 clear hb
 go_wp2_with fail
 go_at_call 35
 refine (scrub_Hop.calls 60 _ _ al12_fs ⟨#[121]⟩ false w5 (C_fields _ _ _ _ _ K0.out zb47) (Nat.le_refl _) al12_6).mono ?_
 rintro e w6 ⟨rfl,hb⟩
 have B6:=Aside0.mk (below_step B5.out hb)
 clear hb
 go_wp2
 go_ret
 exact ⟨zb46,B6.out⟩
mutual
def tollbarlaw12_ScrubReads.j0:Nat → List Int → Bool → List (S83) → List (S85) → List (S36) → List ByteArray → Int → Int → Int → Int → Option (Bool)
 | 0,_,_,_,_,_,_,_,_,_,_=>none
 | k + 1,x0,x24,x993000,x993001,x993002,x993003,x993004,x993005,x993006,x993007=>if x24=true then (some true) else ((http_Request.f k x0).bind fun bt995=>(if bt995.2.2.2.2.2.1=0 then (some true) else ((http_Host.f k bt995.1 bt995.2.1 bt995.2.2.1 bt995.2.2.2.1 bt995.2.2.2.2.1).bind fun t1007=>(if t1007.toList=([]:List UInt8) then (tollbarlaw12_ScrubReads.j1 k (⟨#[110,111,110,101]⟩:ByteArray) x993000 x993001 x993002 x993003 x993004 x993005 x993006 x993007 bt995.1 bt995.2.1 bt995.2.2.1 bt995.2.2.2.1 bt995.2.2.2.2.1) else (tollbarlaw12_ScrubReads.j1 k t1007 x993000 x993001 x993002 x993003 x993004 x993005 x993006 x993007 bt995.1 bt995.2.1 bt995.2.2.1 bt995.2.2.2.1 bt995.2.2.2.2.1)))))
def tollbarlaw12_ScrubReads.j1:Nat → ByteArray → List (S83) → List (S85) → List (S36) → List ByteArray → Int → Int → Int → Int → ByteArray → ByteArray → Int → List (S36) → List Int → Option (Bool)
 | 0,_,_,_,_,_,_,_,_,_,_,_,_,_,_=>none
 | k + 1,x2,x993000,x993001,x993002,x993003,x993004,x993005,x993006,x993007,x1007000,x1007001,x1007002,x1007003,x1007004=>(scrub_Request.f k x1007000 x1007001 x1007002 x1007003 x1007004 x993000 x993001 x993002 x993003 x993004 x993005 x993006 x993007 x2 x1007001).bind fun bt1008=>((http_WriteRequest.f k bt1008.1 bt1008.2.1 bt1008.2.2.1 bt1008.2.2.2.1 bt1008.2.2.2.2).bind fun t1018=>(if (wrap64 ((t1018.length:Int) - (bt1008.2.2.2.2.length:Int))) > 2048 then (tollbarlaw12_ScrubReads.j2 k t1018 true x1007000 x1007001 x1007002 x1007003 x1007004 bt1008.1 bt1008.2.1 bt1008.2.2.1 bt1008.2.2.2.1 bt1008.2.2.2.2) else (tollbarlaw12_ScrubReads.j2 k t1018 (decide ((bt1008.2.2.2.1.length:Int) > 40)) x1007000 x1007001 x1007002 x1007003 x1007004 bt1008.1 bt1008.2.1 bt1008.2.2.1 bt1008.2.2.2.1 bt1008.2.2.2.2)))
def tollbarlaw12_ScrubReads.j2:Nat → List Int → Bool → ByteArray → ByteArray → Int → List (S36) → List Int → ByteArray → ByteArray → Int → List (S36) → List Int → Option (Bool)
 | 0,_,_,_,_,_,_,_,_,_,_,_,_=>none
 | k + 1,x11,x57,x1007000,x1007001,x1007002,x1007003,x1007004,x1018000,x1018001,x1018002,x1018003,x1018004=>if x57=true then (some true) else ((http_Request.f k x11).bind fun bt1021=>(if bt1021.2.2.2.2.2.2=0 then (if bt1021.2.2.2.2.2.1=(x11.length:Int) then ((tollbarref08_SameReq.f k bt1021.1 bt1021.2.1 bt1021.2.2.1 bt1021.2.2.2.1 bt1021.2.2.2.2.1 x1018000 x1018001 x1018002 x1018003 x1018004).bind fun t1033=>(if t1033=true then ((tollbarref01_SameBytes.f k x1018004 x1007004).bind fun t1034=>(some t1034)) else (some false))) else (some false)) else (some false)))
end
def tollbarlaw12_ScrubReads.f (k:Nat) (l0:List Int) (l1_0:List (S83)) (l1_1:List (S85)) (l1_2:List (S36)) (l1_3:List ByteArray) (a1_4:Int) (a1_5:Int) (a1_6:Int) (a1_7:Int) (a2:ByteArray):Option (Bool):=(tollbarlaw12_alive.f).bind fun t993=>(if t993=true then (if (l0.length:Int) > 4000 then (tollbarlaw12_ScrubReads.j0 k l0 true l1_0 l1_1 l1_2 l1_3 a1_4 a1_5 a1_6 a1_7) else ((conf_Check.f k l1_0 l1_1 l1_2 l1_3 a1_4 a1_5 a1_6 a1_7).bind fun t994=>(tollbarlaw12_ScrubReads.j0 k l0 (t994 != 0) l1_0 l1_1 l1_2 l1_3 a1_4 a1_5 a1_6 a1_7))) else (some false))
set_option maxHeartbeats 8000000 in
set_option maxRecDepth 100000 in
theorem tollbarlaw12_ScrubReads.calls (k:Nat) (A0:Option Addr) (c0:Nat) (l0:List Int) (A1_0:Option Addr) (c1_0:Nat) (l1_0:List (S83)) (A1_1:Option Addr) (c1_1:Nat) (l1_1:List (S85)) (A1_2:Option Addr) (c1_2:Nat) (l1_2:List (S36)) (A1_3:Option Addr) (c1_3:Nat) (l1_3:List ByteArray) (a1_4:Int) (a1_5:Int) (a1_6:Int) (a1_7:Int) (a2:ByteArray) (r:Bool) (w:World) (hr0:Kd.C (Kd.int .u8) w A0 l0.length l0) (hc0:l0.length ≤ c0) (hr1_0:Kd.C k83 w A1_0 l1_0.length l1_0) (hc1_0:l1_0.length ≤ c1_0) (hr1_1:Kd.C k85 w A1_1 l1_1.length l1_1) (hc1_1:l1_1.length ≤ c1_1) (hr1_2:Kd.C k36 w A1_2 l1_2.length l1_2) (hc1_2:l1_2.length ≤ c1_2) (hr1_3:Kd.C Kd.string w A1_3 l1_3.length l1_3) (hc1_3:l1_3.length ≤ c1_3) (h:tollbarlaw12_ScrubReads.f k l0 l1_0 l1_1 l1_2 l1_3 a1_4 a1_5 a1_6 a1_7 a2=some r) (hr:r=true) (ht:Tabs w) :
 Calls Tryz.prog 10 #[.slice A0 l0.length c0,.agg #[.slice A1_0 l1_0.length c1_0,.slice A1_1 l1_1.length c1_1,.slice A1_2 l1_2.length c1_2,.slice A1_3 l1_3.length c1_3,.int .i64 a1_4,.int .i64 a1_5,.int .i64 a1_6,.int .i64 a1_7],.string a2] w fun e w' => e = .returned (.bool r)∧Below w.heap.size w w' := by
 have HTB:=Aside0.mk ht
 clear ht
 have HRT:=Aside0.mk hr
 clear hr
 have hu46:=Tryz.underlying46
 have hu26:=Tryz.underlying26
 have HR0:=Aside0.mk hr0
 have HC0:=Aside0.mk hc0
 clear hr0 hc0
 have HR1_0:=Aside0.mk hr1_0
 have HC1_0:=Aside0.mk hc1_0
 clear hr1_0 hc1_0
 have HR1_1:=Aside0.mk hr1_1
 have HC1_1:=Aside0.mk hc1_1
 clear hr1_1 hc1_1
 have HR1_2:=Aside0.mk hr1_2
 have HC1_2:=Aside0.mk hc1_2
 clear hr1_2 hc1_2
 have HR1_3:=Aside0.mk hr1_3
 have HC1_3:=Aside0.mk hc1_3
 clear hr1_3 hc1_3
 have HB:=Aside0.mk (Below.refl w.heap.size w)
 unfold tollbarlaw12_ScrubReads.f at h
 have H:=h
 clear h
 replace H:=Option.bind_eq_some_iff.mp H
 obtain ⟨t993,A40,H⟩:=H
 try dsimp only at H
 have A4:=Aside0.mk A40
 clear A40
 by_cases c5:t993=true;rotate_left
 ·replace c5:=Bool.eq_false_iff.mpr c5
  subst c5
  rw [if_neg (show ¬ (false=true) by decide)] at H
  exact absurd ((Option.some.inj H).trans HRT.out) zb47
 subst c5
 rw [if_pos rfl] at H
 have HC6:=Aside0.mk H
 clear H
 go_enter Tryz.func10,Tryz.ntmps10
 go_upto_region 3 with (first|((with_reducible refine gate_dst (N:=4) rfl ?_);(try (refine gate_guard zb45 ?_;dsimp only));refine box_event rfl (N:=4) rfl (cs:=#[.slice A1_0 l1_0.length c1_0,.slice A1_1 l1_1.length c1_1,.slice A1_2 l1_2.length c1_2,.slice A1_3 l1_3.length c1_3,.int .i64 a1_4,.int .i64 a1_5,.int .i64 a1_6,.int .i64 a1_7]) (t:=46) zS ?_;intro gb80 hg w7 hbox hb;have GW80:=zG hg zb0;have GE80:=GW80;have BK80:=Aside0.mk hbox;replace HB:=Aside0.mk (below_step zb0 hb);clear hb hbox hg)|((with_reducible refine gate_callee (f:=27) rfl ?_);refine goesL_ (some 15) rfl rfl Tryz.func27 zb7 rfl #[] rfl zb1 ?_;(with_reducible refine (tollbarlaw12_alive.calls  true _ A4.out ?hT).mono ?_);(case hT=>exact HTB.out.below zb79);rintro e w8 ⟨rfl,hb⟩;refine ⟨_,rfl,?_⟩;replace BK80:=Aside0.mk (blk_below (g:=gb80) (o:=.cells #[.slice A1_0 l1_0.length c1_0,.slice A1_1 l1_1.length c1_1,.slice A1_2 l1_2.length c1_2,.slice A1_3 l1_3.length c1_3,.int .i64 a1_4,.int .i64 a1_5,.int .i64 a1_6,.int .i64 a1_7] 46 (0,0)) zb16 hb);replace HB:=Aside0.mk (below_step zb20 hb);(try clear hb)))
 (try simp only [Act.put,zqA,zqB,zqC])
 go_cut [24] (fun v24 wc => ∃ (kq:Nat) (x24_5:Bool),v24 = .bool x24_5∧Aside0 (tollbarlaw12_ScrubReads.j0 kq l0 x24_5 l1_0 l1_1 l1_2 l1_3 a1_4 a1_5 a1_6 a1_7=some r)∧Aside0 (kq ≤ k)∧Aside0 (wc.heap[gb80]? = some (.cells #[(.slice A1_0 l1_0.length c1_0),(.slice A1_1 l1_1.length c1_1),(.slice A1_2 l1_2.length c1_2),(.slice A1_3 l1_3.length c1_3),.int .i64 a1_4,.int .i64 a1_5,.int .i64 a1_6,.int .i64 a1_7] 46 (0,0)))∧Aside0 (Below w.heap.size w wc))
 case first =>
  have H:=HC6.out
  clear HC6
  by_cases c9:(l0.length:Int) > 4000
  ·rw [if_pos c9] at H
   have c9b0:decide (4000 < (l0.length:Int))=true:=decide_eq_true c9
   have c9b1:decide (4000 < l0.length)=true:=decide_eq_true zb17
   clear c9
   (first|rw [c9b0]|(simp only [i64_w,i32_w];rw [c9b0])|rw [c9b1]|skip)
   have H' := Aside0.mk H
   clear H
   go_wp2
   go_meet
   case rel=>exact ⟨_,(true),zb5,H',⟨zb77⟩,⟨zb16⟩,⟨zb20⟩⟩
  rw [if_neg c9] at H
  have c9b0:decide (4000 < (l0.length:Int))=false:=decide_eq_false c9
  have c9b1:decide (4000 < l0.length)=false:=decide_eq_false zb17
  clear c9
  (first|rw [c9b0]|(simp only [i64_w,i32_w];rw [c9b0])|rw [c9b1]|skip)
  replace H:=Option.bind_eq_some_iff.mp H
  obtain ⟨t994,A100,H⟩:=H
  try dsimp only at H
  have A10:=Aside0.mk A100
  clear A100
  have H' := Aside0.mk H
  clear H
  have hcz11_0:w8.cell? ⟨gb80,0,none⟩=some (.slice A1_0 l1_0.length c1_0):=(blk_cell BK80.out 0).trans rfl
  have hcz11_1:w8.cell? ⟨gb80,1,none⟩=some (.slice A1_1 l1_1.length c1_1):=(blk_cell BK80.out 1).trans rfl
  have hcz11_2:w8.cell? ⟨gb80,2,none⟩=some (.slice A1_2 l1_2.length c1_2):=(blk_cell BK80.out 2).trans rfl
  have hcz11_3:w8.cell? ⟨gb80,3,none⟩=some (.slice A1_3 l1_3.length c1_3):=(blk_cell BK80.out 3).trans rfl
  have hcz11_4:w8.cell? ⟨gb80,4,none⟩=some (.int .i64 a1_4):=(blk_cell BK80.out 4).trans rfl
  have hcz11_5:w8.cell? ⟨gb80,5,none⟩=some (.int .i64 a1_5):=(blk_cell BK80.out 5).trans rfl
  have hcz11_6:w8.cell? ⟨gb80,6,none⟩=some (.int .i64 a1_6):=(blk_cell BK80.out 6).trans rfl
  have hcz11_7:w8.cell? ⟨gb80,7,none⟩=some (.int .i64 a1_7):=(blk_cell BK80.out 7).trans rfl
  have hfz11_0:=blk_frozen BK80.out 0
  have hfz11_1:=blk_frozen BK80.out 1
  have hfz11_2:=blk_frozen BK80.out 2
  have hfz11_3:=blk_frozen BK80.out 3
  have hfz11_4:=blk_frozen BK80.out 4
  have hfz11_5:=blk_frozen BK80.out 5
  have hfz11_6:=blk_frozen BK80.out 6
  have hfz11_7:=blk_frozen BK80.out 7
  go_wp2_with (first|(go_at_call 29;(with_reducible refine (conf_Check.calls k _ _ l1_0 _ _ l1_1 _ _ l1_2 _ _ l1_3 a1_4 a1_5 a1_6 a1_7 t994 _ ?side1 ?side2 ?side3 ?side4 ?side5 ?side6 ?side7 ?side8 A10.out).mono ?_);(case side1=>exact zb129);(case side2=>exact HC1_0.out);(case side3=>exact zb130);(case side4=>exact HC1_1.out);(case side5=>exact zb103);(case side6=>exact HC1_2.out);(case side7=>exact zb25);(case side8=>exact HC1_3.out);rintro e w12 ⟨rfl,hb⟩;(try clear A10);replace BK80:=Aside0.mk (blk_below (g:=gb80) (o:=.cells #[.slice A1_0 l1_0.length c1_0,.slice A1_1 l1_1.length c1_1,.slice A1_2 l1_2.length c1_2,.slice A1_3 l1_3.length c1_3,.int .i64 a1_4,.int .i64 a1_5,.int .i64 a1_6,.int .i64 a1_7] 46 (0,0)) zb16 hb);replace HB:=Aside0.mk (below_step zb20 hb);(try clear hb)))
  go_meet
  case rel=>exact ⟨_,((t994 != 0)),zb5,H',⟨zb77⟩,⟨zb16⟩,⟨zb20⟩⟩
 case rest =>
  clear HC6
  try clear c1
  try clear c2
  try clear p2
  try clear c5
  try clear c9
  try clear c9b0
  try clear c9b1
  try clear c10
  try clear hcz11_0
  try clear hcz11_1
  try clear hcz11_2
  try clear hcz11_3
  try clear hcz11_4
  try clear hcz11_5
  try clear hcz11_6
  try clear hcz11_7
  try clear hfz11_0
  try clear hfz11_1
  try clear hfz11_2
  try clear hfz11_3
  try clear hfz11_4
  try clear hfz11_5
  try clear hfz11_6
  try clear hfz11_7
  obtain ⟨kq,x24_5,rfl,HA,HJ5,BK80,HB⟩:=hcut
  cases kq with
  | zero=>exact absurd HA.out (by simp [tollbarlaw12_ScrubReads.j0])
  | succ kj5 =>
   have H:=HA.out
   clear HA
   simp only [tollbarlaw12_ScrubReads.j0] at H
   by_cases c13:x24_5=true
   ·subst c13
    rw [if_pos rfl] at H
    obtain rfl:=Option.some.inj H
    go_wp2
    go_ret
    exact ⟨zb2,zb20⟩
   replace c13:=Bool.eq_false_iff.mpr c13
   subst c13
   rw [if_neg (show ¬ (false=true) by decide)] at H
   replace H:=Option.bind_eq_some_iff.mp H
   obtain ⟨⟨t88,t94,t95,t91,t82,t113,t1005⟩,A140,H⟩:=H
   try dsimp only at H
   have A14:=Aside0.mk A140
   clear A140
   by_cases c15:t113=0
   ·rw [if_pos c15] at H
    have c15b0:=beq_iff_eq.mpr c15
    have c15b1:=bne_eq_false_iff_eq.mpr c15
    clear c15
    obtain rfl:=Option.some.inj H
    go_wp2_with (first|((with_reducible refine gate_callee (f:=12) rfl ?_);refine goesL_ (some 27) rfl rfl Tryz.func12 zb7 rfl #[.slice A0 l0.length c0] rfl zb1 ?_;(with_reducible refine (http_Request.calls kj5 _ _ l0 t88 t94 t95 t91 t82 t113 t1005 _ ?side1 ?side2 A14.out).mono ?_);(case side1=>exact zb62);(case side2=>exact HC0.out);rintro e w16 ⟨v999,v1002,rfl,ho0,ho1,hb⟩;(try clear A14);refine ⟨_,rfl,?_⟩;have HO106:=Aside0.mk (Kd.R_lower ho0 (below_size zb20));have HO107:=Aside0.mk (Kd.R_lower ho1 (below_size zb20));replace BK80:=Aside0.mk (blk_below (g:=gb80) (o:=.cells #[.slice A1_0 l1_0.length c1_0,.slice A1_1 l1_1.length c1_1,.slice A1_2 l1_2.length c1_2,.slice A1_3 l1_3.length c1_3,.int .i64 a1_4,.int .i64 a1_5,.int .i64 a1_6,.int .i64 a1_7] 46 (0,0)) zb16 hb);replace HB:=Aside0.mk (below_step zb20 hb);try clear hb ho0 ho1)|((with_reducible refine gate_dst (N:=7) rfl ?_);(try (refine gate_guard zb45 ?_;dsimp only));refine box_event rfl (N:=7) rfl (cs:=#[.string (⟨#[]⟩:ByteArray),.string (⟨#[]⟩:ByteArray),.int .i64 0,.slice none 0 0,.slice none 0 0]) (t:=26) zS ?_;intro gb78 hg w17 hbox hb;replace HO106:=Aside0.mk (Kd.R_below zb112 hb);replace HO107:=Aside0.mk (Kd.R_below zb113 hb);have BK78:=Aside0.mk (hbox);have GW78:=zG hg zb20;have GE78:=GW78;replace HB:=Aside0.mk (below_step zb20 hb);have NB80_1006:=Aside0.mk ((by rw [hg];exact Nat.ne_of_lt (blk_lt (g:=gb80) (o:=.cells #[.slice A1_0 l1_0.length c1_0,.slice A1_1 l1_1.length c1_1,.slice A1_2 l1_2.length c1_2,.slice A1_3 l1_3.length c1_3,.int .i64 a1_4,.int .i64 a1_5,.int .i64 a1_6,.int .i64 a1_7] 46 (0,0)) zb16):gb80 ≠ gb78));have NB78_992:=Aside0.mk ((by rw [hg];exact Nat.ne_of_gt (blk_lt (g:=gb80) (o:=.cells #[.slice A1_0 l1_0.length c1_0,.slice A1_1 l1_1.length c1_1,.slice A1_2 l1_2.length c1_2,.slice A1_3 l1_3.length c1_3,.int .i64 a1_4,.int .i64 a1_5,.int .i64 a1_6,.int .i64 a1_7] 46 (0,0)) zb16):gb78 ≠ gb80));replace BK80:=Aside0.mk (blk_below (g:=gb80) (o:=.cells #[.slice A1_0 l1_0.length c1_0,.slice A1_1 l1_1.length c1_1,.slice A1_2 l1_2.length c1_2,.slice A1_3 l1_3.length c1_3,.int .i64 a1_4,.int .i64 a1_5,.int .i64 a1_6,.int .i64 a1_7] 46 (0,0)) zb16 hb);clear hb hbox hg;have hnb18:=NB78_992.out;have hnc18:=NB80_1006.out;obtain ⟨hcz19_0,hcz19_1,hcz19_2,hcz19_3,hcz19_4,hfz19_0,hfz19_1,hfz19_2,hfz19_3,hfz19_4⟩:=zq5 BK78.out;obtain ⟨Ao20,co20,eo20⟩:=Kd.R_slice HO106.out;subst eo20;obtain ⟨Ao21,co21,eo21⟩:=Kd.R_slice HO107.out;subst eo21))
    go_ret
    exact ⟨zb2,zb29⟩
   rw [if_neg c15] at H
   have c15b0:=beq_eq_false_iff_ne.mpr c15
   have c15b1:=bne_iff_ne.mpr c15
   replace H:=Option.bind_eq_some_iff.mp H
   obtain ⟨t103,A220,H⟩:=H
   try dsimp only at H
   have A22:=Aside0.mk A220
   clear A220
   have HC23:=Aside0.mk H
   clear H
   go_upto_if 36 with (first|((with_reducible refine gate_callee (f:=12) rfl ?_);refine goesL_ (some 27) rfl rfl Tryz.func12 zb7 rfl #[.slice A0 l0.length c0] rfl zb1 ?_;(with_reducible refine (http_Request.calls kj5 _ _ l0 t88 t94 t95 t91 t82 t113 t1005 _ ?side1 ?side2 A14.out).mono ?_);(case side1=>exact zb62);(case side2=>exact HC0.out);rintro e w24 ⟨v999,v1002,rfl,ho0,ho1,hb⟩;refine ⟨_,rfl,?_⟩;have n0_:=Aside0.mk (Kd.R_lower ho0 (below_size zb20));have n1_:=Aside0.mk (Kd.R_lower ho1 (below_size zb20));have n2_:=Aside0.mk (blk_below (g:=gb80) (o:=.cells #[.slice A1_0 l1_0.length c1_0,.slice A1_1 l1_1.length c1_1,.slice A1_2 l1_2.length c1_2,.slice A1_3 l1_3.length c1_3,.int .i64 a1_4,.int .i64 a1_5,.int .i64 a1_6,.int .i64 a1_7] 46 (0,0)) zb16 hb);have n3_:=Aside0.mk (below_step zb20 hb);clear BK80;clear HB;have HO106:=n0_;have HO107:=n1_;have BK80:=n2_;have HB:=n3_;clear n0_ n1_ n2_ n3_;(try clear hb);(try clear hb2);(try clear hk);(try clear hi);(try clear ho0);(try clear ho1))|((with_reducible refine gate_dst (N:=7) rfl ?_);(try (refine gate_guard zb45 ?_;dsimp only));refine box_event ?hg (N:=7) ?hd (cs:=#[.string (⟨#[]⟩:ByteArray),.string (⟨#[]⟩:ByteArray),.int .i64 0,.slice none 0 0,.slice none 0 0]) (t:=26) ?hr ?_;(case hd=>rfl);(case hg=>rfl);(case hr=>first|(go_simp;done)|(go_simp;rfl));intro gb78 hg w25 hbox hb;have n0_:=Aside0.mk (Kd.R_below zb112 hb);have n1_:=Aside0.mk (Kd.R_below zb113 hb);have n2_:=Aside0.mk (blk_below (g:=gb80) (o:=.cells #[.slice A1_0 l1_0.length c1_0,.slice A1_1 l1_1.length c1_1,.slice A1_2 l1_2.length c1_2,.slice A1_3 l1_3.length c1_3,.int .i64 a1_4,.int .i64 a1_5,.int .i64 a1_6,.int .i64 a1_7] 46 (0,0)) zb16 hb);have n3_:=Aside0.mk (below_step zb20 hb);have n4_:=Aside0.mk (hbox);have n5_:=zG hg zb20;have n6_:=zG hg zb20;have n7_:=Aside0.mk ((by rw [hg];exact Nat.ne_of_lt (blk_lt (g:=gb80) (o:=.cells #[.slice A1_0 l1_0.length c1_0,.slice A1_1 l1_1.length c1_1,.slice A1_2 l1_2.length c1_2,.slice A1_3 l1_3.length c1_3,.int .i64 a1_4,.int .i64 a1_5,.int .i64 a1_6,.int .i64 a1_7] 46 (0,0)) zb16):gb80 ≠ gb78));have n8_:=Aside0.mk ((by rw [hg];exact Nat.ne_of_gt (blk_lt (g:=gb80) (o:=.cells #[.slice A1_0 l1_0.length c1_0,.slice A1_1 l1_1.length c1_1,.slice A1_2 l1_2.length c1_2,.slice A1_3 l1_3.length c1_3,.int .i64 a1_4,.int .i64 a1_5,.int .i64 a1_6,.int .i64 a1_7] 46 (0,0)) zb16):gb78 ≠ gb80));clear HO106;clear HO107;clear BK80;clear HB;have HO106:=n0_;have HO107:=n1_;have BK80:=n2_;have HB:=n3_;have BK78:=n4_;have GW78:=n5_;have GE78:=n6_;have NB80_1006:=n7_;have NB78_992:=n8_;clear n0_ n1_ n2_ n3_ n4_ n5_ n6_ n7_ n8_;clear hb hbox hg;have hnb26:=NB78_992.out;have hnc26:=NB80_1006.out;have hcz27_0:w25.cell? ⟨gb78,0,none⟩=some (.string (⟨#[]⟩:ByteArray)):=(blk_cell BK78.out 0).trans rfl;have hcz27_1:w25.cell? ⟨gb78,1,none⟩=some (.string (⟨#[]⟩:ByteArray)):=(blk_cell BK78.out 1).trans rfl;have hcz27_2:w25.cell? ⟨gb78,2,none⟩=some (.int .i64 0):=(blk_cell BK78.out 2).trans rfl;have hcz27_3:w25.cell? ⟨gb78,3,none⟩=some (.slice none 0 0):=(blk_cell BK78.out 3).trans rfl;have hcz27_4:w25.cell? ⟨gb78,4,none⟩=some (.slice none 0 0):=(blk_cell BK78.out 4).trans rfl;have hfz27_0:=blk_frozen BK78.out 0;have hfz27_1:=blk_frozen BK78.out 1;have hfz27_2:=blk_frozen BK78.out 2;have hfz27_3:=blk_frozen BK78.out 3;have hfz27_4:=blk_frozen BK78.out 4;obtain ⟨Ao28,co28,eo28⟩:=Kd.R_slice HO106.out;subst eo28;obtain ⟨Ao29,co29,eo29⟩:=Kd.R_slice HO107.out;subst eo29)|((with_reducible refine gate_callee (f:=19) rfl ?_);refine goesL_ (some 34) rfl rfl Tryz.func19 zb7 rfl #[.agg #[.string t88,.string t94,.int .i64 t95,.slice Ao28 t91.length co28,.slice Ao29 t82.length co29]] rfl zb1 ?_;(with_reducible refine (http_Host.calls kj5 t88 t94 t95 _ _ t91 _ _ t82 t103 _ ?side1 ?side2 ?side3 ?side4 A22.out).mono ?_);(case side1=>refine (Kd.R_reads' (e:=36) (base:=w.heap.size) (ok:=fun k_=>True) (n:=t91.length) (c:=co28) ?_).2.2;exact zb53);(case side2=>exact (Kd.R_reads' HO106.out).2.1);(case side3=>refine (Kd.R_reads' (e:=5) (base:=w.heap.size) (ok:=fun k_=>True) (n:=t82.length) (c:=co29) ?_).2.2;exact zb54);(case side4=>exact (Kd.R_reads' HO107.out).2.1);rintro e w30 ⟨rfl,hb⟩;refine ⟨_,rfl,?_⟩;have n0_:=Aside0.mk (Kd.R_below zb53 hb);have n1_:=Aside0.mk (Kd.R_below zb54 hb);have n2_:=Aside0.mk (blk_below (g:=gb80) (o:=.cells #[.slice A1_0 l1_0.length c1_0,.slice A1_1 l1_1.length c1_1,.slice A1_2 l1_2.length c1_2,.slice A1_3 l1_3.length c1_3,.int .i64 a1_4,.int .i64 a1_5,.int .i64 a1_6,.int .i64 a1_7] 46 (0,0)) (by (with_reducible repeat (first|refine blk_drewN ?_ _|refine blk_drew ?_|refine blk_alloc ?_ _));refine blk_far ?_ NB80_1006.out _;(with_reducible repeat (first|refine blk_drewN ?_ _|refine blk_drew ?_|refine blk_alloc ?_ _));refine blk_far ?_ NB80_1006.out _;(with_reducible repeat (first|refine blk_drewN ?_ _|refine blk_drew ?_|refine blk_alloc ?_ _));refine blk_far ?_ NB80_1006.out _;(with_reducible repeat (first|refine blk_drewN ?_ _|refine blk_drew ?_|refine blk_alloc ?_ _));refine blk_far ?_ NB80_1006.out _;(with_reducible repeat (first|refine blk_drewN ?_ _|refine blk_drew ?_|refine blk_alloc ?_ _));refine blk_far ?_ NB80_1006.out _;(with_reducible repeat (first|refine blk_drewN ?_ _|refine blk_drew ?_|refine blk_alloc ?_ _));exact BK80.out) hb);have n3_:=Aside0.mk (blk_below (g:=gb78) (o:=.cells #[.string t88,.string t94,.int .i64 t95,.slice Ao28 t91.length co28,.slice Ao29 t82.length co29] 26 (0,0)) (by (with_reducible repeat (first|refine blk_drewN ?_ _|refine blk_drew ?_|refine blk_alloc ?_ _));refine blk_put (cs:=#[.string t88,.string t94,.int .i64 t95,.slice Ao28 t91.length co28,.slice none 0 0]) ?_ 4 _ rfl;(with_reducible repeat (first|refine blk_drewN ?_ _|refine blk_drew ?_|refine blk_alloc ?_ _));refine blk_put (cs:=#[.string t88,.string t94,.int .i64 t95,.slice none 0 0,.slice none 0 0]) ?_ 3 _ rfl;(with_reducible repeat (first|refine blk_drewN ?_ _|refine blk_drew ?_|refine blk_alloc ?_ _));refine blk_put (cs:=#[.string t88,.string t94,.int .i64 0,.slice none 0 0,.slice none 0 0]) ?_ 2 _ rfl;(with_reducible repeat (first|refine blk_drewN ?_ _|refine blk_drew ?_|refine blk_alloc ?_ _));refine blk_put (cs:=#[.string t88,.string (⟨#[]⟩:ByteArray),.int .i64 0,.slice none 0 0,.slice none 0 0]) ?_ 1 _ rfl;(with_reducible repeat (first|refine blk_drewN ?_ _|refine blk_drew ?_|refine blk_alloc ?_ _));refine blk_put (cs:=#[.string (⟨#[]⟩:ByteArray),.string (⟨#[]⟩:ByteArray),.int .i64 0,.slice none 0 0,.slice none 0 0]) ?_ 0 _ rfl;(with_reducible repeat (first|refine blk_drewN ?_ _|refine blk_drew ?_|refine blk_alloc ?_ _));exact BK78.out) hb);have n4_:=Aside0.mk (below_step zb29 hb);clear HO106;clear HO107;clear BK80;clear BK78;clear HB;have HO106:=n0_;have HO107:=n1_;have BK80:=n2_;have BK78:=n3_;have HB:=n4_;clear n0_ n1_ n2_ n3_ n4_;(try clear hb);(try clear hb2);(try clear hk);(try clear hi)))
   (try simp only [Act.put,zqA,zqB,zqC])
   go_cut [2] (fun v2 wc => ∃ (kq:Nat) (x2_22:ByteArray),v2 = .string x2_22∧Aside0 (tollbarlaw12_ScrubReads.j1 kq x2_22 l1_0 l1_1 l1_2 l1_3 a1_4 a1_5 a1_6 a1_7 t88 t94 t95 t91 t82=some r)∧Aside0 (kq ≤ kj5)∧Aside0 (Kd.R k36 36 wc w.heap.size (fun _=>True) (.slice Ao28 t91.length co28) t91)∧Aside0 (Kd.R (Kd.int .u8) 5 wc w.heap.size (fun _=>True) (.slice Ao29 t82.length co29) t82)∧Aside0 (wc.heap[gb80]? = some (.cells #[(.slice A1_0 l1_0.length c1_0),(.slice A1_1 l1_1.length c1_1),(.slice A1_2 l1_2.length c1_2),(.slice A1_3 l1_3.length c1_3),.int .i64 a1_4,.int .i64 a1_5,.int .i64 a1_6,.int .i64 a1_7] 46 (0,0)))∧Aside0 (wc.heap[gb78]? = some (.cells #[.string t88,.string t94,.int .i64 t95,(.slice Ao28 t91.length co28),(.slice Ao29 t82.length co29)] 26 (0,0)))∧Aside0 (Below w.heap.size w wc))
   case first =>
    have H:=HC23.out
    clear HC23
    by_cases c31:t103.toList=([]:List UInt8);rotate_left
    ·rw [if_neg c31] at H
     have c31b0:=beq_eq_false_iff_ne.mpr c31
     have c31b1:=bne_iff_ne.mpr c31
     have c31b2:t103.toList.isEmpty=false:=(List.isEmpty_eq_false_iff).2 c31
     (first|rw [c31b0]|(simp only [i64_w,i32_w];rw [c31b0])|rw [c31b1]|rw [c31b2]|skip)
     have H' := Aside0.mk H
     clear H
     go_wp2
     go_meet
     case rel=>exact ⟨_,(t103),zb5,H',⟨zb156⟩,⟨zb112⟩,⟨zb113⟩,⟨zb16⟩,⟨zb40⟩,⟨zb29⟩⟩
    rw [if_pos c31] at H
    have c31b0:=beq_iff_eq.mpr c31
    have c31b1:=bne_eq_false_iff_eq.mpr c31
    have c31b2:t103.toList.isEmpty=true:=List.isEmpty_iff.2 c31
    clear c31
    (first|rw [c31b0]|(simp only [i64_w,i32_w];rw [c31b0])|rw [c31b1]|rw [c31b2]|skip)
    have H' := Aside0.mk H
    clear H
    go_wp2
    go_meet
    case rel=>exact ⟨_,((⟨#[110,111,110,101]⟩:ByteArray)),zb5,H',⟨zb156⟩,⟨zb112⟩,⟨zb113⟩,⟨zb16⟩,⟨zb40⟩,⟨zb29⟩⟩
   case rest =>
    clear HC23
    try clear c1
    try clear c2
    try clear p2
    try clear c3
    try clear c5
    try clear c9
    try clear c9b0
    try clear c9b1
    try clear c10
    try clear c12
    try clear c13
    try clear c15
    try clear c15b0
    try clear c15b1
    try clear c18
    try clear c19
    try clear c26
    try clear c27
    try clear c31
    try clear c31b0
    try clear c31b1
    try clear hcz11_0
    try clear hcz11_1
    try clear hcz11_2
    try clear hcz11_3
    try clear hcz11_4
    try clear hcz11_5
    try clear hcz11_6
    try clear hcz11_7
    try clear hcz19_0
    try clear hcz19_1
    try clear hcz19_2
    try clear hcz19_3
    try clear hcz19_4
    try clear hcz27_0
    try clear hcz27_1
    try clear hcz27_2
    try clear hcz27_3
    try clear hcz27_4
    try clear hfz11_0
    try clear hfz11_1
    try clear hfz11_2
    try clear hfz11_3
    try clear hfz11_4
    try clear hfz11_5
    try clear hfz11_6
    try clear hfz11_7
    try clear hfz19_0
    try clear hfz19_1
    try clear hfz19_2
    try clear hfz19_3
    try clear hfz19_4
    try clear hfz27_0
    try clear hfz27_1
    try clear hfz27_2
    try clear hfz27_3
    try clear hfz27_4
    try clear p2
    obtain ⟨kq,x2_22,rfl,HA,HJ22,HO_87,HO_84,BK80,BK78,HB⟩:=hcut
    cases kq with
    | zero=>exact absurd HA.out (by simp [tollbarlaw12_ScrubReads.j1])
    | succ kj22 =>
     have H:=HA.out
     clear HA
     simp only [tollbarlaw12_ScrubReads.j1] at H
     replace H:=Option.bind_eq_some_iff.mp H
     obtain ⟨⟨t90,t92,t93,t89,t86⟩,A320,H⟩:=H
     try dsimp only at H
     have A32:=Aside0.mk A320
     clear A320
     replace H:=Option.bind_eq_some_iff.mp H
     obtain ⟨t98,A330,H⟩:=H
     try dsimp only at H
     have A33:=Aside0.mk A330
     clear A330
     have HC34:=Aside0.mk H
     clear H
     have hnb35:=NB78_992.out
     have hnc35:=NB80_1006.out
     obtain ⟨hcz36_0,hcz36_1,hcz36_2,hcz36_3,hcz36_4,hfz36_0,hfz36_1,hfz36_2,hfz36_3,hfz36_4⟩:=zq5 BK78.out
     have hcz37_0:wc.cell? ⟨gb80,0,none⟩=some (.slice A1_0 l1_0.length c1_0):=(blk_cell BK80.out 0).trans rfl
     have hcz37_1:wc.cell? ⟨gb80,1,none⟩=some (.slice A1_1 l1_1.length c1_1):=(blk_cell BK80.out 1).trans rfl
     have hcz37_2:wc.cell? ⟨gb80,2,none⟩=some (.slice A1_2 l1_2.length c1_2):=(blk_cell BK80.out 2).trans rfl
     have hcz37_3:wc.cell? ⟨gb80,3,none⟩=some (.slice A1_3 l1_3.length c1_3):=(blk_cell BK80.out 3).trans rfl
     have hcz37_4:wc.cell? ⟨gb80,4,none⟩=some (.int .i64 a1_4):=(blk_cell BK80.out 4).trans rfl
     have hcz37_5:wc.cell? ⟨gb80,5,none⟩=some (.int .i64 a1_5):=(blk_cell BK80.out 5).trans rfl
     have hcz37_6:wc.cell? ⟨gb80,6,none⟩=some (.int .i64 a1_6):=(blk_cell BK80.out 6).trans rfl
     have hcz37_7:wc.cell? ⟨gb80,7,none⟩=some (.int .i64 a1_7):=(blk_cell BK80.out 7).trans rfl
     have hfz37_0:=blk_frozen BK80.out 0
     have hfz37_1:=blk_frozen BK80.out 1
     have hfz37_2:=blk_frozen BK80.out 2
     have hfz37_3:=blk_frozen BK80.out 3
     have hfz37_4:=blk_frozen BK80.out 4
     have hfz37_5:=blk_frozen BK80.out 5
     have hfz37_6:=blk_frozen BK80.out 6
     have hfz37_7:=blk_frozen BK80.out 7
     go_upto_region 13 with (first|((with_reducible refine gate_callee (f:=30) rfl ?_);refine goesL_ (some 42) rfl rfl Tryz.func30 zb7 rfl #[.agg #[.string t88,.string t94,.int .i64 t95,.slice Ao28 t91.length co28,.slice Ao29 t82.length co29],.agg #[.slice A1_0 l1_0.length c1_0,.slice A1_1 l1_1.length c1_1,.slice A1_2 l1_2.length c1_2,.slice A1_3 l1_3.length c1_3,.int .i64 a1_4,.int .i64 a1_5,.int .i64 a1_6,.int .i64 a1_7],.string x2_22,.string t94] rfl zb1 ?_;(with_reducible refine (scrub_Request.calls kj22 t88 t94 t95 _ _ t91 _ _ t82 _ _ l1_0 _ _ l1_1 _ _ l1_2 _ _ l1_3 a1_4 a1_5 a1_6 a1_7 x2_22 t94 t90 t92 t93 t89 t86 _ ?side1 ?side2 ?side3 ?side4 ?side5 ?side6 ?side7 ?side8 ?side9 ?side10 ?side11 ?side12 A32.out ?hT).mono ?_);(case hT=>exact HTB.out.below zb79);(case side1=>repeat (first|exact (Kd.R_reads' HO_87.out).2.2|(with_reducible refine Kd.C_alloc ?_ _)|(with_reducible refine Kd.C_drewN ?_ _)|(with_reducible refine Kd.C_drew ?_)));(case side2=>exact (Kd.R_reads' HO_87.out).2.1);(case side3=>exact zb133);(case side4=>exact (Kd.R_reads' HO_84.out).2.1);(case side5=>exact zb129);(case side6=>exact HC1_0.out);(case side7=>exact zb130);(case side8=>exact HC1_1.out);(case side9=>exact zb103);(case side10=>exact HC1_2.out);(case side11=>exact zb25);(case side12=>exact HC1_3.out);rintro e w38 ⟨v1012,v1015,rfl,ho0,ho1,hb⟩;refine ⟨_,rfl,?_⟩;have HO109:=Aside0.mk (Kd.R_lower (Kd.R_new' ho0 (Kd.R_lt zb92)) (below_size zb29));replace HO_87:=Aside0.mk (Kd.R_elder' zb92 (Kd.R_base ho0) hb);have HO108:=Aside0.mk (Kd.R_lower (Kd.R_new' ho1 (Kd.R_lt zb93)) (below_size zb29));replace HO_84:=Aside0.mk (Kd.R_elder' zb93 (Kd.R_base ho1) hb);replace BK80:=Aside0.mk (blk_below (g:=gb80) (o:=.cells #[.slice A1_0 l1_0.length c1_0,.slice A1_1 l1_1.length c1_1,.slice A1_2 l1_2.length c1_2,.slice A1_3 l1_3.length c1_3,.int .i64 a1_4,.int .i64 a1_5,.int .i64 a1_6,.int .i64 a1_7] 46 (0,0)) zb16 hb);replace BK78:=Aside0.mk (blk_below (g:=gb78) (o:=.cells #[.string t88,.string t94,.int .i64 t95,.slice Ao28 t91.length co28,.slice Ao29 t82.length co29] 26 (0,0)) zb40 hb);replace HB:=Aside0.mk (below_step zb29 hb);try clear hb ho0 ho1)|((with_reducible refine gate_dst (N:=10) rfl ?_);(try (refine gate_guard zb45 ?_;dsimp only));refine box_event rfl (N:=10) rfl (cs:=#[.string (⟨#[]⟩:ByteArray),.string (⟨#[]⟩:ByteArray),.int .i64 0,.slice none 0 0,.slice none 0 0]) (t:=26) zS ?_;intro gb79 hg w39 hbox hb;replace HO_87:=Aside0.mk (Kd.R_below zb92 hb);replace HO_84:=Aside0.mk (Kd.R_below zb93 hb);replace HO109:=Aside0.mk (Kd.R_below (by (with_reducible repeat (first|apply Kd.R_alloc|apply Kd.R_drewN|apply Kd.R_drew));exact HO109.out) hb);replace HO108:=Aside0.mk (Kd.R_below (by (with_reducible repeat (first|apply Kd.R_alloc|apply Kd.R_drewN|apply Kd.R_drew));exact HO108.out) hb);have BK79:=Aside0.mk (hbox);have GW79:=zG hg zb29;have GE79:=GW79;replace HB:=Aside0.mk (below_step zb29 hb);have NB80_1017:=Aside0.mk ((by rw [hg];exact Nat.ne_of_lt (blk_lt (g:=gb80) (o:=.cells #[.slice A1_0 l1_0.length c1_0,.slice A1_1 l1_1.length c1_1,.slice A1_2 l1_2.length c1_2,.slice A1_3 l1_3.length c1_3,.int .i64 a1_4,.int .i64 a1_5,.int .i64 a1_6,.int .i64 a1_7] 46 (0,0)) zb16):gb80 ≠ gb79));have NB79_992:=Aside0.mk ((by rw [hg];exact Nat.ne_of_gt (blk_lt (g:=gb80) (o:=.cells #[.slice A1_0 l1_0.length c1_0,.slice A1_1 l1_1.length c1_1,.slice A1_2 l1_2.length c1_2,.slice A1_3 l1_3.length c1_3,.int .i64 a1_4,.int .i64 a1_5,.int .i64 a1_6,.int .i64 a1_7] 46 (0,0)) zb16):gb79 ≠ gb80));replace BK80:=Aside0.mk (blk_below (g:=gb80) (o:=.cells #[.slice A1_0 l1_0.length c1_0,.slice A1_1 l1_1.length c1_1,.slice A1_2 l1_2.length c1_2,.slice A1_3 l1_3.length c1_3,.int .i64 a1_4,.int .i64 a1_5,.int .i64 a1_6,.int .i64 a1_7] 46 (0,0)) zb16 hb);have NB78_1017:=Aside0.mk ((by rw [hg];exact Nat.ne_of_lt (blk_lt (g:=gb78) (o:=.cells #[.string t88,.string t94,.int .i64 t95,.slice Ao28 t91.length co28,.slice Ao29 t82.length co29] 26 (0,0)) zb40):gb78 ≠ gb79));have NB79_1006:=Aside0.mk ((by rw [hg];exact Nat.ne_of_gt (blk_lt (g:=gb78) (o:=.cells #[.string t88,.string t94,.int .i64 t95,.slice Ao28 t91.length co28,.slice Ao29 t82.length co29] 26 (0,0)) zb40):gb79 ≠ gb78));replace BK78:=Aside0.mk (blk_below (g:=gb78) (o:=.cells #[.string t88,.string t94,.int .i64 t95,.slice Ao28 t91.length co28,.slice Ao29 t82.length co29] 26 (0,0)) zb40 hb);clear hb hbox hg;have hnb40:=NB79_992.out;have hnc40:=NB80_1017.out;have hnb41:=NB79_1006.out;have hnc41:=NB78_1017.out;obtain ⟨hcz42_0,hcz42_1,hcz42_2,hcz42_3,hcz42_4,hfz42_0,hfz42_1,hfz42_2,hfz42_3,hfz42_4⟩:=zq5 BK79.out;obtain ⟨Ao43,co43,eo43⟩:=Kd.R_slice HO109.out;subst eo43;obtain ⟨Ao44,co44,eo44⟩:=Kd.R_slice HO108.out;subst eo44)|((with_reducible refine gate_callee (f:=24) rfl ?_);refine goesL_ (some 44) rfl rfl Tryz.func24 zb7 rfl #[.agg #[.string t90,.string t92,.int .i64 t93,.slice Ao43 t89.length co43,.slice Ao44 t86.length co44]] rfl zb1 ?_;(with_reducible refine (http_WriteRequest.calls kj22 t90 t92 t93 _ _ t89 _ _ t86 t98 _ ?side1 ?side2 ?side3 ?side4 A33.out ?hT).mono ?_);(case hT=>exact HTB.out.below zb79);(case side1=>refine (Kd.R_reads' (e:=36) (base:=w.heap.size) (ok:=fun k_=>(True∧some k_ ≠ (.slice Ao28 t91.length co28:Value).ownBlock)) (n:=t89.length) (c:=co43) ?_).2.2;exact zb55);(case side2=>exact (Kd.R_reads' HO109.out).2.1);(case side3=>refine (Kd.R_reads' (e:=5) (base:=w.heap.size) (ok:=fun k_=>(True∧some k_ ≠ (.slice Ao29 t82.length co29:Value).ownBlock)) (n:=t86.length) (c:=co44) ?_).2.2;exact zb32);(case side4=>exact (Kd.R_reads' HO108.out).2.1);rintro e w45 ⟨v1019,rfl,ho0,hb⟩;refine ⟨_,rfl,?_⟩;replace HO_87:=Aside0.mk (Kd.R_below (by (with_reducible repeat (first|apply Kd.R_alloc|apply Kd.R_drewN|apply Kd.R_drew));exact (Kd.R_mono (Kd.R_far (p:=⟨gb79,4,none⟩) (Kd.R_far (p:=⟨gb79,3,none⟩) (Kd.R_far (p:=⟨gb79,2,none⟩) (Kd.R_far (p:=⟨gb79,1,none⟩) (Kd.R_far (p:=⟨gb79,0,none⟩) (Kd.R_types HO_87.out BK79.out (by decide)) (fun _ hk=>hk.2) (.string t90)) (fun _ hk=>hk.2) (.string t92)) (fun _ hk=>hk.2) (.int .i64 t93)) (fun _ hk=>hk.2) (.slice Ao43 t89.length co43)) (fun _ hk=>hk.2) (.slice Ao44 t86.length co44)) (fun _ h_=>h_.1))) hb);replace HO109:=Aside0.mk (Kd.R_below zb55 hb);have HO1020:=Aside0.mk (Kd.B_lower (Kd.B_new' (Kd.B_new' ho0 (Kd.R_lt zb56)) (Kd.R_lt zb32)) (below_size zb22));replace HO_84:=Aside0.mk (Kd.R_elder' zb56 (Kd.B_base ho0) hb);replace HO108:=Aside0.mk (Kd.R_elder' zb32 (Kd.B_base ho0) hb);replace BK80:=Aside0.mk (blk_below (g:=gb80) (o:=.cells #[.slice A1_0 l1_0.length c1_0,.slice A1_1 l1_1.length c1_1,.slice A1_2 l1_2.length c1_2,.slice A1_3 l1_3.length c1_3,.int .i64 a1_4,.int .i64 a1_5,.int .i64 a1_6,.int .i64 a1_7] 46 (0,0)) (by (with_reducible repeat (first|refine blk_drewN ?_ _|refine blk_drew ?_|refine blk_alloc ?_ _));refine blk_far ?_ NB80_1017.out _;(with_reducible repeat (first|refine blk_drewN ?_ _|refine blk_drew ?_|refine blk_alloc ?_ _));refine blk_far ?_ NB80_1017.out _;(with_reducible repeat (first|refine blk_drewN ?_ _|refine blk_drew ?_|refine blk_alloc ?_ _));refine blk_far ?_ NB80_1017.out _;(with_reducible repeat (first|refine blk_drewN ?_ _|refine blk_drew ?_|refine blk_alloc ?_ _));refine blk_far ?_ NB80_1017.out _;(with_reducible repeat (first|refine blk_drewN ?_ _|refine blk_drew ?_|refine blk_alloc ?_ _));refine blk_far ?_ NB80_1017.out _;(with_reducible repeat (first|refine blk_drewN ?_ _|refine blk_drew ?_|refine blk_alloc ?_ _));exact BK80.out) hb);replace BK78:=Aside0.mk (blk_below (g:=gb78) (o:=.cells #[.string t88,.string t94,.int .i64 t95,.slice Ao28 t91.length co28,.slice Ao29 t82.length co29] 26 (0,0)) (by (with_reducible repeat (first|refine blk_drewN ?_ _|refine blk_drew ?_|refine blk_alloc ?_ _));refine blk_far ?_ NB78_1017.out _;(with_reducible repeat (first|refine blk_drewN ?_ _|refine blk_drew ?_|refine blk_alloc ?_ _));refine blk_far ?_ NB78_1017.out _;(with_reducible repeat (first|refine blk_drewN ?_ _|refine blk_drew ?_|refine blk_alloc ?_ _));refine blk_far ?_ NB78_1017.out _;(with_reducible repeat (first|refine blk_drewN ?_ _|refine blk_drew ?_|refine blk_alloc ?_ _));refine blk_far ?_ NB78_1017.out _;(with_reducible repeat (first|refine blk_drewN ?_ _|refine blk_drew ?_|refine blk_alloc ?_ _));refine blk_far ?_ NB78_1017.out _;(with_reducible repeat (first|refine blk_drewN ?_ _|refine blk_drew ?_|refine blk_alloc ?_ _));exact BK78.out) hb);replace BK79:=Aside0.mk (blk_below (g:=gb79) (o:=.cells #[.string t90,.string t92,.int .i64 t93,.slice Ao43 t89.length co43,.slice Ao44 t86.length co44] 26 (0,0)) (by (with_reducible repeat (first|refine blk_drewN ?_ _|refine blk_drew ?_|refine blk_alloc ?_ _));refine blk_put (cs:=#[.string t90,.string t92,.int .i64 t93,.slice Ao43 t89.length co43,.slice none 0 0]) ?_ 4 _ rfl;(with_reducible repeat (first|refine blk_drewN ?_ _|refine blk_drew ?_|refine blk_alloc ?_ _));refine blk_put (cs:=#[.string t90,.string t92,.int .i64 t93,.slice none 0 0,.slice none 0 0]) ?_ 3 _ rfl;(with_reducible repeat (first|refine blk_drewN ?_ _|refine blk_drew ?_|refine blk_alloc ?_ _));refine blk_put (cs:=#[.string t90,.string t92,.int .i64 0,.slice none 0 0,.slice none 0 0]) ?_ 2 _ rfl;(with_reducible repeat (first|refine blk_drewN ?_ _|refine blk_drew ?_|refine blk_alloc ?_ _));refine blk_put (cs:=#[.string t90,.string (⟨#[]⟩:ByteArray),.int .i64 0,.slice none 0 0,.slice none 0 0]) ?_ 1 _ rfl;(with_reducible repeat (first|refine blk_drewN ?_ _|refine blk_drew ?_|refine blk_alloc ?_ _));refine blk_put (cs:=#[.string (⟨#[]⟩:ByteArray),.string (⟨#[]⟩:ByteArray),.int .i64 0,.slice none 0 0,.slice none 0 0]) ?_ 0 _ rfl;(with_reducible repeat (first|refine blk_drewN ?_ _|refine blk_drew ?_|refine blk_alloc ?_ _));exact BK79.out) hb);replace HB:=Aside0.mk (below_step zb22 hb);try clear hb ho0))
     (try simp only [Act.put,zqA,zqB,zqC])
     go_cut [57] (fun v57 wc => ∃ (kq:Nat) (x57_33:Bool),v57 = .bool x57_33∧Aside0 (tollbarlaw12_ScrubReads.j2 kq t98 x57_33 t88 t94 t95 t91 t82 t90 t92 t93 t89 t86=some r)∧Aside0 (kq ≤ kj22)∧Aside0 (Kd.B wc w.heap.size (fun k_=>some k_ ≠ ((.slice Ao29 t82.length co29):Value).ownBlock∧some k_ ≠ ((.slice Ao44 t86.length co44):Value).ownBlock) v1019 t98)∧Aside0 (Kd.R k36 36 wc w.heap.size (fun k_=>some k_ ≠ ((.slice Ao43 t89.length co43):Value).ownBlock) (.slice Ao28 t91.length co28) t91)∧Aside0 (Kd.R (Kd.int .u8) 5 wc w.heap.size (fun k_=>some k_ ≠ (v1019:Value).ownBlock∧some k_ ≠ ((.slice Ao44 t86.length co44):Value).ownBlock) (.slice Ao29 t82.length co29) t82)∧Aside0 (Kd.R k36 36 wc w.heap.size (fun k_=>some k_ ≠ ((.slice Ao28 t91.length co28):Value).ownBlock) (.slice Ao43 t89.length co43) t89)∧Aside0 (Kd.R (Kd.int .u8) 5 wc w.heap.size (fun k_=>some k_ ≠ (v1019:Value).ownBlock∧some k_ ≠ ((.slice Ao29 t82.length co29):Value).ownBlock) (.slice Ao44 t86.length co44) t86)∧Aside0 (wc.heap[gb80]? = some (.cells #[(.slice A1_0 l1_0.length c1_0),(.slice A1_1 l1_1.length c1_1),(.slice A1_2 l1_2.length c1_2),(.slice A1_3 l1_3.length c1_3),.int .i64 a1_4,.int .i64 a1_5,.int .i64 a1_6,.int .i64 a1_7] 46 (0,0)))∧Aside0 (wc.heap[gb78]? = some (.cells #[.string t88,.string t94,.int .i64 t95,(.slice Ao28 t91.length co28),(.slice Ao29 t82.length co29)] 26 (0,0)))∧Aside0 (wc.heap[gb79]? = some (.cells #[.string t90,.string t92,.int .i64 t93,(.slice Ao43 t89.length co43),(.slice Ao44 t86.length co44)] 26 (0,0)))∧Aside0 (Below w.heap.size w wc))
     case first =>
      have H:=HC34.out
      clear HC34
      by_cases c46:(wrap64 ((t98.length:Int) - (t86.length:Int))) > 2048
      ·rw [if_pos c46] at H
       have c46b0:decide (2048 < (wrap64 ((t98.length:Int) - (t86.length:Int))))=true:=decide_eq_true c46
       clear c46
       (first|rw [c46b0]|(simp only [i64_w,i32_w];rw [c46b0])|skip)
       have H' := Aside0.mk H
       clear H
       obtain ⟨Ao47,co47,eo47⟩:=Kd.B_slice HO1020.out
       subst eo47
       have hnb48:=NB79_992.out
       have hnc48:=NB80_1017.out
       have hnb49:=NB79_1006.out
       have hnc49:=NB78_1017.out
       obtain ⟨hcz50_0,hcz50_1,hcz50_2,hcz50_3,hcz50_4,hfz50_0,hfz50_1,hfz50_2,hfz50_3,hfz50_4⟩:=zq5 BK79.out
       go_wp2
       go_meet
       case rel=>exact ⟨_,(true),zb5,H',⟨by have:=HJ5.out;have:=HJ22.out;first|omega|exact Nat.le_refl _⟩,⟨zb126⟩,⟨zb147⟩,⟨zb127⟩,⟨zb148⟩,⟨zb128⟩,⟨zb16⟩,⟨zb40⟩,⟨zb85⟩,⟨zb22⟩⟩
      rw [if_neg c46] at H
      have c46b0:decide (2048 < (wrap64 ((t98.length:Int) - (t86.length:Int))))=false:=decide_eq_false c46
      clear c46
      (first|rw [c46b0]|(simp only [i64_w,i32_w];rw [c46b0])|skip)
      have H' := Aside0.mk H
      clear H
      obtain ⟨Ao51,co51,eo51⟩:=Kd.B_slice HO1020.out
      subst eo51
      have hnb52:=NB79_992.out
      have hnc52:=NB80_1017.out
      have hnb53:=NB79_1006.out
      have hnc53:=NB78_1017.out
      obtain ⟨hcz54_0,hcz54_1,hcz54_2,hcz54_3,hcz54_4,hfz54_0,hfz54_1,hfz54_2,hfz54_3,hfz54_4⟩:=zq5 BK79.out
      go_wp2
      go_meet
      case rel=>exact ⟨_,(decide ((t89.length:Int) > 40)),zb5,H',⟨by have:=HJ5.out;have:=HJ22.out;first|omega|exact Nat.le_refl _⟩,⟨zb126⟩,⟨zb147⟩,⟨zb127⟩,⟨zb148⟩,⟨zb128⟩,⟨zb16⟩,⟨zb40⟩,⟨zb85⟩,⟨zb22⟩⟩
     case rest =>
      clear HC34
      try clear c1
      try clear c2
      try clear p2
      try clear c3
      try clear c4
      try clear c5
      try clear p6
      try clear c9
      try clear c9b0
      try clear c9b1
      try clear c10
      try clear c12
      try clear c13
      try clear c15
      try clear c15b0
      try clear c15b1
      try clear c18
      try clear c19
      try clear c24
      try clear c26
      try clear c27
      try clear c30
      try clear c31
      try clear c31b0
      try clear c31b1
      try clear c35
      try clear c40
      try clear c41
      try clear c46
      try clear c46b0
      try clear c48
      try clear c49
      try clear c52
      try clear c53
      try clear hcz11_0
      try clear hcz11_1
      try clear hcz11_2
      try clear hcz11_3
      try clear hcz11_4
      try clear hcz11_5
      try clear hcz11_6
      try clear hcz11_7
      try clear hcz19_0
      try clear hcz19_1
      try clear hcz19_2
      try clear hcz19_3
      try clear hcz19_4
      try clear hcz27_0
      try clear hcz27_1
      try clear hcz27_2
      try clear hcz27_3
      try clear hcz27_4
      try clear hcz36_0
      try clear hcz36_1
      try clear hcz36_2
      try clear hcz36_3
      try clear hcz36_4
      try clear hcz37_0
      try clear hcz37_1
      try clear hcz37_2
      try clear hcz37_3
      try clear hcz37_4
      try clear hcz37_5
      try clear hcz37_6
      try clear hcz37_7
      try clear hcz42_0
      try clear hcz42_1
      try clear hcz42_2
      try clear hcz42_3
      try clear hcz42_4
      try clear hcz50_0
      try clear hcz50_1
      try clear hcz50_2
      try clear hcz50_3
      try clear hcz50_4
      try clear hcz54_0
      try clear hcz54_1
      try clear hcz54_2
      try clear hcz54_3
      try clear hcz54_4
      try clear hfz11_0
      try clear hfz11_1
      try clear hfz11_2
      try clear hfz11_3
      try clear hfz11_4
      try clear hfz11_5
      try clear hfz11_6
      try clear hfz11_7
      try clear hfz19_0
      try clear hfz19_1
      try clear hfz19_2
      try clear hfz19_3
      try clear hfz19_4
      try clear hfz27_0
      try clear hfz27_1
      try clear hfz27_2
      try clear hfz27_3
      try clear hfz27_4
      try clear hfz36_0
      try clear hfz36_1
      try clear hfz36_2
      try clear hfz36_3
      try clear hfz36_4
      try clear hfz37_0
      try clear hfz37_1
      try clear hfz37_2
      try clear hfz37_3
      try clear hfz37_4
      try clear hfz37_5
      try clear hfz37_6
      try clear hfz37_7
      try clear hfz42_0
      try clear hfz42_1
      try clear hfz42_2
      try clear hfz42_3
      try clear hfz42_4
      try clear hfz50_0
      try clear hfz50_1
      try clear hfz50_2
      try clear hfz50_3
      try clear hfz50_4
      try clear hfz54_0
      try clear hfz54_1
      try clear hfz54_2
      try clear hfz54_3
      try clear hfz54_4
      try clear p2
      obtain ⟨kq,x57_33,rfl,HA,HJ33,HO_11,HO_87,HO_84,HO_99,HO_97,BK80,BK78,BK79,HB⟩:=hcut
      cases kq with
      | zero=>exact absurd HA.out (by simp [tollbarlaw12_ScrubReads.j2])
      | succ kj33 =>
       have H:=HA.out
       clear HA
       simp only [tollbarlaw12_ScrubReads.j2] at H
       by_cases c55:x57_33=true
       ·subst c55
        rw [if_pos rfl] at H
        obtain rfl:=Option.some.inj H
        go_wp2
        go_ret
        exact ⟨zb2,zb22⟩
       replace c55:=Bool.eq_false_iff.mpr c55
       subst c55
       rw [if_neg (show ¬ (false=true) by decide)] at H
       replace H:=Option.bind_eq_some_iff.mp H
       obtain ⟨⟨t96,t101,t104,t102,t105,t114,t115⟩,A560,H⟩:=H
       try dsimp only at H
       have A56:=Aside0.mk A560
       clear A560
       by_cases c57:t115=0
       ·rw [if_pos c57] at H
        have c57b0:=beq_iff_eq.mpr c57
        have c57b1:=bne_eq_false_iff_eq.mpr c57
        clear c57
        by_cases c58:t114=(t98.length:Int);rotate_left
        ·rw [if_neg c58] at H
         have c58b0:=beq_eq_false_iff_ne.mpr c58
         have c58b1:=bne_iff_ne.mpr c58
         exact absurd ((Option.some.inj H).trans HRT.out) zb47
        rw [if_pos c58] at H
        have c58b0:=beq_iff_eq.mpr c58
        have c58b1:=bne_eq_false_iff_eq.mpr c58
        clear c58
        replace H:=Option.bind_eq_some_iff.mp H
        obtain ⟨t1033,A590,H⟩:=H
        try dsimp only at H
        have A59:=Aside0.mk A590
        clear A590
        by_cases c60:t1033=true
        ·subst c60
         rw [if_pos rfl] at H
         replace H:=Option.bind_eq_some_iff.mp H
         obtain ⟨t110,A610,H⟩:=H
         try dsimp only at H
         have A61:=Aside0.mk A610
         clear A610
         obtain rfl:=Option.some.inj H
         obtain ⟨Ao62,co62,eo62⟩:=Kd.B_slice HO_11.out
         subst eo62
         go_wp2_with (first|((with_reducible refine gate_callee (f:=12) rfl ?_);refine goesL_ (some 60) rfl rfl Tryz.func12 zb7 rfl #[.slice Ao62 t98.length co62] rfl zb1 ?_;(with_reducible refine (http_Request.calls kj33 _ _ t98 t96 t101 t104 t102 t105 t114 t115 _ ?side1 ?side2 A56.out).mono ?_);(case side1=>repeat (first|exact (Kd.B_reads' HO_11.out).2.2|(with_reducible refine Kd.C_alloc ?_ _)|(with_reducible refine Kd.C_drewN ?_ _)|(with_reducible refine Kd.C_drew ?_)));(case side2=>exact (Kd.B_reads' HO_11.out).2.1);rintro e w63 ⟨v1025,v1028,rfl,ho0,ho1,hb⟩;(try clear A56);refine ⟨_,rfl,?_⟩;have HO111:=Aside0.mk (Kd.R_lower (Kd.R_new' (Kd.R_new' ho0 (Kd.R_lt zb92)) (Kd.R_lt zb144)) (below_size zb22));replace HO_87:=Aside0.mk (Kd.R_elder' zb92 (Kd.R_base ho0) hb);replace HO_99:=Aside0.mk (Kd.R_elder' zb144 (Kd.R_base ho0) hb);have HO112:=Aside0.mk (Kd.R_lower (Kd.R_new' (Kd.R_new' (Kd.R_new' ho1 (Kd.B_lt zb145)) (Kd.R_lt zb93)) (Kd.R_lt zb146)) (below_size zb22));replace HO_11:=Aside0.mk (Kd.B_elder' zb145 (Kd.R_base ho1) hb);replace HO_84:=Aside0.mk (Kd.R_elder' zb93 (Kd.R_base ho1) hb);replace HO_97:=Aside0.mk (Kd.R_elder' zb146 (Kd.R_base ho1) hb);replace BK80:=Aside0.mk (blk_below (g:=gb80) (o:=.cells #[.slice A1_0 l1_0.length c1_0,.slice A1_1 l1_1.length c1_1,.slice A1_2 l1_2.length c1_2,.slice A1_3 l1_3.length c1_3,.int .i64 a1_4,.int .i64 a1_5,.int .i64 a1_6,.int .i64 a1_7] 46 (0,0)) zb16 hb);replace BK78:=Aside0.mk (blk_below (g:=gb78) (o:=.cells #[.string t88,.string t94,.int .i64 t95,.slice Ao28 t91.length co28,.slice Ao29 t82.length co29] 26 (0,0)) zb40 hb);replace BK79:=Aside0.mk (blk_below (g:=gb79) (o:=.cells #[.string t90,.string t92,.int .i64 t93,.slice Ao43 t89.length co43,.slice Ao44 t86.length co44] 26 (0,0)) zb85 hb);replace HB:=Aside0.mk (below_step zb22 hb);try clear hb ho0 ho1)|((with_reducible refine gate_dst (N:=12) rfl ?_);(try (refine gate_guard zb45 ?_;dsimp only));refine box_event rfl (N:=12) rfl (cs:=#[.string (⟨#[]⟩:ByteArray),.string (⟨#[]⟩:ByteArray),.int .i64 0,.slice none 0 0,.slice none 0 0]) (t:=26) zS ?_;intro gb81 hg w64 hbox hb;replace HO_11:=Aside0.mk (Kd.B_below zb145 hb);replace HO_87:=Aside0.mk (Kd.R_below zb92 hb);replace HO_84:=Aside0.mk (Kd.R_below zb93 hb);replace HO_99:=Aside0.mk (Kd.R_below zb144 hb);replace HO_97:=Aside0.mk (Kd.R_below zb146 hb);replace HO111:=Aside0.mk (Kd.R_below (by (with_reducible repeat (first|apply Kd.R_alloc|apply Kd.R_drewN|apply Kd.R_drew));exact HO111.out) hb);replace HO112:=Aside0.mk (Kd.R_below (by (with_reducible repeat (first|apply Kd.R_alloc|apply Kd.R_drewN|apply Kd.R_drew));exact HO112.out) hb);have BK81:=Aside0.mk (hbox);have GW81:=zG hg zb22;have GE81:=GW81;replace HB:=Aside0.mk (below_step zb22 hb);have NB80_1032:=Aside0.mk ((by rw [hg];exact Nat.ne_of_lt (blk_lt (g:=gb80) (o:=.cells #[.slice A1_0 l1_0.length c1_0,.slice A1_1 l1_1.length c1_1,.slice A1_2 l1_2.length c1_2,.slice A1_3 l1_3.length c1_3,.int .i64 a1_4,.int .i64 a1_5,.int .i64 a1_6,.int .i64 a1_7] 46 (0,0)) zb16):gb80 ≠ gb81));have NB81_992:=Aside0.mk ((by rw [hg];exact Nat.ne_of_gt (blk_lt (g:=gb80) (o:=.cells #[.slice A1_0 l1_0.length c1_0,.slice A1_1 l1_1.length c1_1,.slice A1_2 l1_2.length c1_2,.slice A1_3 l1_3.length c1_3,.int .i64 a1_4,.int .i64 a1_5,.int .i64 a1_6,.int .i64 a1_7] 46 (0,0)) zb16):gb81 ≠ gb80));replace BK80:=Aside0.mk (blk_below (g:=gb80) (o:=.cells #[.slice A1_0 l1_0.length c1_0,.slice A1_1 l1_1.length c1_1,.slice A1_2 l1_2.length c1_2,.slice A1_3 l1_3.length c1_3,.int .i64 a1_4,.int .i64 a1_5,.int .i64 a1_6,.int .i64 a1_7] 46 (0,0)) zb16 hb);have NB78_1032:=Aside0.mk ((by rw [hg];exact Nat.ne_of_lt (blk_lt (g:=gb78) (o:=.cells #[.string t88,.string t94,.int .i64 t95,.slice Ao28 t91.length co28,.slice Ao29 t82.length co29] 26 (0,0)) zb40):gb78 ≠ gb81));have NB81_1006:=Aside0.mk ((by rw [hg];exact Nat.ne_of_gt (blk_lt (g:=gb78) (o:=.cells #[.string t88,.string t94,.int .i64 t95,.slice Ao28 t91.length co28,.slice Ao29 t82.length co29] 26 (0,0)) zb40):gb81 ≠ gb78));replace BK78:=Aside0.mk (blk_below (g:=gb78) (o:=.cells #[.string t88,.string t94,.int .i64 t95,.slice Ao28 t91.length co28,.slice Ao29 t82.length co29] 26 (0,0)) zb40 hb);have NB79_1032:=Aside0.mk ((by rw [hg];exact Nat.ne_of_lt (blk_lt (g:=gb79) (o:=.cells #[.string t90,.string t92,.int .i64 t93,.slice Ao43 t89.length co43,.slice Ao44 t86.length co44] 26 (0,0)) zb85):gb79 ≠ gb81));have NB81_1017:=Aside0.mk ((by rw [hg];exact Nat.ne_of_gt (blk_lt (g:=gb79) (o:=.cells #[.string t90,.string t92,.int .i64 t93,.slice Ao43 t89.length co43,.slice Ao44 t86.length co44] 26 (0,0)) zb85):gb81 ≠ gb79));replace BK79:=Aside0.mk (blk_below (g:=gb79) (o:=.cells #[.string t90,.string t92,.int .i64 t93,.slice Ao43 t89.length co43,.slice Ao44 t86.length co44] 26 (0,0)) zb85 hb);clear hb hbox hg;have hnb65:=NB81_992.out;have hnc65:=NB80_1032.out;have hnb66:=NB81_1006.out;have hnc66:=NB78_1032.out;have hnb67:=NB81_1017.out;have hnc67:=NB79_1032.out;obtain ⟨hcz68_0,hcz68_1,hcz68_2,hcz68_3,hcz68_4,hfz68_0,hfz68_1,hfz68_2,hfz68_3,hfz68_4⟩:=zq5 BK81.out;obtain ⟨Ao69,co69,eo69⟩:=Kd.R_slice HO111.out;subst eo69;obtain ⟨Ao70,co70,eo70⟩:=Kd.R_slice HO112.out;subst eo70;have hnb71:=NB79_992.out;have hnc71:=NB80_1017.out;have hnb72:=NB79_1006.out;have hnc72:=NB78_1017.out;obtain ⟨hcz73_0,hcz73_1,hcz73_2,hcz73_3,hcz73_4,hfz73_0,hfz73_1,hfz73_2,hfz73_3,hfz73_4⟩:=zq5 BK79.out)|(go_at_call 16;(with_reducible refine (tollbarref08_SameReq.calls kj33 t96 t101 t104 _ _ t102 _ _ t105 t90 t92 t93 _ _ t89 _ _ t86 true _ ?side1 ?side2 ?side3 ?side4 ?side5 ?side6 ?side7 ?side8 A59.out).mono ?_);(case side1=>refine (Kd.R_reads' (e:=36) (base:=w.heap.size) (ok:=fun k_=>((True∧some k_ ≠ (.slice Ao28 t91.length co28:Value).ownBlock)∧some k_ ≠ (.slice Ao43 t89.length co43:Value).ownBlock)) (n:=t102.length) (c:=co69) ?_).2.2;exact zb49);(case side2=>exact (Kd.R_reads' HO111.out).2.1);(case side3=>refine (Kd.R_reads' (e:=5) (base:=w.heap.size) (ok:=fun k_=>(((True∧some k_ ≠ (.slice Ao62 t98.length co62:Value).ownBlock)∧some k_ ≠ (.slice Ao29 t82.length co29:Value).ownBlock)∧some k_ ≠ (.slice Ao44 t86.length co44:Value).ownBlock)) (n:=t105.length) (c:=co70) ?_).2.2;exact zb50);(case side4=>exact (Kd.R_reads' HO112.out).2.1);(case side5=>refine (Kd.R_reads' (e:=36) (base:=w.heap.size) (ok:=fun k_=>(some k_ ≠ (.slice Ao28 t91.length co28:Value).ownBlock∧some k_ ≠ (.slice Ao69 t102.length co69:Value).ownBlock)) (n:=t89.length) (c:=co43) ?_).2.2;exact zb51);(case side6=>exact (Kd.R_reads' HO_99.out).2.1);(case side7=>refine (Kd.R_reads' (e:=5) (base:=w.heap.size) (ok:=fun k_=>((some k_ ≠ (.slice Ao62 t98.length co62:Value).ownBlock∧some k_ ≠ (.slice Ao29 t82.length co29:Value).ownBlock)∧some k_ ≠ (.slice Ao70 t105.length co70:Value).ownBlock)) (n:=t86.length) (c:=co44) ?_).2.2;exact zb52);(case side8=>exact (Kd.R_reads' HO_97.out).2.1);rintro e w74 ⟨rfl,hb⟩;(try clear A59);replace HO_11:=Aside0.mk (Kd.B_below (by (with_reducible repeat (first|apply Kd.B_alloc|apply Kd.B_drewN|apply Kd.B_drew));exact (Kd.B_mono (Kd.B_far (p:=⟨gb81,4,none⟩) (Kd.B_far (p:=⟨gb81,3,none⟩) (Kd.B_far (p:=⟨gb81,2,none⟩) (Kd.B_far (p:=⟨gb81,1,none⟩) (Kd.B_far (p:=⟨gb81,0,none⟩) (Kd.B_types HO_11.out BK81.out rfl) (fun _ hk=>hk.2) (.string t96)) (fun _ hk=>hk.2) (.string t101)) (fun _ hk=>hk.2) (.int .i64 t104)) (fun _ hk=>hk.2) (.slice Ao69 t102.length co69)) (fun _ hk=>hk.2) (.slice Ao70 t105.length co70)) (fun _ h_=>h_.1))) hb);replace HO_87:=Aside0.mk (Kd.R_below (by (with_reducible repeat (first|apply Kd.R_alloc|apply Kd.R_drewN|apply Kd.R_drew));exact (Kd.R_mono (Kd.R_far (p:=⟨gb81,4,none⟩) (Kd.R_far (p:=⟨gb81,3,none⟩) (Kd.R_far (p:=⟨gb81,2,none⟩) (Kd.R_far (p:=⟨gb81,1,none⟩) (Kd.R_far (p:=⟨gb81,0,none⟩) (Kd.R_types HO_87.out BK81.out (by decide)) (fun _ hk=>hk.2) (.string t96)) (fun _ hk=>hk.2) (.string t101)) (fun _ hk=>hk.2) (.int .i64 t104)) (fun _ hk=>hk.2) (.slice Ao69 t102.length co69)) (fun _ hk=>hk.2) (.slice Ao70 t105.length co70)) (fun _ h_=>h_.1))) hb);replace HO_84:=Aside0.mk (Kd.R_below (by (with_reducible repeat (first|apply Kd.R_alloc|apply Kd.R_drewN|apply Kd.R_drew));exact (Kd.R_mono (Kd.R_far (p:=⟨gb81,4,none⟩) (Kd.R_far (p:=⟨gb81,3,none⟩) (Kd.R_far (p:=⟨gb81,2,none⟩) (Kd.R_far (p:=⟨gb81,1,none⟩) (Kd.R_far (p:=⟨gb81,0,none⟩) (Kd.R_types HO_84.out BK81.out (by decide)) (fun _ hk=>hk.2) (.string t96)) (fun _ hk=>hk.2) (.string t101)) (fun _ hk=>hk.2) (.int .i64 t104)) (fun _ hk=>hk.2) (.slice Ao69 t102.length co69)) (fun _ hk=>hk.2) (.slice Ao70 t105.length co70)) (fun _ h_=>h_.1))) hb);replace HO_99:=Aside0.mk (Kd.R_below zb51 hb);replace HO_97:=Aside0.mk (Kd.R_below zb52 hb);replace HO111:=Aside0.mk (Kd.R_below zb49 hb);replace HO112:=Aside0.mk (Kd.R_below zb50 hb);replace BK80:=Aside0.mk (blk_below (g:=gb80) (o:=.cells #[.slice A1_0 l1_0.length c1_0,.slice A1_1 l1_1.length c1_1,.slice A1_2 l1_2.length c1_2,.slice A1_3 l1_3.length c1_3,.int .i64 a1_4,.int .i64 a1_5,.int .i64 a1_6,.int .i64 a1_7] 46 (0,0)) (by (with_reducible repeat (first|refine blk_drewN ?_ _|refine blk_drew ?_|refine blk_alloc ?_ _));refine blk_far ?_ NB80_1032.out _;(with_reducible repeat (first|refine blk_drewN ?_ _|refine blk_drew ?_|refine blk_alloc ?_ _));refine blk_far ?_ NB80_1032.out _;(with_reducible repeat (first|refine blk_drewN ?_ _|refine blk_drew ?_|refine blk_alloc ?_ _));refine blk_far ?_ NB80_1032.out _;(with_reducible repeat (first|refine blk_drewN ?_ _|refine blk_drew ?_|refine blk_alloc ?_ _));refine blk_far ?_ NB80_1032.out _;(with_reducible repeat (first|refine blk_drewN ?_ _|refine blk_drew ?_|refine blk_alloc ?_ _));refine blk_far ?_ NB80_1032.out _;(with_reducible repeat (first|refine blk_drewN ?_ _|refine blk_drew ?_|refine blk_alloc ?_ _));exact BK80.out) hb);replace BK78:=Aside0.mk (blk_below (g:=gb78) (o:=.cells #[.string t88,.string t94,.int .i64 t95,.slice Ao28 t91.length co28,.slice Ao29 t82.length co29] 26 (0,0)) (by (with_reducible repeat (first|refine blk_drewN ?_ _|refine blk_drew ?_|refine blk_alloc ?_ _));refine blk_far ?_ NB78_1032.out _;(with_reducible repeat (first|refine blk_drewN ?_ _|refine blk_drew ?_|refine blk_alloc ?_ _));refine blk_far ?_ NB78_1032.out _;(with_reducible repeat (first|refine blk_drewN ?_ _|refine blk_drew ?_|refine blk_alloc ?_ _));refine blk_far ?_ NB78_1032.out _;(with_reducible repeat (first|refine blk_drewN ?_ _|refine blk_drew ?_|refine blk_alloc ?_ _));refine blk_far ?_ NB78_1032.out _;(with_reducible repeat (first|refine blk_drewN ?_ _|refine blk_drew ?_|refine blk_alloc ?_ _));refine blk_far ?_ NB78_1032.out _;(with_reducible repeat (first|refine blk_drewN ?_ _|refine blk_drew ?_|refine blk_alloc ?_ _));exact BK78.out) hb);replace BK79:=Aside0.mk (blk_below (g:=gb79) (o:=.cells #[.string t90,.string t92,.int .i64 t93,.slice Ao43 t89.length co43,.slice Ao44 t86.length co44] 26 (0,0)) (by (with_reducible repeat (first|refine blk_drewN ?_ _|refine blk_drew ?_|refine blk_alloc ?_ _));refine blk_far ?_ NB79_1032.out _;(with_reducible repeat (first|refine blk_drewN ?_ _|refine blk_drew ?_|refine blk_alloc ?_ _));refine blk_far ?_ NB79_1032.out _;(with_reducible repeat (first|refine blk_drewN ?_ _|refine blk_drew ?_|refine blk_alloc ?_ _));refine blk_far ?_ NB79_1032.out _;(with_reducible repeat (first|refine blk_drewN ?_ _|refine blk_drew ?_|refine blk_alloc ?_ _));refine blk_far ?_ NB79_1032.out _;(with_reducible repeat (first|refine blk_drewN ?_ _|refine blk_drew ?_|refine blk_alloc ?_ _));refine blk_far ?_ NB79_1032.out _;(with_reducible repeat (first|refine blk_drewN ?_ _|refine blk_drew ?_|refine blk_alloc ?_ _));exact BK79.out) hb);replace BK81:=Aside0.mk (blk_below (g:=gb81) (o:=.cells #[.string t96,.string t101,.int .i64 t104,.slice Ao69 t102.length co69,.slice Ao70 t105.length co70] 26 (0,0)) (by (with_reducible repeat (first|refine blk_drewN ?_ _|refine blk_drew ?_|refine blk_alloc ?_ _));refine blk_put (cs:=#[.string t96,.string t101,.int .i64 t104,.slice Ao69 t102.length co69,.slice none 0 0]) ?_ 4 _ rfl;(with_reducible repeat (first|refine blk_drewN ?_ _|refine blk_drew ?_|refine blk_alloc ?_ _));refine blk_put (cs:=#[.string t96,.string t101,.int .i64 t104,.slice none 0 0,.slice none 0 0]) ?_ 3 _ rfl;(with_reducible repeat (first|refine blk_drewN ?_ _|refine blk_drew ?_|refine blk_alloc ?_ _));refine blk_put (cs:=#[.string t96,.string t101,.int .i64 0,.slice none 0 0,.slice none 0 0]) ?_ 2 _ rfl;(with_reducible repeat (first|refine blk_drewN ?_ _|refine blk_drew ?_|refine blk_alloc ?_ _));refine blk_put (cs:=#[.string t96,.string (⟨#[]⟩:ByteArray),.int .i64 0,.slice none 0 0,.slice none 0 0]) ?_ 1 _ rfl;(with_reducible repeat (first|refine blk_drewN ?_ _|refine blk_drew ?_|refine blk_alloc ?_ _));refine blk_put (cs:=#[.string (⟨#[]⟩:ByteArray),.string (⟨#[]⟩:ByteArray),.int .i64 0,.slice none 0 0,.slice none 0 0]) ?_ 0 _ rfl;(with_reducible repeat (first|refine blk_drewN ?_ _|refine blk_drew ?_|refine blk_alloc ?_ _));exact BK81.out) hb);replace HB:=Aside0.mk (below_step zb105 hb);(try clear hb);obtain ⟨hcz75_0,hcz75_1,hcz75_2,hcz75_3,hcz75_4,hfz75_0,hfz75_1,hfz75_2,hfz75_3,hfz75_4⟩:=zq5 BK79.out;have hnb76:=NB78_992.out;have hnc76:=NB80_1006.out;obtain ⟨hcz77_0,hcz77_1,hcz77_2,hcz77_3,hcz77_4,hfz77_0,hfz77_1,hfz77_2,hfz77_3,hfz77_4⟩:=zq5 BK78.out)|(go_at_call 25;(with_reducible refine (tollbarref01_SameBytes.calls kj33 _ _ t86 _ _ t82 t110 _ ?side1 ?side2 ?side3 ?side4 A61.out).mono ?_);(case side1=>repeat (first|exact (Kd.R_reads' HO_97.out).2.2|(with_reducible refine Kd.C_alloc ?_ _)|(with_reducible refine Kd.C_drewN ?_ _)|(with_reducible refine Kd.C_drew ?_)));(case side2=>exact (Kd.R_reads' HO_97.out).2.1);(case side3=>exact zb133);(case side4=>exact (Kd.R_reads' HO_84.out).2.1);rintro e w' ⟨rfl,⟨nd,rfl⟩⟩;(try clear A61)))
         go_ret
         exact ⟨zb2,zb105⟩
        ·replace c60:=Bool.eq_false_iff.mpr c60
         subst c60
         rw [if_neg (show ¬ (false=true) by decide)] at H
         exact absurd ((Option.some.inj H).trans HRT.out) zb47
       ·rw [if_neg c57] at H
        have c57b0:=beq_eq_false_iff_ne.mpr c57
        have c57b1:=bne_iff_ne.mpr c57
        exact absurd ((Option.some.inj H).trans HRT.out) zb47
end Go.Proofs.YtagffbblalldiaaGreatDoor.P
namespace Go.Proofs.YtagffbblalldiaaGreatDoor.Pure
open Go.RowKit Go.Proofs.YtagffbblalldiaaGreatDoor.P Go.Proofs.YtagffbblalldiaaGreatDoorW.PrintWords Go.Proofs.YtagffbblalldiaaGreatDoorW.PrintLast Go.Proofs.YtagffbblalldiaaGreatDoorW.PrintMore
set_option linter.unusedVariables false
set_option linter.unusedSimpArgs false
theorem str_append (xs ys:List Int):strOfNums (xs ++ ys)=strOfNums xs ++ strOfNums ys:=by
 apply ByteArray.ext
 simp [strOfNums]
theorem str_size (xs:List Int):(strOfNums xs).size=xs.length:=strOfNums_size xs
theorem rd_append_left (l x:List Int) (i:Int) (h0:0 ≤ i) (h:i < (l.length:Int)):rd (l ++ x) i=rd l i:=by
 unfold rd
 rw [List.getD_eq_getElem?_getD,List.getD_eq_getElem?_getD,List.getElem?_append_left (by omega)]
theorem rd_append_right (l x:List Int) (i:Int) (h:(l.length:Int) ≤ i):rd (l ++ x) i=rd x (i - l.length):=by
 unfold rd
 rw [List.getD_eq_getElem?_getD,List.getD_eq_getElem?_getD,List.getElem?_append_right (by omega)]
 congr 2
 omega
theorem take_two (l:List Int) (i:Int) (h0:0 ≤ i) (h:i + 1 < (l.length:Int)):l.take (i + 2).toNat=l.take i.toNat ++ [rd l i,rd l (i + 1)]:=by
 obtain ⟨n,rfl⟩:=Int.eq_ofNat_of_zero_le h0
 have e1:((n:Int) + 2).toNat=n + 1 + 1:=by omega
 have h1:n + 1 < l.length:=by omega
 rw [e1,List.take_succ_eq_append_getElem h1,List.take_succ_eq_append_getElem (by omega)]
 have e2:((n:Int) + 1).toNat=n + 1:=by omega
 simp only [Int.toNat_natCast,rd,e2,List.getD_eq_getElem?_getD,List.getElem?_eq_getElem h1,List.getElem?_eq_getElem (show n < l.length by omega),Option.getD_some,List.append_assoc,List.cons_append,List.nil_append]
theorem w64 {i:Int} {n:Nat} (c:Int) (h0:0 ≤ i) (h:i < (n:Int)) (hn:n ≤ 140737488355328) (hc0 : -3 ≤ c) (hc:c ≤ 3):wrap64 (i + c)=i + c:=by
 unfold wrap64;omega
theorem toList_data (s:ByteArray):s.toList=s.data.toList:=by
 simp [ByteArray.toList_eq]
theorem isEmpty_size (s:ByteArray):s.toList.isEmpty=decide (s.size=0):=by
 rw [toList_data,Bool.eq_iff_iff,List.isEmpty_iff,decide_eq_true_eq,← data_length]
 exact List.length_eq_zero_iff.symm
theorem bytes_app (a b:ByteArray):bytesOf (a ++ b)=bytesOf a ++ bytesOf b:=by
 unfold bytesOf
 rw [ByteArray.data_append,Array.toList_append,List.map_append]
def mkS (l:List UInt8):ByteArray:=⟨l.toArray⟩
theorem mkS_data (l:List UInt8):(mkS l).data.toList=l:=by simp [mkS]
theorem mkS_self (s:ByteArray):mkS s.data.toList=s:=by simp [mkS]
theorem mkS_size (l:List UInt8):(mkS l).size=l.length:=by rw [← data_length,mkS_data]
theorem mkS_toList (l:List UInt8):(mkS l).toList=l:=by rw [toList_data,mkS_data]
theorem wn0 (n:Nat) (h:n ≤ 4398046511104):wrap64 ((n:Int) + 0)=(n:Int):=by unfold wrap64;omega
theorem wn1 (n:Nat) (h:n ≤ 4398046511104):wrap64 ((n:Int) + 1)=(n:Int) + 1:=by unfold wrap64;omega
theorem wnm (n:Nat) (h:n ≤ 4398046511104):wrap64 ((n:Int) + 1 - 1)=(n:Int):=by unfold wrap64;omega
theorem wi1 (i:Int) (h0:0 ≤ i) (h:i ≤ 4398046511104):wrap64 (i + 1)=i + 1:=by unfold wrap64;omega
theorem rdOf_mk (ps:List (List UInt8)) (i:Int) (h0:0 ≤ i) (h:i < (ps.length:Int)):rdOf ByteArray.empty (ps.map mkS) i=mkS (ps.getD i.toNat []):=by
 unfold rdOf
 rw [List.getD_eq_getElem?_getD,List.getElem?_map,List.getD_eq_getElem?_getD,List.getElem?_eq_getElem (by omega)]
 rfl
theorem bt_mk (l:List UInt8) (i:Nat) (h:i < l.length):bt (mkS l) i=((l[i]).toNat:Int):=by
 unfold bt
 have hs:(mkS l).size=l.length:=mkS_size l
 rw [dif_pos (by rw [Int.toNat_natCast];omega)]
 have:(mkS l)[((i:Nat):Int).toNat]'(by rw [Int.toNat_natCast];omega)=l[i]:=by simp [mkS,ByteArray.getElem_eq_getElem_data]
 rw [this]
theorem mkS_extract (l:List UInt8) (a b:Nat):(mkS l).extract a b=mkS ((l.drop a).take (b - a)):=by
 rw [← mkS_self ((mkS l).extract a b),Lib.extract_data,mkS_data]
theorem mkS_bytes (l:List UInt8):bytesOf (mkS l)=l.map fun b=>(b.toNat:Int):=by unfold bytesOf;rw [mkS_data]
theorem toList_mk (s:ByteArray):s.toList=s.data.toList:=by simp [ByteArray.toList_eq]
theorem mkS_append (a b:List UInt8):mkS a ++ mkS b=mkS (a ++ b):=by
 apply ByteArray.ext
 simp [mkS]
theorem toList_inj {a b:ByteArray} (h:a.toList=b.toList):a=b:=by
 rw [toList_mk,toList_mk] at h
 rw [← mkS_self a,h,mkS_self]
theorem str_bytes (l:List UInt8):strOfNums (l.map fun b=>(b.toNat:Int))=mkS l:=by
 unfold strOfNums mkS
 rw [List.map_map]
 congr 2
 conv=>rhs;rw [← List.map_id l]
 exact List.map_congr_left fun b _=>by simp
theorem index_append (sp:UInt8) (a b:List UInt8) (h:sp ∉ a):Lib.indexByte (a ++ sp :: b) sp=a.length:=by
 induction a with
 | nil=>simp [Lib.indexByte]
 | cons c a ih =>
  have hc:c ≠ sp:=fun e=>h (e ▸ List.mem_cons_self ..)
  have hb:(c == sp)=false:=by simpa using hc
  have h3:=ih (fun e=>h (List.mem_cons_of_mem _ e))
  have hn:((a.length:Int) == -1)=false:=by simp only [beq_eq_false_iff_ne];omega
  simp [Lib.indexByte,hb,h3,hn]
theorem index_none (sp:UInt8) (a:List UInt8) (h:sp ∉ a):Lib.indexByte a sp = -1:=by
 induction a with
 | nil=>simp [Lib.indexByte]
 | cons c a ih =>
  have hc:c ≠ sp:=fun e=>h (e ▸ List.mem_cons_self ..)
  have hb:(c == sp)=false:=by simpa using hc
  have h3:=ih (fun e=>h (List.mem_cons_of_mem _ e))
  simp [Lib.indexByte,hb,h3]
theorem slIndex (s:List UInt8) (sp:UInt8):stringslite_Index.f (mkS s) ⟨#[sp]⟩=some (Lib.indexByte s sp):=by
 show some (Lib.indexByte (mkS s).data.toList sp)=_
 rw [mkS_data]
theorem Cut_no (sp:UInt8) (s:List UInt8) (h:sp ∉ s):strings_Cut.f (mkS s) ⟨#[sp]⟩=some (mkS s,(⟨#[]⟩:ByteArray),false):=by
 unfold strings_Cut.f stringslite_Cut.f
 rw [slIndex,index_none sp s h,Option.bind_some,if_neg (by decide),Option.bind_some]
theorem Cut_yes (sp:UInt8) (a b:List UInt8) (h:sp ∉ a) (hn:(a ++ sp :: b).length ≤ 140737488355328):strings_Cut.f (mkS (a ++ sp :: b)) ⟨#[sp]⟩=some (mkS a,mkS b,true):=by
 unfold strings_Cut.f stringslite_Cut.f
 have hl:(a ++ sp :: b).length=a.length + b.length + 1:=by rw [List.length_append,List.length_cons];omega
 rw [hl] at hn
 have h1:((⟨#[sp]⟩:ByteArray).size:Int)=1:=rfl
 have hw:wrap64 ((a.length:Int) + 1)=(a.length:Int) + 1:=by unfold wrap64;omega
 have e1:((a.length:Int) + 1).toNat=a.length + 1:=by omega
 rw [slIndex,index_append sp a b h,Option.bind_some,h1,hw,mkS_size,hl,if_pos (by omega),if_pos (by omega),if_pos (by omega),if_pos (by omega),if_pos (by omega),Option.bind_some,e1,Int.toNat_natCast,mkS_extract,mkS_extract,List.drop_zero,Nat.sub_zero,List.take_left,← List.drop_drop,List.drop_left]
 rw [show List.drop 1 (sp :: b)=b from rfl,List.take_of_length_le (by omega)]
/-- What stands ahead of the first sp,and behind it. -/
theorem split_first (sp:UInt8) (s:List UInt8):sp ∉ s ∨ ∃ a b,s=a ++ sp :: b∧sp ∉ a:=by
 induction s with
 | nil=>exact .inl (by simp)
 | cons c s ih =>
  by_cases hc:c=sp
  ·exact .inr ⟨[],s,by rw [hc];rfl,by simp⟩
  ·rcases ih with h|⟨a,b,rfl,h⟩
   ·refine .inl fun hm=>?_
    rcases List.mem_cons.1 hm with e|e
    ·exact hc e.symm
    ·exact h e
   ·refine .inr ⟨c :: a,b,rfl,fun hm=>?_⟩
    rcases List.mem_cons.1 hm with e|e
    ·exact hc e.symm
    ·exact h e
def tokB (c:Int):Bool:=(sign_Token_1.f c).getD false
def valB (c:Int):Bool:=(sign_Value_1.f c).getD false
theorem Token_f (s:ByteArray) (h:s.size ≤ 140737488355328):sign_Token.f s=some (!s.toList.isEmpty && (bytesOf s).all tokB):=if_pos h
theorem Value_f (s:ByteArray) (h:s.size ≤ 140737488355328):sign_Value.f s=some ((bytesOf s).all valB):=if_pos h
/-- Is a byte a blank? -/
def blk (b:UInt8):Bool:=([32,9]:List UInt8).contains b
/-- A text without blanks at its ends. -/
def trm (l:List UInt8):List UInt8:=(l.reverse.dropWhile blk).reverse.dropWhile blk
/-- No blank at either end. -/
def Clean (l:List UInt8):Prop:=(∀ a,l.head? = some a → blk a=false) ∧ ∀ a,l.getLast? = some a → blk a=false
theorem dw_self {p:UInt8 → Bool} {l:List UInt8} (h : ∀ a,l.head? = some a → p a=false):l.dropWhile p=l:=by
 cases l with
 | nil=>rfl
 | cons a l=>simp [List.dropWhile,h a rfl]
theorem dw_head (p:UInt8 → Bool) (l:List UInt8) : ∀ a,(l.dropWhile p).head? = some a → p a=false:=by
 induction l with
 | nil=>intro a h;simp at h
 | cons b l ih =>
  intro a h
  cases hb:p b
  ·simp [List.dropWhile,hb] at h;rw [← h];exact hb
  ·simp only [List.dropWhile,hb] at h;exact ih a h
theorem dw_append {p:UInt8 → Bool} (pre t:List UInt8) (h : ∀ a ∈ pre,p a=true):(pre ++ t).dropWhile p=t.dropWhile p:=by
 induction pre with
 | nil=>rfl
 | cons b l ih =>
  simp only [List.cons_append,List.dropWhile,h b (List.mem_cons_self ..)]
  exact ih (fun a ha=>h a (List.mem_cons_of_mem _ ha))
theorem dw_split (p:UInt8 → Bool) (l:List UInt8) : ∃ pre,l=pre ++ l.dropWhile p ∧ ∀ a ∈ pre,p a=true:=by
 induction l with
 | nil=>exact ⟨[],rfl,by simp⟩
 | cons b l ih =>
  obtain ⟨pre,h,hp⟩:=ih
  cases hb:p b
  ·exact ⟨[],by simp [List.dropWhile,hb],by simp⟩
  ·refine ⟨b :: pre,by simp only [List.dropWhile,hb,List.cons_append];rw [← h],?_⟩
   intro a ha
   rcases List.mem_cons.1 ha with rfl|ha
   ·exact hb
   ·exact hp a ha
theorem trm_clean (l:List UInt8):Clean (trm l):=by
 refine ⟨dw_head _ _,fun a ha=>?_⟩
 obtain ⟨pre,h,_⟩:=dw_split blk (l.reverse.dropWhile blk).reverse
 have hl:(l.reverse.dropWhile blk).reverse.getLast? = some a:=by
  rw [h,List.getLast?_append]
  unfold trm at ha
  rw [ha]
  rfl
 rw [List.getLast?_reverse] at hl
 exact dw_head _ _ a hl
theorem trm_self {l:List UInt8} (h:Clean l):trm l=l:=by
 unfold trm
 rw [dw_self (l:=l.reverse) (by intro a ha;rw [List.head?_reverse] at ha;exact h.2 a ha),List.reverse_reverse,dw_self h.1]
theorem trm_around (pre t post : List UInt8) (ht : Clean t) (h1 : ∀ a ∈ pre, blk a = true) (h2 : ∀ a ∈ post, blk a = true) : trm (pre ++ t ++ post) = t := by
  unfold trm
  rw [List.reverse_append, dw_append _ _ (by intro a ha; exact h2 a (List.mem_reverse.1 ha)), List.reverse_append]
  by_cases he : t = []
  · subst he
    have := dw_append (p := blk) pre.reverse [] (by intro a ha; exact h1 a (List.mem_reverse.1 ha))
    simp only [List.append_nil] at this
    simp [this]
  · have : (t.reverse ++ pre.reverse).dropWhile blk = t.reverse ++ pre.reverse := dw_self (by
      intro a ha
      rw [List.head?_append] at ha
      obtain ⟨b, hb⟩ : ∃ b, t.reverse.head? = some b := by
        cases hh : t.reverse with
        | nil => exact absurd (List.reverse_eq_nil_iff.1 hh) he
        | cons b _ => exact ⟨b, rfl⟩
      rw [hb] at ha
      obtain rfl : b = a := by simpa using ha
      rw [List.head?_reverse] at hb
      exact ht.2 _ hb)
    rw [this, List.reverse_append, List.reverse_reverse, List.reverse_reverse, dw_append _ _ h1, dw_self ht.1]
theorem trm_length (l:List UInt8):(trm l).length ≤ l.length:=by
 unfold trm
 have h1:((l.reverse.dropWhile blk).reverse.dropWhile blk).length ≤ (l.reverse.dropWhile blk).reverse.length:=(List.dropWhile_suffix _).length_le
 have h2:(l.reverse.dropWhile blk).length ≤ l.reverse.length:=(List.dropWhile_suffix _).length_le
 rw [List.length_reverse] at h1 h2
 omega
theorem Trim_f (s:ByteArray) (h:s.size ≤ 9223372036854775807):sign_Trim.f s=some ⟨(trm s.data.toList).toArray⟩:=by
 unfold sign_Trim.f strings_Trim.f
 rw [if_pos ⟨h,by decide,by decide⟩]
 rfl
/-- Is a field right? -/
def rightB (a t:ByteArray):Bool:=decide (a.size ≤ 100) && ((!a.toList.isEmpty && (bytesOf a).all tokB) && (decide (t.size ≤ 1000) && ((bytesOf t).all valB && (mkS (trm t.data.toList)).toList == t.toList)))
theorem Trim_mk (s:ByteArray) (h:s.size ≤ 9223372036854775807):sign_Trim.f s=some (mkS (trm s.data.toList)):=Trim_f s h
theorem field_right_f (a t:ByteArray):field_right.f a t=some (rightB a t):=by
 unfold field_right.f rightB
 by_cases h1:(a.size:Int) ≤ 100
 ·rw [if_pos h1,Token_f a (by omega),Option.bind_some,decide_eq_true (show a.size ≤ 100 by omega),Bool.true_and]
  cases hT:(!a.toList.isEmpty && (bytesOf a).all tokB)
  ·rw [if_neg (by simp),Bool.false_and]
  ·rw [if_pos rfl,Bool.true_and]
   by_cases h2:(t.size:Int) ≤ 1000
   ·rw [if_pos h2,Value_f t (by omega),Option.bind_some,decide_eq_true (show t.size ≤ 1000 by omega),Bool.true_and]
    cases (bytesOf t).all valB
    ·rw [if_neg (by simp),Bool.false_and]
    ·rw [if_pos rfl,Bool.true_and,Trim_mk t (by omega),Option.bind_some]
   ·rw [if_neg h2,decide_eq_false (show ¬ t.size ≤ 1000 by omega),Bool.false_and]
 ·rw [if_neg h1,decide_eq_false (show ¬ a.size ≤ 100 by omega),Bool.false_and]
def fieldOk (l:List UInt8):Bool:=if 58 ∈ l then rightB (mkS (l.takeWhile (· != 58))) (mkS (trm ((l.dropWhile (· != 58)).drop 1))) else false
theorem take_first (sp:UInt8) (a b:List UInt8) (h:sp ∉ a):(a ++ sp :: b).takeWhile (· != sp)=a∧((a ++ sp :: b).dropWhile (· != sp)).drop 1=b:=by
 induction a with
 | nil=>simp [List.takeWhile_cons,List.dropWhile_cons]
 | cons x a ih =>
  have hx:x ≠ sp:=fun e=>h (by rw [e];exact List.mem_cons_self ..)
  have:=ih (fun e=>h (List.mem_cons_of_mem _ e))
  simp only [List.cons_append,List.takeWhile_cons,List.dropWhile_cons,bne_iff_ne,ne_eq,hx,not_false_eq_true,if_true]
  exact ⟨by rw [this.1],this.2⟩
theorem fieldOk_no (l:List UInt8) (h:58 ∉ l):fieldOk l=false:=by unfold fieldOk;rw [if_neg h]
theorem fieldOk_yes (a b:List UInt8) (h:58 ∉ a):fieldOk (a ++ 58 :: b)=rightB (mkS a) (mkS (trm b)):=by
 unfold fieldOk
 obtain ⟨e1,e2⟩:=take_first 58 a b h
 rw [if_pos (by simp),e1,e2]
theorem field_f (l:List UInt8) (hn:l.length ≤ 140737488355328) : ∃ x y,field_Parse.f (mkS l)=some (x,y,if fieldOk l=true then 0 else 20):=by
 unfold field_Parse.f
 rcases split_first 58 l with h|⟨a,b,rfl,h⟩
 ·rw [Cut_no 58 l h,Option.bind_some,fieldOk_no l h]
  simp only
  rw [Trim_mk _ (by decide),Option.bind_some]
  exact ⟨_,_,rfl⟩
 ·rw [Cut_yes 58 a b h hn,Option.bind_some,fieldOk_yes a b h]
  simp only
  rw [Trim_mk _ (by rw [mkS_size];rw [List.length_append,List.length_cons] at hn;omega),Option.bind_some,if_pos trivial,field_right_f,Option.bind_some,mkS_data]
  cases rightB (mkS a) (mkS (trm b)) <;> exact ⟨_,_,rfl⟩
/-- The line at the place i of l,with the bound m;d bytes are left. -/
def cutAt (l:List Int) (m:Int):Nat → Int → (ByteArray × Int × Int)
 | 0,_=>((⟨#[]⟩:ByteArray),0,0)
 | d + 1,i =>
  if rd l i=10 then ((⟨#[]⟩:ByteArray),0,20)
  else if rd l i=13 then
   (if i + 1 < (l.length:Int) then (if rd l (i + 1)=10 then (strOfNums (l.take i.toNat),i + 2,0) else ((⟨#[]⟩:ByteArray),0,20)) else ((⟨#[]⟩:ByteArray),0,0))
  else if m ≤ i then ((⟨#[]⟩:ByteArray),0,2) else cutAt l m d (i + 1)
theorem cut_l0 (l:List Int) (a:Int) (hn:l.length ≤ 140737488355328) (d:Nat) : ∀ (k:Nat) (i:Int),0 ≤ i → (l.length:Int) - i=d → 3 * d + 3 ≤ k →
 line_Cut.l0 k l a l (l.length:Int) i=some (cutAt l (mx a 0) d i):=by
 induction d with
 | zero =>
  intro k i h0 hd hk
  obtain ⟨k,rfl⟩ : ∃ m,k=m + 1:=⟨k - 1,by omega⟩
  simp only [line_Cut.l0,cutAt];rw [if_neg (by omega)]
 | succ d ih =>
  intro k i h0 hd hk
  obtain ⟨k,rfl⟩ : ∃ m,k=m + 3:=⟨k - 3,by omega⟩
  have hlt:i < (l.length:Int):=by omega
  have hw1:wrap64 (i + 1)=i + 1:=w64 1 h0 hlt hn (by omega) (by omega)
  have hw2:wrap64 (i + 2)=i + 2:=w64 2 h0 hlt hn (by omega) (by omega)
  have ih' := ih k (i + 1) (by omega) (by omega) (by omega)
  unfold line_Cut.l0
  rw [if_pos hlt,if_pos h0,if_pos hlt]
  unfold line_Cut.j1 line_Cut.j2
  simp only [cutAt,hw1,hw2,ih']
  by_cases h10:rd l i=10
  ·simp [h10]
  ·rw [if_neg h10]
   by_cases h13:rd l i=13
   ·simp only [h13]
    by_cases h1:i + 1 < (l.length:Int)
    ·by_cases hr:rd l (i + 1)=10
     ·have hne : ¬ (i + 1=(l.length:Int)):=by omega
      have hle:i ≤ (l.length:Int):=by omega
      have h01:0 ≤ i + 1:=by omega
      simp [h1,hr,hne,hle,h01,h0]
     ·have h01:0 ≤ i + 1:=by omega
      simp [h1,hr,h01]
    ·have he:i + 1=(l.length:Int):=by omega
     simp [he]
   ·simp only [h13,if_false,h10]
    by_cases hm:mx a 0 ≤ i
    ·simp [hm]
    ·simp [hm]
/-- What Cut tells. -/
def cutSpec (l:List Int) (a:Int):(ByteArray × Int × Int):=cutAt l (mx a 0) l.length 0
theorem cut_f (l:List Int) (a:Int) (hn:l.length ≤ 140737488355328) (k:Nat) (hk:3 * l.length + 3 ≤ k):line_Cut.f k l a=some (cutSpec l a):=by
 unfold line_Cut.f cutSpec
 exact cut_l0 l a hn l.length k 0 (by omega) (by omega) hk
theorem cutA_shape (l:List Int) (m:Int) (d:Nat) : ∀ (i:Int),0 ≤ i → (l.length:Int) - i=d →
 ((cutAt l m d i).2.1 > 0∧(cutAt l m d i).2.1 ≤ l.length∧strOfNums (l.take (cutAt l m d i).2.1.toNat)=(cutAt l m d i).1 ++ (⟨#[13,10]⟩:ByteArray)∧((cutAt l m d i).1.size:Int)=(cutAt l m d i).2.1 - 2∧(cutAt l m d i).2.2=0)
 ∨ ((cutAt l m d i).2.1=0∧(cutAt l m d i).1=(⟨#[]⟩:ByteArray)):=by
 induction d with
 | zero=>intro i h0 hd;right;simp [cutAt]
 | succ d ih =>
  intro i h0 hd
  have hlt:i < (l.length:Int):=by omega
  have ih' := ih (i + 1) (by omega) (by omega)
  simp only [cutAt]
  by_cases h10:rd l i=10
  ·simp [h10]
  ·rw [if_neg h10]
   by_cases h13:rd l i=13
   ·rw [if_pos h13]
    by_cases h1:i + 1 < (l.length:Int)
    ·rw [if_pos h1]
     by_cases hr:rd l (i + 1)=10
     ·rw [if_pos hr]
      left
      refine ⟨by show i + 2 > 0;omega,by show i + 2 ≤ _;omega,?_,?_,rfl⟩
      ·show strOfNums (l.take (i + 2).toNat)=_
       rw [take_two l i h0 h1,str_append,h13,hr]
       rfl
      ·show ((strOfNums (l.take i.toNat)).size:Int)=i + 2 - 2
       rw [str_size,List.length_take]
       omega
     ·rw [if_neg hr];right;exact ⟨rfl,rfl⟩
    ·rw [if_neg h1];right;exact ⟨rfl,rfl⟩
   ·rw [if_neg h13]
    by_cases hm:m ≤ i
    ·rw [if_pos hm];right;exact ⟨rfl,rfl⟩
    ·rw [if_neg hm];exact ih'
theorem cutS_shape (l:List Int) (m:Int) :
 (cutSpec l m).2.1 > 0∧(cutSpec l m).2.1 ≤ l.length∧((cutSpec l m).1.size:Int)=(cutSpec l m).2.1 - 2∧(cutSpec l m).2.2=0 ∨ (cutSpec l m).2.1=0∧(cutSpec l m).1=(⟨#[]⟩:ByteArray):=by
 rcases cutA_shape l (mx m 0) l.length 0 (by omega) (by omega) with h|h
 ·exact Or.inl ⟨h.1,h.2.1,h.2.2.2.1,h.2.2.2.2⟩
 ·exact Or.inr h
theorem fold_tells (s:ByteArray) (hn:s.size ≤ 140737488355328):sign_Fold.f s=some (strOfNums ((bytesOf s).map foldC)):=if_pos hn
def Bytes (xs:List Int):Prop := ∀ x ∈ xs,0 ≤ x∧x ≤ 255
theorem bytes_of (s:ByteArray):Bytes (bytesOf s):=by
 intro x hx
 obtain ⟨b,_,rfl⟩:=List.mem_map.1 hx
 have:=b.toNat_lt
 omega
theorem foldC_byte (x:Int) (h0:0 ≤ x) (h1:x ≤ 255):0 ≤ foldC x∧foldC x ≤ 255:=by unfold foldC;split <;> omega
theorem bytes_fold {xs:List Int} (h:Bytes xs):Bytes (xs.map foldC):=by
 intro x hx
 obtain ⟨y,hy,rfl⟩:=List.mem_map.1 hx
 exact foldC_byte y (h y hy).1 (h y hy).2
theorem bytes_str {xs:List Int} (h:Bytes xs):bytesOf (strOfNums xs)=xs:=by
 unfold bytesOf
 rw [strOfNums_data,List.map_map]
 conv=>rhs;rw [← List.map_id xs]
 refine List.map_congr_left fun x hx=>?_
 have:=h x hx
 show ((UInt8.ofNat x.toNat).toNat:Int)=x
 rw [UInt8.toNat_ofNat']
 omega
theorem str_inj {xs ys:List Int} (hx:Bytes xs) (hy:Bytes ys):((strOfNums xs).toList == (strOfNums ys).toList)=decide (xs=ys):=by
 rw [Bool.eq_iff_iff,beq_iff_eq,decide_eq_true_eq]
 refine ⟨fun e=>?_,fun e=>by rw [e]⟩
 rw [← bytes_str hx,← bytes_str hy]
 unfold bytesOf
 rw [← toList_data,← toList_data,e]
theorem same_tells (a b:ByteArray) (ha:a.size ≤ 140737488355328) (hb:b.size ≤ 140737488355328):sign_Same.f a b=some (decide ((bytesOf a).map foldC=(bytesOf b).map foldC)):=by
 unfold sign_Same.f
 by_cases h:(a.size:Int)=b.size
 ·rw [if_pos h,fold_tells a ha,Option.bind_some,fold_tells b hb,Option.bind_some,str_inj (bytes_fold (bytes_of a)) (bytes_fold (bytes_of b))]
 ·rw [if_neg h]
  have hne : ¬ ((bytesOf a).map foldC=(bytesOf b).map foldC):=by
   intro e
   have:=congrArg List.length e
   rw [List.length_map,List.length_map,bytesOf_length,bytesOf_length] at this
   omega
  rw [decide_eq_false hne]
/-- How many commas. -/
def cntC (sp:UInt8):List UInt8 → Nat
 | []=>0
 | c :: l=>if c=sp then cntC sp l + 1 else cntC sp l
theorem cntC_count {sp:UInt8} (l:List UInt8):l.count sp=cntC sp l:=by
 induction l with
 | nil=>rfl
 | cons c l ih=>rw [List.count_cons,ih];by_cases hc:c=sp <;> simp [cntC,hc]
theorem cntC_append {sp:UInt8} (a b:List UInt8):cntC sp (a ++ b)=cntC sp a + cntC sp b:=by
 rw [← cntC_count,← cntC_count,← cntC_count,List.count_append]
theorem cntC_none {sp:UInt8} (l:List UInt8):cntC sp l=0 ↔ sp ∉ l:=by rw [← cntC_count];exact List.count_eq_zero
theorem cntC_le {sp:UInt8} (l:List UInt8):cntC sp l ≤ l.length:=by rw [← cntC_count];exact List.count_le_length
/-- The parts between commas. -/
def pcs (sp:UInt8):List UInt8 → List (List UInt8)
 | []=>[[]]
 | c :: l=>if c=sp then [] :: pcs sp l else (match pcs sp l with|p :: ps=>(c :: p) :: ps|[]=>[[c]])
theorem pcs_ne {sp:UInt8} (l:List UInt8) : ∃ p ps,pcs sp l=p :: ps:=by
 induction l with
 | nil=>exact ⟨[],[],rfl⟩
 | cons c l ih =>
  obtain ⟨p,ps,h⟩:=ih
  by_cases hc:c=sp
  ·exact ⟨[],pcs sp l,by simp [pcs,hc]⟩
  ·exact ⟨c :: p,ps,by simp [pcs,hc,h]⟩
theorem pcs_none {sp:UInt8} (l:List UInt8) (h:sp ∉ l):pcs sp l=[l]:=by
 induction l with
 | nil=>rfl
 | cons c l ih =>
  have hc:c ≠ sp:=fun e=>h (e ▸ List.mem_cons_self ..)
  simp [pcs,hc,ih (fun e=>h (List.mem_cons_of_mem _ e))]
theorem pcs_append {sp:UInt8} (a b:List UInt8):pcs sp (a ++ sp :: b)=pcs sp a ++ pcs sp b:=by
 induction a with
 | nil=>simp [pcs]
 | cons c a ih =>
  by_cases hc:c=sp
  ·simp [pcs,hc,ih]
  ·obtain ⟨p,ps,hp⟩:=pcs_ne (sp:=sp) a
   simp [pcs,hc,ih,hp]
theorem pcs_length {sp:UInt8} (l:List UInt8):(pcs sp l).length=cntC sp l + 1:=by
 induction l with
 | nil=>rfl
 | cons c l ih =>
  by_cases hc:c=sp
  ·simp [pcs,cntC,hc,ih]
  ·obtain ⟨p,ps,hp⟩:=pcs_ne (sp:=sp) l
   rw [hp] at ih
   simp only [pcs,hc,if_false,hp,cntC]
   simpa using ih
theorem pcs_no {sp:UInt8} (l:List UInt8) : ∀ p ∈ pcs sp l,sp ∉ p:=by
 induction l with
 | nil=>intro p hp;simp [pcs] at hp;simp [hp]
 | cons c l ih =>
  intro p hp
  by_cases hc:c=sp
  ·simp only [pcs,hc,if_true] at hp
   rcases List.mem_cons.1 hp with rfl|hp
   ·simp
   ·exact ih p hp
  ·obtain ⟨q,qs,hq⟩:=pcs_ne (sp:=sp) l
   simp only [pcs,hc,if_false,hq] at hp
   rcases List.mem_cons.1 hp with rfl|hp
   ·intro h
    rcases List.mem_cons.1 h with h|h
    ·exact hc h.symm
    ·exact ih q (by rw [hq];exact List.mem_cons_self ..) h
   ·exact ih p (by rw [hq];exact List.mem_cons_of_mem _ hp)
theorem pcs_le {sp:UInt8} (l:List UInt8) : ∀ p ∈ pcs sp l,p.length ≤ l.length:=by
 induction l with
 | nil=>intro p hp;simp [pcs] at hp;simp [hp]
 | cons c l ih =>
  intro p hp
  by_cases hc:c=sp
  ·simp only [pcs,hc,if_true] at hp
   rcases List.mem_cons.1 hp with rfl|hp
   ·simp
   ·have:=ih p hp;simp;omega
  ·obtain ⟨q,qs,hq⟩:=pcs_ne (sp:=sp) l
   simp only [pcs,hc,if_false,hq] at hp
   rcases List.mem_cons.1 hp with rfl|hp
   ·have:=ih q (by rw [hq];exact List.mem_cons_self ..);simp;omega
   ·have:=ih p (by rw [hq];exact List.mem_cons_of_mem _ hp);simp;omega
/-- What Split tells. -/
theorem index_splitC {sp:UInt8} (l:List UInt8) (h:0 < cntC sp l) : ∃ a b,l=a ++ sp :: b∧sp ∉ a∧Lib.indexByte l sp=a.length:=by
 induction l with
 | nil=>simp [cntC] at h
 | cons c l ih =>
  by_cases hc:c=sp
  ·exact ⟨[],l,by simp [hc],by simp,by simp [Lib.indexByte,hc]⟩
  ·have h' : 0 < cntC sp l:=by simpa [cntC,hc] using h
   obtain ⟨a,b,h1,h2,h3⟩:=ih h'
   refine ⟨c :: a,b,by simp [h1],?_,?_⟩
   ·intro hm
    rcases List.mem_cons.1 hm with e|e
    ·exact hc e.symm
    ·exact h2 e
   ·have hb:(c == sp)=false:=by simpa using hc
    have hn:((a.length:Int) == -1)=false:=by simp only [beq_eq_false_iff_ne];omega
    simp [Lib.indexByte,hb,h3,hn]
theorem gs_endC {sp:UInt8} (k:Nat) (s:ByteArray) (x3:Int) (x9:List ByteArray) (i:Nat) (hc:sp ∉ s.data.toList) (hx:x3=i) (hl:x9.length=i + 1) (hi:i ≤ 4398046511104) :
 strings_genSplit.l0 (k + 1) s ⟨#[sp]⟩ 0 x3 x9 i=some (x9.take i ++ (pcs sp s.data.toList).map mkS):=by
 simp only [strings_genSplit.l0]
 rw [if_neg (by omega),if_pos (by omega),if_pos (by omega),wn1 i hi,if_pos (by omega),if_pos (by omega),pcs_none _ hc]
 have e1:((i:Int) + 1).toNat=i + 1:=by omega
 rw [e1,Int.toNat_natCast,List.take_succ_eq_append_getElem (by rw [List.length_set];omega),List.take_set_of_le (Nat.le_refl _)]
 simp [mkS_self]
theorem extract_midC {sp : UInt8} (s : ByteArray) (a b : List UInt8) (hab : s.data.toList = a ++ sp :: b) : (s.extract (a.length + 1) s.size).data.toList = b ∧ s.extract 0 a.length = mkS a ∧ (s.extract (a.length + 1) s.size).size ≤ s.size := by
  have e2 : (s.extract (a.length + 1) s.size).data.toList = b := by
    rw [Lib.extract_to_end, hab, ← List.drop_drop, List.drop_left]; rfl
  refine ⟨e2, ?_, ?_⟩
  · have : (s.extract 0 a.length).data.toList = a := by
      rw [Lib.extract_data, hab, List.drop_zero, Nat.sub_zero, List.take_left]
    rw [← mkS_self (s.extract 0 _), this]
  · have hlen : a.length + b.length + 1 = s.size := by rw [← data_length, hab]; simp; omega
    rw [← data_length, e2]
    omega
theorem gs_stepC {sp:UInt8} (k:Nat) (s:ByteArray) (x3:Int) (x9:List ByteArray) (i:Nat) (a b:List UInt8) (hab:s.data.toList=a ++ sp :: b) (hidx:Lib.indexByte s.data.toList sp=a.length) (hx:(i:Int) < x3) (hl:i < x9.length) (hs:s.size ≤ 4398046511104) (hi:i ≤ 4398046511104) :
 ∀ R,strings_genSplit.l0 k (s.extract (a.length + 1) s.size) ⟨#[sp]⟩ 0 x3 (x9.set i (mkS a)) ((i:Int) + 1)=R → strings_genSplit.l0 (k + 1) s ⟨#[sp]⟩ 0 x3 x9 i=R:=by
 intro R hR
 have hlen:a.length + b.length + 1=s.size:=by rw [← data_length,hab];simp;omega
 have hix:strings_Index.f s ⟨#[sp]⟩=some (a.length:Int):=by
  show some (Lib.indexByte s.data.toList sp)=_
  rw [hidx]
 have hs1:((⟨#[sp]⟩:ByteArray).size:Int)=1:=rfl
 have e1:((a.length:Int) + 1).toNat=a.length + 1:=by omega
 obtain ⟨_,e3,_⟩:=extract_midC s a b hab
 simp only [strings_genSplit.l0]
 rw [if_pos hx,hix]
 rw [Option.bind_some]
 rw [if_neg (by omega),wn0 _ (by omega),hs1,wn1 _ (by omega),if_pos (by omega),if_pos (by omega),if_pos (by omega),if_pos (by omega),if_pos (by omega),if_pos (by omega),wn1 i hi,e1,Int.toNat_natCast,Int.toNat_natCast,e3]
 exact hR
theorem gs_l0C {sp:UInt8} (d:Nat) : ∀ (k:Nat) (s:ByteArray) (x3:Int) (x9:List ByteArray) (i:Nat),cntC sp s.data.toList=d → x3=i + d → x9.length=i + d + 1 → d + 1 ≤ k → s.size ≤ 4398046511104 →
 i + d ≤ 4398046511104 → strings_genSplit.l0 k s ⟨#[sp]⟩ 0 x3 x9 i=some (x9.take i ++ (pcs sp s.data.toList).map mkS):=by
 induction d with
 | zero =>
  intro k s x3 x9 i hc hx hl hk hs hid
  obtain ⟨k,rfl⟩ : ∃ m,k=m + 1:=⟨k - 1,by omega⟩
  exact gs_endC k s x3 x9 i ((cntC_none _).1 hc) (by omega) (by omega) (by omega)
 | succ d ih =>
  intro k s x3 x9 i hc hx hl hk hs hid
  obtain ⟨k,rfl⟩ : ∃ m,k=m + 1:=⟨k - 1,by omega⟩
  obtain ⟨a,b,hab,ha,hidx⟩:=index_splitC (sp:=sp) s.data.toList (by omega)
  obtain ⟨e2,_,e4⟩:=extract_midC s a b hab
  have hcb:cntC sp b=d:=by
   rw [hab,cntC_append,(cntC_none a).2 ha] at hc
   simp only [cntC,if_true] at hc
   omega
  refine gs_stepC k s x3 x9 i a b hab hidx (by omega) (by omega) hs (by omega) _ ?_
  have:=ih k (s.extract (a.length + 1) s.size) x3 (x9.set i (mkS a)) (i + 1) (by rw [e2];exact hcb) (by omega) (by rw [List.length_set];omega) (by omega) (by omega) (by omega)
  rw [show (((i + 1:Nat)):Int)=(i:Int) + 1 by omega] at this
  rw [this,e2,hab,pcs_append,pcs_none a ha,List.take_succ_eq_append_getElem (by rw [List.length_set];omega),List.take_set_of_le (Nat.le_refl _)]
  simp
theorem gs_firstC {sp:UInt8} (k:Nat) (s:ByteArray) (hs:s.size ≤ 4398046511103) :
 ∀ R,strings_genSplit.l0 k s ⟨#[sp]⟩ 0 ((cntC sp s.data.toList:Nat):Int) (List.replicate (cntC sp s.data.toList + 1) (⟨#[]⟩:ByteArray)) 0=R → strings_genSplit.f (k + 1) s ⟨#[sp]⟩ 0 (-1)=R:=by
 intro R hR
 have hcl:=cntC_le (sp:=sp) s.data.toList
 rw [data_length] at hcl
 have hcf:strings_Count.f s ⟨#[sp]⟩=some ((cntC sp s.data.toList:Nat):Int):=by
  rw [← cntC_count];rfl
 obtain ⟨c,hc⟩ : ∃ c,c=cntC sp s.data.toList:=⟨_,rfl⟩
 rw [← hc] at hcf hcl hR
 have hm:mn ((c:Int) + 1) ((s.size:Int) + 1)=(c:Int) + 1:=by unfold mn;split <;> omega
 have e1:((c:Int) + 1).toNat=c + 1:=by omega
 have hne : ¬ ((⟨#[sp]⟩:ByteArray).toList=[]):=by rw [toList_data];simp
 unfold strings_genSplit.f
 rw [if_neg (by decide),if_neg hne,if_pos (by decide),hcf]
 rw [Option.bind_some]
 simp only [strings_genSplit.j0]
 rw [wn1 c (by omega),wn1 s.size (by omega),hm,wnm c (by omega),e1,if_pos (by omega),if_pos (by omega)]
 exact hR
theorem Split_fC {sp:UInt8} (s:ByteArray) (hs:s.size ≤ 4398046511103) (k:Nat) (hk:s.size + 3 ≤ k):strings_Split.f k s ⟨#[sp]⟩=some ((pcs sp s.data.toList).map mkS):=by
 obtain ⟨k,rfl⟩ : ∃ m,k=m + 1:=⟨k - 1,by omega⟩
 have hcl:=cntC_le (sp:=sp) s.data.toList
 rw [data_length] at hcl
 unfold strings_Split.f
 have:=gs_l0C (cntC sp s.data.toList) k s ((cntC sp s.data.toList:Nat):Int) (List.replicate (cntC sp s.data.toList + 1) (⟨#[]⟩:ByteArray)) 0 rfl (by omega) (by rw [List.length_replicate];omega) (by omega) (by omega) (by omega)
 rw [show ((0:Nat):Int)=0 from rfl] at this
 rw [gs_firstC k s hs _ this]
 simp
/-- The parts of a list: trimmed,the empty ones left out. -/
def commaParts (l:List UInt8):List (List UInt8):=((pcs 44 l).map trm).filter (fun p => !p.isEmpty)
theorem comma_one (l:List UInt8) (h:44 ∉ l):commaParts l=if (trm l).isEmpty then [] else [trm l]:=by
 rw [commaParts,pcs_none l h]
 cases ht:(trm l).isEmpty <;> simp [ht]
theorem split_step (ps:List (List UInt8)) (i:Int) (h0:0 ≤ i) (hlt:i < (ps.length:Int)):((ps.drop i.toNat).map trm).filter (fun p => !p.isEmpty)=(if trm (ps.getD i.toNat [])=[] then [] else [trm (ps.getD i.toNat [])]) ++ ((ps.drop (i + 1).toNat).map trm).filter (fun p => !p.isEmpty):=by
 have hl:i.toNat < ps.length:=by omega
 have hg:ps.getD i.toNat []=ps[i.toNat]:=by rw [List.getD_eq_getElem?_getD,List.getElem?_eq_getElem hl];rfl
 rw [hg,List.drop_eq_getElem_cons hl,show (i + 1).toNat=i.toNat + 1 by omega,List.map_cons,List.filter_cons]
 by_cases he:trm ps[i.toNat]=[]
 ·rw [if_pos he,he];rfl
 ·rw [if_neg he,if_pos (by simpa using he)];rfl
theorem split_l0 (ps:List (List UInt8)) (hl : ∀ p ∈ ps,p.length ≤ 4398046511104) (hn:ps.length ≤ 4398046511104) (d:Nat) : ∀ (k:Nat) (out:List ByteArray) (i:Int),0 ≤ i → (ps.length:Int) - i=d → d + 1 ≤ k → (out.length:Int) ≤ i →
 sign_Split.l0 k out (ps.map mkS) (ps.length:Int) i=some (out ++ (((ps.drop i.toNat).map trm).filter (fun p => !p.isEmpty)).map mkS):=by
 induction d with
 | zero =>
  intro k out i h0 hd hk ho
  obtain ⟨k,rfl⟩ : ∃ m,k=m + 1:=⟨k - 1,by omega⟩
  simp only [sign_Split.l0]
  rw [if_neg (by omega),List.drop_of_length_le (by omega)]
  simp
 | succ d ih =>
  intro k out i h0 hd hk ho
  obtain ⟨k,rfl⟩ : ∃ m,k=m + 1:=⟨k - 1,by omega⟩
  have hlt:i.toNat < ps.length:=by omega
  have hg:ps.getD i.toNat []=ps[i.toNat]:=by rw [List.getD_eq_getElem?_getD,List.getElem?_eq_getElem hlt];rfl
  have hlp:=hl _ (List.getElem_mem hlt)
  rw [← hg] at hlp
  rw [split_step ps i h0 (by omega)]
  simp only [sign_Split.l0]
  rw [if_pos (by omega),if_pos h0,if_pos (by rw [List.length_map];omega),rdOf_mk ps i h0 (by omega),Trim_f _ (by rw [mkS_size];omega),mkS_data]
  simp only [Option.bind_some,wi1 i h0 (by omega)]
  rw [show (⟨(trm (ps.getD i.toNat [])).toArray⟩:ByteArray)=mkS (trm (ps.getD i.toNat [])) from rfl,mkS_toList]
  by_cases he:trm (ps.getD i.toNat [])=[]
  ·rw [if_pos he,if_pos he,ih k out (i + 1) (by omega) (by omega) (by omega) (by omega)]
   rfl
  ·rw [if_neg he,if_neg he,if_pos (by omega),ih k _ (i + 1) (by omega) (by omega) (by omega) (by rw [List.length_append];simp;omega)]
   simp only [List.map_append,List.map_cons,List.map_nil,List.append_assoc]
theorem signSplit_f (s:ByteArray) (hs:s.size ≤ 4398046511103) (k:Nat) (hk:s.size + 3 ≤ k):sign_Split.f k s=some ((commaParts s.data.toList).map mkS):=by
 unfold sign_Split.f
 have hpl:=pcs_length (sp:=44) s.data.toList
 have hcl:=cntC_le (sp:=44) s.data.toList
 rw [data_length] at hcl
 rw [Split_fC s hs k hk]
 simp only [Option.bind_some,List.length_map]
 rw [split_l0 (pcs 44 s.data.toList) (fun p hp=>by have:=pcs_le _ p hp;rw [data_length] at this;omega) (by omega) (pcs 44 s.data.toList).length k [] 0 (by omega) (by omega) (by omega) (by simp)]
 rfl
theorem rdT_at (xs:List (S36)) (i:Nat) (h:i < xs.length):rd_T36 xs (i:Int)=xs[i]:=by
 unfold rd_T36
 rw [Int.toNat_natCast,List.getD_eq_getElem?_getD,List.getElem?_eq_getElem h];rfl
theorem rdB_at (xs:List ByteArray) (i:Nat) (h:i < xs.length):rdOf ByteArray.empty xs (i:Int)=xs[i]:=by
 unfold rdOf
 rw [Int.toNat_natCast,List.getD_eq_getElem?_getD,List.getElem?_eq_getElem h];rfl
/-- The same names. -/
def sameN (a b:ByteArray):Bool:=decide ((bytesOf a).map foldC=(bytesOf b).map foldC)
theorem same_f (a b:ByteArray) (ha:a.size ≤ 140737488355328) (hb:b.size ≤ 140737488355328):sign_Same.f a b=some (sameN a b):=same_tells a b ha hb
/-- Few fields,of short texts. -/
def FB (fs:List (S36)):Prop:=fs.length ≤ 1000 ∧ ∀ f ∈ fs,f.f0.size ≤ 1048576∧f.f1.size ≤ 1048576
/-- The values of a name. -/
def getS (name:ByteArray):List (S36) → List ByteArray
 | []=>[]
 | f :: r=>if sameN f.f0 name=true then f.f1 :: getS name r else getS name r
theorem getS_len (name:ByteArray) : ∀ fs,(getS name fs).length ≤ fs.length
 | []=>Nat.le_refl _
 | f :: r=>by rw [getS];have:=getS_len name r;split <;> simp only [List.length_cons] <;> omega
theorem getS_mem (name:ByteArray) : ∀ (fs:List (S36)) (v:ByteArray),v ∈ getS name fs → ∃ f ∈ fs,v=f.f1∧sameN f.f0 name=true
 | [],v,h=>by cases h
 | f :: r,v,h=>by
  rw [getS] at h
  by_cases hs:sameN f.f0 name=true
  ·rw [if_pos hs] at h
   rcases List.mem_cons.1 h with rfl|h
   ·exact ⟨f,List.mem_cons_self,rfl,hs⟩
   ·obtain ⟨g,hg,e⟩:=getS_mem name r v h;exact ⟨g,List.mem_cons_of_mem _ hg,e⟩
  ·rw [if_neg hs] at h
   obtain ⟨g,hg,e⟩:=getS_mem name r v h;exact ⟨g,List.mem_cons_of_mem _ hg,e⟩
theorem get_l0 (name:ByteArray) (hn:name.size ≤ 1048576) (fs:List (S36)) (hf:FB fs) (d:Nat) : ∀ (k i:Nat) (out:List ByteArray),i + d=fs.length → d < k → out.length ≤ i →
 field_Get.l0 k name out fs (fs.length:Int) (i:Int)=some (out ++ getS name (fs.drop i)):=by
 have hfl:=hf.1
 induction d with
 | zero =>
  intro k i out hi hk ho
  obtain ⟨k,rfl⟩ : ∃ m,k=m + 1:=⟨k - 1,by omega⟩
  rw [field_Get.l0,if_neg (by omega),List.drop_of_length_le (by omega),getS,List.append_nil]
 | succ d ih =>
  intro k i out hi hk ho
  obtain ⟨k,rfl⟩ : ∃ m,k=m + 1:=⟨k - 1,by omega⟩
  have hlt:i < fs.length:=by omega
  have hb:=hf.2 _ (List.getElem_mem hlt)
  have hw:wrap64 ((i:Int) + 1)=((i + 1:Nat):Int):=by unfold wrap64;omega
  rw [field_Get.l0,if_pos (by omega),if_pos (by omega),if_pos (by omega),rdT_at fs i hlt,same_f _ _ (by omega) (by omega),Option.bind_some,hw,List.drop_eq_getElem_cons hlt,getS]
  by_cases hs:sameN fs[i].f0 name=true
  ·rw [if_pos hs,if_pos hs,if_pos (by omega),ih k (i + 1) _ (by omega) (by omega) (by rw [List.length_append];simp;omega)]
   simp only [List.append_assoc,List.singleton_append]
  ·rw [if_neg hs,if_neg hs,ih k (i + 1) _ (by omega) (by omega) (by omega)]
theorem Get_f (fs:List (S36)) (name:ByteArray) (hf:FB fs) (hn:name.size ≤ 1048576) (k:Nat) (hk:fs.length < k):field_Get.f k fs name=some (getS name fs):=by
 have:=get_l0 name hn fs hf fs.length k 0 [] (by omega) hk (Nat.zero_le _)
 rw [List.drop_zero,List.nil_append] at this
 exact this
/-- A value's parts. -/
def partsS (v:ByteArray):List ByteArray:=(commaParts v.data.toList).map mkS
theorem comma_len (l:List UInt8):(commaParts l).length ≤ l.length + 1:=by
 unfold commaParts
 have h1:=List.length_filter_le (fun p => !p.isEmpty) ((pcs 44 l).map trm)
 rw [List.length_map,pcs_length] at h1
 have h2:=cntC_le (sp:=44) l
 omega
theorem parts_len (v:ByteArray):(partsS v).length ≤ v.size + 1:=by
 unfold partsS
 rw [List.length_map]
 have:=comma_len v.data.toList
 rw [data_length] at this
 exact this
theorem comma_size (l:List UInt8) : ∀ p ∈ commaParts l,p.length ≤ l.length:=by
 intro p hp
 unfold commaParts at hp
 obtain ⟨q,hq,rfl⟩:=List.mem_map.1 (List.mem_filter.1 hp).1
 exact Nat.le_trans (trm_length q) (pcs_le l q hq)
theorem parts_size (v:ByteArray) : ∀ p ∈ partsS v,p.size ≤ v.size:=by
 intro p hp
 obtain ⟨q,hq,rfl⟩:=List.mem_map.1 hp
 rw [mkS_size,← data_length]
 exact comma_size _ q hq
theorem list_l0 (vs:List ByteArray) (hl:vs.length ≤ 1000) (hv : ∀ v ∈ vs,v.size ≤ 1048576) (d:Nat) : ∀ (k i:Nat) (out:List ByteArray),i + d=vs.length → d + 1048580 ≤ k → out.length ≤ 1048577 * i →
 field_List.l0 k out vs (vs.length:Int) (i:Int)=some (out ++ (vs.drop i).flatMap partsS):=by
 induction d with
 | zero =>
  intro k i out hi hk ho
  obtain ⟨k,rfl⟩ : ∃ m,k=m + 1:=⟨k - 1,by omega⟩
  rw [field_List.l0,if_neg (by omega),List.drop_of_length_le (by omega),List.flatMap_nil,List.append_nil]
 | succ d ih =>
  intro k i out hi hk ho
  obtain ⟨k,rfl⟩ : ∃ m,k=m + 1:=⟨k - 1,by omega⟩
  have hlt:i < vs.length:=by omega
  have hb:=hv _ (List.getElem_mem hlt)
  have hp:=parts_len vs[i]
  have hw:wrap64 ((i:Int) + 1)=((i + 1:Nat):Int):=by unfold wrap64;omega
  rw [field_List.l0,if_pos (by omega),if_pos (by omega),if_pos (by omega),rdB_at vs i hlt,signSplit_f _ (by omega) k (by omega),Option.bind_some,hw,List.drop_eq_getElem_cons hlt,List.flatMap_cons]
  have e:(commaParts vs[i].data.toList).map mkS=partsS vs[i]:=rfl
  rw [e,if_pos (by omega),ih k (i + 1) _ (by omega) (by omega) (by rw [List.length_append];omega),List.append_assoc]
/-- All parts of a name's values. -/
def listS (name:ByteArray) (fs:List (S36)):List ByteArray:=(getS name fs).flatMap partsS
theorem get_bounds (fs:List (S36)) (name:ByteArray) (hf:FB fs):(getS name fs).length ≤ 1000 ∧ ∀ v ∈ getS name fs,v.size ≤ 1048576:=by
 refine ⟨Nat.le_trans (getS_len name fs) hf.1,fun v hv=>?_⟩
 obtain ⟨f,hm,rfl,_⟩:=getS_mem name fs v hv
 exact (hf.2 f hm).2
theorem List_f (fs:List (S36)) (name:ByteArray) (hf:FB fs) (hn:name.size ≤ 1048576) (k:Nat) (hk:1049600 ≤ k):field_List.f k fs name=some (listS name fs):=by
 obtain ⟨h1,h2⟩:=get_bounds fs name hf
 have hfl:=hf.1
 unfold field_List.f
 rw [Get_f fs name hf hn k (by omega),Option.bind_some]
 have:=list_l0 (getS name fs) h1 h2 (getS name fs).length k 0 [] (by omega) (by omega) (by simp)
 rw [List.drop_zero,List.nil_append] at this
 exact this
theorem flat_len (B:Nat) : ∀ vs:List ByteArray,(∀ v ∈ vs,v.size ≤ B) → (vs.flatMap partsS).length ≤ vs.length * (B + 1)
 | [],_=>by simp
 | v :: r,h=>by
  rw [List.flatMap_cons,List.length_append,List.length_cons,Nat.succ_mul]
  have h1:=flat_len B r (fun u hu=>h u (List.mem_cons_of_mem _ hu))
  have h2:=parts_len v
  have h3:=h v List.mem_cons_self
  omega
theorem list_bounds (fs:List (S36)) (name:ByteArray) (hf:FB fs):(listS name fs).length ≤ 1048577000 ∧ ∀ p ∈ listS name fs,p.size ≤ 1048576:=by
 obtain ⟨h1,h2⟩:=get_bounds fs name hf
 refine ⟨?_,fun p hp=>?_⟩
 ·have h3:=flat_len 1048576 (getS name fs) h2
  unfold listS
  have h4:(getS name fs).length * 1048577 ≤ 1000 * 1048577:=Nat.mul_le_mul_right _ h1
  omega
 ·unfold listS at hp
  obtain ⟨v,hv,hp⟩:=List.mem_flatMap.1 hp
  exact Nat.le_trans (parts_size v p hp) (h2 v hv)
theorem any_f (q:ByteArray → Option Bool) (p:ByteArray → Bool) : ∀ l:List ByteArray,(∀ x ∈ l,q x=some (p x)) → anyO q l=some (l.any p)
 | [],_=>rfl
 | x :: r,h=>by
  rw [anyO,h x List.mem_cons_self,Option.bind_some,List.any_cons]
  cases hp:p x
  ·simp only [Bool.false_eq_true,if_false,Bool.false_or]
   exact any_f q p r (fun y hy=>h y (List.mem_cons_of_mem _ hy))
  ·simp
/-- Is a part among a name's? -/
def hasS (fs:List (S36)) (name part:ByteArray):Bool:=(listS name fs).any (fun p=>sameN p part)
theorem Has_f (fs:List (S36)) (name part:ByteArray) (hf:FB fs) (hn:name.size ≤ 1048576) (hp:part.size ≤ 1048576) (k:Nat) (hk:1049600 ≤ k):field_Has.f k fs name part=some (hasS fs name part):=by
 unfold field_Has.f
 rw [List_f fs name hf hn k hk,Option.bind_some]
 exact any_f _ _ _ (fun x hx=>same_f x part (by have:=(list_bounds fs name hf).2 x hx;omega) (by omega))
/-- The field that a line tells. -/
def fieldX (l:List UInt8):S36:=⟨mkS (l.takeWhile (· != 58)),mkS (trm ((l.dropWhile (· != 58)).drop 1))⟩
theorem field_ok (l:List UInt8) (hn:l.length ≤ 140737488355328) (hr:fieldOk l=true):field_Parse.f (mkS l)=some ((fieldX l).f0,(fieldX l).f1,0):=by
 unfold field_Parse.f
 rcases split_first 58 l with h|⟨a,b,rfl,h⟩
 ·rw [fieldOk_no l h] at hr;cases hr
 ·rw [fieldOk_yes a b h] at hr
  obtain ⟨e1,e2⟩:=take_first 58 a b h
  unfold fieldX
  rw [e1,e2,Cut_yes 58 a b h hn,Option.bind_some]
  simp only
  rw [Trim_mk _ (by rw [mkS_size];rw [List.length_append,List.length_cons] at hn;omega),Option.bind_some,if_pos trivial,field_right_f,Option.bind_some,mkS_data,hr]
  rfl
theorem field_no (l:List UInt8) (hn:l.length ≤ 140737488355328) (hr:fieldOk l=false) : ∃ x y,field_Parse.f (mkS l)=some (x,y,20):=by
 obtain ⟨x,y,h⟩:=field_f l hn
 rw [hr] at h
 exact ⟨x,y,h⟩
/-- The lines behind the first one;how many bytes the head has;a status. -/
def tailS (l:List Int) (e:Int):Nat → Nat → List ByteArray × Int × Int
 | 0,_=>([],0,0)
 | d + 1,p=>if (cutSpec (l.drop p) 2048).2.2=20 then ([],0,400)
  else if (cutSpec (l.drop p) 2048).2.1=0 then ([],0,e)
  else if (cutSpec (l.drop p) 2048).1.toList=[] then ([],(p:Int) + (cutSpec (l.drop p) 2048).2.1,0)
  else ((cutSpec (l.drop p) 2048).1 :: (tailS l e d (p + (cutSpec (l.drop p) 2048).2.1.toNat)).1,(tailS l e d (p + (cutSpec (l.drop p) 2048).2.1.toNat)).2)
/-- The lines of a head,without the empty one;how many bytes it has;a status. -/
def linesS (l:List Int) (e:Int):List ByteArray × Int × Int :=
 if (cutSpec l 2048).2.2=20 then ([],0,400)
 else if (cutSpec l 2048).2.1=0 then ([],0,e)
 else ((cutSpec l 2048).1 :: (tailS l e (l.length + 1) (cutSpec l 2048).2.1.toNat).1,(tailS l e (l.length + 1) (cutSpec l 2048).2.1.toNat).2)
/-- The fields that lines tell,n fields before them;a status. -/
def fieldsS:List ByteArray → Nat → List (S36) × Int
 | [],_=>([],0)
 | s :: ss,n=>if fieldOk s.data.toList=true then (if n=40 then ([],431) else if (fieldsS ss (n + 1)).2=0 then (fieldX s.data.toList :: (fieldsS ss (n + 1)).1,0) else ([],(fieldsS ss (n + 1)).2)) else ([],400)
def bdS (l:List Int):List Int:=l.take 2048
def extS (l:List Int):Int:=if 2048 ≤ (l.length:Int) then 431 else 0
theorem bdS_length (l:List Int):(bdS l).length ≤ 2048∧(bdS l).length ≤ l.length:=by unfold bdS;rw [List.length_take];omega
theorem mn_take (l:List Int):l.take (mn (l.length:Int) 2048).toNat=bdS l:=by
 unfold bdS mn
 split
 ·rfl
 ·rw [Int.toNat_natCast,List.take_of_length_le (Nat.le_refl _),List.take_of_length_le (by omega)]
theorem rightB_size {a t:ByteArray} (h:rightB a t=true):a.size ≤ 100∧t.size ≤ 1000:=by
 unfold rightB at h
 simp only [Bool.and_eq_true,decide_eq_true_eq] at h
 exact ⟨h.1,h.2.2.1⟩
theorem fieldX_right {l:List UInt8} (h:fieldOk l=true):rightB (fieldX l).f0 (fieldX l).f1=true:=by
 unfold fieldOk at h
 split at h
 ·exact h
 ·cases h
theorem fieldsS_FB (ss:List ByteArray) : ∀ n,n ≤ 40 → (fieldsS ss n).1.length + n ≤ 40 ∧ ∀ f ∈ (fieldsS ss n).1,rightB f.f0 f.f1=true:=by
 induction ss with
 | nil=>intro n hn;exact ⟨by simpa [fieldsS] using hn,fun f hf=>by cases hf⟩
 | cons s ss ih =>
  intro n hn
  rw [fieldsS]
  split
  ·rename_i h1
   split
   ·exact ⟨by simpa using hn,fun f hf=>by cases hf⟩
   ·rename_i h2
    have:=ih (n + 1) (by omega)
    split
    ·refine ⟨by simp only [List.length_cons];omega,fun f hf=>?_⟩
     rcases List.mem_cons.1 hf with rfl|hf
     ·exact fieldX_right h1
     ·exact this.2 f hf
    ·exact ⟨by simpa using hn,fun f hf=>by cases hf⟩
  ·exact ⟨by simpa using hn,fun f hf=>by cases hf⟩
theorem fields_FB (ss:List ByteArray):FB (fieldsS ss 0).1:=by
 have:=fieldsS_FB ss 0 (by omega)
 refine ⟨by omega,fun f hf=>?_⟩
 have:=rightB_size (this.2 f hf)
 omega
theorem tail_le (l:List Int) (e:Int) : ∀ (d p:Nat),p ≤ l.length → (tailS l e d p).2.1 ≤ (l.length:Int)∧0 ≤ (tailS l e d p).2.1∧((tailS l e d p).2.1 ≠ 0 → (tailS l e d p).2.2=0):=by
 intro d
 induction d with
 | zero=>intro p hp;exact ⟨by simp [tailS],by simp [tailS],fun _=>rfl⟩
 | succ d ih =>
  intro p hp
  have hsh:=cutS_shape (l.drop p) 2048
  have hdl:(l.drop p).length=l.length - p:=List.length_drop ..
  rw [tailS]
  split
  ·exact ⟨by simp,by simp,fun h=>absurd rfl h⟩
  ·split
   ·exact ⟨by simp,by simp,fun h=>absurd rfl h⟩
   ·rename_i h2
    have hz:(cutSpec (l.drop p) 2048).2.1 > 0∧(cutSpec (l.drop p) 2048).2.1 ≤ (l.length:Int) - p:=by rcases hsh with h|h <;> omega
    split
    ·exact ⟨by show (p:Int) + _ ≤ _;omega,by show 0 ≤ (p:Int) + _;omega,fun _=>rfl⟩
    ·exact ih _ (by omega)
theorem lines_le (l:List Int) (e:Int):(linesS l e).2.1 ≤ (l.length:Int)∧0 ≤ (linesS l e).2.1∧((linesS l e).2.1 ≠ 0 → (linesS l e).2.2=0)∧((linesS l e).1=[] → (linesS l e).2.1=0):=by
 have hsh:=cutS_shape l 2048
 unfold linesS
 split
 ·exact ⟨by simp,by simp,fun h=>absurd rfl h,fun _=>rfl⟩
 ·split
  ·exact ⟨by simp,by simp,fun h=>absurd rfl h,fun _=>rfl⟩
  ·rename_i h2
   have hz:(cutSpec l 2048).2.1 > 0∧(cutSpec l 2048).2.1 ≤ (l.length:Int):=by rcases hsh with h|h <;> omega
   have:=tail_le l e (l.length + 1) (cutSpec l 2048).2.1.toNat (by omega)
   exact ⟨this.1,this.2.1,this.2.2,fun h=>by cases h⟩
/-- A line's text has no 10,no 13: it is no longer than what it was cut from. -/
theorem cut_len (l:List Int) (h:l.length ≤ 2048):(cutSpec l 2048).1.size ≤ 2048:=by
 rcases cutS_shape l 2048 with h1|h1
 ·omega
 ·rw [h1.2];decide
def lineB (f:S36):ByteArray:=((f.f0 ++ (⟨#[58,32]⟩:ByteArray)) ++ f.f1) ++ (⟨#[13,10]⟩:ByteArray)
theorem lineB_size (f:S36):(lineB f).size=f.f0.size + f.f1.size + 4:=by
 unfold lineB
 rw [ByteArray.size_append,ByteArray.size_append,ByteArray.size_append]
 show f.f0.size + 2 + f.f1.size + 2=_
 omega
theorem Line_f (f:S36) (h:f.f0.size ≤ 1048576∧f.f1.size ≤ 1048576):field_Line.f f.f0 f.f1=some (lineB f):=by
 have e1:(f.f0 ++ (⟨#[58,32]⟩:ByteArray)).size=f.f0.size + 2:=ByteArray.size_append ..
 have e2:((f.f0 ++ (⟨#[58,32]⟩:ByteArray)) ++ f.f1).size=f.f0.size + 2 + f.f1.size:=by rw [ByteArray.size_append,e1]
 unfold field_Line.f lineB
 rw [if_pos (by omega),if_pos (by omega),if_pos (by omega)]
/-- The bytes of fields' lines. -/
def fLines:List (S36) → List Int
 | []=>[]
 | f :: fs=>bytesOf (lineB f) ++ fLines fs
/-- The value of a digit,or -1. -/
def digV (c:Int):Int:=Lib.indexByte [48,49,50,51,52,53,54,55,56,57,97,98,99,100,101,102] (foldC c).toNat.toUInt8
/-- The number of digits,from n on. -/
def numL (base:Int):List Int → Int → Option Int
 | [],n=>some n
 | c :: r,n=>if 0 ≤ digV c∧digV c < base then numL base r (n * base + digV c) else none
theorem digV_lt (c:Int) (h0:0 ≤ c) (h1:c ≤ 255):digV c < 16:=by
 obtain ⟨n,rfl⟩:=Int.eq_ofNat_of_zero_le h0
 have h : ∀ m:Fin 256,digV (m.val:Int) < 16:=by decide +kernel
 exact h ⟨n,by omega⟩
theorem one_fold (s:ByteArray) (i:Int) (h0:0 ≤ i) (h:i < (s.size:Int)):sign_Fold.f (s.extract i.toNat (i + 1).toNat)=some (strOfNums [foldC (bt s i)]):=by
 have hl:i.toNat < s.data.toList.length:=by rw [data_length];omega
 have e1:(s.extract i.toNat (i + 1).toNat).data.toList=[s.data.toList[i.toNat]]:=by
  rw [Lib.extract_data,show (i + 1).toNat - i.toNat=1 by omega,List.drop_eq_getElem_cons hl]
  rfl
 have hz:(s.extract i.toNat (i + 1).toNat).size=1:=by rw [← data_length,e1];rfl
 rw [fold_tells _ (by omega)]
 unfold bytesOf
 rw [e1]
 have e2:((s.data.toList[i.toNat]).toNat:Int)=bt s i:=by
  unfold bt
  rw [dif_pos (by omega)]
  rfl
 simp only [List.map_cons,List.map_nil,e2]
theorem bt_one (x:Int) (h0:0 ≤ x) (h1:x ≤ 255):bt (strOfNums [x]) 0=x:=by
 have h:=bytes_str (xs:=[x]) (by intro y hy;rw [List.mem_singleton.1 hy];exact ⟨h0,h1⟩)
 rw [← rd_bytesOf,h]
 rfl
theorem index_dig (s:ByteArray) (i:Int):strings_IndexByte.f (⟨#[48,49,50,51,52,53,54,55,56,57,97,98,99,100,101,102]⟩:ByteArray) (bt (strOfNums [foldC (bt s i)]) 0)=some (digV (bt s i)):=by
 have hr:=bt_range s i
 have hf:=foldC_byte _ hr.1 hr.2
 rw [bt_one _ hf.1 hf.2]
 rfl
theorem pow_pos' (b:Int) (hb:1 ≤ b) : ∀ n:Nat,1 ≤ b ^ n
 | 0=>by simp
 | n + 1=>by
  rw [Int.pow_succ]
  have h1:=pow_pos' b hb n
  have h2:=Int.mul_le_mul_of_nonneg_left hb (show 0 ≤ b ^ n by omega)
  rw [Int.mul_one] at h2
  omega
theorem pow_mono' (b:Int) (hb:1 ≤ b) (i:Nat) : ∀ d:Nat,b ^ i ≤ b ^ (i + d)
 | 0=>Int.le_refl _
 | d + 1=>by
  rw [← Nat.add_assoc,Int.pow_succ]
  have h0:=pow_mono' b hb i d
  have h1:=pow_pos' b hb (i + d)
  have h2:=Int.mul_le_mul_of_nonneg_left hb (show 0 ≤ b ^ (i + d) by omega)
  rw [Int.mul_one] at h2
  omega
/-- Too long: none. -/
theorem number_long (s:ByteArray) (base most:Int) (hm:(s.size:Int) > most) (hs:s.size ≤ 140737488355327) (d:Nat) : ∀ (k:Nat) (n i:Int),0 ≤ i → (s.size:Int) - i=d → 2 * d + 1 ≤ k →
 sign_number.l0 k s base most n (s.size:Int) i=some (0,false):=by
 induction d with
 | zero =>
  intro k n i h0 hd hk
  obtain ⟨k,rfl⟩ : ∃ m,k=m + 1:=⟨k - 1,by omega⟩
  simp only [sign_number.l0]
  rw [if_neg (by omega)]
  repeat' split
  all_goals first|rfl|(exfalso;omega)
 | succ d ih =>
  intro k n i h0 hd hk
  obtain ⟨k,rfl⟩ : ∃ m,k=m + 2:=⟨k - 2,by omega⟩
  have hw:wrap64 (i + 1)=i + 1:=by unfold wrap64;omega
  have ih' := fun n=>ih k n (i + 1) (by omega) (by omega) (by omega)
  simp only [sign_number.l0]
  rw [if_pos (by omega),if_pos h0,hw,if_pos (by omega),if_pos (by omega),one_fold s i h0 (by omega),Option.bind_some,if_pos (by rw [str_size];simp),index_dig,Option.bind_some]
  simp only [sign_number.j1]
  rw [hw,ih',ih']
  repeat' split
  all_goals rfl
theorem number_short (s : ByteArray) (base : Int) (most : Nat) (hb0 : 0 ≤ base) (hB : base ^ most ≤ 4611686018427387904) (hb1 : 1 ≤ base) (hm : s.size ≤ most) (hs : s.size ≤ 140737488355327) (d : Nat) : ∀ (k : Nat) (n : Int) (i : Nat), i + d = s.size → 2 * d + 1 ≤ k → 0 ≤ n → n + 1 ≤ base ^ i →
    sign_number.l0 k s base most n (s.size : Int) i = some (match numL base ((bytesOf s).drop i) n with | some v => if s.size = 0 then (0, false) else (v, true) | none => (0, false)) := by
  induction d with
  | zero =>
    intro k n i hi hk h0 hn
    obtain ⟨k, rfl⟩ : ∃ m, k = m + 1 := ⟨k - 1, by omega⟩
    rw [List.drop_of_length_le (by rw [bytesOf_length]; omega)]
    simp only [sign_number.l0, numL]
    rw [if_neg (by omega)]
    by_cases hz : s.size = 0
    · have he : s.toList = [] := by rw [toList_data]; exact List.eq_nil_of_length_eq_zero (by rw [data_length]; exact hz)
      rw [if_pos he, if_pos hz]
    · have he : ¬ (s.toList = []) := by
        intro e
        rw [toList_data] at e
        have := data_length s
        rw [e] at this
        exact hz this.symm
      rw [if_neg he, if_neg hz, if_neg (by omega)]
  | succ d ih =>
    intro k n i hi hk h0 hn
    obtain ⟨k, rfl⟩ : ∃ m, k = m + 2 := ⟨k - 2, by omega⟩
    have hw : wrap64 ((i : Int) + 1) = (i : Int) + 1 := by unfold wrap64; omega
    have hl : i < (bytesOf s).length := by rw [bytesOf_length]; omega
    have hg : (bytesOf s)[i] = bt s i := by rw [← rd_bytesOf]; simp [rd, List.getD_eq_getElem?_getD, List.getElem?_eq_getElem hl]
    have hr := bt_range s i
    have hP : base ^ (i + 1) = base ^ i * base := Int.pow_succ _ _
    have hle : base ^ (i + 1) ≤ base ^ most := by
      have := pow_mono' base hb1 (i + 1) (most - (i + 1))
      rwa [show i + 1 + (most - (i + 1)) = most by omega] at this
    have h1 := Int.mul_le_mul_of_nonneg_right hn hb0
    rw [Int.add_mul, ← hP, Int.one_mul] at h1
    have h2 : 0 ≤ n * base := Int.mul_nonneg h0 hb0
    have h3 : 0 ≤ base := hb0
    have hdl := digV_lt _ hr.1 hr.2
    rw [List.drop_eq_getElem_cons hl, hg]
    simp only [sign_number.l0, numL]
    rw [if_pos (by omega), if_pos (by omega), hw, if_pos (by omega), if_pos (by omega), one_fold s i (by omega) (by omega), Option.bind_some, if_pos (by rw [str_size]; simp), index_dig, Option.bind_some]
    simp only [sign_number.j1]
    obtain ⟨D, hD⟩ : ∃ D, D = digV (bt s i) := ⟨_, rfl⟩
    rw [← hD] at hdl ⊢
    by_cases hv : 0 ≤ D ∧ D < base
    · rw [if_neg (by omega), decide_eq_false (by omega), if_neg (by simp), if_pos (by omega), hw, if_pos hv]
      have e1 : wrap64 (wrap64 (n * base) + D) = n * base + D := by unfold wrap64; omega
      rw [e1]
      have := ih k (n * base + D) (i + 1) (by omega) (by omega) (by omega) (by omega)
      rw [show (((i + 1 : Nat)) : Int) = (i : Int) + 1 by omega] at this
      exact this
    · rw [if_neg hv]
      by_cases hn0 : D < 0
      · rw [if_pos hn0, if_pos trivial]
      · rw [if_neg hn0, decide_eq_true (by omega), if_pos rfl]
/-- What number tells. -/
def numSpec (s:ByteArray) (base:Int) (most:Nat):Int × Bool :=
 if s.size=0 ∨ s.size > most then (0,false) else match numL base (bytesOf s) 0 with|some v=>(v,true)|none=>(0,false)
theorem number_f (s:ByteArray) (base:Int) (most:Nat) (hb1:1 ≤ base) (hB:base ^ most ≤ 4611686018427387904) (hs:s.size ≤ 140737488355327) (k:Nat) (hk:2 * s.size + 1 ≤ k):sign_number.f k s base most=some (numSpec s base most):=by
 unfold sign_number.f numSpec
 by_cases hm:s.size > most
 ·rw [if_pos (Or.inr hm)]
  exact number_long s base most (by omega) hs s.size k 0 0 (by omega) (by omega) hk
 ·have:=number_short s base most (by omega) hB hb1 (by omega) hs s.size k 0 0 (by omega) hk (by omega) (by simp)
  rw [show ((0:Nat):Int)=0 from rfl] at this
  rw [this]
  by_cases hz:s.size=0
  ·rw [if_pos (Or.inl hz),List.drop_zero]
   cases numL base (bytesOf s) 0 <;> simp [hz]
  ·rw [if_neg (by omega),List.drop_zero]
   cases numL base (bytesOf s) 0 <;> simp [hz]
theorem Decimal_f (s:ByteArray) (hs:s.size ≤ 140737488355327) (k:Nat) (hk:2 * s.size + 1 ≤ k):sign_Decimal.f k s=some (numSpec s 10 18):=by
 unfold sign_Decimal.f
 rw [show (18:Int)=((18:Nat):Int) from rfl,number_f s 10 18 (by decide) (by decide) hs k hk,Option.bind_some]
theorem Hex_f (s:ByteArray) (hs:s.size ≤ 140737488355327) (k:Nat) (hk:2 * s.size + 1 ≤ k):sign_Hex.f k s=some (numSpec s 16 15):=by
 unfold sign_Hex.f
 rw [show (15:Int)=((15:Nat):Int) from rfl,number_f s 16 15 (by decide) (by decide) hs k hk,Option.bind_some]
/-- Blanks behind taken away. -/
def rtrim (l:List UInt8):List UInt8:=(l.reverse.dropWhile blk).reverse
theorem rtrim_len (l:List UInt8):(rtrim l).length ≤ l.length:=by
 unfold rtrim
 rw [List.length_reverse]
 have:=(List.dropWhile_sublist blk (l:=l.reverse)).length_le
 rw [List.length_reverse] at this
 exact this
/-- The size that a chunk's line tells;is it one? -/
def sizeS (l:List UInt8):Int × Bool :=
 ((numSpec (mkS (rtrim (l.takeWhile (· != 59)))) 16 15).1,(numSpec (mkS (rtrim (l.takeWhile (· != 59)))) 16 15).2 && (bytesOf (mkS ((l.dropWhile (· != 59)).drop 1))).all valB)
theorem take_none (sp:UInt8) (l:List UInt8) (h:sp ∉ l):l.takeWhile (· != sp)=l∧(l.dropWhile (· != sp)).drop 1=[]:=by
 induction l with
 | nil=>simp
 | cons x a ih =>
  have hx:x ≠ sp:=fun e=>h (by rw [e];exact List.mem_cons_self ..)
  have:=ih (fun e=>h (List.mem_cons_of_mem _ e))
  simp only [List.takeWhile_cons,List.dropWhile_cons,bne_iff_ne,ne_eq,hx,not_false_eq_true,if_true]
  exact ⟨by rw [this.1],this.2⟩
theorem sizeS_no (l:List UInt8) (h:59 ∉ l):sizeS l=numSpec (mkS (rtrim l)) 16 15:=by
 obtain ⟨e1,e2⟩:=take_none 59 l h
 unfold sizeS
 rw [e1,e2]
 have:(bytesOf (mkS [])).all valB=true:=by rw [mkS_bytes];rfl
 rw [this,Bool.and_true]
theorem sizeS_yes (a b:List UInt8) (h:59 ∉ a):sizeS (a ++ 59 :: b)=((numSpec (mkS (rtrim a)) 16 15).1,(numSpec (mkS (rtrim a)) 16 15).2 && (bytesOf (mkS b)).all valB):=by
 obtain ⟨e1,e2⟩:=take_first 59 a b h
 unfold sizeS
 rw [e1,e2]
theorem TrimRight_f (l:List UInt8) (hl:l.length ≤ 140737488355328):strings_TrimRight.f (mkS l) ⟨#[32,9]⟩=some (mkS (rtrim l)):=by
 unfold strings_TrimRight.f
 rw [if_pos ⟨by rw [mkS_size];omega,by decide,by decide⟩,mkS_data]
 rfl
theorem numL_bound (xs:List Int) : ∀ (n v:Int) (B:Int),0 ≤ n → n < B → numL 16 xs n=some v → 0 ≤ v∧v < B * 16 ^ xs.length:=by
 induction xs with
 | nil=>intro n v B h0 h1 h;simp only [numL,Option.some.injEq] at h;subst h;simpa using ⟨h0,h1⟩
 | cons x xs ih =>
  intro n v B h0 h1 h
  rw [numL] at h
  by_cases hd:0 ≤ digV x∧digV x < 16
  ·rw [if_pos hd] at h
   have:=ih _ v (B * 16) (by omega) (by omega) h
   rw [List.length_cons,Int.pow_succ,Int.mul_comm (16 ^ xs.length) 16,← Int.mul_assoc]
   exact this
  ·rw [if_neg hd] at h;cases h
theorem hexs_bound (s : ByteArray) : 0 ≤ (numSpec s 16 15).1 ∧ (numSpec s 16 15).1 ≤ 1152921504606846976 := by
  unfold numSpec
  split
  · exact ⟨by decide, by decide⟩
  · rename_i h
    cases hv : numL 16 (bytesOf s) 0 with
    | none => exact ⟨by decide, by decide⟩
    | some v =>
      have := numL_bound (bytesOf s) 0 v 1 (by decide) (by decide) hv
      have hl : (bytesOf s).length ≤ 15 := by rw [bytesOf_length]; omega
      have h2 : (16 : Int) ^ (bytesOf s).length ≤ 16 ^ 15 := by
        have := pow_mono' 16 (by decide) (bytesOf s).length (15 - (bytesOf s).length)
        rwa [show (bytesOf s).length + (15 - (bytesOf s).length) = 15 by omega] at this
      exact ⟨this.1, by simp only; have h3 : (16 : Int) ^ 15 = 1152921504606846976 := by decide
                        omega⟩
theorem size_bound (l:List UInt8):0 ≤ (sizeS l).1∧(sizeS l).1 ≤ 1152921504606846976:=hexs_bound _
theorem line_f (l:List Int) (p:Nat) (hp:p ≤ l.length) (hl:l.length ≤ 1000000) (k:Nat) (hk:3 * l.length + 3 ≤ k) :
 chunk_reader_line.f k l p=some ((cutSpec (l.drop p) 256).1,(cutSpec (l.drop p) 256).2.2,(p:Int) + (cutSpec (l.drop p) 256).2.1,decide ((cutSpec (l.drop p) 256).2.1=0) && decide ((cutSpec (l.drop p) 256).2.2=0)):=by
 unfold chunk_reader_line.f
 have hd:(l.drop p).length=l.length - p:=List.length_drop ..
 rw [if_pos (by omega),if_pos (by omega),Int.toNat_natCast,cut_f _ _ (by omega) k (by omega),Option.bind_some]
 have hw:wrap64 ((p:Int) + (cutSpec (l.drop p) 256).2.1)=(p:Int) + (cutSpec (l.drop p) 256).2.1:=by
  rcases cutS_shape (l.drop p) 256 with h|h <;> unfold wrap64 <;> omega
 rw [hw]
theorem size_f (l : List Int) (p : Nat) (hp : p ≤ l.length) (hl : l.length ≤ 1000000) (k : Nat) (hk : 3 * l.length + 3 ≤ k) :
    chunk_reader_size.f k l p = some (if (cutSpec (l.drop p) 256).2.2 = 0 then (if (cutSpec (l.drop p) 256).2.1 = 0 then (0, 0, (p : Int), true) else
        if (sizeS (cutSpec (l.drop p) 256).1.data.toList).2 = true then ((sizeS (cutSpec (l.drop p) 256).1.data.toList).1, 0, (p : Int) + (cutSpec (l.drop p) 256).2.1, false) else (0, 30, (p : Int) + (cutSpec (l.drop p) 256).2.1, false))
      else (0, (cutSpec (l.drop p) 256).2.2, (p : Int) + (cutSpec (l.drop p) 256).2.1, false)) := by
  unfold chunk_reader_size.f
  rw [line_f l p hp hl k hk, Option.bind_some]
  have hsh := cutS_shape (l.drop p) 256
  have hd : (l.drop p).length = l.length - p := List.length_drop ..
  obtain ⟨c, hc⟩ : ∃ c, c = cutSpec (l.drop p) 256 := ⟨_, rfl⟩
  rw [← hc] at hsh ⊢
  simp only
  by_cases h1 : c.2.2 = 0
  · rw [if_pos h1, if_pos h1]
    by_cases h2 : c.2.1 = 0
    · rw [if_pos h2, decide_eq_true h2, decide_eq_true h1, if_pos (by rfl), h2, Int.add_zero]
    · rw [if_neg h2, decide_eq_false h2, Bool.false_and, if_neg (by simp)]
      have hsz : c.1.data.toList.length ≤ 1000000 := by rw [data_length]; rcases hsh with h | h <;> omega
      have e0 : c.1 = mkS c.1.data.toList := (mkS_self _).symm
      obtain ⟨u, hu⟩ : ∃ u, u = c.1.data.toList := ⟨_, rfl⟩
      rw [← hu] at e0 hsz ⊢
      rw [e0]
      have hk2 : 2 * u.length + 1 ≤ k := by
        have : u.length = c.1.size := by rw [hu, data_length]
        rcases hsh with h | h <;> omega
      rcases split_first 59 u with h | ⟨a, b, hab, h⟩
      · have hr := rtrim_len u
        rw [Cut_no 59 u h, Option.bind_some]
        simp only
        rw [TrimRight_f u (by omega), Option.bind_some, Hex_f _ (by rw [mkS_size]; omega) k (by rw [mkS_size]; omega), Option.bind_some, sizeS_no u h]
        cases (numSpec (mkS (rtrim u)) 16 15).2
        · rw [if_neg (by simp), if_neg (by simp)]
        · rw [if_pos rfl, if_pos rfl, Value_f _ (by decide), Option.bind_some, if_pos (by rfl)]
      · subst hab
        have hab : (a ++ 59 :: b).length = a.length + b.length + 1 := by rw [List.length_append, List.length_cons]; omega
        have hr := rtrim_len a
        rw [Cut_yes 59 a b h (by omega), Option.bind_some]
        simp only
        rw [TrimRight_f a (by omega), Option.bind_some, Hex_f _ (by rw [mkS_size]; omega) k (by rw [mkS_size]; omega), Option.bind_some, sizeS_yes a b h]
        cases (numSpec (mkS (rtrim a)) 16 15).2
        · rw [if_neg (by simp), Bool.false_and, if_neg (by simp)]
        · rw [if_pos rfl, Bool.true_and, Value_f _ (by rw [mkS_size]; omega), Option.bind_some]
          cases (bytesOf (mkS b)).all valB <;> rfl
  · rw [if_neg h1, if_neg h1, decide_eq_false h1, Bool.and_false]
/-- The lines behind the last chunk, at most d more: the place behind them (0: they are not whole), the error. -/
def trailS (l : List Int) : Nat → Nat → Int × Int
  | 0, _ => (0, 3)
  | d + 1, p => if (cutSpec (l.drop p) 256).2.2 = 0 then (if (cutSpec (l.drop p) 256).2.1 = 0 then (0, 0)
      else if (cutSpec (l.drop p) 256).1.toList = [] then ((p : Int) + (cutSpec (l.drop p) 256).2.1, 0)
      else if fieldOk (cutSpec (l.drop p) 256).1.data.toList = true then trailS l d (p + (cutSpec (l.drop p) 256).2.1.toNat) else (0, 20))
    else (0, (cutSpec (l.drop p) 256).2.2)
/-- The body from a place on. -/
def decS (l : List Int) : Nat → Nat → Int → List Int → List Int × Int × Int
  | 0, _, _, _ => ([], 0, 0)
  | d + 1, p, left, out => if (cutSpec (l.drop p) 256).2.2 = 0 then (if (cutSpec (l.drop p) 256).2.1 = 0 then ([], 0, 0)
      else if (sizeS (cutSpec (l.drop p) 256).1.data.toList).2 = true then (if (sizeS (cutSpec (l.drop p) 256).1.data.toList).1 = 0 then
          (if (trailS l 41 (p + (cutSpec (l.drop p) 256).2.1.toNat)).2 = 0 then (if (trailS l 41 (p + (cutSpec (l.drop p) 256).2.1.toNat)).1 = 0 then ([], 0, 0) else (out, (trailS l 41 (p + (cutSpec (l.drop p) 256).2.1.toNat)).1, 0)) else ([], 0, (trailS l 41 (p + (cutSpec (l.drop p) 256).2.1.toNat)).2))
        else if (sizeS (cutSpec (l.drop p) 256).1.data.toList).1 > left then ([], 0, 2)
        else if (dataOf (l.drop (p + (cutSpec (l.drop p) 256).2.1.toNat)) ((p + (cutSpec (l.drop p) 256).2.1.toNat : Nat) : Int) (sizeS (cutSpec (l.drop p) 256).1.data.toList).1 false).2.1 = 0 then
          (if (dataOf (l.drop (p + (cutSpec (l.drop p) 256).2.1.toNat)) ((p + (cutSpec (l.drop p) 256).2.1.toNat : Nat) : Int) (sizeS (cutSpec (l.drop p) 256).1.data.toList).1 false).2.2.2 = true then ([], 0, 0)
            else decS l d (p + (cutSpec (l.drop p) 256).2.1.toNat + (sizeS (cutSpec (l.drop p) 256).1.data.toList).1.toNat + 2) (left - (sizeS (cutSpec (l.drop p) 256).1.data.toList).1) (out ++ (l.drop (p + (cutSpec (l.drop p) 256).2.1.toNat)).take (sizeS (cutSpec (l.drop p) 256).1.data.toList).1.toNat))
        else ([], 0, 20))
      else ([], 0, 30))
    else ([], 0, (cutSpec (l.drop p) 256).2.2)
theorem trail_f (l:List Int) (hl:l.length ≤ 1000000) : ∀ (d:Nat) (n p k:Nat),n + d=41 → 1 ≤ d → p ≤ l.length → d + 3 * l.length + 4 ≤ k →
 ∃ q m,chunk_reader_trailer.l k l p n=some ((trailS l d p).2,q,m)∧((trailS l d p).2=0 → (m=true ↔ (trailS l d p).1=0)∧(m=false → q=(trailS l d p).1)):=by
 intro d
 induction d with
 | zero=>intro n p k _ h;omega
 | succ d ih =>
  intro n p k hn _ hp hk
  obtain ⟨k,rfl⟩ : ∃ m,k=m + 1:=⟨k - 1,by omega⟩
  have hsh:=cutS_shape (l.drop p) 256
  have hd:(l.drop p).length=l.length - p:=List.length_drop ..
  rw [chunk_reader_trailer.l,line_f l p hp hl k (by omega),Option.bind_some,trailS]
  obtain ⟨c,hc⟩ : ∃ c,c=cutSpec (l.drop p) 256:=⟨_,rfl⟩
  rw [← hc] at hsh ⊢
  simp only
  by_cases h1:c.2.2=0
  ·rw [if_pos h1,if_pos h1]
   by_cases h2:c.2.1=0
   ·rw [if_pos h2,decide_eq_true h2,decide_eq_true h1,if_pos (by rfl)]
    exact ⟨_,_,rfl,fun _=>⟨by simp,by simp⟩⟩
   ·rw [if_neg h2,decide_eq_false h2,Bool.false_and,if_neg (by simp)]
    by_cases h3:c.1.toList=[]
    ·rw [if_pos h3,if_pos h3]
     refine ⟨_,_,rfl,fun _=>⟨⟨by simp,fun e=>?_⟩,fun _=>rfl⟩⟩
     simp only at e
     rcases hsh with h|h <;> omega
    ·rw [if_neg h3,if_neg h3]
     have hz:c.1.data.toList.length=c.1.size:=data_length _
     have hz2:c.2.1 > 0∧c.2.1 ≤ (l.length:Int) - p∧(c.1.size:Int)=c.2.1 - 2:=by rcases hsh with h|h <;> omega
     obtain ⟨x,y,hf⟩:=field_f c.1.data.toList (by omega)
     rw [mkS_self] at hf
     rw [hf,Option.bind_some]
     simp only
     cases fieldOk c.1.data.toList
     ·rw [if_neg (by simp),if_neg (by decide),if_neg (by simp)]
      exact ⟨_,_,rfl,fun e=>by simp at e⟩
     ·rw [if_pos rfl,if_pos rfl,if_pos rfl]
      by_cases h4:(n:Int)=40
      ·obtain rfl:d=0:=by omega
       rw [if_pos h4,trailS]
       exact ⟨_,_,rfl,fun e=>by simp at e⟩
      ·rw [if_neg h4]
       have:=ih (n + 1) (p + c.2.1.toNat) k (by omega) (by omega) (by omega) (by omega)
       rw [show ((p + c.2.1.toNat:Nat):Int)=(p:Int) + c.2.1 by omega,show ((n + 1:Nat):Int)=(n:Int) + 1 by omega] at this
       exact this
  ·rw [if_neg h1,if_neg h1]
   exact ⟨_,_,rfl,fun e=>absurd e h1⟩
theorem data_f (l:List Int) (p:Nat) (n:Int) (hp:p ≤ l.length) (h0:0 ≤ n) (h1:n ≤ 1152921504606846976):chunk_reader_data.f l p n false=some (dataOf (l.drop p) p n false):=by
 unfold chunk_reader_data.f
 rw [if_pos ⟨by omega,by omega,h0,by omega⟩,Int.toNat_natCast]
theorem data_shape (rest:List Int) (p n:Int) (h0:0 ≤ p) (hp:p ≤ 1000000) (n0:0 ≤ n) (hr:rest.length ≤ 1000000):(dataOf rest p n false).2.1=0 ∨ (dataOf rest p n false).2.1=20:=by
 unfold dataOf
 repeat' split
 all_goals first|exact Or.inl rfl|exact Or.inr rfl
theorem data_ok (rest:List Int) (p n:Int) (h0:0 ≤ p) (hp:p ≤ 1000000) (n0:0 ≤ n) (hr:rest.length ≤ 1000000) (h1:(dataOf rest p n false).2.1=0) (h2 : ¬ (dataOf rest p n false).2.2.2=true) :
 (dataOf rest p n false).1=rest.take n.toNat∧(dataOf rest p n false).2.2.1=p + (n + 2)∧n + 2 ≤ (rest.length:Int)∧rd rest n=13∧rd rest (n + 1)=10:=by
 unfold dataOf at h1 h2 ⊢
 by_cases a0:n < (rest.length:Int)
 ·rw [if_pos a0] at h1 h2 ⊢
  by_cases a1:rd rest n=13
  ·rw [if_pos a1] at h1 h2 ⊢
   by_cases a2:n + 1 < (rest.length:Int)
   ·rw [if_pos a2] at h1 h2 ⊢
    by_cases a3:rd rest (n + 1)=10
    ·rw [if_pos a3]
     exact ⟨rfl,by show wrap64 (p + (n + 2))=_;unfold wrap64;omega,by omega,a1,a3⟩
    ·rw [if_neg a3] at h1;simp at h1
   ·rw [if_neg a2] at h2;simp at h2
  ·rw [if_neg a1] at h1;simp at h1
 ·rw [if_neg a0] at h2;simp at h2
theorem dec_f (l:List Int) (hl:l.length ≤ 1000000) : ∀ (d p:Nat) (left:Int) (out:List Int) (k:Nat),p ≤ l.length → l.length < p + d → out.length ≤ p → 0 ≤ left → left ≤ 9223372036854775807 → d + 3 * l.length + 60 ≤ k →
 chunk_Decode.l k l p left out=some (decS l d p left out):=by
 intro d
 induction d with
 | zero=>intro p left out k h1 h2;omega
 | succ d ih =>
  intro p left out k hp hd ho hl0 hl1 hk
  obtain ⟨k,rfl⟩ : ∃ m,k=m + 1:=⟨k - 1,by omega⟩
  have hsh:=cutS_shape (l.drop p) 256
  have hdl:(l.drop p).length=l.length - p:=List.length_drop ..
  rw [chunk_Decode.l,size_f l p hp hl k (by omega),Option.bind_some,decS]
  obtain ⟨c,hc⟩ : ∃ c,c=cutSpec (l.drop p) 256:=⟨_,rfl⟩
  rw [← hc] at hsh ⊢
  by_cases h1:c.2.2=0
  ·rw [if_pos h1,if_pos h1]
   by_cases h2:c.2.1=0
   ·rw [if_pos h2,if_pos h2]
    simp
   ·have hz2:c.2.1 > 0∧c.2.1 ≤ (l.length:Int) - p∧(c.1.size:Int)=c.2.1 - 2:=by rcases hsh with h|h <;> omega
    rw [if_neg h2,if_neg h2]
    obtain ⟨z,hz⟩ : ∃ z,z=sizeS c.1.data.toList:=⟨_,rfl⟩
    have hzb:=size_bound c.1.data.toList
    rw [← hz] at hzb ⊢
    obtain ⟨q,hq⟩ : ∃ q,q=p + c.2.1.toNat:=⟨_,rfl⟩
    have hq2:(p:Int) + c.2.1=(q:Int):=by omega
    rw [← hq,hq2]
    by_cases h3:z.2=true
    ·rw [if_pos h3,if_pos h3]
     simp only
     rw [if_pos trivial,if_neg (by simp)]
     by_cases h4:z.1=0
     ·rw [if_pos h4,if_pos h4]
      obtain ⟨q',m,ht,hm⟩:=trail_f l hl 41 0 q k (by omega) (by omega) (by omega) (by omega)
      have ht' : chunk_reader_trailer.f k l q=some ((trailS l 41 q).2,q',m):=ht
      rw [ht',Option.bind_some]
      by_cases h5:(trailS l 41 q).2=0
      ·obtain ⟨hm1,hm2⟩:=hm h5
       rw [if_pos h5,if_pos h5]
       by_cases h6:(trailS l 41 q).1=0
       ·rw [if_pos h6,if_pos (hm1.2 h6)]
       ·have hmf:m=false:=by cases m with|false=>rfl|true=>exact absurd (hm1.1 rfl) h6
        rw [if_neg h6,hmf,if_neg (by simp),hm2 hmf]
      ·rw [if_neg h5,if_neg h5]
     ·rw [if_neg h4,if_neg h4]
      by_cases h5:z.1 > left
      ·rw [if_pos h5,if_pos h5]
      ·rw [if_neg h5,if_neg h5,data_f l q z.1 (by omega) hzb.1 hzb.2,Option.bind_some]
       have hdr:(l.drop q).length=l.length - q:=List.length_drop ..
       by_cases h6:(dataOf (l.drop q) (q:Int) z.1 false).2.1=0
       ·rw [if_pos h6,if_pos h6]
        by_cases h7:(dataOf (l.drop q) (q:Int) z.1 false).2.2.2=true
        ·rw [if_pos h7,if_pos h7]
        ·obtain ⟨e1,e2,e3,_,_⟩:=data_ok (l.drop q) q z.1 (by omega) (by omega) hzb.1 (by omega) h6 h7
         have htk:((l.drop q).take z.1.toNat).length ≤ z.1.toNat:=List.length_take_le ..
         rw [if_neg h7,if_neg h7,e1,e2,if_pos (by omega),show wrap64 (left - z.1)=left - z.1 by unfold wrap64;omega,show (q:Int) + (z.1 + 2)=((q + z.1.toNat + 2:Nat):Int) by omega]
         exact ih _ _ _ k (by omega) (by omega) (by rw [List.length_append];omega) (by omega) (by omega) (by omega)
       ·rcases data_shape (l.drop q) q z.1 (by omega) (by omega) hzb.1 (by omega) with e|e
        ·exact absurd e h6
        ·rw [if_neg h6,if_neg h6,e]
    ·rw [if_neg h3,if_neg h3]
     simp
  ·rw [if_neg h1,if_neg h1]
   simp only
   rw [if_neg h1]
theorem Decode_f (l:List Int) (most:Int) (hl:l.length ≤ 1000000) (hm:most ≤ 9223372036854775807) (k:Nat) (hk:4 * l.length + 70 ≤ k):chunk_Decode.f k l most=some (decS l (l.length + 1) 0 (mx most 0) []):=by
 unfold chunk_Decode.f
 exact dec_f l hl (l.length + 1) 0 (mx most 0) [] k (by omega) (by omega) (by simp) (by unfold mx;split <;> omega) (by unfold mx;split <;> omega) (by omega)
theorem numL_nn (b:Int) (hb:0 ≤ b) : ∀ (l:List Int) (n v:Int),0 ≤ n → numL b l n=some v → 0 ≤ v
 | [],n,v,hn,h=>by simp only [numL,Option.some.injEq] at h;omega
 | c :: r,n,v,hn,h=>by
  rw [numL] at h
  split at h
  ·next hc=>exact numL_nn b hb r _ v (by have:=Int.mul_nonneg hn hb;omega) h
  ·cases h
theorem num_nn (s:ByteArray):0 ≤ (numSpec s 10 18).1:=by
 unfold numSpec
 split
 ·exact Int.le_refl _
 ·split
  ·next v hv=>exact numL_nn 10 (by decide) _ 0 v (Int.le_refl _) hv
  ·exact Int.le_refl _
def lenNm:ByteArray:=⟨#[99,111,110,116,101,110,116,45,108,101,110,103,116,104]⟩
def teNm:ByteArray:=⟨#[116,114,97,110,115,102,101,114,45,101,110,99,111,100,105,110,103]⟩
def lenNM:ByteArray:=⟨#[67,111,110,116,101,110,116,45,76,101,110,103,116,104]⟩
def teNM:ByteArray:=⟨#[84,114,97,110,115,102,101,114,45,69,110,99,111,100,105,110,103]⟩
theorem getS_nm (p q:ByteArray) (h:(bytesOf p).map foldC=(bytesOf q).map foldC) : ∀ fs,getS p fs=getS q fs
 | []=>rfl
 | f :: r=>by rw [getS,getS,getS_nm p q h r];unfold sameN;rw [h]
theorem listS_nm (p q:ByteArray) (h:(bytesOf p).map foldC=(bytesOf q).map foldC) (fs:List (S36)):listS p fs=listS q fs:=by unfold listS;rw [getS_nm p q h]
theorem len_nm:(bytesOf lenNM).map foldC=(bytesOf lenNm).map foldC:=by decide +kernel
theorem te_nm:(bytesOf teNM).map foldC=(bytesOf teNm).map foldC:=by decide +kernel
/-- Is a name there? -/
def thereS (name:ByteArray) (fs:List (S36)):Bool:=decide (((getS name fs).length:Int) > 0)
theorem there_f (fs:List (S36)) (name:ByteArray) (hf:FB fs) (hn:name.size ≤ 1048576) (k:Nat) (hk:fs.length < k):frame_there.f k fs name=some (thereS name fs):=by
 unfold frame_there.f
 rw [Get_f fs name hf hn k hk,Option.bind_some];rfl
theorem thereLen_f (fs:List (S36)) (hf:FB fs) (k:Nat) (hk:fs.length < k):frame_there.f k fs ⟨#[67,111,110,116,101,110,116,45,76,101,110,103,116,104]⟩=some (thereS lenNm fs):=by
 have h:=there_f fs lenNM hf (by decide) k hk
 have e:thereS lenNM fs=thereS lenNm fs:=by unfold thereS;rw [getS_nm _ _ len_nm]
 rw [e] at h
 exact h
theorem thereTe_f (fs:List (S36)) (hf:FB fs) (k:Nat) (hk:fs.length < k):frame_there.f k fs ⟨#[84,114,97,110,115,102,101,114,45,69,110,99,111,100,105,110,103]⟩=some (thereS teNm fs):=by
 have h:=there_f fs teNM hf (by decide) k hk
 have e:thereS teNM fs=thereS teNm fs:=by unfold thereS;rw [getS_nm _ _ te_nm]
 rw [e] at h
 exact h
/-- The length that parts tell. -/
def lenS:List ByteArray → Int × Bool
 | []=>(0,false)
 | p :: r=>if (numSpec p 10 18).2=true∧(r.all fun q=>decide (numSpec q 10 18=((numSpec p 10 18).1,true)))=true then ((numSpec p 10 18).1,true) else (0,false)
theorem len_rest (ps:List ByteArray) (hl:ps.length ≤ 1048577000) (hs : ∀ p ∈ ps,p.size ≤ 1048576) (n:Int) (hn:0 ≤ n) (d:Nat) : ∀ (k i:Nat),i + d=ps.length → d + 2100000 ≤ k →
 frame_length.l0 k n ps (ps.length:Int) (i:Int)=some (if ((ps.drop i).all fun q=>decide (numSpec q 10 18=(n,true)))=true then (n,true) else (0,false)):=by
 induction d with
 | zero =>
  intro k i hi hk
  obtain ⟨k,rfl⟩ : ∃ m,k=m + 1:=⟨k - 1,by omega⟩
  rw [frame_length.l0,if_neg (by omega),List.drop_of_length_le (by omega),List.all_nil,if_pos rfl,decide_eq_true hn]
 | succ d ih =>
  intro k i hi hk
  obtain ⟨k,rfl⟩ : ∃ m,k=m + 1:=⟨k - 1,by omega⟩
  have hlt:i < ps.length:=by omega
  have hb:=hs _ (List.getElem_mem hlt)
  have hw:wrap64 ((i:Int) + 1)=((i + 1:Nat):Int):=by unfold wrap64;omega
  rw [frame_length.l0,if_pos (by omega),if_pos (by omega),if_pos (by omega),rdB_at ps i hlt,Decimal_f _ (by omega) k (by omega),Option.bind_some,hw,List.drop_eq_getElem_cons hlt,List.all_cons]
  obtain ⟨z,hz⟩ : ∃ z,z=numSpec ps[i] 10 18:=⟨_,rfl⟩
  rw [← hz]
  by_cases h1:z.2=true
  ·rw [if_pos h1,if_pos hn]
   by_cases h2:z.1=n
   ·have e:z=(n,true):=Prod.ext h2 h1
    rw [if_pos h2,h2,ih k (i + 1) (by omega) (by omega),decide_eq_true e,Bool.true_and]
   ·have e : ¬ z=(n,true):=fun e=>h2 (by rw [e])
    rw [if_neg h2,decide_eq_false e,Bool.false_and,if_neg (by simp)]
  ·have e : ¬ z=(n,true):=fun e=>h1 (by rw [e])
   rw [if_neg h1,decide_eq_false e,Bool.false_and,if_neg (by simp)]
theorem length_fs (fs:List (S36)) (hf:FB fs) (k:Nat) (hk:1060000000 ≤ k):frame_length.f k fs=some (if listS lenNm fs=[] then (-1,false) else lenS (listS lenNm fs)):=by
 have hlb:=list_bounds fs lenNm hf
 obtain ⟨ps,hps⟩ : ∃ ps,ps=listS lenNm fs:=⟨_,rfl⟩
 have hL:field_List.f k fs (⟨#[67,111,110,116,101,110,116,45,76,101,110,103,116,104]⟩:ByteArray)=some ps:=by
  have h:=List_f fs lenNM hf (by decide) k (by omega)
  rw [listS_nm _ _ len_nm,← hps] at h
  exact h
 unfold frame_length.f
 rw [hL,Option.bind_some,← hps]
 rw [← hps] at hlb
 obtain ⟨k,rfl⟩ : ∃ m,k=m + 1:=⟨k - 1,by omega⟩
 cases ps with
 | nil =>
  rw [frame_length.l0,if_neg (by simp),if_pos rfl]
  rfl
 | cons p r =>
  have hb:=hlb.2 p List.mem_cons_self
  have hr0:rdOf ByteArray.empty (p :: r) 0=p:=rdB_at (p :: r) 0 (by simp)
  rw [frame_length.l0,if_pos (by simp only [List.length_cons];omega),if_pos (by omega),if_pos (by simp only [List.length_cons];omega),hr0,Decimal_f _ (by omega) k (by omega),Option.bind_some,show (if (p :: r)=[] then ((-1:Int),false) else lenS (p :: r))=lenS (p :: r) from if_neg (by simp),lenS]
  obtain ⟨z,hz⟩ : ∃ z,z=numSpec p 10 18:=⟨_,rfl⟩
  have hnn:=num_nn p
  rw [← hz] at hnn ⊢
  by_cases h1:z.2=true
  ·have h:=len_rest (p :: r) hlb.1 hlb.2 z.1 hnn r.length k 1 (by simp only [List.length_cons];omega) (by have:=hlb.1;simp only [List.length_cons] at this;omega)
   have h' : frame_length.l0 k z.1 (p :: r) ((p :: r).length:Int) 1=_:=h
   rw [if_pos h1,if_neg (by decide),show wrap64 (0 + 1)=1 by unfold wrap64;omega,h']
   simp only [List.drop_succ_cons,List.drop_zero]
   by_cases h2:(r.all fun q=>decide (numSpec q 10 18=(z.1,true)))=true
   ·rw [if_pos h2,if_pos ⟨h1,h2⟩]
   ·rw [if_neg h2,if_neg (fun h=>h2 h.2)]
  ·rw [if_neg h1,if_neg (fun h=>h1 h.1)]
def chunkedW:ByteArray:=⟨#[99,104,117,110,107,101,100]⟩
/-- Are they chunked? -/
def chunkedS (fs:List (S36)):Bool:=match listS teNm fs with|[p]=>sameN p chunkedW|_=>false
theorem chunked_f (fs:List (S36)) (hf:FB fs) (k:Nat) (hk:1049600 ≤ k):frame_chunked.f k fs=some (chunkedS fs):=by
 have hlb:=list_bounds fs teNm hf
 have hL:field_List.f k fs (⟨#[84,114,97,110,115,102,101,114,45,69,110,99,111,100,105,110,103]⟩:ByteArray)=some (listS teNm fs):=by
  have h:=List_f fs teNM hf (by decide) k (by omega)
  rw [listS_nm _ _ te_nm] at h
  exact h
 unfold frame_chunked.f chunkedS
 rw [hL,Option.bind_some]
 match hps:listS teNm fs with
 | []=>rw [if_neg (by simp)]
 | [p] =>
  rw [hps] at hlb
  have hb:=hlb.2 p List.mem_cons_self
  have hr0:rdOf ByteArray.empty [p] 0=p:=rdB_at [p] 0 (by simp)
  rw [if_pos (by simp),if_pos (by simp),hr0,same_f p _ (by omega) (by decide),Option.bind_some]
  rfl
 | p :: q :: r=>rw [if_neg (by simp only [List.length_cons];omega)]
/-- How long a request's body is. -/
def reqLen (fs:List (S36)) (minor:Int):Int × Bool × Int :=
 if thereS teNm fs=true then (if thereS lenNm fs=true ∨ minor=0 then (0,false,400) else if chunkedS fs=true then (0,true,0) else (0,false,501))
 else if thereS lenNm fs=true then (if (lenS (listS lenNm fs)).2=true then (if (lenS (listS lenNm fs)).1 > 4096 then (0,false,413) else ((lenS (listS lenNm fs)).1,false,0)) else (0,false,400)) else (0,false,0)
theorem lenS_if (ps:List ByteArray):(if ps=[] then ((-1:Int),false) else lenS ps).2=(lenS ps).2∧((lenS ps).2=true → (if ps=[] then ((-1:Int),false) else lenS ps).1=(lenS ps).1):=by
 by_cases h:ps=[]
 ·rw [if_pos h,h];exact ⟨rfl,fun h=>by cases h⟩
 ·rw [if_neg h];exact ⟨rfl,fun _=>rfl⟩
theorem frameReq_f (fs:List (S36)) (minor:Int) (hf:FB fs) (k:Nat) (hk:1060000010 ≤ k):frame_Request.f k fs minor=some (reqLen fs minor):=by
 have hfl:=hf.1
 obtain ⟨k,rfl⟩ : ∃ m,k=m + 2:=⟨k - 2,by omega⟩
 obtain ⟨hl1,hl2⟩:=lenS_if (listS lenNm fs)
 unfold frame_Request.f reqLen
 rw [thereLen_f fs hf _ (by omega),Option.bind_some,thereTe_f fs hf _ (by omega),Option.bind_some,length_fs fs hf _ (by omega),Option.bind_some]
 obtain ⟨z,hz⟩ : ∃ z,z=(if listS lenNm fs=[] then ((-1:Int),false) else lenS (listS lenNm fs)):=⟨_,rfl⟩
 rw [← hz] at hl1 hl2 ⊢
 obtain ⟨y,hy⟩ : ∃ y,y=lenS (listS lenNm fs):=⟨_,rfl⟩
 rw [← hy] at hl1 hl2 ⊢
 have hj1 : ∀ L T b,frame_Request.j1 (k + 1) L T z.1 z.2 b=some (if b=true then (0,false,501) else if T=true then (0,true,0) else if L=true then (if y.2=true then (if y.1 > 4096 then (0,false,413) else (y.1,false,0)) else (0,false,400)) else (0,false,0)):=by
  intro L T b
  rw [frame_Request.j1,hl1]
  cases b <;> cases T <;> cases L <;> try rfl
  cases h:y.2
  ·rfl
  ·rw [hl2 h]
   by_cases h9:y.1 > 4096
   ·simp [h9]
   ·simp [h9]
 have hj0 : ∀ L T x,frame_Request.j0 (k + 2) fs L T z.1 z.2 x=some (if x=true then (0,false,400) else if T=true then (if chunkedS fs=true then (0,true,0) else (0,false,501)) else if L=true then (if y.2=true then (if y.1 > 4096 then (0,false,413) else (y.1,false,0)) else (0,false,400)) else (0,false,0)):=by
  intro L T x
  rw [frame_Request.j0,chunked_f fs hf (k + 1) (by omega),Option.bind_some,hj1,hj1]
  cases x <;> cases T <;> cases chunkedS fs <;> rfl
 rw [hj0,hj0,hj0]
 by_cases hm:minor=0
 ·rw [beq_iff_eq.2 hm]
  cases thereS teNm fs <;> cases thereS lenNm fs <;> simp [hm]
 ·rw [beq_eq_false_iff_ne.2 hm]
  cases thereS teNm fs <;> cases thereS lenNm fs <;> simp [hm]
def bodyS (b:List Int) (size:Int) (coded:Bool):List Int × Int × Int :=
 if coded=true then (if (decS b (b.length + 1) 0 4096 []).2.2=2 then ([],-1,413) else if (decS b (b.length + 1) 0 4096 []).2.2=0 then (if (decS b (b.length + 1) 0 4096 []).2.1=0 then ([],-1,0) else ((decS b (b.length + 1) 0 4096 []).1,(decS b (b.length + 1) 0 4096 []).2.1,0)) else ([],-1,400))
 else if (b.length:Int) < size then ([],-1,0) else (b.take size.toNat,size,0)
theorem lenS_nn (ps:List ByteArray):0 ≤ (lenS ps).1:=by
 cases ps with
 | nil=>decide
 | cons p r =>
  rw [lenS]
  split
  ·exact num_nn p
  ·decide
theorem reqLen_size (fs:List (S36)) (m:Int):0 ≤ (reqLen fs m).1∧(reqLen fs m).1 ≤ 4096:=by
 have h0:0 ≤ (lenS (listS lenNm fs)).1:=lenS_nn _
 unfold reqLen
 repeat' split
 all_goals first|exact ⟨by decide,by decide⟩|(constructor <;> simp only [] <;> omega)
def foldU (b:UInt8):UInt8:=UInt8.ofNat (foldC (b.toNat:Int)).toNat
theorem byteAll {P:UInt8 → Prop} (h : ∀ n:Fin 256,P (UInt8.ofNat n.val)) (b:UInt8):P b:=by
 have:=h ⟨b.toNat,b.toNat_lt⟩
 rwa [show UInt8.ofNat (⟨b.toNat,b.toNat_lt⟩:Fin 256).val=b from UInt8.ofNat_toNat] at this
def digU (b:UInt8):Bool:=([48,49,50,51,52,53,54,55,56,57]:List UInt8).contains b
theorem foldU_dig (b:UInt8):digU (foldU b)=digU b:=byteAll (P:=fun b=>digU (foldU b)=digU b) (by decide +kernel) b
theorem foldU_colon (b:UInt8):foldU b=58 ↔ b=58:=byteAll (P:=fun b=>foldU b=58 ↔ b=58) (by decide +kernel) b
theorem foldU_host (b:UInt8):hostC (b.toNat:Int)=true → foldU b=b:=byteAll (P:=fun b=>hostC (b.toNat:Int)=true → foldU b=b) (by decide +kernel) b
theorem fold_mk (l:List UInt8):strOfNums ((bytesOf (mkS l)).map foldC)=mkS (l.map foldU):=by
 rw [mkS_bytes]
 unfold strOfNums mkS
 rw [List.map_map,List.map_map]
 rfl
theorem data_get (l:List UInt8) (j:Nat) (h:j < l.length):(((mkS l).data[j]!).toNat:Int)=(l[j].toNat:Int):=by
 have hs:j < (mkS l).data.size:=by show j < (mkS l).size;rw [mkS_size];exact h
 rw [getElem!_pos (mkS l).data j hs]
 simp [mkS]
theorem trimS_nil (l:List UInt8):Lib.trimS l [48,49,50,51,52,53,54,55,56,57]=[] ↔ ∀ x ∈ l,digU x=true:=by
 show (l.reverse.dropWhile digU).reverse.dropWhile digU=[] ↔ _
 constructor
 ·intro h
  obtain ⟨pre,h1,h2⟩:=dw_split digU (l.reverse.dropWhile digU).reverse
  rw [h,List.append_nil] at h1
  have h3:l.reverse.dropWhile digU=[]:=by
   cases hd:l.reverse.dropWhile digU with
   | nil=>rfl
   | cons a t =>
    have h4:=dw_head digU l.reverse a (by rw [hd];rfl)
    have h5:=h2 a (by rw [← h1,hd];simp)
    rw [h4] at h5
    cases h5
  obtain ⟨pre,h4,h5⟩:=dw_split digU l.reverse
  rw [h3,List.append_nil] at h4
  exact fun x hx=>h5 x (by rw [← h4];exact List.mem_reverse.2 hx)
 ·intro h
  have h1:l.reverse.dropWhile digU=[]:=by
   have:=dw_append (p:=digU) l.reverse [] (fun a ha=>h a (List.mem_reverse.1 ha))
   rwa [List.append_nil] at this
  rw [h1]
  rfl
/-- A port at the place n. -/
def PortAt (l:List UInt8) (n:Nat):Prop := ∃ h:n < l.length,l[n]=58 ∧ ∀ x ∈ l.drop (n + 1),digU x=true
theorem cut_none (l:List UInt8) (h : ∀ n,¬ PortAt l n):hostCut (mkS l)=mkS l:=by
 unfold hostCut
 rw [if_neg]
 intro hp
 unfold hostPort at hp
 simp only [Bool.and_eq_true,decide_eq_true_eq,List.isEmpty_iff] at hp
 obtain ⟨h0,h1⟩:=hp
 rcases Lib.lastIndexByte_spec (mkS l) 58 with ⟨e,_⟩|⟨i,hi,e,h2,_⟩
 ·omega
 ·rw [mkS_size] at hi
  rw [data_get l i hi] at h2
  have e1:((i:Int) + 1).toNat=i + 1:=by omega
  rw [e,e1,mkS_size,mkS_extract,mkS_data,List.take_of_length_le (by rw [List.length_drop];omega),trimS_nil] at h1
  exact h i ⟨hi,UInt8.toNat_inj.1 (by show _=58;omega),h1⟩
theorem port_fold (l:List UInt8) (n:Nat):PortAt (l.map foldU) n ↔ PortAt l n:=by
 unfold PortAt
 constructor
 ·rintro ⟨h,h1,h2⟩
  rw [List.length_map] at h
  refine ⟨h,?_,fun x hx=>?_⟩
  ·rw [List.getElem_map] at h1
   exact (foldU_colon _).1 h1
  ·rw [← foldU_dig]
   exact h2 _ (by rw [← List.map_drop];exact List.mem_map_of_mem hx)
 ·rintro ⟨h,h1,h2⟩
  refine ⟨by rw [List.length_map];exact h,?_,fun x hx=>?_⟩
  ·rw [List.getElem_map,h1];rfl
  ·rw [← List.map_drop] at hx
   obtain ⟨y,hy,rfl⟩:=List.mem_map.1 hx
   rw [foldU_dig]
   exact h2 y hy
/-- The host of a text of which n bytes stand ahead of the port. -/
def hostOf (l:List UInt8) (n:Nat):ByteArray × Bool:=hostEnd (mkS ((l.take n).map foldU))
theorem Host_none (l:List UInt8) (hn:l.length ≤ 140737488355328) (h : ∀ n,¬ PortAt l n):line_Host.f (mkS l)=some (hostOf l l.length):=by
 unfold line_Host.f hostOf
 rw [if_pos (by rw [mkS_size];exact hn),fold_mk,cut_none _ (fun n hp=>h n ((port_fold l n).1 hp)),List.take_length]
theorem hostEnd_ok (u:List UInt8) (h:(hostEnd (mkS u)).2=true):(hostEnd (mkS u)).1=mkS u∧0 < u.length∧u.length ≤ 64∧(bytesOf (mkS u)).all hostC=true:=by
 unfold hostEnd at h ⊢
 rw [mkS_size] at h ⊢
 by_cases c:u.length=0 ∨ 64 < u.length
 ·rw [if_pos c] at h;cases h
 ·rw [if_neg c] at h ⊢
  by_cases c2:(bytesOf (mkS u)).all hostC=true
  ·rw [if_pos c2];exact ⟨rfl,by omega,by omega,c2⟩
  ·rw [if_neg c2] at h;cases h
theorem Fold_f (s:ByteArray) (hn:s.size ≤ 140737488355328):sign_Fold.f s=some (strOfNums ((bytesOf s).map foldC)):=if_pos hn
theorem str_len (xs:List Int):(strOfNums xs).size=xs.length:=str_size xs
theorem CutPrefix_f (s p:List UInt8):strings_CutPrefix.f (mkS s) (mkS p)=some (if s.take p.length=p then (mkS (s.drop p.length),true) else (mkS s,false)):=by
 unfold strings_CutPrefix.f stringslite_CutPrefix.f stringslite_HasPrefix.f
 rw [mkS_size,mkS_size]
 by_cases h:p.length ≤ s.length
 ·rw [if_pos (by omega),if_pos (by omega),if_pos (by omega),Option.bind_some,Int.toNat_natCast,mkS_extract,mkS_extract,mkS_toList,mkS_toList,List.drop_zero,Nat.sub_zero]
  by_cases e:s.take p.length=p
  ·rw [if_pos e,e,if_pos (by simp),if_pos (by omega),if_pos (by omega),Option.bind_some,List.take_of_length_le (by rw [List.length_drop];omega)]
  ·rw [if_neg e,if_neg (by simpa using e),Option.bind_some]
 ·rw [if_neg (by omega),Option.bind_some,if_neg (by decide),Option.bind_some,if_neg ?_]
  intro e
  have:=congrArg List.length e
  rw [List.length_take] at this
  omega
theorem CutPrefix_yes (s p:List UInt8) (h:s.take p.length=p):strings_CutPrefix.f (mkS s) (mkS p)=some (mkS (s.drop p.length),true):=by rw [CutPrefix_f,if_pos h]
theorem CutPrefix_no (s p:List UInt8) (h : ¬ s.take p.length=p):strings_CutPrefix.f (mkS s) (mkS p)=some (mkS s,false):=by rw [CutPrefix_f,if_neg h]
/-- The last digit of a version that is known. -/
def minL (l:List UInt8):Option Int:=if l=[72,84,84,80,47,49,46,48] then some 0 else if l=[72,84,84,80,47,49,46,49] then some 1 else none
theorem minor_f (l:List UInt8):line_minor.f (mkS l)=some (match minL l with|some n=>(n,true)|none=>(0,false)):=by
 unfold line_minor.f minL
 rw [mkS_toList]
 by_cases h1:l=[72,84,84,80,47,49,46,48]
 ·rw [if_pos h1,if_pos h1]
 ·rw [if_neg h1,if_neg h1]
  by_cases h2:l=[72,84,84,80,47,49,46,49]
  ·rw [if_pos h2,if_pos h2]
  ·rw [if_neg h2,if_neg h2]
/-- The digits of a version. -/
def verL (l:List UInt8):Option (Int × Int):=match l with
 | [a,b,c,d,e,f,g,h]=>if [a,b,c,d,e]=[72,84,84,80,47]∧(48 ≤ (f.toNat:Int)∧(f.toNat:Int) ≤ 57)∧g=46∧(48 ≤ (h.toNat:Int)∧(h.toNat:Int) ≤ 57) then some ((f.toNat:Int) - 48,(h.toNat:Int) - 48) else none
 | _=>none
theorem verL_8 (a b c d e f g h:UInt8):verL [a,b,c,d,e,f,g,h]=if [a,b,c,d,e]=[72,84,84,80,47]∧(48 ≤ (f.toNat:Int)∧(f.toNat:Int) ≤ 57)∧g=46∧(48 ≤ (h.toNat:Int)∧(h.toNat:Int) ≤ 57) then some ((f.toNat:Int) - 48,(h.toNat:Int) - 48) else none:=rfl
theorem verL_none {l:List UInt8} (h:l.length ≠ 8):verL l=none:=by
 unfold verL
 split
 ·simp at h
 ·rfl
theorem eight {l:List UInt8} (h:l.length=8) : ∃ a b c d e f g i,l=[a,b,c,d,e,f,g,i]:=by
 match l,h with
 | [a,b,c,d,e,f,g,i],_=>exact ⟨a,b,c,d,e,f,g,i,rfl⟩
theorem refDigit_f (c:Int):tollbarref02_Digit.f c=some (decide (48 ≤ c∧c ≤ 57)):=by
 unfold tollbarref02_Digit.f
 by_cases h:c ≥ 48
 ·rw [if_pos h];congr 1;rw [Bool.eq_iff_iff,decide_eq_true_eq,decide_eq_true_eq];omega
 ·rw [if_neg h,decide_eq_false (by omega)]
theorem digit_f (c:Int):line_digit.f c=some (decide (48 ≤ c∧c ≤ 57)):=refDigit_f c
theorem numbered_f (l : List UInt8) : line_numbered.f (mkS l) = some (verL l).isSome := by
  unfold line_numbered.f
  rw [show (⟨#[72, 84, 84, 80, 47]⟩ : ByteArray) = mkS [72, 84, 84, 80, 47] from rfl]
  by_cases c1 : l.take ([72, 84, 84, 80, 47] : List UInt8).length = [72, 84, 84, 80, 47]
  · rw [CutPrefix_yes _ _ c1, Option.bind_some, if_pos rfl, mkS_size]
    have hl : l.take 5 = [72, 84, 84, 80, 47] := c1
    by_cases h8 : l.length = 8
    · obtain ⟨a, b, c, d, e, f, g, i, rfl⟩ := eight h8
      have c1' : [a, b, c, d, e] = [72, 84, 84, 80, 47] := c1
      have hd : List.drop ([72, 84, 84, 80, 47] : List UInt8).length [a, b, c, d, e, f, g, i] = [f, g, i] := rfl
      have b0 : bt (mkS [f, g, i]) 0 = f.toNat := bt_mk [f, g, i] 0 (by simp)
      have b1 : bt (mkS [f, g, i]) 1 = g.toNat := bt_mk [f, g, i] 1 (by simp)
      have b2 : bt (mkS [f, g, i]) 2 = i.toNat := bt_mk [f, g, i] 2 (by simp)
      rw [hd, if_pos (by rfl), if_pos (by simp), b0, b1, b2, digit_f, digit_f, Option.bind_some, Option.bind_some]
      rw [verL_8]
      by_cases c2 : 48 ≤ (f.toNat : Int) ∧ (f.toNat : Int) ≤ 57
      · rw [decide_eq_true c2, if_pos rfl, if_pos (by simp)]
        by_cases c3 : g = 46
        · have g1 : ((g.toNat : Nat) : Int) = 46 := by rw [c3]; rfl
          rw [if_pos g1, if_pos (by simp)]
          by_cases c4 : 48 ≤ (i.toNat : Int) ∧ (i.toNat : Int) ≤ 57
          · rw [decide_eq_true c4, if_pos ⟨c1', c2, c3, c4⟩]; rfl
          · rw [decide_eq_false c4, if_neg (fun h => c4 h.2.2.2)]; rfl
        · have g1 : ¬ ((g.toNat : Nat) : Int) = 46 := fun h => c3 (UInt8.toNat_inj.1 (by show _ = 46; omega))
          rw [if_neg g1, if_neg (fun h => c3 h.2.2.1)]; rfl
      · rw [decide_eq_false c2, if_neg (by simp), if_neg (fun h => c2 h.2.1)]; rfl
    · rw [verL_none h8, List.length_drop, if_neg (by
        have := congrArg List.length hl
        rw [List.length_take] at this
        simp only [List.length_cons, List.length_nil] at this ⊢
        omega)]
      rfl
  · rw [CutPrefix_no _ _ c1, Option.bind_some, if_neg (by simp)]
    have : verL l = none := by
      unfold verL
      split
      · rw [if_neg (fun h => c1 h.1)]
      · rfl
    rw [this]
    rfl
theorem ver_min (l:List UInt8):minL l=match verL l with|some p=>if p.1=1∧p.2 ≤ 1 then some p.2 else none|none=>none:=by
 by_cases h8:l.length=8
 ·obtain ⟨a,b,c,d,e,f,g,i,rfl⟩:=eight h8
  have fr:=f.toNat_lt
  have ir:=i.toNat_lt
  rw [verL_8]
  unfold minL
  by_cases c0:[a,b,c,d,e]=[72,84,84,80,47]∧(48 ≤ (f.toNat:Int)∧(f.toNat:Int) ≤ 57)∧g=46∧(48 ≤ (i.toNat:Int)∧(i.toNat:Int) ≤ 57)
  ·rw [if_pos c0]
   obtain ⟨c1,c2,c3,c4⟩:=c0
   simp only [List.cons.injEq,and_true] at c1
   obtain ⟨rfl,rfl,rfl,rfl,rfl⟩:=c1
   subst c3
   simp only [List.cons.injEq,and_true,true_and]
   by_cases f1:f=49
   ·subst f1
    simp only [true_and]
    by_cases i0:i=48
    ·subst i0;simp
    ·rw [if_neg i0]
     by_cases i1:i=49
     ·subst i1;simp
     ·rw [if_neg i1,if_neg ?_]
      rintro ⟨_,h⟩
      have e0:i.toNat ≠ 48:=fun h=>i0 (UInt8.toNat_inj.1 h)
      have e1:i.toNat ≠ 49:=fun h=>i1 (UInt8.toNat_inj.1 h)
      omega
   ·rw [if_neg (fun h=>f1 h.1),if_neg (fun h=>f1 h.1),if_neg ?_]
    rintro ⟨h,_⟩
    exact f1 (UInt8.toNat_inj.1 (by show _=49;omega))
  ·rw [if_neg c0,if_neg,if_neg]
   ·intro h;simp only [List.cons.injEq,and_true] at h;obtain ⟨rfl,rfl,rfl,rfl,rfl,rfl,rfl,rfl⟩:=h;exact c0 (by decide)
   ·intro h;simp only [List.cons.injEq,and_true] at h;obtain ⟨rfl,rfl,rfl,rfl,rfl,rfl,rfl,rfl⟩:=h;exact c0 (by decide)
 ·rw [verL_none h8]
  unfold minL
  rw [if_neg (fun h=>h8 (by rw [h];rfl)),if_neg (fun h=>h8 (by rw [h];rfl))]
theorem Host_some (l:List UInt8) (hn:l.length ≤ 140737488355328) : ∃ u,line_Host.f (mkS l)=some (hostEnd (mkS u)):=by
 unfold line_Host.f
 rw [if_pos (by rw [mkS_size];exact hn)]
 exact ⟨(hostCut (strOfNums ((bytesOf (mkS l)).map foldC))).data.toList,by rw [mkS_self]⟩
def tgtB (c:Int):Bool:=(sign_Target_1.f c).getD false
theorem Target_f (s:ByteArray) (h:s.size ≤ 140737488355328):sign_Target.f s=some (!s.toList.isEmpty && (bytesOf s).all tgtB):=if_pos h
def tokOk (s:ByteArray):Bool := !s.toList.isEmpty && (bytesOf s).all tokB
def tgtOk (s:ByteArray):Bool := !s.toList.isEmpty && (bytesOf s).all tgtB
/-- A method and its target. -/
def aimOk (m t:ByteArray):Bool:=tgtOk t && (decide (bt t 0=47) || (decide (t.toList=[42]) && (m.toList == [79,80,84,73,79,78,83])))
def reqBad (c:Int):ByteArray × ByteArray × Int × (List (S36)) × List Int × Int:=((⟨#[]⟩:ByteArray),(⟨#[]⟩:ByteArray),0,[],[],c)
/-- What a request's three parts tell. -/
def reqP (m t v:List UInt8):ByteArray × ByteArray × Int × (List (S36)) × List Int × Int :=
 if (m.length ≤ 20∧tokOk (mkS m)=true)∧aimOk (mkS m) (mkS t)=true then
  if 512 < t.length then reqBad 414 else
  match verL v with
  | none=>reqBad 400
  | some p=>if p.1=1∧p.2 ≤ 1 then (mkS m,mkS t,p.2,[],[],0) else reqBad 505
 else reqBad 400
def reqSpec (l:List UInt8):ByteArray × ByteArray × Int × (List (S36)) × List Int × Int:=match pcs 32 l with|[m,t,v]=>reqP m t v|_=>reqBad 400
theorem three {α:Type} {l:List α} (h:l.length=3) : ∃ a b c,l=[a,b,c]:=by
 match l,h with
 | [a,b,c],_=>exact ⟨a,b,c,rfl⟩
theorem reqSpec_not {l:List UInt8} (h:(pcs 32 l).length ≠ 3):reqSpec l=reqBad 400:=by
 unfold reqSpec
 split
 ·rename_i e;rw [e] at h;simp at h
 ·rfl
theorem reqSpec_yes {l m t v:List UInt8} (h:pcs 32 l=[m,t,v]):reqSpec l=reqP m t v:=by
 unfold reqSpec
 rw [h]
theorem tgt_ne {s:ByteArray} (h:tgtOk s=true):0 < s.size:=by
 unfold tgtOk at h
 rw [isEmpty_size] at h
 rcases Nat.eq_zero_or_pos s.size with e|e
 ·rw [e] at h;simp at h
 ·exact e
theorem target_f (m t:ByteArray) (h:t.size ≤ 140737488355328):line_target.f m t=some (aimOk m t):=by
 unfold line_target.f aimOk
 rw [Target_f t h,Option.bind_some]
 change (if tgtOk t=true then _ else _)=_
 cases ht:tgtOk t
 ·rfl
 ·have hp:=tgt_ne ht
  rw [if_pos rfl,if_pos (by omega),Bool.true_and]
  by_cases c1:bt t 0=47
  ·rw [if_pos c1,decide_eq_true c1];rfl
  ·rw [if_neg c1,decide_eq_false c1,Bool.false_or]
   by_cases c2:t.toList=[42]
   ·rw [if_pos c2,decide_eq_true c2];rfl
   ·rw [if_neg c2,decide_eq_false c2];rfl
theorem Request_f (l:List UInt8) (hn:l.length ≤ 4398046511100) (k:Nat) (hk:l.length + 4 ≤ k):line_Request.f k (mkS l)=some (reqSpec l):=by
 obtain ⟨k,rfl⟩ : ∃ m,k=m + 1:=⟨k - 1,by omega⟩
 unfold line_Request.f
 rw [Split_fC (sp:=32) (mkS l) (by rw [mkS_size];omega) (k + 1) (by rw [mkS_size];omega),Option.bind_some,mkS_data,List.length_map]
 have hle:=pcs_le (sp:=32) l
 by_cases h3:(pcs 32 l).length=3
 ·obtain ⟨m,t,v,hp⟩:=three h3
  rw [reqSpec_yes hp]
  rw [hp] at hle ⊢
  have hm:=hle m (by simp)
  have ht:=hle t (by simp)
  have e0:rdOf ByteArray.empty ([m,t,v].map mkS) 0=mkS m:=rfl
  have e1:rdOf ByteArray.empty ([m,t,v].map mkS) 1=mkS t:=rfl
  have e2:rdOf ByteArray.empty ([m,t,v].map mkS) 2=mkS v:=rfl
  have hl:(([m,t,v].map mkS).length:Int)=3:=rfl
  have hbad:line_Request.j0 (k + 1) ([m,t,v].map mkS) true=some (reqBad 400):=by simp only [line_Request.j0];rfl
  rw [hbad,e0,e1,if_pos (by simp),if_pos (by simp),mkS_size,Token_f _ (by rw [mkS_size];omega),Option.bind_some]
  unfold reqP
  change (if (m.length:Int) > 20 then _ else if tokOk (mkS m)=true then _ else _)=_
  by_cases c1:(m.length:Int) > 20
  ·rw [if_pos c1,if_neg (fun h=>by omega)]
  ·rw [if_neg c1]
   cases c2:tokOk (mkS m)
   ·rw [if_neg (by simp),if_neg (by simp)]
   ·rw [if_pos rfl,if_pos (by simp),target_f _ _ (by rw [mkS_size];omega),Option.bind_some]
    cases c3:aimOk (mkS m) (mkS t)
    ·rw [if_neg (by simp),Bool.not_false,hbad]
    ·rw [if_pos ⟨⟨by omega,rfl⟩,rfl⟩,Bool.not_true]
     simp only [line_Request.j0]
     rw [if_neg (by simp),hl,e0,e1,e2,if_pos (by omega),minor_f,Option.bind_some,if_pos (by omega),mkS_size]
     by_cases c4:512 < t.length
     ·rw [if_pos (by omega),if_pos c4];rfl
     ·rw [if_neg (by omega),if_neg c4,numbered_f,Option.bind_some,ver_min]
      cases hv:verL v with
      | none=>rfl
      | some p =>
       simp only [Option.isSome_some,if_true]
       by_cases c5:p.1=1∧p.2 ≤ 1
       ·rw [if_pos c5,if_pos c5];rfl
       ·rw [if_neg c5,if_neg c5];rfl
 ·rw [reqSpec_not h3,if_neg (by omega)]
  simp only [line_Request.j0]
  rfl
def hostNm:ByteArray:=⟨#[104,111,115,116]⟩
def hostNM:ByteArray:=⟨#[72,111,115,116]⟩
theorem host_nm:(bytesOf hostNM).map foldC=(bytesOf hostNm).map foldC:=by decide +kernel
def hostT (h:ByteArray):ByteArray × Bool:=(line_Host.f h).getD (⟨#[]⟩,false)
theorem hostT_f (h:ByteArray) (hs:h.size ≤ 140737488355328):line_Host.f h=some (hostT h):=by
 obtain ⟨u,hu⟩:=Host_some h.data.toList (by rw [data_length];omega)
 rw [mkS_self] at hu
 unfold hostT
 rw [hu]
 rfl
/-- Are a request's hosts right? -/
def hostsOk:List ByteArray → Int → Bool
 | [],minor=>minor == 0
 | [h],_=>(hostT h).2
 | _ :: _ :: _,_=>false
def openBad (c:Int):ByteArray × ByteArray × Int × List (S36) × List Int × Int × Int × Bool × Int:=(⟨#[]⟩,⟨#[]⟩,0,[],[],0,0,false,c)
def openF (q:ByteArray × ByteArray × Int × List (S36) × List Int × Int) (g:List (S36)) (n:Int):ByteArray × ByteArray × Int × List (S36) × List Int × Int × Int × Bool × Int :=
 if hostsOk (getS hostNm g) q.2.2.1=true then (if (reqLen g q.2.2.1).2.2=0 then (q.1,q.2.1,q.2.2.1,g,[],n,(reqLen g q.2.2.1).1,(reqLen g q.2.2.1).2.1,0) else openBad (reqLen g q.2.2.1).2.2) else openBad 400
def openL:List ByteArray × Int × Int → ByteArray × ByteArray × Int × List (S36) × List Int × Int × Int × Bool × Int
 | ([],_,c)=>openBad c
 | (s :: ss,n,c)=>if (reqSpec s.data.toList).2.2.2.2.2=0 then (if (fieldsS ss 0).2=0 then (if n=0 then openBad c else openF (reqSpec s.data.toList) (fieldsS ss 0).1 n) else openBad (fieldsS ss 0).2) else openBad (reqSpec s.data.toList).2.2.2.2.2
/-- What a request's beginning tells. -/
def openS (l:List Int):ByteArray × ByteArray × Int × List (S36) × List Int × Int × Int × Bool × Int:=openL (linesS (bdS l) (extS l))
/-- The request with which bytes begin. -/
def reqS (l:List Int):ByteArray × ByteArray × Int × List (S36) × List Int × Int × Int :=
 if (openS l).2.2.2.2.2.1=0 then (⟨#[]⟩,⟨#[]⟩,0,[],[],0,(openS l).2.2.2.2.2.2.2.2)
 else if (bodyS (l.drop (openS l).2.2.2.2.2.1.toNat) (openS l).2.2.2.2.2.2.1 (openS l).2.2.2.2.2.2.2.1).2.1 < 0 then (⟨#[]⟩,⟨#[]⟩,0,[],[],0,(bodyS (l.drop (openS l).2.2.2.2.2.1.toNat) (openS l).2.2.2.2.2.2.1 (openS l).2.2.2.2.2.2.2.1).2.2)
 else ((openS l).1,(openS l).2.1,(openS l).2.2.1,(openS l).2.2.2.1,(bodyS (l.drop (openS l).2.2.2.2.2.1.toNat) (openS l).2.2.2.2.2.2.1 (openS l).2.2.2.2.2.2.2.1).1,(openS l).2.2.2.2.2.1 + (bodyS (l.drop (openS l).2.2.2.2.2.1.toNat) (openS l).2.2.2.2.2.2.1 (openS l).2.2.2.2.2.2.2.1).2.1,0)
theorem reqSpec_minor (l:List UInt8):(reqSpec l).2.2.1=0 ∨ (reqSpec l).2.2.1=1:=by
 have hv : ∀ v p,verL v=some p → 0 ≤ p.2:=by
  intro v p h
  unfold verL at h
  split at h
  ·split at h
   ·rename_i c
    injection h with h
    subst h
    show (0:Int) ≤ _ - 48
    omega
   ·cases h
  ·cases h
 unfold reqSpec
 split
 ·unfold reqP
  split
  ·split
   ·exact Or.inl rfl
   ·split
    ·exact Or.inl rfl
    ·rename_i p hp
     have:=hv _ _ hp
     split
     ·rename_i h
      show p.2=0 ∨ p.2=1
      omega
     ·exact Or.inl rfl
  ·exact Or.inl rfl
 ·exact Or.inl rfl
/-- What is known of a request's beginning that is whole. -/
structure OpenOk (l:List Int) (o:ByteArray × ByteArray × Int × List (S36) × List Int × Int × Int × Bool × Int):Prop where
 pos:0 < o.2.2.2.2.2.1
 le:o.2.2.2.2.2.1 ≤ (l.length:Int)∧o.2.2.2.2.2.1 ≤ 2048
 code:o.2.2.2.2.2.2.2.2=0
 size:0 ≤ o.2.2.2.2.2.2.1∧o.2.2.2.2.2.2.1 ≤ 4096
 minor:o.2.2.1=0 ∨ o.2.2.1=1
 fields:o.2.2.2.1.length ≤ 40 ∧ ∀ f ∈ o.2.2.2.1,rightB f.f0 f.f1=true
 body:o.2.2.2.2.1=[]
theorem open_cases (l:List Int):(∃ c,openS l=openBad c) ∨ OpenOk l (openS l):=by
 have hb:=bdS_length l
 have hle:=lines_le (bdS l) (extS l)
 unfold openS
 obtain ⟨L,hL⟩ : ∃ L,L=linesS (bdS l) (extS l):=⟨_,rfl⟩
 rw [← hL] at hle ⊢
 obtain ⟨ss,n,c⟩:=L
 simp only at hle
 cases ss with
 | nil=>exact Or.inl ⟨c,rfl⟩
 | cons s ss =>
  rw [openL]
  split
  ·split
   ·split
    ·exact Or.inl ⟨c,rfl⟩
    ·rename_i h3
     unfold openF
     split
     ·split
      ·have hf:=fieldsS_FB ss 0 (by omega)
       exact Or.inr ⟨by show 0 < n;omega,by show n ≤ _∧n ≤ 2048;omega,rfl,reqLen_size _ _,reqSpec_minor _,⟨by show (fieldsS ss 0).1.length ≤ 40;omega,hf.2⟩,rfl⟩
      ·exact Or.inl ⟨_,rfl⟩
     ·exact Or.inl ⟨_,rfl⟩
   ·exact Or.inl ⟨_,rfl⟩
  ·exact Or.inl ⟨_,rfl⟩
def Cln (xs:List Int):Prop := ∀ x ∈ xs,x ≠ 13∧x ≠ 10
theorem cln_nil:Cln []:=fun x hx=>by cases hx
theorem cln_app {a b:List Int} (ha:Cln a) (hb:Cln b):Cln (a ++ b):=fun x hx=>by
 rcases List.mem_append.1 hx with h|h
 ·exact ha x h
 ·exact hb x h
theorem cutA_split (l:List Int) (m:Int) : ∀ (d:Nat) (i:Int),(l.length:Int) - i=d → 0 ≤ i → Cln (l.take i.toNat) → i ≤ m → (cutAt l m d i).2.1 > 0 →
 ∃ xs r,l=xs ++ ([13,10] ++ r)∧Cln xs∧(xs.length:Int) ≤ m∧cutAt l m d i=(strOfNums xs,(xs.length:Int) + 2,0):=by
 intro d
 induction d with
 | zero=>intro i _ _ _ _ h;simp [cutAt] at h
 | succ d ih =>
  intro i hd h0 hc hm h
  have hlt:i < (l.length:Int):=by omega
  rw [cutAt] at h ⊢
  by_cases h10:rd l i=10
  ·rw [if_pos h10] at h;simp at h
  ·rw [if_neg h10] at h ⊢
   by_cases h13:rd l i=13
   ·rw [if_pos h13] at h ⊢
    by_cases h1:i + 1 < (l.length:Int)
    ·rw [if_pos h1] at h ⊢
     by_cases hr:rd l (i + 1)=10
     ·rw [if_pos hr] at h ⊢
      have ht:=take_two l i h0 h1
      rw [h13,hr] at ht
      have hl:(l.take i.toNat).length=i.toNat:=by rw [List.length_take];omega
      refine ⟨l.take i.toNat,l.drop (i + 2).toNat,?_,hc,by omega,?_⟩
      ·rw [← List.append_assoc,← ht,List.take_append_drop]
      ·rw [hl,show ((i.toNat:Nat):Int)=i by omega]
     ·rw [if_neg hr] at h;simp at h
    ·rw [if_neg h1] at h;simp at h
   ·rw [if_neg h13] at h ⊢
    by_cases hmi:m ≤ i
    ·rw [if_pos hmi] at h;simp at h
    ·rw [if_neg hmi] at h ⊢
     refine ih (i + 1) (by omega) (by omega) ?_ (by omega) h
     have hlt' : i.toNat < l.length:=by omega
     have e:l[i.toNat]=rd l i:=by simp [rd,List.getD_eq_getElem?_getD,List.getElem?_eq_getElem hlt']
     rw [show (i + 1).toNat=i.toNat + 1 by omega,List.take_succ_eq_append_getElem hlt',e]
     refine cln_app hc fun x hx=>?_
     rw [List.mem_singleton.1 hx]
     exact ⟨h13,h10⟩
theorem cut_split (l:List Int) (m:Int) (h:(cutSpec l m).2.1 > 0) : ∃ xs r,l=xs ++ ([13,10] ++ r)∧Cln xs∧(xs.length:Int) ≤ mx m 0∧cutSpec l m=(strOfNums xs,(xs.length:Int) + 2,0) :=
 cutA_split l (mx m 0) l.length 0 (by omega) (by omega) cln_nil (by unfold mx;split <;> omega) h
theorem cutT_line (xs:List Int) (hs:Cln xs) (r:List Int) (m:Int) (hm:(xs.length:Int) ≤ m) (d:Nat) : ∀ (j e:Nat),j + d=xs.length → e=d + 2 + r.length →
 cutAt (xs ++ ([13,10] ++ r)) m e j=(strOfNums xs,(xs.length:Int) + 2,0):=by
 induction d with
 | zero =>
  intro j e hj he
  subst he
  obtain rfl:j=xs.length:=by omega
  have e1:rd (xs ++ ([13,10] ++ r)) (xs.length:Int)=13:=by rw [rd_append_right _ _ _ (by omega),Int.sub_self];rfl
  have e2:rd (xs ++ ([13,10] ++ r)) ((xs.length:Int) + 1)=10:=by rw [rd_append_right _ _ _ (by omega),show (xs.length:Int) + 1 - xs.length=1 by omega];rfl
  rw [show 0 + 2 + r.length=(r.length + 1) + 1 by omega]
  simp only [cutAt]
  rw [e1,if_neg (by decide),if_pos rfl,if_pos (by rw [List.length_append];simp;omega),e2,if_pos rfl,Int.toNat_natCast,List.take_left]
 | succ d ih =>
  intro j e hj he
  subst he
  have hlt:j < xs.length:=by omega
  have e1:rd (xs ++ ([13,10] ++ r)) (j:Int)=xs[j]:=by
   rw [rd_append_left _ _ _ (by omega) (by omega)]
   simp [rd,List.getD_eq_getElem?_getD,List.getElem?_eq_getElem hlt]
  obtain ⟨h13,h10⟩:=hs _ (List.getElem_mem hlt)
  rw [show d + 1 + 2 + r.length=(d + 2 + r.length) + 1 by omega]
  simp only [cutAt]
  rw [e1,if_neg h10,if_neg h13,if_neg (by omega)]
  have:=ih (j + 1) (d + 2 + r.length) (by omega) rfl
  rw [show ((j + 1:Nat):Int)=(j:Int) + 1 by omega] at this
  exact this
theorem cutT (xs:List Int) (hs:Cln xs) (r:List Int) (m:Int) (hm:(xs.length:Int) ≤ m):cutSpec (xs ++ ([13,10] ++ r)) m=(strOfNums xs,(xs.length:Int) + 2,0):=by
 have e1:mx m 0=m:=by unfold mx;split <;> omega
 unfold cutSpec
 rw [e1]
 exact cutT_line xs hs r m hm xs.length 0 _ (by omega) (by rw [List.length_append,List.length_append];simp;omega)
/-- Lines,one behind the other. -/
def flatL:List (List Int) → List Int
 | []=>[]
 | s :: ss=>s ++ ([13,10] ++ flatL ss)
theorem str_nil (xs:List Int):(strOfNums xs).toList=[] ↔ xs=[]:=by
 have h:=str_size xs
 constructor
 ·intro e
  have:(strOfNums xs).size=0:=by rw [← data_length,← toList_data,e];rfl
  exact List.eq_nil_of_length_eq_zero (by omega)
 ·rintro rfl;rw [toList_data];rfl
def LinesOk (ss:List (List Int)):Prop := ∀ s ∈ ss,Cln s∧s ≠ []∧s.length ≤ 2048
theorem tail_text (L:List Int) (e:Int) (r:List Int) : ∀ (ss:List (List Int)) (p d:Nat),L.drop p=flatL ss ++ ([13,10] ++ r) → LinesOk ss → ss.length < d →
 tailS L e d p=(ss.map strOfNums,(p:Int) + ((flatL ss).length:Int) + 2,0):=by
 intro ss
 induction ss with
 | nil =>
  intro p d h hs hd
  obtain ⟨d,rfl⟩ : ∃ m,d=m + 1:=⟨d - 1,by simp only [List.length_nil] at hd;omega⟩
  have hc:=cutT [] cln_nil r 2048 (by decide)
  rw [List.nil_append] at hc
  rw [tailS,h,flatL,List.nil_append,hc,if_neg (by decide),if_neg (by decide),if_pos ((str_nil []).2 rfl)]
  simp
 | cons s ss ih =>
  intro p d h hs hd
  obtain ⟨d,rfl⟩ : ∃ m,d=m + 1:=⟨d - 1,by simp only [List.length_cons] at hd;omega⟩
  obtain ⟨h1,h2,h3⟩:=hs s (List.mem_cons_self ..)
  have hfl:flatL (s :: ss) ++ ([13,10] ++ r)=s ++ ([13,10] ++ (flatL ss ++ ([13,10] ++ r))):=by rw [flatL,List.append_assoc,List.append_assoc]
  rw [hfl] at h
  have hc:=cutT s h1 (flatL ss ++ ([13,10] ++ r)) 2048 (by omega)
  have hd2:L.drop (p + (s.length + 2))=flatL ss ++ ([13,10] ++ r):=by
   rw [← List.drop_drop,h,← List.append_assoc,List.drop_append_of_le_length (by simp),List.drop_of_length_le (by simp),List.nil_append]
  rw [tailS,h,hc]
  simp only
  rw [if_neg (by decide),if_neg (by omega),if_neg (fun he=>h2 ((str_nil s).1 he)),show ((s.length:Int) + 2).toNat=s.length + 2 by omega,
   ih (p + (s.length + 2)) d hd2 (fun t ht=>hs t (List.mem_cons_of_mem _ ht)) (by simp only [List.length_cons] at hd;omega)]
  simp only [List.map_cons,flatL,List.length_append,List.length_cons,List.length_nil,Prod.mk.injEq,true_and,and_true]
  omega
theorem tail_split (L:List Int) (e:Int) : ∀ (d p:Nat),p ≤ L.length → (tailS L e d p).2.1 ≠ 0 →
 ∃ ss r,L.drop p=flatL ss ++ ([13,10] ++ r)∧LinesOk ss∧ss.length < d∧tailS L e d p=(ss.map strOfNums,(p:Int) + ((flatL ss).length:Int) + 2,0):=by
 intro d
 induction d with
 | zero=>intro p _ h;simp [tailS] at h
 | succ d ih =>
  intro p hp h
  have hsh:=cutS_shape (L.drop p) 2048
  have hsp:=cut_split (L.drop p) 2048
  have hdl:(L.drop p).length=L.length - p:=List.length_drop ..
  have hmx:mx 2048 0=2048:=by decide
  rw [hmx] at hsp
  rw [tailS] at h
  obtain ⟨c,hc⟩ : ∃ c,c=cutSpec (L.drop p) 2048:=⟨_,rfl⟩
  rw [← hc] at hsh hsp h
  by_cases h1:c.2.2=20
  ·rw [if_pos h1] at h;simp at h
  ·rw [if_neg h1] at h
   by_cases h2:c.2.1=0
   ·rw [if_pos h2] at h;simp at h
   ·rw [if_neg h2] at h
    have hcp:c.2.1 > 0:=by clear hsp ih;rcases hsh with h|h <;> omega
    obtain ⟨xs,r,e1,e2,e3,e4⟩:=hsp hcp
    clear hsp
    by_cases h3:c.1.toList=[]
    ·have:xs=[]:=by rw [e4] at h3;exact (str_nil xs).1 h3
     subst this
     refine ⟨[],r,by rw [e1];rfl,(fun t ht=>by cases ht),(by simp),tail_text L e r [] p (d + 1) (by rw [e1];rfl) (fun t ht=>by cases ht) (by simp)⟩
    ·rw [if_neg h3,e4] at h
     have hl:(L.drop p).length=xs.length + 2 + r.length:=by rw [e1];simp only [List.length_append,List.length_cons,List.length_nil];omega
     have hd2:L.drop (p + (xs.length + 2))=r:=by
      rw [← List.drop_drop,e1,← List.append_assoc,List.drop_append_of_le_length (by simp),List.drop_of_length_le (by simp),List.nil_append]
     simp only at h
     rw [show ((xs.length:Int) + 2).toNat=xs.length + 2 by omega] at h
     have hple:p + (xs.length + 2) ≤ L.length:=by clear hsh h e4;omega
     obtain ⟨ss,r',f1,f2,f3,f4⟩:=ih (p + (xs.length + 2)) hple h
     have hok:LinesOk (xs :: ss):=fun t ht=>by
      rcases List.mem_cons.1 ht with rfl|ht
      ·exact ⟨e2,fun hn=>h3 (by rw [e4];exact (str_nil _).2 hn),by omega⟩
      ·exact f2 t ht
     have hdr:L.drop p=flatL (xs :: ss) ++ ([13,10] ++ r'):=by
      rw [e1,← hd2,f1,flatL,List.append_assoc,List.append_assoc]
     exact ⟨xs :: ss,r',hdr,hok,by simp only [List.length_cons];omega,tail_text L e r' (xs :: ss) p (d + 1) hdr hok (by simp only [List.length_cons];omega)⟩
theorem flatL_len (ss:List (List Int)):ss.length ≤ (flatL ss).length:=by
 induction ss with
 | nil=>exact Nat.le_refl _
 | cons s ss ih=>simp only [flatL,List.length_append,List.length_cons,List.length_nil];omega
theorem lines_text (l:List Int) (e:Int) (s:List Int) (ss:List (List Int)) (r:List Int) (h:l=s ++ ([13,10] ++ (flatL ss ++ ([13,10] ++ r)))) (hs:Cln s) (hn:s.length ≤ 2048) (hss:LinesOk ss) :
 linesS l e=(strOfNums s :: ss.map strOfNums,(s.length:Int) + ((flatL ss).length:Int) + 4,0):=by
 have hc:=cutT s hs (flatL ss ++ ([13,10] ++ r)) 2048 (by omega)
 rw [← h] at hc
 have hd2:l.drop (s.length + 2)=flatL ss ++ ([13,10] ++ r):=by
  rw [h,← List.append_assoc,List.drop_append_of_le_length (by simp),List.drop_of_length_le (by simp),List.nil_append]
 have hf:=flatL_len ss
 have hl:l.length=s.length + 2 + (flatL ss).length + 2 + r.length:=by rw [h];simp only [List.length_append,List.length_cons,List.length_nil];omega
 unfold linesS
 rw [hc]
 simp only
 rw [if_neg (by decide),if_neg (by omega),show ((s.length:Int) + 2).toNat=s.length + 2 by omega,tail_text l e r ss (s.length + 2) (l.length + 1) hd2 hss (by omega)]
 simp only [Prod.mk.injEq,true_and,and_true]
 omega
theorem lines_split (l:List Int) (e:Int) (h:(linesS l e).2.1 ≠ 0) : ∃ s ss r,l=s ++ ([13,10] ++ (flatL ss ++ ([13,10] ++ r)))∧Cln s∧s.length ≤ 2048∧LinesOk ss:=by
 have hsh:=cutS_shape l 2048
 have hsp:=cut_split l 2048
 have hmx:mx 2048 0=2048:=by decide
 rw [hmx] at hsp
 unfold linesS at h
 obtain ⟨c,hc⟩ : ∃ c,c=cutSpec l 2048:=⟨_,rfl⟩
 rw [← hc] at hsh hsp h
 by_cases h1:c.2.2=20
 ·rw [if_pos h1] at h;simp at h
 ·rw [if_neg h1] at h
  by_cases h2:c.2.1=0
  ·rw [if_pos h2] at h;simp at h
  ·rw [if_neg h2] at h
   have hcp:c.2.1 > 0:=by clear hsp;rcases hsh with h|h <;> omega
   obtain ⟨xs,r,e1,e2,e3,e4⟩:=hsp hcp
   clear hsp
   rw [e4] at h
   simp only at h
   rw [show ((xs.length:Int) + 2).toNat=xs.length + 2 by omega] at h
   have hl:l.length=xs.length + 2 + r.length:=by rw [e1];simp only [List.length_append,List.length_cons,List.length_nil];omega
   have hd2:l.drop (xs.length + 2)=r:=by
    rw [e1,← List.append_assoc,List.drop_append_of_le_length (by simp),List.drop_of_length_le (by simp),List.nil_append]
   obtain ⟨ss,r',f1,f2,f3,f4⟩:=tail_split l e (l.length + 1) (xs.length + 2) (by omega) h
   exact ⟨xs,ss,r',by rw [← f1,hd2];exact e1,e2,by omega,f2⟩
/-- A field's line,without its end. -/
def fieldLn (f:S36):List Int:=bytesOf f.f0 ++ ([58,32] ++ bytesOf f.f1)
theorem tok_58:tokB 58=false:=by decide +kernel
theorem tok_13:tokB 13=false:=by decide +kernel
theorem tok_10:tokB 10=false:=by decide +kernel
theorem vl_13:valB 13=false:=by decide +kernel
theorem vl_10:valB 10=false:=by decide +kernel
theorem rightB_parts {a t:ByteArray} (h:rightB a t=true):a.toList.isEmpty=false∧(bytesOf a).all tokB=true∧(bytesOf t).all valB=true∧mkS (trm t.data.toList)=t:=by
 unfold rightB at h
 simp only [Bool.and_eq_true,decide_eq_true_eq,Bool.not_eq_true',beq_iff_eq] at h
 exact ⟨h.2.1.1,h.2.1.2,h.2.2.2.1,toList_inj h.2.2.2.2⟩
theorem fieldLn_ok (f:S36) (h:rightB f.f0 f.f1=true):Cln (fieldLn f)∧fieldLn f ≠ []∧(fieldLn f).length ≤ 1102:=by
 obtain ⟨_,h2,h3,_⟩:=rightB_parts h
 have hs:=rightB_size h
 refine ⟨fun x hx=>?_,(fun e=>?_),?_⟩
 ·unfold fieldLn at hx
  rcases List.mem_append.1 hx with hx|hx
  ·have:=List.all_eq_true.1 h2 x hx
   refine ⟨fun e=>?_,fun e=>?_⟩
   ·rw [e,tok_13] at this;cases this
   ·rw [e,tok_10] at this;cases this
  ·rcases List.mem_append.1 hx with hx|hx
   ·have:x=58 ∨ x=32:=by simpa using hx
    omega
   ·have:=List.all_eq_true.1 h3 x hx
    refine ⟨fun e=>?_,fun e=>?_⟩
    ·rw [e,vl_13] at this;cases this
    ·rw [e,vl_10] at this;cases this
 ·have:=congrArg List.length e
  unfold fieldLn at this
  simp only [List.length_append,List.length_cons,List.length_nil] at this
  omega
 ·unfold fieldLn
  simp only [List.length_append,List.length_cons,List.length_nil,bytesOf_length]
  omega
theorem fieldLn_data (f:S36):(strOfNums (fieldLn f)).data.toList=f.f0.data.toList ++ 58 :: (32 :: f.f1.data.toList):=by
 have e : ∀ s:ByteArray,bytesOf s=s.data.toList.map fun b=>(b.toNat:Int):=fun _=>rfl
 unfold fieldLn
 rw [str_append,str_append,e,e,str_bytes,str_bytes]
 simp [ByteArray.data_append,mkS,strOfNums]
theorem trm_32 (t:ByteArray) (h:mkS (trm t.data.toList)=t):mkS (trm (32 :: t.data.toList))=t:=by
 have e:trm t.data.toList=t.data.toList:=by
  have:=congrArg (fun s=>s.data.toList) h
  simp only [mkS_data] at this
  exact this
 have hc:Clean t.data.toList:=by rw [← e];exact trm_clean _
 have:=trm_around [32] t.data.toList [] hc (fun a ha=>by rw [List.mem_singleton.1 ha];decide) (fun a ha=>by cases ha)
 rw [List.append_nil] at this
 rw [show (32:UInt8) :: t.data.toList=[32] ++ t.data.toList from rfl,this,mkS_self]
theorem fieldLn_field (f:S36) (h:rightB f.f0 f.f1=true):fieldOk (strOfNums (fieldLn f)).data.toList=true∧fieldX (strOfNums (fieldLn f)).data.toList=f:=by
 obtain ⟨_,h2,_,h4⟩:=rightB_parts h
 have h58:(58:UInt8) ∉ f.f0.data.toList:=by
  intro hm
  have:(58:Int) ∈ bytesOf f.f0:=List.mem_map.2 ⟨58,hm,rfl⟩
  have:=List.all_eq_true.1 h2 58 this
  rw [tok_58] at this
  cases this
 rw [fieldLn_data]
 obtain ⟨e1,e2⟩:=take_first 58 f.f0.data.toList (32 :: f.f1.data.toList) h58
 refine ⟨?_,?_⟩
 ·rw [fieldOk_yes _ _ h58,trm_32 f.f1 h4,mkS_self];exact h
 ·unfold fieldX
  rw [e1,e2,trm_32 f.f1 h4,mkS_self]
theorem fields_text : ∀ (fs:List (S36)) (n:Nat),(∀ f ∈ fs,rightB f.f0 f.f1=true) → n + fs.length ≤ 40 → fieldsS ((fs.map fieldLn).map strOfNums) n=(fs,0):=by
 intro fs
 induction fs with
 | nil=>intro n _ _;rfl
 | cons f fs ih =>
  intro n hg hn
  simp only [List.length_cons] at hn
  obtain ⟨g1,g2⟩:=fieldLn_field f (hg f (List.mem_cons_self ..))
  rw [List.map_cons,List.map_cons,fieldsS,if_pos g1,if_neg (by omega),ih (n + 1) (fun x hx=>hg x (List.mem_cons_of_mem _ hx)) (by omega),if_pos rfl,g2]
/-- What is written of fields is their lines. -/
theorem fLines_flat (fs:List (S36)):fLines fs=flatL (fs.map fieldLn):=by
 induction fs with
 | nil=>rfl
 | cons f fs ih =>
  rw [fLines,List.map_cons,flatL,ih]
  unfold lineB fieldLn
  rw [bytes_app,bytes_app,bytes_app]
  show ((_ ++ [58,32]) ++ _) ++ [13,10] ++ _=_
  simp only [List.append_assoc]
/-- A head that is written is read: its line,its fields;what stands behind it is not looked at. -/
theorem back_lines (l:List Int) (hl:Cln l) (fs:List (S36)) (hf : ∀ f ∈ fs,rightB f.f0 f.f1=true) (hn:fs.length ≤ 40) (R:List Int) (hH:l.length + (fLines fs).length + 4 ≤ 2048) (X:List Int) (hX:X=(l ++ [13,10]) ++ fLines fs ++ [13,10] ++ R) :
 linesS (bdS X) (extS X)=(strOfNums l :: (fs.map fieldLn).map strOfNums,(l.length:Int) + ((fLines fs).length:Int) + 4,0):=by
 have hflat:=fLines_flat fs
 have e1:((l ++ [13,10]) ++ fLines fs ++ [13,10]).length=l.length + (fLines fs).length + 4:=by simp only [List.length_append,List.length_cons,List.length_nil];omega
 have hbd:bdS X=l ++ ([13,10] ++ (flatL (fs.map fieldLn) ++ ([13,10] ++ R.take (2048 - (l.length + (fLines fs).length + 4))))):=by
  unfold bdS
  rw [hX,List.take_append,e1,List.take_of_length_le (by omega),hflat]
  simp only [List.append_assoc]
 have hok:LinesOk (fs.map fieldLn):=fun t ht=>by
  obtain ⟨f,hfm,rfl⟩:=List.mem_map.1 ht
  obtain ⟨a1,a2,a3⟩:=fieldLn_ok f (hf f hfm)
  exact ⟨a1,a2,by omega⟩
 have:=lines_text (bdS X) (extS X) l (fs.map fieldLn) _ hbd hl (by omega) hok
 rw [this,hflat]
theorem back_open (l:List UInt8) (hl:Cln (l.map fun b=>(b.toNat:Int))) (hq:(reqSpec l).2.2.2.2.2=0) (fs:List (S36)) (hf : ∀ f ∈ fs,rightB f.f0 f.f1=true) (hn:fs.length ≤ 40) (R:List Int) (hH:l.length + (fLines fs).length + 4 ≤ 2048) (X:List Int)
 (hX:X=((l.map fun b=>(b.toNat:Int)) ++ [13,10]) ++ fLines fs ++ [13,10] ++ R):openS X=openF (reqSpec l) fs ((l.length:Int) + ((fLines fs).length:Int) + 4):=by
 have:=back_lines _ hl fs hf hn R (by rw [List.length_map];exact hH) X hX
 unfold openS
 rw [this,openL,str_bytes,mkS_data,if_pos hq,fields_text fs 0 hf (by omega),if_pos rfl,if_neg (by omega),List.length_map]
/-- Where no line ends there is none yet. -/
theorem cutE_go (Y:List Int) (m:Int) (hm:(Y.length:Int) ≤ m) (h : ∀ (i:Nat) (hi:i < Y.length),Y[i] ≠ 10∧(Y[i]=13 → i + 1=Y.length)) (d:Nat) : ∀ j:Nat,j + d=Y.length → cutAt Y m d j=((⟨#[]⟩:ByteArray),0,0):=by
 induction d with
 | zero=>intro j _;rfl
 | succ d ih =>
  intro j hj
  have hlt:j < Y.length:=by omega
  have e1:rd Y (j:Int)=Y[j]:=by simp [rd,List.getD_eq_getElem?_getD,List.getElem?_eq_getElem hlt]
  obtain ⟨h1,h2⟩:=h j hlt
  rw [cutAt,e1,if_neg h1]
  by_cases h3:Y[j]=13
  ·rw [if_pos h3,if_neg (by have:=h2 h3;omega)]
  ·rw [if_neg h3,if_neg (by omega)]
   have:=ih (j + 1) (by omega)
   rw [show ((j + 1:Nat):Int)=(j:Int) + 1 by omega] at this
   exact this
theorem cutE (Y:List Int) (hm:Y.length ≤ 2048) (h : ∀ (i:Nat) (hi:i < Y.length),Y[i] ≠ 10∧(Y[i]=13 → i + 1=Y.length)):cutSpec Y 2048=((⟨#[]⟩:ByteArray),0,0) :=
 cutE_go Y (mx 2048 0) (by rw [show mx 2048 0=2048 from rfl];omega) h Y.length 0 (by omega)
theorem cutE_cln (Y:List Int) (hm:Y.length ≤ 2048) (h:Cln Y):cutSpec Y 2048=((⟨#[]⟩:ByteArray),0,0) :=
 cutE Y hm fun i hi=>⟨(h _ (List.getElem_mem hi)).2,fun e=>absurd e (h _ (List.getElem_mem hi)).1⟩
theorem cutE_13 (Y:List Int) (hm:Y.length < 2048) (h:Cln Y):cutSpec (Y ++ [13]) 2048=((⟨#[]⟩:ByteArray),0,0):=by
 refine cutE _ (by simp only [List.length_append,List.length_cons,List.length_nil];omega) fun i hi=>?_
 have hl:(Y ++ [13]).length=Y.length + 1:=by simp
 by_cases c:i < Y.length
 ·rw [List.getElem_append_left c]
  exact ⟨(h _ (List.getElem_mem c)).2,fun e=>absurd e (h _ (List.getElem_mem c)).1⟩
 ·exact ⟨by rw [List.getElem_append_right (by omega)];simp,fun _=>by omega⟩
theorem take_past (s Z:List Int) (t:Nat):(s ++ ([13,10] ++ Z)).take (s.length + 2 + t)=s ++ ([13,10] ++ Z.take t):=by
 have hl2:(s ++ [13,10]).length=s.length + 2:=by simp
 rw [← List.append_assoc,List.take_append,hl2,List.take_of_length_le (by omega),show s.length + 2 + t - (s.length + 2)=t by omega,List.append_assoc]
theorem take_13 (s Z:List Int):(s ++ ([13,10] ++ Z)).take (s.length + 1)=s ++ [13]:=by
 rw [List.take_append,List.take_of_length_le (by omega),show s.length + 1 - s.length=1 by omega]
 rfl
/-- Lines whose end is cut away: a beginning of them is read,and it isn't whole. -/
theorem tail_cut (T:List Int) (e:Int) (hT:T.length ≤ 2048) : ∀ (ss:List (List Int)) (t p d:Nat),T.drop p=(flatL ss ++ [13,10]).take t → t < (flatL ss ++ [13,10]).length → p ≤ T.length → LinesOk ss → T.length < p + d →
 ∃ us vs,ss=us ++ vs∧tailS T e d p=(us.map strOfNums,0,e):=by
 intro ss
 induction ss with
 | nil =>
  intro t p d h ht hp hs hd
  obtain ⟨d,rfl⟩ : ∃ m,d=m + 1:=⟨d - 1,by omega⟩
  refine ⟨[],[],rfl,?_⟩
  have ht' : t=0 ∨ t=1:=by simp only [flatL,List.nil_append,List.length_cons,List.length_nil] at ht;omega
  have hc:cutSpec (T.drop p) 2048=((⟨#[]⟩:ByteArray),0,0):=by
   rw [h]
   rcases ht' with rfl|rfl
   ·exact cutE_cln _ (by simp) (by simp [Cln])
   ·exact cutE_13 [] (by simp) cln_nil
  rw [tailS,hc,if_neg (by decide),if_pos rfl]
  rfl
 | cons s ss ih =>
  intro t p d h ht hp hs hd
  obtain ⟨d,rfl⟩ : ∃ m,d=m + 1:=⟨d - 1,by omega⟩
  obtain ⟨h1,h2,h3⟩:=hs s (List.mem_cons_self ..)
  have hfl:flatL (s :: ss) ++ [13,10]=s ++ ([13,10] ++ (flatL ss ++ [13,10])):=by rw [flatL];simp only [List.append_assoc]
  rw [hfl] at h ht
  have hdl:(T.drop p).length=T.length - p:=List.length_drop ..
  have hll:(s ++ ([13,10] ++ (flatL ss ++ [13,10]))).length=s.length + 2 + (flatL ss ++ [13,10]).length:=by simp only [List.length_append,List.length_cons,List.length_nil];omega
  by_cases c1:t ≤ s.length
  ·refine ⟨[],s :: ss,rfl,?_⟩
   have hc:cutSpec (T.drop p) 2048=((⟨#[]⟩:ByteArray),0,0):=by
    refine cutE_cln _ (by omega) ?_
    rw [h,List.take_append_of_le_length c1]
    exact fun x hx=>h1 x (List.mem_of_mem_take hx)
   rw [tailS,hc,if_neg (by decide),if_pos rfl]
   rfl
  ·by_cases c2:t=s.length + 1
   ·refine ⟨[],s :: ss,rfl,?_⟩
    subst c2
    rw [take_13] at h
    have hc:cutSpec (T.drop p) 2048=((⟨#[]⟩:ByteArray),0,0):=by
     rw [h]
     refine cutE_13 s ?_ h1
     have:(T.drop p).length=s.length + 1:=by rw [h];simp
     omega
    rw [tailS,hc,if_neg (by decide),if_pos rfl]
    rfl
   ·obtain ⟨u,rfl⟩ : ∃ u,t=s.length + 2 + u:=⟨t - (s.length + 2),by omega⟩
    rw [take_past] at h
    have hlen:(T.drop p).length=s.length + 2 + ((flatL ss ++ [13,10]).take u).length:=by rw [h];simp only [List.length_append,List.length_cons,List.length_nil];omega
    have hc:=cutT s h1 ((flatL ss ++ [13,10]).take u) 2048 (by omega)
    have hd2:T.drop (p + (s.length + 2))=(flatL ss ++ [13,10]).take u:=by
     rw [← List.drop_drop,h,← List.append_assoc,List.drop_append_of_le_length (by simp),List.drop_of_length_le (by simp),List.nil_append]
    obtain ⟨us,vs,f1,f2⟩:=ih u (p + (s.length + 2)) d hd2 (by omega) (by omega) (fun x hx=>hs x (List.mem_cons_of_mem _ hx)) (by omega)
    refine ⟨s :: us,vs,by rw [f1];rfl,?_⟩
    rw [tailS,h,hc]
    simp only
    rw [if_neg (by decide),if_neg (by omega),if_neg (fun he=>h2 ((str_nil s).1 he)),show ((s.length:Int) + 2).toNat=s.length + 2 by omega,f2]
    rfl
theorem lines_cut (l:List Int) (e:Int) (s:List Int) (ss:List (List Int)) (h:l=s ++ ([13,10] ++ (flatL ss ++ [13,10]))) (hs:Cln s) (hn:s.length + 2 ≤ 2048) (hss:LinesOk ss) (hl:2048 < l.length) :
 ∃ us vs,ss=us ++ vs∧linesS (l.take 2048) e=(strOfNums s :: us.map strOfNums,0,e):=by
 obtain ⟨u,hu⟩ : ∃ u,2048=s.length + 2 + u:=⟨2048 - (s.length + 2),by omega⟩
 have hll:l.length=s.length + 2 + (flatL ss ++ [13,10]).length:=by rw [h];simp only [List.length_append,List.length_cons,List.length_nil];omega
 have hT:l.take 2048=s ++ ([13,10] ++ (flatL ss ++ [13,10]).take u):=by rw [hu,h,take_past]
 have hTl:(l.take 2048).length=2048:=by rw [List.length_take];omega
 have hc:=cutT s hs ((flatL ss ++ [13,10]).take u) 2048 (by omega)
 rw [← hT] at hc
 have hd2:(l.take 2048).drop (s.length + 2)=(flatL ss ++ [13,10]).take u:=by
  rw [hT,← List.append_assoc,List.drop_append_of_le_length (by simp),List.drop_of_length_le (by simp),List.nil_append]
 obtain ⟨us,vs,f1,f2⟩:=tail_cut (l.take 2048) e (by omega) ss u (s.length + 2) ((l.take 2048).length + 1) hd2 (by omega) (by omega) hss (by omega)
 refine ⟨us,vs,f1,?_⟩
 unfold linesS
 rw [hc]
 simp only
 rw [if_neg (by decide),if_neg (by omega),show ((s.length:Int) + 2).toNat=s.length + 2 by omega,f2]
theorem fields_good : ∀ (ss:List ByteArray) (n:Nat),(∀ s ∈ ss,fieldOk s.data.toList=true) → n ≤ 40 → fieldsS ss n=if n + ss.length ≤ 40 then (ss.map fun s=>fieldX s.data.toList,0) else ([],431):=by
 intro ss
 induction ss with
 | nil=>intro n _ hn;rw [if_pos (by simpa using hn)];rfl
 | cons s ss ih =>
  intro n hs hn
  rw [fieldsS,if_pos (hs s (List.mem_cons_self ..))]
  by_cases c:n=40
  ·rw [if_pos c,if_neg (by simp only [List.length_cons];omega)]
  ·rw [if_neg c,ih (n + 1) (fun x hx=>hs x (List.mem_cons_of_mem _ hx)) (by omega)]
   by_cases c2:n + 1 + ss.length ≤ 40
   ·rw [if_pos c2,if_pos rfl,if_pos (by simp only [List.length_cons];omega)]
    rfl
   ·rw [if_neg c2,if_neg (by simp),if_neg (by simp only [List.length_cons];omega)]
theorem getS_none (p:ByteArray) : ∀ (fs:List (S36)),(∀ f ∈ fs,sameN f.f0 p=false) → getS p fs=[]:=by
 intro fs
 induction fs with
 | nil=>intro _;rfl
 | cons f fs ih =>
  intro h
  rw [getS,if_neg (by simp [h f (List.mem_cons_self ..)]),ih (fun x hx=>h x (List.mem_cons_of_mem _ hx))]
theorem open_text (l:List Int) (ho:OpenOk l (openS l)) : ∃ s ss r,bdS l=s ++ ([13,10] ++ (flatL ss ++ ([13,10] ++ r)))∧(openS l).2.2.2.2.2.1=(s.length:Int) + ((flatL ss).length:Int) + 4∧1 ≤ s.length:=by
 have hpos:=ho.pos
 unfold openS at hpos ⊢
 have hsp:=lines_split (bdS l) (extS l)
 have hn:(linesS (bdS l) (extS l)).2.1 ≠ 0:=by
  intro hz
  obtain ⟨L,hL⟩ : ∃ L,L=linesS (bdS l) (extS l):=⟨_,rfl⟩
  rw [← hL] at hz hpos
  obtain ⟨ss,n,cc⟩:=L
  simp only at hz
  subst hz
  cases ss with
  | nil=>exact (Int.lt_irrefl 0 hpos).elim
  | cons s ss =>
   rw [openL] at hpos
   split at hpos
   ·split at hpos
    ·rw [if_pos rfl] at hpos;exact (Int.lt_irrefl 0 hpos).elim
    ·exact (Int.lt_irrefl 0 hpos).elim
   ·exact (Int.lt_irrefl 0 hpos).elim
 obtain ⟨s,ss,r,e1,e2,e3,e4⟩:=hsp hn
 have hlt:=lines_text (bdS l) (extS l) s ss r e1 e2 e3 e4
 refine ⟨s,ss,r,e1,?_⟩
 rw [hlt,openL] at hpos ⊢
 have hs1:(reqSpec (strOfNums s).data.toList).2.2.2.2.2=0 → 1 ≤ s.length:=fun h=>by
  cases s with
  | nil=>exact absurd h (by decide +kernel)
  | cons a t=>simp only [List.length_cons];omega
 split at hpos
 ·rename_i h1
  rw [if_pos h1]
  split at hpos
  ·rename_i h2
   rw [if_pos h2]
   split at hpos
   ·exact (Int.lt_irrefl 0 hpos).elim
   ·rename_i h3
    rw [if_neg h3]
    unfold openF at hpos ⊢
    split at hpos
    ·rename_i h4
     rw [if_pos h4]
     split at hpos
     ·rename_i h5
      rw [if_pos h5]
      exact ⟨rfl,hs1 h1⟩
     ·exact (Int.lt_irrefl 0 hpos).elim
    ·exact (Int.lt_irrefl 0 hpos).elim
  ·exact (Int.lt_irrefl 0 hpos).elim
 ·exact (Int.lt_irrefl 0 hpos).elim
def toI (l:List UInt8):List Int:=l.map fun b=>(b.toNat:Int)
theorem str_back (s:List Int) (h : ∀ x ∈ s,0 ≤ x∧x < 256):toI (strOfNums s).data.toList=s:=by
 have e:(strOfNums s).data.toList=s.map fun n=>UInt8.ofNat n.toNat:=by simp [strOfNums]
 unfold toI
 rw [e,List.map_map]
 conv=>rhs;rw [← List.map_id s]
 refine List.map_congr_left fun x hx=>?_
 have:=h x hx
 simp only [Function.comp,id]
 rw [UInt8.toNat_ofNat_of_lt' (by show x.toNat < 256;omega)]
 omega
theorem open_parts (L:List Int) (hb : ∀ x ∈ L,0 ≤ x∧x < 256) (ho:OpenOk L (openS L)) : ∃ l:List UInt8,Cln (toI l)∧l.length + 4 ≤ 2048∧(reqSpec l).2.2.2.2.2=0∧(openS L).1=(reqSpec l).1∧(openS L).2.1=(reqSpec l).2.1∧(openS L).2.2.1=(reqSpec l).2.2.1 ∧
 hostsOk (getS hostNm (openS L).2.2.2.1) (reqSpec l).2.2.1=true:=by
 obtain ⟨s,ss,r,h1,h2,_⟩:=open_text L ho
 have hpos:=ho.pos
 have hle:=ho.le
 have hbd:=bdS_length L
 unfold openS at hpos
 have hn:(linesS (bdS L) (extS L)).2.1 ≠ 0:=by
  intro hz
  obtain ⟨Y,hY⟩ : ∃ Y,Y=linesS (bdS L) (extS L):=⟨_,rfl⟩
  rw [← hY] at hz hpos
  obtain ⟨ss,n,cc⟩:=Y
  simp only at hz
  subst hz
  cases ss with
  | nil=>exact (Int.lt_irrefl 0 hpos).elim
  | cons s ss =>
   rw [openL] at hpos
   split at hpos
   ·split at hpos
    ·rw [if_pos rfl] at hpos;exact (Int.lt_irrefl 0 hpos).elim
    ·exact (Int.lt_irrefl 0 hpos).elim
   ·exact (Int.lt_irrefl 0 hpos).elim
 obtain ⟨s,ss,r,e1,e2,e3,e4⟩:=lines_split (bdS L) (extS L) hn
 have hlt:=lines_text (bdS L) (extS L) s ss r e1 e2 e3 e4
 have hsb : ∀ x ∈ s,0 ≤ x∧x < 256:=fun x hx=>hb x (List.mem_of_mem_take (show x ∈ L.take 2048 by
  have:x ∈ bdS L:=by rw [e1];exact List.mem_append_left _ hx
  exact this))
 have hsl:s.length + 4 ≤ 2048:=by
  have:=congrArg List.length e1
  simp only [List.length_append,List.length_cons,List.length_nil] at this
  omega
 have hback:=str_back s hsb
 have hll:(strOfNums s).data.toList.length=s.length:=by rw [data_length,str_size]
 refine ⟨(strOfNums s).data.toList,by rw [hback];exact e2,by omega,?_⟩
 rw [hlt,openL] at hpos
 unfold openS
 rw [hlt,openL]
 split at hpos
 ·rename_i c1
  rw [if_pos c1]
  split at hpos
  ·rename_i c2
   rw [if_pos c2]
   split at hpos
   ·exact (Int.lt_irrefl 0 hpos).elim
   ·rename_i c3
    rw [if_neg c3]
    unfold openF at hpos ⊢
    split at hpos
    ·rename_i c4
     rw [if_pos c4]
     split at hpos
     ·rename_i c5
      rw [if_pos c5]
      exact ⟨c1,rfl,rfl,rfl,c4⟩
     ·exact (Int.lt_irrefl 0 hpos).elim
    ·exact (Int.lt_irrefl 0 hpos).elim
  ·exact (Int.lt_irrefl 0 hpos).elim
 ·exact (Int.lt_irrefl 0 hpos).elim
/-- What is written of a right request is read. -/
theorem back_req (l:List UInt8) (hl:Cln (toI l)) (hls:l.length + 4 ≤ 2048) (hq:(reqSpec l).2.2.2.2.2=0) (fs:List (S36)) (hf : ∀ f ∈ fs,rightB f.f0 f.f1=true) (hn:fs.length ≤ 40)
 (hh:hostsOk (getS hostNm fs) (reqSpec l).2.2.1=true) (N:Int) (cd:Bool) (hN:reqLen fs (reqSpec l).2.2.1=(N,cd,0)) (R B:List Int) (nb:Int) (hB:bodyS R N cd=(B,nb,0)) (hnb:0 ≤ nb) (X:List Int) (hX:X=(toI l ++ [13,10]) ++ fLines fs ++ [13,10] ++ R) :
 reqS X=if 2048 < l.length + (fLines fs).length + 4 then (⟨#[]⟩,⟨#[]⟩,0,[],[],0,431) else ((reqSpec l).1,(reqSpec l).2.1,(reqSpec l).2.2.1,fs,B,(l.length:Int) + ((fLines fs).length:Int) + 4 + nb,0):=by
 have hflat:=fLines_flat fs
 have htl:(toI l).length=l.length:=List.length_map ..
 have hhead:(toI l ++ [13,10]) ++ fLines fs ++ [13,10]=toI l ++ ([13,10] ++ (flatL (fs.map fieldLn) ++ [13,10])):=by rw [hflat];simp only [List.append_assoc]
 have hhl:((toI l ++ [13,10]) ++ fLines fs ++ [13,10]).length=l.length + (fLines fs).length + 4:=by simp only [List.length_append,List.length_cons,List.length_nil,htl];omega
 by_cases c:2048 < l.length + (fLines fs).length + 4
 ·rw [if_pos c]
  have hok:LinesOk (fs.map fieldLn):=fun t ht=>by
   obtain ⟨f,hfm,rfl⟩:=List.mem_map.1 ht
   obtain ⟨a1,a2,a3⟩:=fieldLn_ok f (hf f hfm)
   exact ⟨a1,a2,by omega⟩
  obtain ⟨us,vs,f1,f2⟩:=lines_cut ((toI l ++ [13,10]) ++ fLines fs ++ [13,10]) 431 (toI l) (fs.map fieldLn) hhead hl (by omega) hok (by omega)
  have hb:bdS X=((toI l ++ [13,10]) ++ fLines fs ++ [13,10]).take 2048:=by
   unfold bdS
   rw [hX,List.take_append_of_le_length (by omega)]
  have he:extS X=431:=by
   unfold extS
   rw [if_pos (by rw [hX,List.length_append,hhl];omega)]
  have hg:=fields_good (us.map strOfNums) 0 (fun s hs=>by
   obtain ⟨t,ht,rfl⟩:=List.mem_map.1 hs
   have:t ∈ fs.map fieldLn:=by rw [f1];exact List.mem_append_left _ ht
   obtain ⟨f,hfm,rfl⟩:=List.mem_map.1 this
   exact (fieldLn_field f (hf f hfm)).1) (by omega)
  have ho:openS X=openBad 431:=by
   unfold openS
   rw [hb,he,f2,openL,show (strOfNums (toI l)).data.toList=l by rw [show toI l=l.map fun b=>(b.toNat:Int) from rfl,str_bytes,mkS_data],if_pos hq,hg]
   split
   ·rw [if_pos rfl,if_pos rfl]
   ·rw [if_neg (by decide)]
  unfold reqS
  rw [ho,if_pos (by rfl)]
  rfl
 ·rw [if_neg c]
  have ho:=back_open l hl hq fs hf hn R (by omega) X hX
  unfold openF at ho
  rw [if_pos hh,hN,if_pos rfl] at ho
  have hd:X.drop ((l.length:Int) + ((fLines fs).length:Int) + 4).toNat=R:=by
   rw [hX,show ((l.length:Int) + ((fLines fs).length:Int) + 4).toNat=((toI l ++ [13,10]) ++ fLines fs ++ [13,10]).length by omega,List.drop_left]
  unfold reqS
  rw [ho]
  simp only
  rw [if_neg (by omega),hd,hB,if_neg (by simp only;omega)]
theorem numL_snoc (b:Int) (xs:List Int) (c:Int) : ∀ n,numL b (xs ++ [c]) n=(numL b xs n).bind fun v=>if 0 ≤ digV c∧digV c < b then some (v * b + digV c) else none:=by
 induction xs with
 | nil=>intro n;simp [numL]
 | cons x xs ih =>
  intro n
  simp only [List.cons_append,numL]
  by_cases h:0 ≤ digV x∧digV x < b
  ·rw [if_pos h,if_pos h,ih]
  ·rw [if_neg h,if_neg h];rfl
/-- The decimal digits,as numbers. -/
def decI (u:Nat):List Int:=(Lib.decDigits u).map fun b=>(b.toNat:Int)
theorem decI_small (u:Nat) (h:u < 10):decI u=[48 + (u:Int)]:=by
 unfold decI
 rw [Lib.decDigits_one h,List.map_cons,List.map_nil]
 congr 1
 rw [UInt8.toNat_ofNat']
 omega
theorem decI_big (u:Nat) (h:10 ≤ u):decI u=decI (u / 10) ++ [48 + ((u % 10:Nat):Int)]:=by
 unfold decI
 rw [Lib.decDigits,dif_neg (by omega),List.map_append,List.map_cons,List.map_nil]
 congr 2
 rw [UInt8.toNat_ofNat']
 omega
theorem dec_str (u:Nat):(⟨(Lib.decDigits u).toArray⟩:ByteArray)=strOfNums (decI u):=by
 unfold decI strOfNums
 congr 2
 rw [List.map_map]
 conv=>lhs;rw [← List.map_id (Lib.decDigits u)]
 exact List.map_congr_left fun b _=>by simp
theorem dig_dec (d:Nat) (h:d < 10):digV (48 + (d:Int))=d:=by
 have : ∀ m:Fin 10,digV (48 + (m.val:Int))=(m.val:Int):=by decide +kernel
 exact this ⟨d,h⟩
theorem dec_back (u:Nat):numL 10 (decI u) 0=some (u:Int):=by
 induction u using Nat.strongRecOn with
 | _ u ih =>
  by_cases h:u < 10
  ·rw [decI_small u h]
   simp only [numL,dig_dec u h]
   rw [if_pos (by omega)]
   congr 1
   omega
  ·rw [decI_big u (by omega),numL_snoc,ih (u / 10) (by omega),Option.bind_some,dig_dec (u % 10) (by omega),if_pos (by omega)]
   congr 1
   omega
theorem dec_len (d:Nat) : ∀ u,u < 10 ^ (d + 1) → 1 ≤ (decI u).length∧(decI u).length ≤ d + 1:=by
 induction d with
 | zero=>intro u h;rw [decI_small u (by simpa using h)];simp
 | succ d ih =>
  intro u h
  by_cases h1:u < 10
  ·rw [decI_small u h1];simp
  ·have h2:u / 10 < 10 ^ (d + 1):=(Nat.div_lt_iff_lt_mul (by decide)).2 (by rwa [← Nat.pow_succ])
   have:=ih _ h2
   rw [decI_big u (by omega),List.length_append]
   simp
   omega
theorem bytes_decI (u:Nat):Bytes (decI u):=by
 intro x hx
 obtain ⟨b,_,rfl⟩:=List.mem_map.1 hx
 have:=b.toNat_lt
 omega
theorem dec_spec (u:Nat) (h:u < 10 ^ 18):numSpec (strOfNums (decI u)) 10 18=((u:Int),true):=by
 have hl:=dec_len 17 u h
 unfold numSpec
 rw [str_size,if_neg (by omega),bytes_str (bytes_decI u),dec_back]
theorem Text_f (n:Int) (h0 : -9223372036854775808 ≤ n) (h1:n ≤ 9223372036854775807):sign_Text.f n=some ⟨(Lib.itoa n).toArray⟩:=by
 unfold sign_Text.f strconv_FormatInt_93.f strconv_FormatInt_145.f
 rw [if_pos rfl,if_pos ⟨h0,h1⟩]
 rfl
/-- A request's line. -/
def reqLine (m t T:ByteArray):ByteArray:=((((m ++ (⟨#[32]⟩:ByteArray)) ++ t) ++ (⟨#[32,72,84,84,80,47,49,46]⟩:ByteArray)) ++ T) ++ (⟨#[13,10]⟩:ByteArray)
theorem RequestLine_f (m t:ByteArray) (n:Int) (f:List (S36)) (b:List Int) (T:ByteArray) (hT:sign_Text.f n=some T) (hs:T.size ≤ 20) (h1:m.size ≤ 140737488351232) (h2:t.size ≤ 140737488351232):line_RequestLine.f m t n f b=some (reqLine m t T):=by
 have e1:(⟨#[32]⟩:ByteArray).size=1:=rfl
 have e2:(⟨#[32,72,84,84,80,47,49,46]⟩:ByteArray).size=8:=rfl
 unfold line_RequestLine.f reqLine
 rw [hT,Option.bind_some]
 simp only [ByteArray.size_append]
 rw [if_pos (by omega),if_pos (by omega),if_pos (by omega),if_pos (by omega),if_pos (by omega)]
theorem minL_some {l:List UInt8} {n:Int} (h:minL l=some n):l.length=8∧32 ∉ l∧((n=0∧l=[72,84,84,80,47,49,46,48]) ∨ (n=1∧l=[72,84,84,80,47,49,46,49])):=by
 unfold minL at h
 split at h
 ·rename_i e;subst e;exact ⟨rfl,by decide,.inl ⟨(Option.some.inj h).symm,rfl⟩⟩
 ·split at h
  ·rename_i e;subst e;exact ⟨rfl,by decide,.inr ⟨(Option.some.inj h).symm,rfl⟩⟩
  ·cases h
theorem text_1:sign_Text.f 1=some ⟨#[49]⟩:=by
 show strconv_FormatInt_93.f 1 10=_
 unfold strconv_FormatInt_93.f strconv_FormatInt_145.f
 simp [Lib.itoa,Lib.decDigits]
theorem text_0:sign_Text.f 0=some ⟨#[48]⟩:=by
 show strconv_FormatInt_93.f 0 10=_
 unfold strconv_FormatInt_93.f strconv_FormatInt_145.f
 simp [Lib.itoa,Lib.decDigits]
theorem pcs_cons {sp:UInt8} (l:List UInt8) : ∀ {p ps},pcs sp l=p :: ps → (ps=[]∧l=p) ∨ ∃ r,l=p ++ sp :: r∧pcs sp r=ps:=by
 induction l with
 | nil =>
  intro p ps h
  simp only [pcs,List.cons.injEq] at h
  exact .inl ⟨h.2.symm,h.1⟩
 | cons c l ih =>
  intro p ps h
  by_cases hc:c=sp
  ·subst hc
   simp only [pcs,if_true,List.cons.injEq] at h
   obtain ⟨rfl,rfl⟩:=h
   exact .inr ⟨l,rfl,rfl⟩
  ·obtain ⟨q,qs,hq⟩:=pcs_ne (sp:=sp) l
   simp only [pcs,hc,if_false,hq,List.cons.injEq] at h
   obtain ⟨rfl,rfl⟩:=h
   rcases ih hq with ⟨h1,h2⟩|⟨r,h1,h2⟩
   ·exact .inl ⟨h1,by rw [h2]⟩
   ·exact .inr ⟨r,by rw [h1];rfl,h2⟩
theorem pcs_three {sp:UInt8} {l m t v:List UInt8} (h:pcs sp l=[m,t,v]):l=m ++ sp :: (t ++ sp :: v):=by
 rcases pcs_cons l h with ⟨h1,_⟩|⟨r,rfl,h2⟩
 ·cases h1
 ·rcases pcs_cons r h2 with ⟨h1,_⟩|⟨r2,rfl,h3⟩
  ·cases h1
  ·rcases pcs_cons r2 h3 with ⟨_,h4⟩|⟨r3,_,h4⟩
   ·rw [h4]
   ·obtain ⟨q,qs,hq⟩:=pcs_ne (sp:=sp) r3
    rw [hq] at h4
    cases h4
theorem min_text {v:List UInt8} {n:Int} (h:minL v=some n) : ∃ T,sign_Text.f n=some (mkS [T])∧v=[72,84,84,80,47,49,46,T]:=by
 obtain ⟨_,_,h|h⟩:=minL_some h
 ·obtain ⟨rfl,rfl⟩:=h;exact ⟨48,text_0,rfl⟩
 ·obtain ⟨rfl,rfl⟩:=h;exact ⟨49,text_1,rfl⟩
theorem req_back (l:List UInt8) (hn:l.length ≤ 1048576) (h:(reqSpec l).2.2.2.2.2=0) :
 line_RequestLine.f (reqSpec l).1 (reqSpec l).2.1 (reqSpec l).2.2.1 (reqSpec l).2.2.2.1 (reqSpec l).2.2.2.2.1=some (mkS (l ++ [13,10])):=by
 by_cases h3:(pcs 32 l).length=3
 ·obtain ⟨m,t,v,hp⟩:=three h3
  have hl:=pcs_three hp
  have hle:=pcs_le (sp:=32) l
  rw [hp] at hle
  have hm:=hle m (by simp)
  have ht:=hle t (by simp)
  rw [reqSpec_yes hp] at h ⊢
  unfold reqP at h ⊢
  split at h
  ·rename_i c
   rw [if_pos c]
   split at h
   ·cases h
   ·rename_i c2
    rw [if_neg c2]
    have hv:=ver_min v
    split at h
    ·cases h
    ·rename_i p hver
     split at h
     ·rename_i c3
      simp only [hver,if_pos c3] at hv ⊢
      obtain ⟨T,hT,rfl⟩:=min_text hv
      rw [RequestLine_f (mkS m) (mkS t) p.2 [] [] (mkS [T]) hT (by rw [mkS_size];simp) (by rw [mkS_size];omega) (by rw [mkS_size];omega),hl]
      unfold reqLine
      rw [show (⟨#[32]⟩:ByteArray)=mkS [32] from rfl,show (⟨#[32,72,84,84,80,47,49,46]⟩:ByteArray)=mkS [32,72,84,84,80,47,49,46] from rfl,show (⟨#[13,10]⟩:ByteArray)=mkS [13,10] from rfl,mkS_append,mkS_append,mkS_append,mkS_append,mkS_append]
      simp
     ·cases h
  ·cases h
 ·rw [reqSpec_not h3] at h
  cases h
theorem write_l (fs:List (S36)) (hf:FB fs) (b:List Int) (hb:b.length ≤ 1000000000) (d:Nat) : ∀ (k i:Nat) (out:List Int),i + d=fs.length → d < k → out.length + 2097156 * d ≤ 100000000000 →
 http_write.l k fs b (i:Int) out=some (((out ++ fLines (fs.drop i)) ++ [13,10]) ++ b):=by
 have hfl:=hf.1
 induction d with
 | zero =>
  intro k i out hi hk ho
  obtain ⟨k,rfl⟩ : ∃ m,k=m + 1:=⟨k - 1,by omega⟩
  rw [http_write.l,if_neg (by omega),if_pos (by omega),List.drop_of_length_le (by omega),fLines,List.append_nil]
 | succ d ih =>
  intro k i out hi hk ho
  obtain ⟨k,rfl⟩ : ∃ m,k=m + 1:=⟨k - 1,by omega⟩
  have hlt:i < fs.length:=by omega
  have hs:=hf.2 _ (List.getElem_mem hlt)
  have hz:=lineB_size fs[i]
  rw [http_write.l,if_pos (by omega),if_pos (by omega),rdT_at fs i hlt,Line_f _ hs,Option.bind_some,if_pos (by omega),show wrap64 ((i:Int) + 1)=((i + 1:Nat):Int) by unfold wrap64;omega,
   ih k (i + 1) (out ++ bytesOf (lineB fs[i])) (by omega) (by omega) (by rw [List.length_append,bytesOf_length];omega),List.drop_eq_getElem_cons hlt,fLines,List.append_assoc out]
theorem write_f (first:ByteArray) (fs:List (S36)) (hf:FB fs) (b:List Int) (hb:b.length ≤ 1000000000) (h1:first.size ≤ 1000000000) (k:Nat) (hk:1001 ≤ k):http_write.f k first fs b=some (((bytesOf first ++ fLines fs) ++ [13,10]) ++ b):=by
 have hfl:=hf.1
 have:=write_l fs hf b hb fs.length k 0 (bytesOf first) (by omega) (by omega) (by rw [bytesOf_length];omega)
 rw [List.drop_zero] at this
 exact this
theorem write_back (l:List UInt8) (hls:l.length + 4 ≤ 2048) (hq:(reqSpec l).2.2.2.2.2=0) (fs:List (S36)) (hf:FB fs) (b:List Int) (hb:b.length ≤ 1000000000) (k:Nat) (hk:1001 ≤ k) :
 http_WriteRequest.f k (reqSpec l).1 (reqSpec l).2.1 (reqSpec l).2.2.1 fs b=some ((toI l ++ [13,10]) ++ fLines fs ++ [13,10] ++ b):=by
 have h1:=req_back l (by omega) hq
 have h2:line_RequestLine.f (reqSpec l).1 (reqSpec l).2.1 (reqSpec l).2.2.1 fs b=some (mkS (l ++ [13,10])):=by
  rw [← h1]
  rfl
 have e:bytesOf (mkS (l ++ [13,10]))=toI l ++ [13,10]:=by
  have:bytesOf (mkS (l ++ [13,10]))=(mkS (l ++ [13,10])).data.toList.map fun b=>(b.toNat:Int):=rfl
  rw [this,mkS_data,List.map_append]
  rfl
 unfold http_WriteRequest.f
 rw [h2,Option.bind_some,write_f _ fs hf b hb (by rw [mkS_size];simp only [List.length_append,List.length_cons,List.length_nil];omega) k hk,e]
theorem wf_u8 {x:Int} (h:(Lit.int .u8 x).wf=true):0 ≤ x∧x < 256:=by
 have:0 ≤ x∧x ≤ 255:=by simpa [Lit.wf,IntKind.min,IntKind.max,IntKind.signed,IntKind.bits] using h
 omega
theorem req_parts (L:List Int) (h:(reqS L).2.2.2.2.2.1 ≠ 0):OpenOk L (openS L)∧(reqS L).1=(openS L).1∧(reqS L).2.1=(openS L).2.1∧(reqS L).2.2.1=(openS L).2.2.1∧(reqS L).2.2.2.1=(openS L).2.2.2.1:=by
 rcases open_cases L with ⟨c,hc⟩|ho
 ·exfalso
  apply h
  unfold reqS
  rw [hc]
  rfl
 ·refine ⟨ho,?_⟩
  have hp:=ho.pos
  unfold reqS at h ⊢
  split at h
  ·exact absurd rfl h
  ·rename_i c1
   rw [if_neg c1]
   split at h
   ·exact absurd rfl h
   ·rename_i c2
    rw [if_neg c2]
    exact ⟨rfl,rfl,rfl,rfl⟩
theorem fLines_small : ∀ (fs:List (S36)),(∀ f ∈ fs,rightB f.f0 f.f1=true) → (fLines fs).length ≤ 1104 * fs.length:=by
 intro fs
 induction fs with
 | nil=>intro _;exact Nat.le_refl _
 | cons f fs ih =>
  intro h
  have h1:=rightB_size (h f (List.mem_cons_self ..))
  have h2:=ih (fun g hg=>h g (List.mem_cons_of_mem _ hg))
  rw [fLines,List.length_append,bytesOf_length,lineB_size,List.length_cons]
  omega
theorem right_FB (fs:List (S36)) (hn:fs.length ≤ 1000) (h : ∀ f ∈ fs,rightB f.f0 f.f1=true):FB fs :=
 ⟨hn,fun f hf=>by have:=rightB_size (h f hf);omega⟩
theorem toI_length (l:List UInt8):(toI l).length=l.length:=List.length_map ..
theorem fold_is (a p:ByteArray) (hp:(strOfNums ((bytesOf p).map foldC)).toList=p.toList):((strOfNums ((bytesOf a).map foldC)).toList=p.toList)=(sameN p a=true):=by
 have h:=str_inj (bytes_fold (bytes_of a)) (bytes_fold (bytes_of p))
 rw [hp] at h
 unfold sameN
 rw [decide_eq_true_eq]
 apply propext
 constructor
 ·intro e
  have:decide ((bytesOf a).map foldC=(bytesOf p).map foldC)=true:=by rw [← h];exact beq_iff_eq.2 e
  exact (of_decide_eq_true this).symm
 ·intro e
  have:((strOfNums ((bytesOf a).map foldC)).toList == p.toList)=true:=by rw [h];exact decide_eq_true e.symm
  exact beq_iff_eq.1 this
theorem some_or (b c:Bool):(if b=true then some true else some c)=some (b || c):=by cases b <;> rfl
/-- The kept names. -/
def keptNames:List ByteArray:=[⟨#[104,111,115,116]⟩,⟨#[99,111,110,116,101,110,116,45,108,101,110,103,116,104]⟩,⟨#[116,114,97,110,115,102,101,114,45,101,110,99,111,100,105,110,103]⟩,⟨#[99,111,110,110,101,99,116,105,111,110]⟩,⟨#[107,101,101,112,45,97,108,105,118,101]⟩,⟨#[112,114,111,120,121,45,99,111,110,110,101,99,116,105,111,110]⟩,⟨#[116,101]⟩,⟨#[116,114,97,105,108,101,114]⟩,⟨#[117,112,103,114,97,100,101]⟩,⟨#[101,120,112,101,99,116]⟩,⟨#[118,105,97]⟩]
def keptN (a:ByteArray):Bool:=keptNames.any (fun p=>sameN p a)
theorem Kept_f (a:ByteArray) (ha:a.size ≤ 1048576):conf_Kept.f a=some (keptN a):=by
 unfold conf_Kept.f
 rw [Fold_f a (by omega),Option.bind_some]
 have e : ∀ (p:ByteArray),p ∈ keptNames → ((strOfNums ((bytesOf a).map foldC)).toList=p.toList)=(sameN p a=true):=by
  intro p hp
  refine fold_is a p ?_
  have : ∀ p ∈ keptNames,(strOfNums ((bytesOf p).map foldC)).data=p.data:=by decide +kernel
  rw [toList_data,toList_data,this p hp]
 have l : ∀ (p:ByteArray) (q:List UInt8),p ∈ keptNames → p.toList=q → ((strOfNums ((bytesOf a).map foldC)).toList=q)=(sameN p a=true):=fun p q hp hq=>by rw [← hq];exact e p hp
 have e0:=l ⟨#[104,111,115,116]⟩ [104,111,115,116] (by simp [keptNames]) (toList_data _)
 have e1:=l ⟨#[99,111,110,116,101,110,116,45,108,101,110,103,116,104]⟩ [99,111,110,116,101,110,116,45,108,101,110,103,116,104] (by simp [keptNames]) (toList_data _)
 have e2:=l ⟨#[116,114,97,110,115,102,101,114,45,101,110,99,111,100,105,110,103]⟩ [116,114,97,110,115,102,101,114,45,101,110,99,111,100,105,110,103] (by simp [keptNames]) (toList_data _)
 have e3:=l ⟨#[99,111,110,110,101,99,116,105,111,110]⟩ [99,111,110,110,101,99,116,105,111,110] (by simp [keptNames]) (toList_data _)
 have e4:=l ⟨#[107,101,101,112,45,97,108,105,118,101]⟩ [107,101,101,112,45,97,108,105,118,101] (by simp [keptNames]) (toList_data _)
 have e5:=l ⟨#[112,114,111,120,121,45,99,111,110,110,101,99,116,105,111,110]⟩ [112,114,111,120,121,45,99,111,110,110,101,99,116,105,111,110] (by simp [keptNames]) (toList_data _)
 have e6:=l ⟨#[116,101]⟩ [116,101] (by simp [keptNames]) (toList_data _)
 have e7:=l ⟨#[116,114,97,105,108,101,114]⟩ [116,114,97,105,108,101,114] (by simp [keptNames]) (toList_data _)
 have e8:=l ⟨#[117,112,103,114,97,100,101]⟩ [117,112,103,114,97,100,101] (by simp [keptNames]) (toList_data _)
 have e9:=l ⟨#[101,120,112,101,99,116]⟩ [101,120,112,101,99,116] (by simp [keptNames]) (toList_data _)
 have e10:=l ⟨#[118,105,97]⟩ [118,105,97] (by simp [keptNames]) (toList_data _)
 simp only [e0,e1,e2,e3,e4,e5,e6,e7,e8,e9,e10]
 simp only [some_or]
 rfl
theorem anyO_tot {α:Type} (q:α → Option Bool) : ∀ l:List α,(∀ x ∈ l,∃ b,q x=some b) → ∃ b,anyO q l=some b∧(b=false → ∀ x ∈ l,q x=some false)
 | [],_=>⟨false,rfl,fun _ x hx=>by cases hx⟩
 | x :: r,h=>by
  obtain ⟨b,hb⟩:=h x (List.mem_cons_self ..)
  obtain ⟨c,hc,hcc⟩:=anyO_tot q r (fun y hy=>h y (List.mem_cons_of_mem _ hy))
  rw [anyO,hb,Option.bind_some]
  cases b
  ·refine ⟨c,by rw [if_neg (by simp)];exact hc,fun e y hy=>?_⟩
   rcases List.mem_cons.1 hy with rfl|hy
   ·exact hb
   ·exact hcc e y hy
  ·exact ⟨true,by rw [if_pos rfl],fun e=>by cases e⟩
theorem allO_tot {α:Type} (q:α → Option Bool) : ∀ l:List α,(∀ x ∈ l,∃ b,q x=some b) → ∃ b,allO q l=some b∧(b=true → ∀ x ∈ l,q x=some true)
 | [],_=>⟨true,rfl,fun _ x hx=>by cases hx⟩
 | x :: r,h=>by
  obtain ⟨b,hb⟩:=h x (List.mem_cons_self ..)
  obtain ⟨c,hc,hcc⟩:=allO_tot q r (fun y hy=>h y (List.mem_cons_of_mem _ hy))
  rw [allO,hb,Option.bind_some]
  cases b
  ·exact ⟨false,by rw [if_neg (by simp)],fun e=>by cases e⟩
  ·refine ⟨c,by rw [if_pos rfl];exact hc,fun e y hy=>?_⟩
   rcases List.mem_cons.1 hy with rfl|hy
   ·exact hb
   ·exact hcc e y hy
theorem tbl_l0 (s:ByteArray) (d:Nat) : ∀ (k i:Nat),i + d=s.size → d < k → s.size ≤ 30 → ∃ b,table_Name.l0 k s (s.size:Int) (i:Int)=some b:=by
 induction d with
 | zero =>
  intro k i hi hk hs
  obtain ⟨k,rfl⟩ : ∃ m,k=m + 1:=⟨k - 1,by omega⟩
  exact ⟨true,by rw [table_Name.l0,if_neg (by omega)]⟩
 | succ d ih =>
  intro k i hi hk hs
  obtain ⟨k,rfl⟩ : ∃ m,k=m + 1:=⟨k - 1,by omega⟩
  obtain ⟨b,hb⟩:=ih k (i + 1) (by omega) (by omega) hs
  rw [table_Name.l0,if_pos (by omega),if_pos (by omega),if_pos (by omega),show wrap64 ((i:Int) + 1)=((i + 1:Nat):Int) by unfold wrap64;omega]
  repeat' split
  all_goals first|exact ⟨_,rfl⟩|exact ⟨b,hb⟩
theorem tbl_j0 (s:ByteArray) (k:Nat) (hk:40 ≤ k) (x:Bool) (hs:x=false → s.size ≤ 30) : ∃ b,table_Name.j0 k s x=some b:=by
 obtain ⟨k,rfl⟩ : ∃ m,k=m + 1:=⟨k - 1,by omega⟩
 rw [table_Name.j0]
 cases x
 ·rw [if_neg (by simp)]
  exact tbl_l0 s s.size k 0 (by omega) (by have:=hs rfl;omega) (hs rfl)
 ·exact ⟨false,by rw [if_pos rfl]⟩
theorem tbl_tot (s:ByteArray) (k:Nat) (hk:40 ≤ k) : ∃ b,table_Name.f k s=some b:=by
 unfold table_Name.f
 split
 ·exact tbl_j0 s k hk true (fun e=>by cases e)
 ·split
  ·exact tbl_j0 s k hk true (fun e=>by cases e)
  ·rename_i h1 h2
   have hp:0 < s.size:=by
    rcases Nat.eq_zero_or_pos s.size with h|h
    ·exfalso
     apply h1
     rw [toList_data]
     exact List.eq_nil_of_length_eq_zero (by rw [data_length];exact h)
    ·exact h
   rw [if_pos (by omega)]
   split
   ·exact tbl_j0 s k hk true (fun e=>by cases e)
   ·exact tbl_j0 s k hk _ (fun _=>by omega)
theorem path_tot (s:ByteArray) (hs:s.size ≤ 140737488355328) : ∃ b,conf_path.f s=some b:=by
 unfold conf_path.f
 have ht:sign_Target.f s=some (tgtOk s):=Target_f s hs
 rw [ht,Option.bind_some]
 cases h:tgtOk s
 ·exact ⟨false,by rw [if_neg (by simp)]⟩
 ·have:=tgt_ne h
  rw [if_pos rfl,if_pos (by omega)]
  split
  ·exact ⟨_,rfl⟩
  ·exact ⟨_,rfl⟩
theorem set_f (a t:ByteArray):conf_set.f a t=some (rightB a t && !keptN a):=by
 unfold conf_set.f field_Right.f
 rw [if_pos (by simp),anyO]
 unfold field_Right_1.f
 simp only
 rw [field_right_f,Option.bind_some,Option.bind_some]
 cases h:rightB a t
 ·rw [Bool.not_false,if_pos rfl,Option.bind_some,Option.bind_some,Bool.not_true,if_neg (by simp)]
  rfl
 ·rw [Bool.not_true,if_neg (by simp),anyO,Option.bind_some,Option.bind_some,Bool.not_false,if_pos rfl,Kept_f a (by have:=rightB_size h;omega),Option.bind_some]
  rfl
theorem drop_tot (a:ByteArray) (hs:a.size ≤ 140737488355328) : ∃ b,conf_drop.f a=some b∧(b=true → a.size ≤ 100∧keptN a=false):=by
 unfold conf_drop.f
 rw [Token_f a hs,Option.bind_some]
 split
 ·split
  ·rename_i h
   rw [Kept_f a (by omega),Option.bind_some]
   exact ⟨_,rfl,fun e=>⟨by omega,by simpa using e⟩⟩
  ·exact ⟨false,rfl,fun e=>by cases e⟩
 ·exact ⟨false,rfl,fun e=>by cases e⟩
theorem end_tot (us:List (S83)) (rts:List (S85)) (set:List (S36)) (drop:List ByteArray) (n4 n5 n6 n7:Int) : ∃ b,conf_right.e us rts set drop n4 n5 n6 n7=some b:=by
 unfold conf_right.e conf_numbers.f
 rw [Option.bind_some]
 obtain ⟨c,hc,_⟩:=anyO_tot (fun x:S131=>conf_right_1.f x.f0 x.f1 x.f2 x.f3) _ (fun x _=>by unfold conf_right_1.f;split <;> exact ⟨_,rfl⟩)
 exact ⟨!c,by rw [hc,Option.bind_some]⟩
set_option maxHeartbeats 4000000 in
theorem right_tot (us : List (S83)) (rts : List (S85)) (set : List (S36)) (drop : List ByteArray) (n4 n5 n6 n7 : Int) (hu : ∀ u ∈ us, ∀ a ∈ u.f1, a.size ≤ 140737488355328) (hr : ∀ r ∈ rts, r.f0.size ≤ 140737488355328 ∧ r.f2.size ≤ 140737488355328) (hd : ∀ n ∈ drop, n.size ≤ 140737488355328) (k : Nat) (hk : 40 ≤ k) :
    ∃ b, conf_right.f k us rts set drop n4 n5 n6 n7 = some b ∧ (b = true → (∀ f ∈ set, rightB f.f0 f.f1 = true ∧ keptN f.f0 = false) ∧ ∀ n ∈ drop, n.size ≤ 100 ∧ keptN n = false) := by
  unfold conf_right.f
  have q0 : ∀ u ∈ us, ∃ b, conf_up.f k u.f0 u.f1 = some b := fun u h => by
    unfold conf_up.f
    obtain ⟨b, hb⟩ := tbl_tot u.f0 k hk
    rw [hb, Option.bind_some]
    cases b
    · exact ⟨false, by rw [if_neg (by simp)]⟩
    · obtain ⟨c, hc, _⟩ := anyO_tot (fun a => conf_up_1.f a) u.f1 (fun a ha => by
        unfold conf_up_1.f
        have ht : sign_Target.f a = some (tgtOk a) := Target_f a (hu u h a ha)
        rw [ht, Option.bind_some]
        split
        · exact ⟨_, rfl⟩
        · exact ⟨_, rfl⟩)
      exact ⟨!c, by rw [if_pos rfl, hc, Option.bind_some]⟩
  have q1 : ∀ r ∈ rts, ∃ b, ((conf_path.f r.f0).bind fun b => if b = true then conf_path.f r.f2 else some false) = some b := fun r h => by
    obtain ⟨b, hb⟩ := path_tot r.f0 (hr r h).1
    obtain ⟨c, hc⟩ := path_tot r.f2 (hr r h).2
    rw [hb, Option.bind_some]
    cases b
    · exact ⟨false, by rw [if_neg (by simp)]⟩
    · exact ⟨c, by rw [if_pos rfl, hc]⟩
  obtain ⟨b0, h0, _⟩ := allO_tot (fun u => conf_up.f k u.f0 u.f1) us q0
  obtain ⟨b1, h1, _⟩ := allO_tot (fun r => (conf_path.f r.f0).bind fun b => if b = true then conf_path.f r.f2 else some false) rts q1
  obtain ⟨b2, h2, g2⟩ := allO_tot (fun f => conf_set.f f.f0 f.f1) set (fun f _ => ⟨_, set_f f.f0 f.f1⟩)
  obtain ⟨b3, h3, g3⟩ := allO_tot (fun s => conf_drop.f s) drop (fun n h => by obtain ⟨b, hb, _⟩ := drop_tot n (hd n h); exact ⟨b, hb⟩)
  rw [h0, Option.bind_some]
  cases b0
  · exact ⟨false, by rw [if_neg (by simp)], fun e => by cases e⟩
  · rw [if_pos rfl, h1, Option.bind_some]
    cases b1
    · exact ⟨false, by rw [if_neg (by simp)], fun e => by cases e⟩
    · rw [if_pos rfl, h2, Option.bind_some]
      cases b2
      · exact ⟨false, by rw [if_neg (by simp)], fun e => by cases e⟩
      · rw [if_pos rfl, h3, Option.bind_some]
        cases b3
        · exact ⟨false, by rw [if_neg (by simp)], fun e => by cases e⟩
        · rw [if_pos rfl]
          obtain ⟨c, hc⟩ := end_tot us rts set drop n4 n5 n6 n7
          refine ⟨c, hc, fun _ => ⟨fun f hf => ?_, fun n hn => ?_⟩⟩
          · have : conf_set.f f.f0 f.f1 = some true := g2 rfl f hf
            rw [set_f] at this
            injection this with this
            simpa using this
          · obtain ⟨b, hb, hbb⟩ := drop_tot n (hd n hn)
            have : conf_drop.f n = some true := g3 rfl n hn
            rw [hb] at this
            injection this with this
            exact hbb this
theorem many_tot (us:List (S83)) (rts:List (S85)) (set:List (S36)) (drop:List ByteArray) (n4 n5 n6 n7:Int) : ∃ b,conf_many.f us rts set drop n4 n5 n6 n7=some b∧(b=false → us.length ≤ 16∧rts.length ≤ 32∧set.length ≤ 16∧drop.length ≤ 16):=by
 unfold conf_many.f
 obtain ⟨c,hc,_⟩:=anyO_tot (fun u=>conf_many_1.f u.f0 u.f1) us (fun x _=>by unfold conf_many_1.f;split <;> exact ⟨_,rfl⟩)
 rw [hc,Option.bind_some]
 cases c
 ·rw [if_neg (by simp)]
  split
  ·exact ⟨true,rfl,fun e=>by cases e⟩
  ·split
   ·exact ⟨true,rfl,fun e=>by cases e⟩
   ·split
    ·exact ⟨true,rfl,fun e=>by cases e⟩
    ·exact ⟨_,rfl,fun e=>by have:=of_decide_eq_false e;omega⟩
 ·exact ⟨true,by rw [if_pos rfl],fun e=>by cases e⟩
/-- What a configuration's check tells: something;where it tells that all is right,the rules are few and right. -/
theorem check_tot (us:List (S83)) (rts:List (S85)) (set:List (S36)) (drop:List ByteArray) (n4 n5 n6 n7:Int) (hul:us.length ≤ 140737488355328) (hrl:rts.length ≤ 140737488355328) (hu : ∀ u ∈ us,u.f0.size ≤ 140737488355328 ∧ ∀ a ∈ u.f1,a.size ≤ 140737488355328)
 (hr : ∀ r ∈ rts,r.f0.size ≤ 140737488355328∧r.f1.size ≤ 140737488355328∧r.f2.size ≤ 140737488355328) (hd : ∀ n ∈ drop,n.size ≤ 140737488355328) (k:Nat) (hk:40 ≤ k) :
 ∃ e,conf_Check.f k us rts set drop n4 n5 n6 n7=some e∧(e=0 → set.length ≤ 16∧drop.length ≤ 16∧(∀ f ∈ set,rightB f.f0 f.f1=true∧keptN f.f0=false) ∧ ∀ n ∈ drop,n.size ≤ 100∧keptN n=false):=by
 unfold conf_Check.f
 rw [if_pos ⟨hul,hrl,fun u h=>(hu u h).1,fun r h=>⟨(hr r h).1,(hr r h).2.1⟩⟩]
 obtain ⟨m,hm,gm⟩:=many_tot us rts set drop n4 n5 n6 n7
 obtain ⟨b,hb,gb⟩:=right_tot us rts set drop n4 n5 n6 n7 (fun u h=>(hu u h).2) (fun r h=>⟨(hr r h).1,(hr r h).2.2⟩) hd k hk
 rw [hm,Option.bind_some]
 cases m
 ·rw [if_neg (by simp),hb,Option.bind_some]
  have:=gm rfl
  cases b
  ·exact ⟨1,by rw [if_neg (by simp)],fun e=>by cases e⟩
  ·exact ⟨_,by rw [if_pos rfl],fun _=>⟨this.2.2.1,this.2.2.2,(gb rfl).1,(gb rfl).2⟩⟩
 ·exact ⟨3,by rw [if_pos rfl],fun e=>by cases e⟩
theorem trail_pos (l:List Int) : ∀ (d p:Nat),0 ≤ (trailS l d p).1:=by
 intro d
 induction d with
 | zero=>intro p;exact Int.le_refl _
 | succ d ih =>
  intro p
  have hsh:=cutS_shape (l.drop p) 256
  rw [trailS]
  repeat' split
  ·exact Int.le_refl _
  ·show 0 ≤ (p:Int) + _
   rcases hsh with h|h <;> omega
  ·exact ih _
  ·exact Int.le_refl _
  ·exact Int.le_refl _
theorem dec_none' (l:List Int) : ∀ (d p:Nat) (left:Int) (out:List Int),¬ (decS l d p left out).2.1 > 0 → (decS l d p left out).2.2=0 → (decS l d p left out).1=[]∧(decS l d p left out).2.1=0:=by
 intro d
 induction d with
 | zero=>intro p left out _ _;exact ⟨rfl,rfl⟩
 | succ d ih =>
  intro p left out g1 g2
  rw [decS] at g1 g2 ⊢
  obtain ⟨c,hc⟩ : ∃ c,c=cutSpec (l.drop p) 256:=⟨_,rfl⟩
  rw [← hc] at g1 g2 ⊢
  obtain ⟨z,hz⟩ : ∃ z,z=sizeS c.1.data.toList:=⟨_,rfl⟩
  obtain ⟨q,hq⟩ : ∃ q,q=p + c.2.1.toNat:=⟨_,rfl⟩
  rw [← hz,← hq] at g1 g2 ⊢
  by_cases h1:c.2.2=0
  ·rw [if_pos h1] at g1 g2 ⊢
   by_cases h2:c.2.1=0
   ·rw [if_pos h2];exact ⟨rfl,rfl⟩
   ·rw [if_neg h2] at g1 g2 ⊢
    by_cases h3:z.2=true
    ·rw [if_pos h3] at g1 g2 ⊢
     by_cases h4:z.1=0
     ·rw [if_pos h4] at g1 g2 ⊢
      by_cases h5:(trailS l 41 q).2=0
      ·rw [if_pos h5] at g1 g2 ⊢
       by_cases h6:(trailS l 41 q).1=0
       ·rw [if_pos h6];exact ⟨rfl,rfl⟩
       ·rw [if_neg h6] at g1
        have:=trail_pos l 41 q
        exact absurd (show (trailS l 41 q).1 > 0 by omega) g1
      ·rw [if_neg h5];exact ⟨rfl,rfl⟩
     ·rw [if_neg h4] at g1 g2 ⊢
      by_cases h5:z.1 > left
      ·rw [if_pos h5];exact ⟨rfl,rfl⟩
      ·rw [if_neg h5] at g1 g2 ⊢
       by_cases h6:(dataOf (l.drop q) (q:Int) z.1 false).2.1=0
       ·rw [if_pos h6] at g1 g2 ⊢
        by_cases h7:(dataOf (l.drop q) (q:Int) z.1 false).2.2.2=true
        ·rw [if_pos h7];exact ⟨rfl,rfl⟩
        ·rw [if_neg h7] at g1 g2 ⊢
         exact ih _ _ _ g1 g2
       ·rw [if_neg h6];exact ⟨rfl,rfl⟩
    ·rw [if_neg h3];exact ⟨rfl,rfl⟩
  ·rw [if_neg h1];exact ⟨rfl,rfl⟩
/-- Fields but those of some names. -/
def withoutS (fs:List (S36)) (ns:List ByteArray):List (S36):=fs.filter (fun f => !(ns.any (fun n=>sameN n f.f0)))
theorem getS_app (p:ByteArray) (a b:List (S36)):getS p (a ++ b)=getS p a ++ getS p b:=by
 induction a with
 | nil=>rfl
 | cons f a ih =>
  rw [List.cons_append,getS,getS,ih]
  split <;> rfl
theorem sameN_symm {a b:ByteArray} (h:sameN a b=true):sameN b a=true:=by
 unfold sameN at *
 rw [decide_eq_true_eq] at *
 exact h.symm
theorem decI_dig (d:Nat) : ∀ u,u < 10 ^ d → ∀ x ∈ decI u,48 ≤ x∧x ≤ 57:=by
 induction d with
 | zero =>
  intro u hu x hx
  obtain rfl:u=0:=by simpa using hu
  rw [decI_small 0 (by decide)] at hx
  have:=List.mem_singleton.1 hx
  omega
 | succ d ih =>
  intro u hu x hx
  by_cases h:u < 10
  ·rw [decI_small u h] at hx
   have:=List.mem_singleton.1 hx
   omega
  ·rw [decI_big u (by omega)] at hx
   rcases List.mem_append.1 hx with hx|hx
   ·exact ih (u / 10) (by rw [Nat.pow_succ] at hu;omega) x hx
   ·have:=List.mem_singleton.1 hx
    omega
theorem dig_facts : ∀ c:Fin 10,valB (48 + (c.val:Int))=true:=by decide +kernel
/-- A number's text: what is known of it. -/
theorem dec_text (u:Nat) (hu:u < 100000):rightB lenNM (strOfNums (decI u))=true∧partsS (strOfNums (decI u))=[strOfNums (decI u)]∧(strOfNums (decI u)).size ≤ 5:=by
 have hl:=dec_len 4 u (by omega)
 have hd:=decI_dig 5 u (by omega)
 have hsz:(strOfNums (decI u)).size=(decI u).length:=str_size _
 have hdat : ∀ a ∈ (strOfNums (decI u)).data.toList,48 ≤ a.toNat∧a.toNat ≤ 57:=by
  intro a ha
  have e:(strOfNums (decI u)).data.toList=(decI u).map fun n=>UInt8.ofNat n.toNat:=by simp [strOfNums]
  rw [e] at ha
  obtain ⟨x,hx,rfl⟩:=List.mem_map.1 ha
  have:=hd x hx
  rw [UInt8.toNat_ofNat_of_lt' (by show x.toNat < 256;omega)]
  omega
 have hblk : ∀ a ∈ (strOfNums (decI u)).data.toList,blk a=false:=by
  intro a ha
  have:=hdat a ha
  have e : ∀ c:Fin 256,48 ≤ c.val∧c.val ≤ 57 → blk (UInt8.ofNat c.val)=false:=by decide +kernel
  have h:=e ⟨a.toNat,a.toNat_lt⟩ this
  rw [UInt8.ofNat_toNat] at h
  exact h
 have htrm:trm (strOfNums (decI u)).data.toList=(strOfNums (decI u)).data.toList :=
  trm_self ⟨fun a ha=>hblk a (List.mem_of_mem_head? ha),fun a ha=>hblk a (List.mem_of_getLast? ha)⟩
 have hb:bytesOf (strOfNums (decI u))=(strOfNums (decI u)).data.toList.map fun b=>(b.toNat:Int):=rfl
 refine ⟨?_,?_,by omega⟩
 ·unfold rightB
  have h1:(!lenNM.toList.isEmpty && (bytesOf lenNM).all tokB)=true:=by decide +kernel
  have h2:(bytesOf (strOfNums (decI u))).all valB=true:=by
   refine List.all_eq_true.2 fun x hx=>?_
   rw [hb] at hx
   obtain ⟨a,ha,rfl⟩:=List.mem_map.1 hx
   have:=hdat a ha
   have:=dig_facts ⟨a.toNat - 48,by omega⟩
   rw [show (48 + ((a.toNat - 48:Nat):Int))=(a.toNat:Int) by omega] at this
   exact this
  rw [h1,h2,htrm,mkS_self,decide_eq_true (show lenNM.size ≤ 100 by decide),decide_eq_true (show (strOfNums (decI u)).size ≤ 1000 by omega),beq_self_eq_true]
  rfl
 ·unfold partsS
  rw [comma_one _ (fun h=>by have:=hdat 44 h;revert this;decide),htrm,if_neg ?_,List.map_cons,List.map_nil,mkS_self]
  rw [List.isEmpty_iff]
  intro he
  have:=data_length (strOfNums (decI u))
  rw [he] at this
  simp only [List.length_nil] at this
  omega
theorem body_plain (b more:List Int):bodyS (b ++ more) (b.length:Int) false=(b,(b.length:Int),0):=by
 unfold bodyS
 rw [if_neg (by simp),if_neg (by rw [List.length_append];omega),Int.toNat_natCast,List.take_left]
theorem sameN_name (x p q:ByteArray) (h:(bytesOf p).map foldC=(bytesOf q).map foldC):sameN x p=sameN x q:=by unfold sameN;rw [h]
theorem getS_name (p q:ByteArray) (h:(bytesOf p).map foldC=(bytesOf q).map foldC) : ∀ fs,getS p fs=getS q fs
 | []=>rfl
 | f :: r=>by rw [getS,getS,sameN_name _ p q h,getS_name p q h r]
theorem listS_name (p q:ByteArray) (h:(bytesOf p).map foldC=(bytesOf q).map foldC) (fs:List (S36)):listS p fs=listS q fs:=by unfold listS;rw [getS_name p q h]
def connN:ByteArray:=⟨#[99,111,110,110,101,99,116,105,111,110]⟩
theorem conn_has (fs:List (S36)) (a:ByteArray):hasS fs (⟨#[67,111,110,110,101,99,116,105,111,110]⟩:ByteArray) a=hasS fs connN a:=by
 unfold hasS
 rw [listS_name ⟨#[67,111,110,110,101,99,116,105,111,110]⟩ connN (by decide +kernel)]
/-- Does a name begin with x-tollbar-? -/
def ownN (a:ByteArray):Bool:=decide (10 ≤ a.size) && ((strOfNums ((bytesOf a).map foldC)).extract 0 10).toList == [120,45,116,111,108,108,98,97,114,45]
/-- Does a field of a name not go on? -/
def hopS (fs:List (S36)) (a:ByteArray):Bool:=keptN a || (ownN a || hasS fs connN a)
theorem fold_size (a:ByteArray):(strOfNums ((bytesOf a).map foldC)).size=a.size:=by rw [str_len,List.length_map,bytesOf_length]
theorem Hop_f (fs:List (S36)) (a:ByteArray) (hf:FB fs) (ha:a.size ≤ 1048576) (k:Nat) (hk:1049600 ≤ k):scrub_Hop.f k fs a=some (hopS fs a):=by
 unfold scrub_Hop.f hopS
 rw [Kept_f a ha,Option.bind_some]
 cases keptN a
 ·rw [if_neg (by simp),Fold_f a (by omega),Option.bind_some,Bool.false_or]
  have hp:strings_HasPrefix.f (strOfNums ((bytesOf a).map foldC)) (⟨#[120,45,116,111,108,108,98,97,114,45]⟩:ByteArray)=some (ownN a):=by
   have hs:(⟨#[120,45,116,111,108,108,98,97,114,45]⟩:ByteArray).size=10:=rfl
   unfold strings_HasPrefix.f stringslite_HasPrefix.f ownN
   rw [hs,fold_size]
   by_cases h:10 ≤ a.size
   ·rw [if_pos (by omega),if_pos (by omega),if_pos (by omega),decide_eq_true h,toList_data (⟨#[120,45,116,111,108,108,98,97,114,45]⟩:ByteArray)];rfl
   ·rw [if_neg (by omega),decide_eq_false h];rfl
  rw [hp,Option.bind_some]
  cases ownN a
  ·rw [if_neg (by simp),Has_f fs _ a hf (by decide) ha k hk,Option.bind_some,conn_has,Bool.false_or]
  ·rw [if_pos rfl,Bool.true_or]
 ·rw [if_pos rfl,Bool.true_or]
/-- The fields that go on. -/
def onwS (fs:List (S36)):List (S36):=fs.filter (fun f => !hopS fs f.f0)
theorem onw_l0 (fs:List (S36)) (hf:FB fs) (d:Nat) : ∀ (k i:Nat) (out:List (S36)),i + d=fs.length → d + 1049600 ≤ k → out.length ≤ i →
 scrub_onward.l0 k fs out fs (fs.length:Int) (i:Int)=some (out ++ (fs.drop i).filter (fun f => !hopS fs f.f0)):=by
 have hfl:=hf.1
 induction d with
 | zero =>
  intro k i out hi hk ho
  obtain ⟨k,rfl⟩ : ∃ m,k=m + 1:=⟨k - 1,by omega⟩
  rw [scrub_onward.l0,if_neg (by omega),List.drop_of_length_le (by omega),List.filter_nil,List.append_nil]
 | succ d ih =>
  intro k i out hi hk ho
  obtain ⟨k,rfl⟩ : ∃ m,k=m + 1:=⟨k - 1,by omega⟩
  have hlt:i < fs.length:=by omega
  have hb:=hf.2 _ (List.getElem_mem hlt)
  have hw:wrap64 ((i:Int) + 1)=((i + 1:Nat):Int):=by unfold wrap64;omega
  rw [scrub_onward.l0,if_pos (by omega),if_pos (by omega),if_pos (by omega),rdT_at fs i hlt,Hop_f fs _ hf hb.1 k (by omega),Option.bind_some,hw,List.drop_eq_getElem_cons hlt,List.filter_cons]
  cases hs:hopS fs fs[i].f0
  ·rw [if_neg (by simp),if_pos (by omega),if_pos (by simp),ih k (i + 1) _ (by omega) (by omega) (by rw [List.length_append];simp;omega)]
   simp only [List.append_assoc,List.singleton_append]
  ·rw [if_pos rfl,if_neg (by simp),ih k (i + 1) _ (by omega) (by omega) (by omega)]
theorem onward_f (fs:List (S36)) (hf:FB fs) (k:Nat) (hk:1050600 ≤ k):scrub_onward.f k fs=some (onwS fs):=by
 have hfl:=hf.1
 have:=onw_l0 fs hf fs.length k 0 [] (by omega) (by omega) (Nat.zero_le _)
 rw [List.drop_zero,List.nil_append] at this
 exact this
theorem onwS_FB (fs:List (S36)) (hf:FB fs):FB (onwS fs):=⟨Nat.le_trans (List.length_filter_le _ _) hf.1,fun f h=>hf.2 f (List.mem_filter.1 h).1⟩
theorem trail_le (l:List Int) : ∀ (d p:Nat),p ≤ l.length → (trailS l d p).1 ≤ (l.length:Int):=by
 intro d
 induction d with
 | zero=>intro p _;exact Int.natCast_nonneg _
 | succ d ih =>
  intro p hp
  have hsh:=cutS_shape (l.drop p) 256
  have hdl:(l.drop p).length=l.length - p:=List.length_drop ..
  rw [trailS]
  obtain ⟨c,hc⟩ : ∃ c,c=cutSpec (l.drop p) 256:=⟨_,rfl⟩
  rw [← hc] at hsh ⊢
  by_cases h1:c.2.2=0
  ·rw [if_pos h1]
   by_cases h2:c.2.1=0
   ·rw [if_pos h2];exact Int.natCast_nonneg _
   ·have hz2:c.2.1 > 0∧c.2.1 ≤ (l.length:Int) - p:=by rcases hsh with h|h <;> omega
    rw [if_neg h2]
    by_cases h3:c.1.toList=[]
    ·rw [if_pos h3];show (p:Int) + c.2.1 ≤ _;omega
    ·rw [if_neg h3]
     by_cases h4:fieldOk c.1.data.toList=true
     ·rw [if_pos h4];exact ih _ (by omega)
     ·rw [if_neg h4];exact Int.natCast_nonneg _
  ·rw [if_neg h1];exact Int.natCast_nonneg _
theorem dec_le (l:List Int) (hl:l.length ≤ 1000000) : ∀ (d p:Nat) (left:Int) (out:List Int),p ≤ l.length → (decS l d p left out).2.1 ≤ (l.length:Int):=by
 intro d
 induction d with
 | zero=>intro p left out _;exact Int.natCast_nonneg _
 | succ d ih =>
  intro p left out hp
  have hsh:=cutS_shape (l.drop p) 256
  have hdl:(l.drop p).length=l.length - p:=List.length_drop ..
  have hz0:(0:Int) ≤ (l.length:Int):=Int.natCast_nonneg _
  rw [decS]
  obtain ⟨c,hc⟩ : ∃ c,c=cutSpec (l.drop p) 256:=⟨_,rfl⟩
  rw [← hc] at hsh ⊢
  have hzb:=size_bound c.1.data.toList
  obtain ⟨z,hz⟩ : ∃ z,z=sizeS c.1.data.toList:=⟨_,rfl⟩
  obtain ⟨q,hq⟩ : ∃ q,q=p + c.2.1.toNat:=⟨_,rfl⟩
  rw [← hz] at hzb
  rw [← hz,← hq]
  by_cases h1:c.2.2=0
  ·rw [if_pos h1]
   by_cases h2:c.2.1=0
   ·rw [if_pos h2];exact hz0
   ·have hz2:c.2.1 > 0∧c.2.1 ≤ (l.length:Int) - p:=by rcases hsh with h|h <;> omega
    have hqd:(l.drop q).length=l.length - q:=List.length_drop ..
    rw [if_neg h2]
    by_cases h3:z.2=true
    ·rw [if_pos h3]
     by_cases h4:z.1=0
     ·rw [if_pos h4]
      by_cases h5:(trailS l 41 q).2=0
      ·rw [if_pos h5]
       by_cases h6:(trailS l 41 q).1=0
       ·rw [if_pos h6];exact hz0
       ·rw [if_neg h6];exact trail_le l 41 q (by omega)
      ·rw [if_neg h5];exact hz0
     ·rw [if_neg h4]
      by_cases h5:z.1 > left
      ·rw [if_pos h5];exact hz0
      ·rw [if_neg h5]
       by_cases h6:(dataOf (l.drop q) (q:Int) z.1 false).2.1=0
       ·rw [if_pos h6]
        by_cases h7:(dataOf (l.drop q) (q:Int) z.1 false).2.2.2=true
        ·rw [if_pos h7];exact hz0
        ·rw [if_neg h7]
         obtain ⟨_,_,e3,_,_⟩:=data_ok (l.drop q) q z.1 (by omega) (by omega) hzb.1 (by omega) h6 h7
         exact ih _ _ _ (by omega)
       ·rw [if_neg h6];exact hz0
    ·rw [if_neg h3];exact hz0
  ·rw [if_neg h1];exact hz0
theorem decS_size (l:List Int) (hb:l.length ≤ 1000000) : ∀ (d p:Nat) (left:Int) (out:List Int),p ≤ l.length → out.length ≤ l.length → l.length < p + d → out.length ≤ p → (decS l d p left out).1.length ≤ l.length:=by
 intro d
 induction d with
 | zero=>intro p left out h1 h2 h3;omega
 | succ d ih =>
  intro p left out hp ho hd hop
  have hsh:=cutS_shape (l.drop p) 256
  have hdl:(l.drop p).length=l.length - p:=List.length_drop ..
  rw [decS]
  obtain ⟨c,hc⟩ : ∃ c,c=cutSpec (l.drop p) 256:=⟨_,rfl⟩
  rw [← hc] at hsh ⊢
  by_cases h1:c.2.2=0
  ·rw [if_pos h1]
   by_cases h2:c.2.1=0
   ·rw [if_pos h2];simp
   ·have hz2:c.2.1 > 0∧c.2.1 ≤ (l.length:Int) - p:=by rcases hsh with h|h <;> omega
    have hzb:=size_bound c.1.data.toList
    have hdq:(l.drop (p + c.2.1.toNat)).length=l.length - (p + c.2.1.toNat):=List.length_drop ..
    rw [if_neg h2]
    split
    ·split
     ·split
      ·split
       ·simp
       ·exact ho
      ·simp
     ·split
      ·simp
      ·split
       ·split
        ·simp
        ·rename_i h6 h7
         obtain ⟨_,_,e3,_,_⟩:=data_ok (l.drop (p + c.2.1.toNat)) ((p + c.2.1.toNat:Nat):Int) (sizeS c.1.data.toList).1 (by omega) (by omega) hzb.1 (by omega) h6 h7
         have htk:((l.drop (p + c.2.1.toNat)).take (sizeS c.1.data.toList).1.toNat).length ≤ (sizeS c.1.data.toList).1.toNat:=List.length_take_le ..
         exact ih _ _ _ (by omega) (by rw [List.length_append];omega) (by omega) (by rw [List.length_append];omega)
       ·simp
    ·simp
  ·rw [if_neg h1];simp
theorem body_le (b:List Int) (hb:b.length ≤ 1000000) (size:Int) (hs:0 ≤ size) (coded:Bool):(bodyS b size coded).2.1 ≤ (b.length:Int)∧(-1 ≤ (bodyS b size coded).2.1)∧(bodyS b size coded).1.length ≤ b.length∧(0 ≤ (bodyS b size coded).2.1 → (bodyS b size coded).2.2=0):=by
 unfold bodyS
 cases coded
 ·rw [if_neg (show ¬ (false=true) by simp)]
  by_cases h:(b.length:Int) < size
  ·rw [if_pos h];exact ⟨by simp only [];omega,by decide,by simp,fun _=>rfl⟩
  ·rw [if_neg h];exact ⟨by simp only [];omega,by simp only [];omega,by simp only [List.length_take];omega,fun _=>rfl⟩
 ·rw [if_pos rfl]
  have hle:=dec_le b hb (b.length + 1) 0 4096 [] (by omega)
  have hsz:=decS_size b hb (b.length + 1) 0 4096 [] (by omega) (by simp) (by omega) (by simp)
  have hz:=dec_none' b (b.length + 1) 0 4096 []
  obtain ⟨r,hr⟩ : ∃ r,r=decS b (b.length + 1) 0 4096 []:=⟨_,rfl⟩
  rw [← hr] at hle hsz hz ⊢
  by_cases h1:r.2.2=2
  ·rw [if_pos h1];exact ⟨by simp only [];omega,by decide,by simp,fun h=>absurd h (by decide)⟩
  ·rw [if_neg h1]
   by_cases h2:r.2.2=0
   ·rw [if_pos h2]
    by_cases h3:r.2.1=0
    ·rw [if_pos h3];exact ⟨by simp only [];omega,by decide,by simp,fun _=>rfl⟩
    ·rw [if_neg h3]
     have:r.2.1 > 0:=by
      by_cases h4:r.2.1 > 0
      ·exact h4
      ·exact absurd (hz h4 h2).2 h3
     exact ⟨hle,by simp only [];omega,hsz,fun _=>rfl⟩
   ·rw [if_neg h2];exact ⟨by simp only [];omega,by decide,by simp,fun h=>absurd h (by decide)⟩
theorem body_f (b:List Int) (hb:b.length ≤ 1000000) (size:Int) (hs:0 ≤ size) (coded:Bool) (k:Nat) (hk:4000100 ≤ k):http_body.f k b size coded=some (bodyS b size coded):=by
 unfold http_body.f bodyS
 cases coded
 ·rw [if_neg (show ¬ (false=true) by simp),if_neg (show ¬ (false=true) by simp)]
  by_cases h:(b.length:Int) < size
  ·rw [if_pos h,if_pos h]
  ·unfold bytes_Clone.f
   rw [if_neg h,if_neg h,if_pos hs,if_pos (by omega),if_pos (by rw [List.length_take];omega),Option.bind_some]
 ·rw [if_pos rfl,if_pos rfl,Decode_f b 4096 hb (by decide) k (by omega),Option.bind_some,show mx 4096 0=4096 by decide]
  obtain ⟨r,hr⟩ : ∃ r,r=decS b (b.length + 1) 0 4096 []:=⟨_,rfl⟩
  rw [← hr]
  by_cases h1:r.2.2=2
  ·rw [if_pos h1,if_pos h1]
  ·rw [if_neg h1,if_neg h1]
   by_cases h2:r.2.2=0
   ·rw [if_pos h2,if_pos h2]
    by_cases h3:r.2.1=0
    ·rw [if_pos h3,if_pos h3]
    ·rw [if_neg h3,if_neg h3]
   ·rw [if_neg h2,if_neg h2]
def headEnd (t:List ByteArray × Int × Int) (g:List (S36) × Int) (fs:List (S36)) (st:Option ByteArray):List (S36) × Int × Int × Option ByteArray :=
 if g.2=0 then (if t.2.1=0 then ([],0,t.2.2,st) else (fs ++ g.1,t.2.1,0,st)) else ([],0,g.2,st)
theorem head_l (fst:Nat → ByteArray → Option Int) (l:List Int) (hl:l.length ≤ 4398046511104) (st:Option ByteArray) : ∀ (d p k:Nat) (fs:List (S36)),0 < p → p ≤ (bdS l).length → (bdS l).length < p + d → fs.length ≤ 40 → d + 6200 ≤ k →
 http_head.l fst k l fs (p:Int) st=some (headEnd (tailS (bdS l) (extS l) d p) (fieldsS (tailS (bdS l) (extS l) d p).1 fs.length) fs st):=by
 intro d
 induction d with
 | zero=>intro p k fs _ h1 h2;omega
 | succ d ih =>
  intro p k fs h0 hp hd hf hk
  obtain ⟨k,rfl⟩ : ∃ m,k=m + 1:=⟨k - 1,by omega⟩
  have hb:=bdS_length l
  have hsh:=cutS_shape ((bdS l).drop p) 2048
  have hdl:((bdS l).drop p).length=(bdS l).length - p:=List.length_drop ..
  have hcl:=cut_len ((bdS l).drop p) (by omega)
  rw [http_head.l,mn_take,if_pos (by omega),if_pos (by omega),Int.toNat_natCast,cut_f _ 2048 (by omega) k (by omega),Option.bind_some,tailS]
  obtain ⟨c,hc⟩ : ∃ c,c=cutSpec ((bdS l).drop p) 2048:=⟨_,rfl⟩
  rw [← hc] at hsh hcl ⊢
  by_cases h1:c.2.2=20
  ·rw [if_pos h1,if_pos h1];rfl
  ·rw [if_neg h1,if_neg h1]
   by_cases h2:c.2.1=0
   ·rw [if_pos h2,if_pos h2]
    unfold extS
    split <;> rfl
   ·have hz:c.2.1 > 0∧c.2.1 ≤ ((bdS l).length:Int) - p:=by rcases hsh with h|h <;> omega
    have hw:wrap64 ((p:Int) + c.2.1)=((p + c.2.1.toNat:Nat):Int):=by unfold wrap64;omega
    have hw2:(p:Int) + c.2.1=((p + c.2.1.toNat:Nat):Int):=by omega
    rw [if_neg h2,if_neg h2,if_neg (show ¬ (p:Int)=0 by omega),hw,hw2]
    by_cases h3:c.1.toList=[]
    ·rw [if_pos h3,if_pos h3]
     unfold headEnd
     rw [fieldsS,if_pos rfl,if_neg (show ¬ ((p + c.2.1.toNat:Nat):Int)=0 by omega),List.append_nil]
    ·rw [if_neg h3,if_neg h3]
     have hcn:c.1.data.toList.length ≤ 2048:=by rw [data_length];exact hcl
     simp only [fieldsS]
     cases hfo:fieldOk c.1.data.toList
     ·obtain ⟨x,y,hxy⟩:=field_no c.1.data.toList (by omega) hfo
      rw [mkS_self] at hxy
      rw [hxy,Option.bind_some,if_neg (show ¬ ((20:Int)=0) by decide),if_neg (by simp)]
      rfl
     ·have hxy:=field_ok c.1.data.toList (by omega) hfo
      rw [mkS_self] at hxy
      rw [hxy,Option.bind_some,if_pos rfl,if_pos rfl]
      by_cases h4:fs.length=40
      ·rw [if_pos (show (fs.length:Int)=40 by omega),if_pos h4];rfl
      ·rw [if_neg (show ¬ (fs.length:Int)=40 by omega),if_neg h4,if_pos (by omega)]
       have hlen:(fs ++ [fieldX c.1.data.toList]).length=fs.length + 1:=by simp
       have:=ih (p + c.2.1.toNat) k (fs ++ [fieldX c.1.data.toList]) (by omega) (by omega) (by omega) (by omega) (by omega)
       rw [hlen] at this
       refine this.trans ?_
       obtain ⟨t,ht⟩ : ∃ t,t=tailS (bdS l) (extS l) d (p + c.2.1.toNat):=⟨_,rfl⟩
       rw [← ht]
       obtain ⟨g,hg⟩ : ∃ g,g=fieldsS t.1 (fs.length + 1):=⟨_,rfl⟩
       rw [← hg]
       unfold headEnd
       by_cases h5:g.2=0
       ·rw [if_pos h5,if_pos h5,if_pos rfl]
        by_cases h6:t.2.1=0
        ·rw [if_pos h6,if_pos h6]
        ·rw [if_neg h6,if_neg h6,List.append_assoc];rfl
       ·rw [if_neg h5,if_neg h5,if_neg h5]
theorem head_nil (fst:Nat → ByteArray → Option Int) (l:List Int) (k:Nat) (hk:8300 ≤ k) (h:(linesS (bdS l) (extS l)).1=[]):http_head.f fst (k + 1) l=some ([],0,(linesS (bdS l) (extS l)).2.2,none):=by
 have hb:=bdS_length l
 unfold linesS at h ⊢
 rw [http_head.f,http_head.l,mn_take,if_pos (by omega),if_pos (by omega),show (0:Int).toNat=0 from rfl,List.drop_zero,cut_f _ 2048 (by omega) k (by omega),Option.bind_some]
 obtain ⟨c,hc⟩ : ∃ c,c=cutSpec (bdS l) 2048:=⟨_,rfl⟩
 rw [← hc] at h ⊢
 by_cases h1:c.2.2=20
 ·rw [if_pos h1,if_pos h1]
 ·rw [if_neg h1] at h ⊢
  rw [if_neg h1]
  by_cases h2:c.2.1=0
  ·rw [if_pos h2,if_pos h2]
   unfold extS
   split <;> rfl
  ·rw [if_neg h2] at h;cases h
theorem head_cons (fst:Nat → ByteArray → Option Int) (l:List Int) (hl:l.length ≤ 4398046511104) (k:Nat) (hk:8300 ≤ k) (s:ByteArray) (ss:List ByteArray) (h:(linesS (bdS l) (extS l)).1=s :: ss) :
 http_head.f fst (k + 1) l=(fst k s).bind fun code=>if code=0 then some (headEnd (ss,(linesS (bdS l) (extS l)).2) (fieldsS ss 0) [] (some s)) else some ([],0,code,some s):=by
 have hb:=bdS_length l
 have hsh:=cutS_shape (bdS l) 2048
 unfold linesS at h ⊢
 rw [http_head.f,http_head.l,mn_take,if_pos (by omega),if_pos (by omega),show (0:Int).toNat=0 from rfl,List.drop_zero,cut_f _ 2048 (by omega) k (by omega),Option.bind_some]
 obtain ⟨c,hc⟩ : ∃ c,c=cutSpec (bdS l) 2048:=⟨_,rfl⟩
 rw [← hc] at h hsh ⊢
 by_cases h1:c.2.2=20
 ·rw [if_pos h1] at h;cases h
 ·rw [if_neg h1] at h ⊢
  rw [if_neg h1]
  by_cases h2:c.2.1=0
  ·rw [if_pos h2] at h;cases h
  ·have hz:c.2.1 > 0∧c.2.1 ≤ ((bdS l).length:Int):=by rcases hsh with h|h <;> omega
   have hw:wrap64 ((0:Int) + c.2.1)=((c.2.1.toNat:Nat):Int):=by unfold wrap64;omega
   rw [if_neg h2] at h ⊢
   rw [if_neg h2,if_pos rfl,hw,head_l fst l hl (some c.1) ((bdS l).length + 1) c.2.1.toNat k [] (by omega) (by omega) (by omega) (by simp) (by omega)]
   simp only [List.cons.injEq] at h
   rw [← h.1,← h.2]
   rfl
theorem tail_sizes (l:List Int) (e:Int) (hl:l.length ≤ 2048) : ∀ (d p:Nat),∀ s ∈ (tailS l e d p).1,s.size ≤ 2048:=by
 intro d
 induction d with
 | zero=>intro p s hs;cases hs
 | succ d ih =>
  intro p s hs
  have hdl:(l.drop p).length=l.length - p:=List.length_drop ..
  have hc:=cut_len (l.drop p) (by omega)
  rw [tailS] at hs
  split at hs
  ·cases hs
  ·split at hs
   ·cases hs
   ·split at hs
    ·cases hs
    ·rcases List.mem_cons.1 hs with rfl|hs
     ·exact hc
     ·exact ih _ s hs
theorem lines_sizes (l:List Int) (e:Int) (hl:l.length ≤ 2048) : ∀ s ∈ (linesS l e).1,s.size ≤ 2048:=by
 intro s hs
 have hc:=cut_len l hl
 unfold linesS at hs
 split at hs
 ·cases hs
 ·split at hs
  ·cases hs
  ·rcases List.mem_cons.1 hs with rfl|hs
   ·exact hc
   ·exact tail_sizes l e hl _ _ s hs
theorem hosts_f (m t:ByteArray) (mi:Int) (fs:List (S36)) (b:List Int) (hf:FB fs) (k:Nat) (hk:1001 ≤ k):http_hosts.f k m t mi fs b=some (hostsOk (getS hostNm fs) mi):=by
 have hfl:=hf.1
 have hg:=Get_f fs hostNM hf (by decide) k (by omega)
 rw [getS_nm hostNM hostNm host_nm] at hg
 have hb:=get_bounds fs hostNm hf
 unfold http_hosts.f
 rw [show (⟨#[72,111,115,116]⟩:ByteArray)=hostNM from rfl,hg,Option.bind_some]
 cases hs:getS hostNm fs with
 | nil=>rfl
 | cons p r =>
  rw [hs] at hb
  have hp:=hb.2 p (List.mem_cons_self ..)
  have hr0:rdOf ByteArray.empty (p :: r) 0=p:=rfl
  rw [if_neg (by simp only [List.length_cons];omega),if_pos (by simp only [List.length_cons];omega),hr0,hostT_f p (by omega),Option.bind_some]
  cases r with
  | nil =>
   rw [hostsOk]
   cases (hostT p).2
   ·rw [if_neg (by simp)]
   ·rw [if_pos rfl];rfl
  | cons q s =>
   rw [hostsOk]
   have:(((p :: q :: s).length:Int) == 1)=false:=beq_eq_false_iff_ne.2 (by simp only [List.length_cons];omega)
   rw [this]
   split <;> rfl
theorem http_open_f (l:List Int) (hl:l.length ≤ 1000000) (k:Nat) (hk:1070000000 ≤ k) : ∃ o,http_open.f (k + 1) l=some o∧(o=openS l ∨ (o.2.2.2.2.2.2.2.2 ≠ 0∧openS l=openBad o.2.2.2.2.2.2.2.2)):=by
 have hb:=bdS_length l
 have hsz:=lines_sizes (bdS l) (extS l) hb.1
 have hn1:=head_nil reqFst l k (by omega)
 have hn2:=head_cons reqFst l (by omega) k (by omega)
 unfold openS http_open.f
 obtain ⟨L,hL⟩ : ∃ L,L=linesS (bdS l) (extS l):=⟨_,rfl⟩
 rw [← hL] at hsz hn1 hn2 ⊢
 obtain ⟨ss,n,c⟩:=L
 cases ss with
 | nil =>
  rw [hn1 rfl,Option.bind_some]
  exact ⟨_,rfl,Or.inl rfl⟩
 | cons s ss =>
  have hs:=hsz s (List.mem_cons_self ..)
  have hq : ∀ k,1000000 ≤ k → line_Request.f k s=some (reqSpec s.data.toList):=fun k hk=>by
   have:=Request_f s.data.toList (by rw [data_length];omega) k (by rw [data_length];omega)
   rw [mkS_self] at this
   exact this
  have hr:reqFst k s=some (reqSpec s.data.toList).2.2.2.2.2:=by unfold reqFst;rw [hq k (by omega),Option.bind_some]
  rw [hn2 s ss rfl,hr,Option.bind_some,openL]
  obtain ⟨q,hqq⟩ : ∃ q,q=reqSpec s.data.toList:=⟨_,rfl⟩
  have hFB:=fields_FB ss
  rw [← hqq] at hq ⊢
  obtain ⟨g,hg⟩ : ∃ g,g=fieldsS ss 0:=⟨_,rfl⟩
  rw [← hg] at hFB ⊢
  by_cases h1:q.2.2.2.2.2=0
  ·rw [if_pos h1,if_pos h1]
   unfold headEnd
   by_cases h2:g.2=0
   ·rw [if_pos h2,if_pos h2]
    simp only
    by_cases h3:n=0
    ·rw [if_pos h3,if_pos h3,Option.bind_some]
     exact ⟨_,rfl,Or.inl rfl⟩
    ·rw [if_neg h3,if_neg h3,Option.bind_some,if_neg h3,Option.bind_some,hq _ (by omega),Option.bind_some,List.nil_append]
     rw [hosts_f q.1 q.2.1 q.2.2.1 g.1 [] hFB _ (by omega),Option.bind_some]
     unfold openF
     by_cases h4:hostsOk (getS hostNm g.1) q.2.2.1=true
     ·rw [if_pos h4,if_pos h4,frameReq_f g.1 q.2.2.1 hFB _ (by omega),Option.bind_some]
      refine ⟨_,rfl,?_⟩
      by_cases h5:(reqLen g.1 q.2.2.1).2.2=0
      ·rw [if_pos h5]
       exact Or.inl (by rw [h5])
      ·rw [if_neg h5]
       exact Or.inr ⟨h5,rfl⟩
     ·rw [if_neg h4,if_neg h4]
      exact ⟨_,rfl,Or.inl rfl⟩
   ·rw [if_neg h2,if_neg h2,Option.bind_some]
    exact ⟨_,rfl,Or.inl rfl⟩
  ·rw [if_neg h1,if_neg h1,Option.bind_some]
   exact ⟨_,rfl,Or.inl rfl⟩
theorem http_Request_f (l:List Int) (hl:l.length ≤ 1000000) (k:Nat) (hk:1070000010 ≤ k):http_Request.f k l=some (reqS l):=by
 obtain ⟨k,rfl⟩ : ∃ m,k=m + 1:=⟨k - 1,by omega⟩
 obtain ⟨o,ho,hs⟩:=http_open_f l hl k (by omega)
 unfold http_Request.f reqS
 rw [ho,Option.bind_some]
 have hbad : ∀ x6 x7 x8 x9 a b c d e,http_Request.j0 (k + 1) l x6 x7 x8 x9 true a b c d e=some (⟨#[]⟩,⟨#[]⟩,0,[],[],0,x9):=by
  intros
  rw [http_Request.j0,if_pos rfl]
 rcases hs with hs|⟨h1,hs⟩
 ·rw [← hs]
  rcases open_cases l with ⟨c,hc⟩|hok
  ·rw [hc] at hs
   subst hs
   rw [if_pos (show (openBad c).2.2.2.2.2.1=0 from rfl),if_pos (show (openBad c).2.2.2.2.2.1=0 from rfl),hbad]
  ·rw [← hs] at hok
   have p1:=hok.pos
   have hne : ¬ o.2.2.2.2.2.1=0:=by omega
   have p2:=hok.le
   have hdl:(l.drop o.2.2.2.2.2.1.toNat).length=l.length - o.2.2.2.2.2.1.toNat:=List.length_drop ..
   have hbl:=body_le (l.drop o.2.2.2.2.2.1.toNat) (by omega) o.2.2.2.2.2.2.1 hok.size.1 o.2.2.2.2.2.2.2.1
   rw [if_neg hne,if_neg hne,hok.code,show ((0:Int) != 0)=false from rfl,http_Request.j0,if_neg (by simp),if_pos (by omega),if_pos (by omega),body_f _ (by omega) _ hok.size.1 _ k (by omega),Option.bind_some]
   by_cases h3:(bodyS (l.drop o.2.2.2.2.2.1.toNat) o.2.2.2.2.2.2.1 o.2.2.2.2.2.2.2.1).2.1 < 0
   ·rw [if_pos h3,if_pos h3]
   ·rw [if_neg h3,if_neg h3]
    have hw:wrap64 (o.2.2.2.2.2.1 + (bodyS (l.drop o.2.2.2.2.2.1.toNat) o.2.2.2.2.2.2.1 o.2.2.2.2.2.2.2.1).2.1)=o.2.2.2.2.2.1 + (bodyS (l.drop o.2.2.2.2.2.1.toNat) o.2.2.2.2.2.2.1 o.2.2.2.2.2.2.2.1).2.1:=by unfold wrap64;omega
    rw [hw]
 ·rw [hs,if_pos (show (openBad o.2.2.2.2.2.2.2.2).2.2.2.2.2.1=0 from rfl)]
  by_cases h2:o.2.2.2.2.2.1=0
  ·rw [if_pos h2,hbad];rfl
  ·rw [if_neg h2,bne_iff_ne.2 h1,hbad];rfl
def hostS (fs:List (S36)):ByteArray:=match getS hostNm fs with
 | []=>⟨#[]⟩
 | h :: _=>(hostT h).1
theorem http_Host_f (m t:ByteArray) (mi:Int) (fs:List (S36)) (b:List Int) (hf:FB fs) (k:Nat) (hk:1002 ≤ k):http_Host.f k m t mi fs b=some (hostS fs):=by
 have hfl:=hf.1
 obtain ⟨k,rfl⟩ : ∃ m,k=m + 1:=⟨k - 1,by omega⟩
 have hg:=Get_f fs hostNM hf (by decide) (k + 1) (by omega)
 rw [getS_nm hostNM hostNm host_nm] at hg
 have hb:=get_bounds fs hostNm hf
 unfold http_Host.f hostS
 rw [show (⟨#[72,111,115,116]⟩:ByteArray)=hostNM from rfl,hg,Option.bind_some,http_Host.l0]
 cases hs:getS hostNm fs with
 | nil=>rfl
 | cons p r =>
  rw [hs] at hb
  have hp:=hb.2 p (List.mem_cons_self ..)
  have hr0:rdOf ByteArray.empty (p :: r) 0=p:=rfl
  rw [if_pos (by simp only [List.length_cons];omega),if_pos (by omega),if_pos (by simp only [List.length_cons];omega),hr0,hostT_f p (by omega),Option.bind_some]
theorem kept_get (p:ByteArray) (hp:p ∈ keptNames) (gs:List (S36)) (h : ∀ f ∈ gs,keptN f.f0=false):getS p gs=[]:=by
 refine getS_none p _ fun f hf=>?_
 cases hs:sameN f.f0 p with
 | false=>rfl
 | true =>
  have h2:keptN f.f0=true:=by
   unfold keptN
   exact List.any_eq_true.2 ⟨p,hp,sameN_symm hs⟩
  rw [h f hf] at h2
  cases h2
theorem kept_host:hostNm ∈ keptNames:=List.mem_cons_self ..
theorem kept_len:lenNm ∈ keptNames:=List.mem_cons_of_mem _ (List.mem_cons_self ..)
theorem kept_te:teNm ∈ keptNames:=List.mem_cons_of_mem _ (List.mem_cons_of_mem _ (List.mem_cons_self ..))
def lenN:ByteArray:=⟨#[67,111,110,116,101,110,116,45,76,101,110,103,116,104]⟩
/-- The field that tells a body's length. -/
def lenF (n:Int):S36:=⟨lenN,⟨(Lib.itoa n).toArray⟩⟩
theorem length_f (n:Int) (h0 : -9223372036854775808 ≤ n) (h1:n ≤ 9223372036854775807):scrub_length.f n=some ((lenF n).f0,(lenF n).f1):=by
 unfold scrub_length.f
 rw [Text_f n h0 h1,Option.bind_some]
 rfl
theorem req_le (l:List Int) (hl:l.length ≤ 1000000):(reqS l).2.2.2.2.2.1 ≤ (l.length:Int)∧0 ≤ (reqS l).2.2.2.2.2.1∧((reqS l).2.2.2.2.2.1 ≠ 0 → (reqS l).2.2.2.2.2.2=0)∧(reqS l).2.2.2.1.length ≤ 40∧(reqS l).2.2.2.2.1.length ≤ l.length:=by
 rcases open_cases l with ⟨c,hc⟩|ho
 ·unfold reqS
  rw [hc]
  exact ⟨by show (0:Int) ≤ _;omega,Int.le_refl _,fun h=>absurd rfl h,Nat.zero_le _,Nat.zero_le _⟩
 ·unfold reqS
  obtain ⟨o,hoo⟩ : ∃ o,o=openS l:=⟨_,rfl⟩
  rw [← hoo] at ho ⊢
  have h1:=ho.pos
  have h2:=ho.le
  rw [if_neg (by omega)]
  have hdl:(l.drop o.2.2.2.2.2.1.toNat).length=l.length - o.2.2.2.2.2.1.toNat:=List.length_drop ..
  have hb:=body_le (l.drop o.2.2.2.2.2.1.toNat) (by omega) o.2.2.2.2.2.2.1 ho.size.1 o.2.2.2.2.2.2.2.1
  split
  ·exact ⟨by show (0:Int) ≤ _;omega,Int.le_refl _,fun h=>absurd rfl h,Nat.zero_le _,Nat.zero_le _⟩
  ·exact ⟨by show o.2.2.2.2.2.1 + _ ≤ _;omega,by show (0:Int) ≤ o.2.2.2.2.2.1 + _;omega,fun _=>rfl,ho.fields.1,by show (bodyS _ _ _).1.length ≤ _;omega⟩
end Go.Proofs.YtagffbblalldiaaGreatDoor.Pure
