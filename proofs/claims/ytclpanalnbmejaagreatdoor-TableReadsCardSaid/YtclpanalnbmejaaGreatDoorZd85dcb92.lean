/- Each function below answers as its Lean twin says; plain lemmas; a row where its theorem stands. No further condition. (Laid by this repo's pack.py out of its texts and of the print's words.) -/
import Derived.Test.YtclpanalnbmejaaGreatDoorZ8974a307
import Derived.Test.YtclpanalnbmejaaGreatDoorZ2f8289bc
import Derived.Test.YtclpanalnbmejaaGreatDoorZaa74bae2
namespace Go.Proofs.YtclpanalnbmejaaGreatDoor.P
open Go.RowKit Go.Proofs.YtclpanalnbmejaaGreatDoorW.PrintWords Go.Proofs.YtclpanalnbmejaaGreatDoorW.PrintLast Go.Proofs.YtclpanalnbmejaaGreatDoorW.PrintMore
attribute [local go_sem] max2_int min2_int max_two min_two max_three min_three max_four min_four
set_option linter.unusedVariables false
set_option linter.unusedSimpArgs false
def tollbarref09_Same.l0:Nat → List (S64) → List (S64) → Int → Option (Bool)
 | 0,_,_,_=>none
 | k + 1,x0,x1,x5=>if x5 < (x0.length:Int) then (if 0 ≤ x5 then (if x5 < (x1.length:Int) then (if ((rd_T64 x0 x5).f0).toList=((rd_T64 x1 x5).f0).toList then ((tollbarref01_SameTexts.f k ((rd_T64 x0 x5).f1) ((rd_T64 x1 x5).f1)).bind fun t367=>(if t367=true then ((tollbarref09_numbers.f ((rd_T64 x0 x5).f0) ((rd_T64 x0 x5).f1) ((rd_T64 x0 x5).f2) ((rd_T64 x0 x5).f3) ((rd_T64 x0 x5).f4) ((rd_T64 x0 x5).f5) ((rd_T64 x0 x5).f6) ((rd_T64 x0 x5).f7)).bind fun t369=>((tollbarref09_numbers.f ((rd_T64 x1 x5).f0) ((rd_T64 x1 x5).f1) ((rd_T64 x1 x5).f2) ((rd_T64 x1 x5).f3) ((rd_T64 x1 x5).f4) ((rd_T64 x1 x5).f5) ((rd_T64 x1 x5).f6) ((rd_T64 x1 x5).f7)).bind fun t373=>((tollbarref01_SameInts.f k t369 t373).bind fun t376=>(if t376=true then (tollbarref09_Same.l0 k x0 x1 (wrap64 (x5 + 1))) else (some false))))) else (some false))) else (some false)) else (none)) else (none)) else (some true)
def tollbarref09_Same.f (k:Nat) (l0:List (S64)) (l1:List (S64)):Option (Bool):=if (l0.length:Int)=(l1.length:Int) then (tollbarref09_Same.l0 k l0 l1 0) else (some false)
def tollbarref09_Same.T6:Bool × List (List Nat × List Nat):=(true,[([],[]),([],[]),([0,1],[0,1]),([2],[2]),([3],[3]),([],[]),([],[]),([5,6],[5,6]),([7],[7]),([8],[8]),([4,9],[4,9]),([10],[10]),([11],[11]),([11],[11]),([12,13,11],[11,12,13]),([14,11],[11,14]),([15,11],[11,15]),([11],[11]),([11],[11]),([17,18,11],[11,17,18]),([19,11],[11,19]),([20,11],[11,20]),([16,21,11,11],[11,16,21]),([22,11],[11,22]),([11,23],[11,23]),([24,22],[24]),([25],[25]),([25],[25]),([26,27,25],[25,26,27]),([28,25],[25,28]),([29,25,25],[25,29]),([25],[25]),([25],[25]),([31,32,25],[25,31,32]),([33,25],[25,33]),([34,30,25],[25,34]),([30,35,35,25],[25,30,35]),([36,25],[25,36]),([25,37],[25,37])])
def tollbarref09_Same.B6:List Nat:=[0,0,3,7,15,0,0,96,224,480,1023,2047,4095,4095,16383,32767,65535,4095,4095,397311,921599,1970175,4194303,8388607,16777215,33554431,67108863,67108863,268435455,536870911,1073741823,67108863,67108863,6509559807,15099494399,34359738367,68719476735,137438953471,274877906943]
theorem tollbarref09_Same.tab6:rtab .any (opsOf Tryz.f13 6)=tollbarref09_Same.T6:=by kernel_rfl
theorem tollbarref09_Same.bits6:waitsOk tollbarref09_Same.T6.2 tollbarref09_Same.B6=true:=by kernel_rfl
set_option maxHeartbeats 8000000 in
set_option maxRecDepth 100000 in
theorem tollbarref09_Same.calls (k:Nat) (A0:Option Addr) (c0:Nat) (l0:List (S64)) (A1:Option Addr) (c1:Nat) (l1:List (S64)) (r:Bool) (w:World) (hr0:Kd.C k64 w A0 l0.length l0) (hc0:l0.length ≤ c0) (hr1:Kd.C k64 w A1 l1.length l1) (hc1:l1.length ≤ c1) (h:tollbarref09_Same.f k l0 l1=some r) :
 Calls Tryz.prog 13 #[.slice A0 l0.length c0,.slice A1 l1.length c1] w fun e w' => e = .returned (.bool r)∧Below w.heap.size w w' := by
 have hu64:=Tryz.underlying64
 have HR0:=Aside0.mk hr0
 have HC0:=Aside0.mk hc0
 clear hr0 hc0
 have HR1:=Aside0.mk hr1
 have HC1:=Aside0.mk hc1
 clear hr1 hc1
 have HB:=Aside0.mk (Below.refl w.heap.size w)
 unfold tollbarref09_Same.f at h
 have H:=h
 clear h
 by_cases c3:(l0.length:Int)=(l1.length:Int);rotate_left
 ·rw [if_neg c3] at H
  have c3b0:=beq_eq_false_iff_ne.mpr c3
  have c3b1:=bne_iff_ne.mpr c3
  have c3b2:(l0.length == l1.length)=false:=by first|simpa using c3|(simp at c3 ⊢;omega)
  obtain rfl:=Option.some.inj H
  go_enter Tryz.func13,Tryz.ntmps13
  go_wp2
  go_ret
  exact ⟨zb6,zb0⟩
 rw [if_pos c3] at H
 have c3b0:=beq_iff_eq.mpr c3
 have c3b1:=bne_eq_false_iff_eq.mpr c3
 have c3b2:(l0.length == l1.length)=true:=by first|simpa using c3|(simp at c3 ⊢;omega)
 clear c3
 have H' := Aside0.mk H
 clear H
 go_enter Tryz.func13,Tryz.ntmps13
 go_wp2
 go_loopg [5] k (fun kq v5 w' => ∃ (x5_1:Int),v5 = .int .i64 x5_1∧Aside0 (tollbarref09_Same.l0 kq l0 l1 x5_1=some r)∧Aside0 (kq ≤ k)∧Aside0 (Below w.heap.size w w'))
 case atStart=>exact ⟨(0),zb5,H',⟨Nat.le_refl _⟩,⟨zb0⟩⟩
 case round =>
  clear H'
  try clear c1
  try clear p2
  try clear c3
  try clear c3b0
  try clear c3b1
  try clear c3b2
  obtain ⟨x5_1,rfl,HA,HK1,HB⟩:=hrel
  cases gk with
  | zero=>exact absurd HA.out (by simp [tollbarref09_Same.l0])
  | succ k1 =>
   have H:=HA.out
   clear HA
   simp only [tollbarref09_Same.l0] at H
   by_cases c4:x5_1 < (l0.length:Int)
   ·rw [if_pos c4] at H
    have c4b0:=decide_eq_true c4
    clear c4
    by_cases c5:0 ≤ x5_1
    ·rw [if_pos c5] at H
     have c5b0:=decide_eq_true c5
     clear c5
     by_cases c6:x5_1 < (l1.length:Int);rotate_left
     ·rw [if_neg c6] at H
      exact absurd H zb24
     rw [if_pos c6] at H
     have c6b0:=decide_eq_true c6
     clear c6
     by_cases c7:((rd_T64 l0 x5_1).f0).toList=((rd_T64 l1 x5_1).f0).toList;rotate_left
     ·rw [if_neg c7] at H
      have c7b0:=beq_eq_false_iff_ne.mpr c7
      have c7b1:=bne_iff_ne.mpr c7
      obtain rfl:=Option.some.inj H
      try go_wp2
      replace HB:=Aside0.mk (below_drew1 HB.out)
      have p48:0 ≤ (x5_1:Int):=of_decide_eq_true zb1
      have q48:x5_1 < (l0.length:Int):=of_decide_eq_true zb1
      obtain ⟨ad48,A48_1,c48_1,e48,hx48_0,hx48_1,hx48_2,hx48_3,hx48_4,hx48_5,hx48_6,hx48_7,hl48_1,hi48_1⟩:=at_T64 HR0.out x5_1 p48 q48
      have hw48_7:=hx48_7
      have hw48_6:=hx48_6
      have hw48_5:=hx48_5
      have hw48_4:=hx48_4
      have hw48_3:=hx48_3
      have hw48_2:=hx48_2
      have hw48_1:=hx48_1
      have hw48_0:=hx48_0
      cases e48
      replace hx48_0:=(HB.out.cell (World.block_lt_of_cell? w _ hx48_0)).trans hx48_0
      replace hx48_1:=(HB.out.cell (World.block_lt_of_cell? w _ hx48_1)).trans hx48_1
      replace hx48_2:=(HB.out.cell (World.block_lt_of_cell? w _ hx48_2)).trans hx48_2
      replace hx48_3:=(HB.out.cell (World.block_lt_of_cell? w _ hx48_3)).trans hx48_3
      replace hx48_4:=(HB.out.cell (World.block_lt_of_cell? w _ hx48_4)).trans hx48_4
      replace hx48_5:=(HB.out.cell (World.block_lt_of_cell? w _ hx48_5)).trans hx48_5
      replace hx48_6:=(HB.out.cell (World.block_lt_of_cell? w _ hx48_6)).trans hx48_6
      replace hx48_7:=(HB.out.cell (World.block_lt_of_cell? w _ hx48_7)).trans hx48_7
      have HR48_1:=Aside0.mk hi48_1
      have HC48_1:=Aside0.mk hl48_1
      clear hi48_1 hl48_1
      replace p48:=eq_true p48
      replace q48:=eq_true q48
      have p49:0 ≤ (x5_1:Int):=of_decide_eq_true zb1
      have q49:x5_1 < (l1.length:Int):=of_decide_eq_true zb1
      obtain ⟨ad49,A49_1,c49_1,e49,hx49_0,hx49_1,hx49_2,hx49_3,hx49_4,hx49_5,hx49_6,hx49_7,hl49_1,hi49_1⟩:=at_T64 HR1.out x5_1 p49 q49
      have hw49_7:=hx49_7
      have hw49_6:=hx49_6
      have hw49_5:=hx49_5
      have hw49_4:=hx49_4
      have hw49_3:=hx49_3
      have hw49_2:=hx49_2
      have hw49_1:=hx49_1
      have hw49_0:=hx49_0
      cases e49
      replace hx49_0:=(HB.out.cell (World.block_lt_of_cell? w _ hx49_0)).trans hx49_0
      replace hx49_1:=(HB.out.cell (World.block_lt_of_cell? w _ hx49_1)).trans hx49_1
      replace hx49_2:=(HB.out.cell (World.block_lt_of_cell? w _ hx49_2)).trans hx49_2
      replace hx49_3:=(HB.out.cell (World.block_lt_of_cell? w _ hx49_3)).trans hx49_3
      replace hx49_4:=(HB.out.cell (World.block_lt_of_cell? w _ hx49_4)).trans hx49_4
      replace hx49_5:=(HB.out.cell (World.block_lt_of_cell? w _ hx49_5)).trans hx49_5
      replace hx49_6:=(HB.out.cell (World.block_lt_of_cell? w _ hx49_6)).trans hx49_6
      replace hx49_7:=(HB.out.cell (World.block_lt_of_cell? w _ hx49_7)).trans hx49_7
      have HR49_1:=Aside0.mk hi49_1
      have HC49_1:=Aside0.mk hl49_1
      clear hi49_1 hl49_1
      replace p49:=eq_true p49
      replace q49:=eq_true q49
      refine start_ (n:=39) (S:=fun w' => w'.cell? (ad48.add ((x5_1).toNat * 8))=some (.string ((rd_T64 l0 x5_1).f0))∧w'.cell? ⟨(ad48.add ((x5_1).toNat * 8)).block,(ad48.add ((x5_1).toNat * 8)).off + 1,none⟩=some (.slice A48_1 ((rd_T64 l0 x5_1).f1).length c48_1)∧w'.cell? ⟨(ad48.add ((x5_1).toNat * 8)).block,(ad48.add ((x5_1).toNat * 8)).off + 2,none⟩=some (.int .i64 ((rd_T64 l0 x5_1).f2))∧w'.cell? ⟨(ad48.add ((x5_1).toNat * 8)).block,(ad48.add ((x5_1).toNat * 8)).off + 3,none⟩=some (.int .i64 ((rd_T64 l0 x5_1).f3))∧w'.cell? ⟨(ad48.add ((x5_1).toNat * 8)).block,(ad48.add ((x5_1).toNat * 8)).off + 4,none⟩=some (.int .i64 ((rd_T64 l0 x5_1).f4))∧w'.cell? ⟨(ad48.add ((x5_1).toNat * 8)).block,(ad48.add ((x5_1).toNat * 8)).off + 5,none⟩=some (.int .i64 ((rd_T64 l0 x5_1).f5))∧w'.cell? ⟨(ad48.add ((x5_1).toNat * 8)).block,(ad48.add ((x5_1).toNat * 8)).off + 6,none⟩=some (.int .i64 ((rd_T64 l0 x5_1).f6))∧w'.cell? ⟨(ad48.add ((x5_1).toNat * 8)).block,(ad48.add ((x5_1).toNat * 8)).off + 7,none⟩=some (.int .i64 ((rd_T64 l0 x5_1).f7))∧w'.cell? (ad49.add ((x5_1).toNat * 8))=some (.string ((rd_T64 l1 x5_1).f0))∧w'.cell? ⟨(ad49.add ((x5_1).toNat * 8)).block,(ad49.add ((x5_1).toNat * 8)).off + 1,none⟩=some (.slice A49_1 ((rd_T64 l1 x5_1).f1).length c49_1)∧w'.cell? ⟨(ad49.add ((x5_1).toNat * 8)).block,(ad49.add ((x5_1).toNat * 8)).off + 2,none⟩=some (.int .i64 ((rd_T64 l1 x5_1).f2))∧w'.cell? ⟨(ad49.add ((x5_1).toNat * 8)).block,(ad49.add ((x5_1).toNat * 8)).off + 3,none⟩=some (.int .i64 ((rd_T64 l1 x5_1).f3))∧w'.cell? ⟨(ad49.add ((x5_1).toNat * 8)).block,(ad49.add ((x5_1).toNat * 8)).off + 4,none⟩=some (.int .i64 ((rd_T64 l1 x5_1).f4))∧w'.cell? ⟨(ad49.add ((x5_1).toNat * 8)).block,(ad49.add ((x5_1).toNat * 8)).off + 5,none⟩=some (.int .i64 ((rd_T64 l1 x5_1).f5))∧w'.cell? ⟨(ad49.add ((x5_1).toNat * 8)).block,(ad49.add ((x5_1).toNat * 8)).off + 6,none⟩=some (.int .i64 ((rd_T64 l1 x5_1).f6))∧w'.cell? ⟨(ad49.add ((x5_1).toNat * 8)).block,(ad49.add ((x5_1).toNat * 8)).off + 7,none⟩=some (.int .i64 ((rd_T64 l1 x5_1).f7))) (ds:=[]) (zl 39 0) zb14 rfl rfl ⟨((HB.out.cell (World.block_lt_of_cell? w _ hw48_0)).trans hw48_0),((HB.out.cell (World.block_lt_of_cell? w _ hw48_1)).trans hw48_1),((HB.out.cell (World.block_lt_of_cell? w _ hw48_2)).trans hw48_2),((HB.out.cell (World.block_lt_of_cell? w _ hw48_3)).trans hw48_3),((HB.out.cell (World.block_lt_of_cell? w _ hw48_4)).trans hw48_4),((HB.out.cell (World.block_lt_of_cell? w _ hw48_5)).trans hw48_5),((HB.out.cell (World.block_lt_of_cell? w _ hw48_6)).trans hw48_6),((HB.out.cell (World.block_lt_of_cell? w _ hw48_7)).trans hw48_7),((HB.out.cell (World.block_lt_of_cell? w _ hw49_0)).trans hw49_0),((HB.out.cell (World.block_lt_of_cell? w _ hw49_1)).trans hw49_1),((HB.out.cell (World.block_lt_of_cell? w _ hw49_2)).trans hw49_2),((HB.out.cell (World.block_lt_of_cell? w _ hw49_3)).trans hw49_3),((HB.out.cell (World.block_lt_of_cell? w _ hw49_4)).trans hw49_4),((HB.out.cell (World.block_lt_of_cell? w _ hw49_5)).trans hw49_5),((HB.out.cell (World.block_lt_of_cell? w _ hw49_6)).trans hw49_6),((HB.out.cell (World.block_lt_of_cell? w _ hw49_7)).trans hw49_7)⟩ (fun hHeld=>?_);refine with_tabW tollbarref09_Same.tab6 tollbarref09_Same.bits6 (fun HT_ HW_=>?_)
      generalize wr.drew=w25 at HB HR48_1 HR49_1 hx48_0 hx48_1 hx48_2 hx48_3 hx48_4 hx48_5 hx48_6 hx48_7 hx49_0 hx49_1 hx49_2 hx49_3 hx49_4 hx49_5 hx49_6 hx49_7 hHeld ⊢
      refine zpu 0 (N:=some 17) (zl 39 1) HT_.out rfl rfl ?_
      refine zpu 1 (N:=some 18) (zl 39 3) HT_.out rfl rfl ?_
      refine zpu 2 (N:=some 19) (zl 39 7) HT_.out rfl rfl ?_
      refine zpu 3 (N:=some 20) (zl 39 15) HT_.out rfl rfl ?_
      refine zpu 5 (N:=some 22) (zl 39 47) HT_.out rfl rfl ?_
      refine zpu 6 (N:=some 23) (zl 39 111) HT_.out rfl rfl ?_
      refine zpu 7 (N:=some 24) (zl 39 239) HT_.out rfl rfl ?_
      refine zpu 8 (N:=some 25) (zl 39 495) HT_.out rfl rfl ?_
      refine take_ (i:=4) (N:=some 21) (v:=?_) (a' := ?_) (zl 39 511) rfl rfl (take_ofW HT_.out HW_.out zb14) (fun _ _ _ h=>h) (Or.inl ⟨zb45,?_⟩) hHeld ?_ ?_
      rotate_left
      ·rintro w' ⟨s0,s1,s2,s3,s4,s5,s6,s7,s8,s9,s10,s11,s12,s13,s14,s15⟩;go_simp;with_reducible rfl
      rotate_left
      ·simp only [Act.put,zqA,zqB,zqC,i64_w,i32_w];rfl
      refine take_ (i:=9) (N:=some 26) (v:=?_) (a' := ?_) (zl 39 1023) rfl rfl (take_ofW HT_.out HW_.out zb14) (fun _ _ _ h=>h) (Or.inl ⟨zb45,?_⟩) hHeld ?_ ?_
      rotate_left
      ·rintro w' ⟨s0,s1,s2,s3,s4,s5,s6,s7,s8,s9,s10,s11,s12,s13,s14,s15⟩;go_simp;with_reducible rfl
      rotate_left
      ·simp only [Act.put,zqA,zqB,zqC,i64_w,i32_w];rfl
      refine zpu 10 (N:=some 27) (zl 39 2047) HT_.out rfl rfl ?_
      refine zpu 11 (N:=some 28) (zl 39 4095) HT_.out rfl rfl ?_
      refine pure_ (i:=12) (N:=some 29) (v:=undef) (a' := ?_) (zl 39 8191) rfl rfl (any_of HT_.out zb14) (fun _ _ _ h=>h) (Or.inr ⟨zb45,rfl⟩) ?_ ?_
      rotate_left
      ·simp only [Act.put,zqA,zqB,zqC,i64_w,i32_w];rfl
      refine pure_ (i:=13) (N:=some 30) (v:=undef) (a' := ?_) (zl 39 16383) rfl rfl (any_of HT_.out zb14) (fun _ _ _ h=>h) (Or.inr ⟨zb45,rfl⟩) ?_ ?_
      rotate_left
      ·simp only [Act.put,zqA,zqB,zqC,i64_w,i32_w];rfl
      refine pure_ (i:=14) (N:=some 31) (v:=undef) (a' := ?_) (zl 39 32767) rfl rfl (any_of HT_.out zb14) (fun _ _ _ h=>h) (Or.inr ⟨zb45,rfl⟩) ?_ ?_
      rotate_left
      ·simp only [Act.put,zqA,zqB,zqC,i64_w,i32_w];rfl
      refine pure_ (i:=15) (N:=some 32) (v:=undef) (a' := ?_) (zl 39 65535) rfl rfl (any_of HT_.out zb14) (fun _ _ _ h=>h) (Or.inr ⟨zb45,rfl⟩) ?_ ?_
      rotate_left
      ·simp only [Act.put,zqA,zqB,zqC,i64_w,i32_w];rfl
      refine pure_ (i:=16) (N:=some 33) (v:=undef) (a' := ?_) (zl 39 131071) rfl rfl (any_of HT_.out zb14) (fun _ _ _ h=>h) (Or.inr ⟨zb45,rfl⟩) ?_ ?_
      rotate_left
      ·simp only [Act.put,zqA,zqB,zqC,i64_w,i32_w];rfl
      refine pure_ (i:=17) (N:=some 34) (v:=undef) (a' := ?_) (zl 39 262143) rfl rfl (any_of HT_.out zb14) (fun _ _ _ h=>h) (Or.inr ⟨zb45,rfl⟩) ?_ ?_
      rotate_left
      ·simp only [Act.put,zqA,zqB,zqC,i64_w,i32_w];rfl
      refine pure_ (i:=18) (N:=some 35) (v:=undef) (a' := ?_) (zl 39 524287) rfl rfl (any_of HT_.out zb14) (fun _ _ _ h=>h) (Or.inr ⟨zb45,rfl⟩) ?_ ?_
      rotate_left
      ·simp only [Act.put,zqA,zqB,zqC,i64_w,i32_w];rfl
      refine pure_ (i:=19) (N:=some 36) (v:=undef) (a' := ?_) (zl 39 1048575) rfl rfl (any_of HT_.out zb14) (fun _ _ _ h=>h) (Or.inr ⟨zb45,rfl⟩) ?_ ?_
      rotate_left
      ·simp only [Act.put,zqA,zqB,zqC,i64_w,i32_w];rfl
      refine pure_ (i:=20) (N:=some 37) (v:=undef) (a' := ?_) (zl 39 2097151) rfl rfl (any_of HT_.out zb14) (fun _ _ _ h=>h) (Or.inr ⟨zb45,rfl⟩) ?_ ?_
      rotate_left
      ·simp only [Act.put,zqA,zqB,zqC,i64_w,i32_w];rfl
      refine pure_ (i:=21) (N:=some 38) (v:=undef) (a' := ?_) (zl 39 4194303) rfl rfl (any_of HT_.out zb14) (fun _ _ _ h=>h) (Or.inr ⟨zb45,rfl⟩) ?_ ?_
      rotate_left
      ·simp only [Act.put,zqA,zqB,zqC,i64_w,i32_w];rfl
      refine pure_ (i:=22) (N:=some 39) (v:=undef) (a' := ?_) (zl 39 8388607) rfl rfl (any_of HT_.out zb14) (fun _ _ _ h=>h) (Or.inr ⟨zb45,rfl⟩) ?_ ?_
      rotate_left
      ·simp only [Act.put,zqA,zqB,zqC,i64_w,i32_w];rfl
      refine pure_ (i:=23) (N:=some 40) (v:=undef) (a' := ?_) (zl 39 16777215) rfl rfl (any_of HT_.out zb14) (fun _ _ _ h=>h) (Or.inr ⟨zb45,rfl⟩) ?_ ?_
      rotate_left
      ·simp only [Act.put,zqA,zqB,zqC,i64_w,i32_w];rfl
      refine zpu 24 (N:=some 41) (zl 39 33554431) HT_.out rfl rfl ?_
      refine zpu 25 (N:=some 42) (zl 39 67108863) HT_.out rfl rfl ?_
      refine pure_ (i:=26) (N:=some 43) (v:=undef) (a' := ?_) (zl 39 134217727) rfl rfl (any_of HT_.out zb14) (fun _ _ _ h=>h) (Or.inr ⟨zb45,rfl⟩) ?_ ?_
      rotate_left
      ·simp only [Act.put,zqA,zqB,zqC,i64_w,i32_w];rfl
      refine pure_ (i:=27) (N:=some 44) (v:=undef) (a' := ?_) (zl 39 268435455) rfl rfl (any_of HT_.out zb14) (fun _ _ _ h=>h) (Or.inr ⟨zb45,rfl⟩) ?_ ?_
      rotate_left
      ·simp only [Act.put,zqA,zqB,zqC,i64_w,i32_w];rfl
      refine pure_ (i:=28) (N:=some 45) (v:=undef) (a' := ?_) (zl 39 536870911) rfl rfl (any_of HT_.out zb14) (fun _ _ _ h=>h) (Or.inr ⟨zb45,rfl⟩) ?_ ?_
      rotate_left
      ·simp only [Act.put,zqA,zqB,zqC,i64_w,i32_w];rfl
      refine pure_ (i:=29) (N:=some 46) (v:=undef) (a' := ?_) (zl 39 1073741823) rfl rfl (any_of HT_.out zb14) (fun _ _ _ h=>h) (Or.inr ⟨zb45,rfl⟩) ?_ ?_
      rotate_left
      ·simp only [Act.put,zqA,zqB,zqC,i64_w,i32_w];rfl
      refine pure_ (i:=30) (N:=some 47) (v:=undef) (a' := ?_) (zl 39 2147483647) rfl rfl (any_of HT_.out zb14) (fun _ _ _ h=>h) (Or.inr ⟨zb45,rfl⟩) ?_ ?_
      rotate_left
      ·simp only [Act.put,zqA,zqB,zqC,i64_w,i32_w];rfl
      refine pure_ (i:=31) (N:=some 48) (v:=undef) (a' := ?_) (zl 39 4294967295) rfl rfl (any_of HT_.out zb14) (fun _ _ _ h=>h) (Or.inr ⟨zb45,rfl⟩) ?_ ?_
      rotate_left
      ·simp only [Act.put,zqA,zqB,zqC,i64_w,i32_w];rfl
      refine pure_ (i:=32) (N:=some 49) (v:=undef) (a' := ?_) (zl 39 8589934591) rfl rfl (any_of HT_.out zb14) (fun _ _ _ h=>h) (Or.inr ⟨zb45,rfl⟩) ?_ ?_
      rotate_left
      ·simp only [Act.put,zqA,zqB,zqC,i64_w,i32_w];rfl
      refine pure_ (i:=33) (N:=some 50) (v:=undef) (a' := ?_) (zl 39 17179869183) rfl rfl (any_of HT_.out zb14) (fun _ _ _ h=>h) (Or.inr ⟨zb45,rfl⟩) ?_ ?_
      rotate_left
      ·simp only [Act.put,zqA,zqB,zqC,i64_w,i32_w];rfl
      refine pure_ (i:=34) (N:=some 51) (v:=undef) (a' := ?_) (zl 39 34359738367) rfl rfl (any_of HT_.out zb14) (fun _ _ _ h=>h) (Or.inr ⟨zb45,rfl⟩) ?_ ?_
      rotate_left
      ·simp only [Act.put,zqA,zqB,zqC,i64_w,i32_w];rfl
      refine pure_ (i:=35) (N:=some 52) (v:=undef) (a' := ?_) (zl 39 68719476735) rfl rfl (any_of HT_.out zb14) (fun _ _ _ h=>h) (Or.inr ⟨zb45,rfl⟩) ?_ ?_
      rotate_left
      ·simp only [Act.put,zqA,zqB,zqC,i64_w,i32_w];rfl
      refine pure_ (i:=36) (N:=some 53) (v:=undef) (a' := ?_) (zl 39 137438953471) rfl rfl (any_of HT_.out zb14) (fun _ _ _ h=>h) (Or.inr ⟨zb45,rfl⟩) ?_ ?_
      rotate_left
      ·simp only [Act.put,zqA,zqB,zqC,i64_w,i32_w];rfl
      refine pure_ (i:=37) (N:=some 54) (v:=undef) (a' := ?_) (zl 39 274877906943) rfl rfl (any_of HT_.out zb14) (fun _ _ _ h=>h) (Or.inr ⟨zb45,rfl⟩) ?_ ?_
      rotate_left
      ·simp only [Act.put,zqA,zqB,zqC,i64_w,i32_w];rfl
      refine zpu 38 (N:=some 55) (zl 39 549755813887) HT_.out rfl rfl ?_
      refine done_ (done_of HT_.out zb14) ?_
      try go_wp2
      go_ret
      exact ⟨zb6,zb0⟩
     rw [if_pos c7] at H
     have c7b0:=beq_iff_eq.mpr c7
     have c7b1:=bne_eq_false_iff_eq.mpr c7
     clear c7
     replace H:=Option.bind_eq_some_iff.mp H
     obtain ⟨t62,A80,H⟩:=H
     try dsimp only at H
     have A8:=Aside0.mk A80
     clear A80
     by_cases c9:t62=true;rotate_left
     ·replace c9:=Bool.eq_false_iff.mpr c9
      subst c9
      rw [if_neg (show ¬ (false=true) by decide)] at H
      obtain rfl:=Option.some.inj H
      try go_wp2
      replace HB:=Aside0.mk (below_drew1 HB.out)
      have p48:0 ≤ (x5_1:Int):=of_decide_eq_true zb1
      have q48:x5_1 < (l0.length:Int):=of_decide_eq_true zb1
      obtain ⟨ad48,A48_1,c48_1,e48,hx48_0,hx48_1,hx48_2,hx48_3,hx48_4,hx48_5,hx48_6,hx48_7,hl48_1,hi48_1⟩:=at_T64 HR0.out x5_1 p48 q48
      have hw48_7:=hx48_7
      have hw48_6:=hx48_6
      have hw48_5:=hx48_5
      have hw48_4:=hx48_4
      have hw48_3:=hx48_3
      have hw48_2:=hx48_2
      have hw48_1:=hx48_1
      have hw48_0:=hx48_0
      cases e48
      replace hx48_0:=(HB.out.cell (World.block_lt_of_cell? w _ hx48_0)).trans hx48_0
      replace hx48_1:=(HB.out.cell (World.block_lt_of_cell? w _ hx48_1)).trans hx48_1
      replace hx48_2:=(HB.out.cell (World.block_lt_of_cell? w _ hx48_2)).trans hx48_2
      replace hx48_3:=(HB.out.cell (World.block_lt_of_cell? w _ hx48_3)).trans hx48_3
      replace hx48_4:=(HB.out.cell (World.block_lt_of_cell? w _ hx48_4)).trans hx48_4
      replace hx48_5:=(HB.out.cell (World.block_lt_of_cell? w _ hx48_5)).trans hx48_5
      replace hx48_6:=(HB.out.cell (World.block_lt_of_cell? w _ hx48_6)).trans hx48_6
      replace hx48_7:=(HB.out.cell (World.block_lt_of_cell? w _ hx48_7)).trans hx48_7
      have HR48_1:=Aside0.mk hi48_1
      have HC48_1:=Aside0.mk hl48_1
      clear hi48_1 hl48_1
      replace p48:=eq_true p48
      replace q48:=eq_true q48
      have p49:0 ≤ (x5_1:Int):=of_decide_eq_true zb1
      have q49:x5_1 < (l1.length:Int):=of_decide_eq_true zb1
      obtain ⟨ad49,A49_1,c49_1,e49,hx49_0,hx49_1,hx49_2,hx49_3,hx49_4,hx49_5,hx49_6,hx49_7,hl49_1,hi49_1⟩:=at_T64 HR1.out x5_1 p49 q49
      have hw49_7:=hx49_7
      have hw49_6:=hx49_6
      have hw49_5:=hx49_5
      have hw49_4:=hx49_4
      have hw49_3:=hx49_3
      have hw49_2:=hx49_2
      have hw49_1:=hx49_1
      have hw49_0:=hx49_0
      cases e49
      replace hx49_0:=(HB.out.cell (World.block_lt_of_cell? w _ hx49_0)).trans hx49_0
      replace hx49_1:=(HB.out.cell (World.block_lt_of_cell? w _ hx49_1)).trans hx49_1
      replace hx49_2:=(HB.out.cell (World.block_lt_of_cell? w _ hx49_2)).trans hx49_2
      replace hx49_3:=(HB.out.cell (World.block_lt_of_cell? w _ hx49_3)).trans hx49_3
      replace hx49_4:=(HB.out.cell (World.block_lt_of_cell? w _ hx49_4)).trans hx49_4
      replace hx49_5:=(HB.out.cell (World.block_lt_of_cell? w _ hx49_5)).trans hx49_5
      replace hx49_6:=(HB.out.cell (World.block_lt_of_cell? w _ hx49_6)).trans hx49_6
      replace hx49_7:=(HB.out.cell (World.block_lt_of_cell? w _ hx49_7)).trans hx49_7
      have HR49_1:=Aside0.mk hi49_1
      have HC49_1:=Aside0.mk hl49_1
      clear hi49_1 hl49_1
      replace p49:=eq_true p49
      replace q49:=eq_true q49
      have p50:0 ≤ (x5_1:Int):=of_decide_eq_true zb1
      have q50:x5_1 < (l0.length:Int):=of_decide_eq_true zb1
      obtain ⟨ad50,A50_1,c50_1,e50,hx50_0,hx50_1,hx50_2,hx50_3,hx50_4,hx50_5,hx50_6,hx50_7,hl50_1,hi50_1⟩:=at_T64 HR0.out x5_1 p50 q50
      have hw50_7:=hx50_7
      have hw50_6:=hx50_6
      have hw50_5:=hx50_5
      have hw50_4:=hx50_4
      have hw50_3:=hx50_3
      have hw50_2:=hx50_2
      have hw50_1:=hx50_1
      have hw50_0:=hx50_0
      obtain rfl:ad48=ad50:=(by injection e50)
      replace hx50_0:=(HB.out.cell (World.block_lt_of_cell? w _ hx50_0)).trans hx50_0
      replace hx50_1:=(HB.out.cell (World.block_lt_of_cell? w _ hx50_1)).trans hx50_1
      replace hx50_2:=(HB.out.cell (World.block_lt_of_cell? w _ hx50_2)).trans hx50_2
      replace hx50_3:=(HB.out.cell (World.block_lt_of_cell? w _ hx50_3)).trans hx50_3
      replace hx50_4:=(HB.out.cell (World.block_lt_of_cell? w _ hx50_4)).trans hx50_4
      replace hx50_5:=(HB.out.cell (World.block_lt_of_cell? w _ hx50_5)).trans hx50_5
      replace hx50_6:=(HB.out.cell (World.block_lt_of_cell? w _ hx50_6)).trans hx50_6
      replace hx50_7:=(HB.out.cell (World.block_lt_of_cell? w _ hx50_7)).trans hx50_7
      have HR50_1:=Aside0.mk hi50_1
      have HC50_1:=Aside0.mk hl50_1
      clear hi50_1 hl50_1
      replace p50:=eq_true p50
      replace q50:=eq_true q50
      have ea_:=Option.some.inj (hx48_1.symm.trans hx50_1)
      injection ea_ with ea_ en_ ec_
      subst ea_
      subst ec_
      clear en_
      have p51:0 ≤ (x5_1:Int):=of_decide_eq_true zb1
      have q51:x5_1 < (l1.length:Int):=of_decide_eq_true zb1
      obtain ⟨ad51,A51_1,c51_1,e51,hx51_0,hx51_1,hx51_2,hx51_3,hx51_4,hx51_5,hx51_6,hx51_7,hl51_1,hi51_1⟩:=at_T64 HR1.out x5_1 p51 q51
      have hw51_7:=hx51_7
      have hw51_6:=hx51_6
      have hw51_5:=hx51_5
      have hw51_4:=hx51_4
      have hw51_3:=hx51_3
      have hw51_2:=hx51_2
      have hw51_1:=hx51_1
      have hw51_0:=hx51_0
      obtain rfl:ad49=ad51:=(by injection e51)
      replace hx51_0:=(HB.out.cell (World.block_lt_of_cell? w _ hx51_0)).trans hx51_0
      replace hx51_1:=(HB.out.cell (World.block_lt_of_cell? w _ hx51_1)).trans hx51_1
      replace hx51_2:=(HB.out.cell (World.block_lt_of_cell? w _ hx51_2)).trans hx51_2
      replace hx51_3:=(HB.out.cell (World.block_lt_of_cell? w _ hx51_3)).trans hx51_3
      replace hx51_4:=(HB.out.cell (World.block_lt_of_cell? w _ hx51_4)).trans hx51_4
      replace hx51_5:=(HB.out.cell (World.block_lt_of_cell? w _ hx51_5)).trans hx51_5
      replace hx51_6:=(HB.out.cell (World.block_lt_of_cell? w _ hx51_6)).trans hx51_6
      replace hx51_7:=(HB.out.cell (World.block_lt_of_cell? w _ hx51_7)).trans hx51_7
      have HR51_1:=Aside0.mk hi51_1
      have HC51_1:=Aside0.mk hl51_1
      clear hi51_1 hl51_1
      replace p51:=eq_true p51
      replace q51:=eq_true q51
      have ea_:=Option.some.inj (hx49_1.symm.trans hx51_1)
      injection ea_ with ea_ en_ ec_
      subst ea_
      subst ec_
      clear en_
      refine start_ (n:=39) (S:=fun w' => w'.cell? (ad48.add ((x5_1).toNat * 8))=some (.string ((rd_T64 l0 x5_1).f0))∧w'.cell? ⟨(ad48.add ((x5_1).toNat * 8)).block,(ad48.add ((x5_1).toNat * 8)).off + 1,none⟩=some (.slice A48_1 ((rd_T64 l0 x5_1).f1).length c48_1)∧w'.cell? ⟨(ad48.add ((x5_1).toNat * 8)).block,(ad48.add ((x5_1).toNat * 8)).off + 2,none⟩=some (.int .i64 ((rd_T64 l0 x5_1).f2))∧w'.cell? ⟨(ad48.add ((x5_1).toNat * 8)).block,(ad48.add ((x5_1).toNat * 8)).off + 3,none⟩=some (.int .i64 ((rd_T64 l0 x5_1).f3))∧w'.cell? ⟨(ad48.add ((x5_1).toNat * 8)).block,(ad48.add ((x5_1).toNat * 8)).off + 4,none⟩=some (.int .i64 ((rd_T64 l0 x5_1).f4))∧w'.cell? ⟨(ad48.add ((x5_1).toNat * 8)).block,(ad48.add ((x5_1).toNat * 8)).off + 5,none⟩=some (.int .i64 ((rd_T64 l0 x5_1).f5))∧w'.cell? ⟨(ad48.add ((x5_1).toNat * 8)).block,(ad48.add ((x5_1).toNat * 8)).off + 6,none⟩=some (.int .i64 ((rd_T64 l0 x5_1).f6))∧w'.cell? ⟨(ad48.add ((x5_1).toNat * 8)).block,(ad48.add ((x5_1).toNat * 8)).off + 7,none⟩=some (.int .i64 ((rd_T64 l0 x5_1).f7))∧w'.cell? (ad49.add ((x5_1).toNat * 8))=some (.string ((rd_T64 l1 x5_1).f0))∧w'.cell? ⟨(ad49.add ((x5_1).toNat * 8)).block,(ad49.add ((x5_1).toNat * 8)).off + 1,none⟩=some (.slice A49_1 ((rd_T64 l1 x5_1).f1).length c49_1)∧w'.cell? ⟨(ad49.add ((x5_1).toNat * 8)).block,(ad49.add ((x5_1).toNat * 8)).off + 2,none⟩=some (.int .i64 ((rd_T64 l1 x5_1).f2))∧w'.cell? ⟨(ad49.add ((x5_1).toNat * 8)).block,(ad49.add ((x5_1).toNat * 8)).off + 3,none⟩=some (.int .i64 ((rd_T64 l1 x5_1).f3))∧w'.cell? ⟨(ad49.add ((x5_1).toNat * 8)).block,(ad49.add ((x5_1).toNat * 8)).off + 4,none⟩=some (.int .i64 ((rd_T64 l1 x5_1).f4))∧w'.cell? ⟨(ad49.add ((x5_1).toNat * 8)).block,(ad49.add ((x5_1).toNat * 8)).off + 5,none⟩=some (.int .i64 ((rd_T64 l1 x5_1).f5))∧w'.cell? ⟨(ad49.add ((x5_1).toNat * 8)).block,(ad49.add ((x5_1).toNat * 8)).off + 6,none⟩=some (.int .i64 ((rd_T64 l1 x5_1).f6))∧w'.cell? ⟨(ad49.add ((x5_1).toNat * 8)).block,(ad49.add ((x5_1).toNat * 8)).off + 7,none⟩=some (.int .i64 ((rd_T64 l1 x5_1).f7))∧w'.cell? (ad48.add ((x5_1).toNat * 8))=some (.string ((rd_T64 l0 x5_1).f0))∧w'.cell? ⟨(ad48.add ((x5_1).toNat * 8)).block,(ad48.add ((x5_1).toNat * 8)).off + 1,none⟩=some (.slice A48_1 ((rd_T64 l0 x5_1).f1).length c48_1)∧w'.cell? ⟨(ad48.add ((x5_1).toNat * 8)).block,(ad48.add ((x5_1).toNat * 8)).off + 2,none⟩=some (.int .i64 ((rd_T64 l0 x5_1).f2))∧w'.cell? ⟨(ad48.add ((x5_1).toNat * 8)).block,(ad48.add ((x5_1).toNat * 8)).off + 3,none⟩=some (.int .i64 ((rd_T64 l0 x5_1).f3))∧w'.cell? ⟨(ad48.add ((x5_1).toNat * 8)).block,(ad48.add ((x5_1).toNat * 8)).off + 4,none⟩=some (.int .i64 ((rd_T64 l0 x5_1).f4))∧w'.cell? ⟨(ad48.add ((x5_1).toNat * 8)).block,(ad48.add ((x5_1).toNat * 8)).off + 5,none⟩=some (.int .i64 ((rd_T64 l0 x5_1).f5))∧w'.cell? ⟨(ad48.add ((x5_1).toNat * 8)).block,(ad48.add ((x5_1).toNat * 8)).off + 6,none⟩=some (.int .i64 ((rd_T64 l0 x5_1).f6))∧w'.cell? ⟨(ad48.add ((x5_1).toNat * 8)).block,(ad48.add ((x5_1).toNat * 8)).off + 7,none⟩=some (.int .i64 ((rd_T64 l0 x5_1).f7))∧w'.cell? (ad49.add ((x5_1).toNat * 8))=some (.string ((rd_T64 l1 x5_1).f0))∧w'.cell? ⟨(ad49.add ((x5_1).toNat * 8)).block,(ad49.add ((x5_1).toNat * 8)).off + 1,none⟩=some (.slice A49_1 ((rd_T64 l1 x5_1).f1).length c49_1)∧w'.cell? ⟨(ad49.add ((x5_1).toNat * 8)).block,(ad49.add ((x5_1).toNat * 8)).off + 2,none⟩=some (.int .i64 ((rd_T64 l1 x5_1).f2))∧w'.cell? ⟨(ad49.add ((x5_1).toNat * 8)).block,(ad49.add ((x5_1).toNat * 8)).off + 3,none⟩=some (.int .i64 ((rd_T64 l1 x5_1).f3))∧w'.cell? ⟨(ad49.add ((x5_1).toNat * 8)).block,(ad49.add ((x5_1).toNat * 8)).off + 4,none⟩=some (.int .i64 ((rd_T64 l1 x5_1).f4))∧w'.cell? ⟨(ad49.add ((x5_1).toNat * 8)).block,(ad49.add ((x5_1).toNat * 8)).off + 5,none⟩=some (.int .i64 ((rd_T64 l1 x5_1).f5))∧w'.cell? ⟨(ad49.add ((x5_1).toNat * 8)).block,(ad49.add ((x5_1).toNat * 8)).off + 6,none⟩=some (.int .i64 ((rd_T64 l1 x5_1).f6))∧w'.cell? ⟨(ad49.add ((x5_1).toNat * 8)).block,(ad49.add ((x5_1).toNat * 8)).off + 7,none⟩=some (.int .i64 ((rd_T64 l1 x5_1).f7))) (ds:=[]) (zl 39 0) zb14 rfl rfl ⟨((HB.out.cell (World.block_lt_of_cell? w _ hw48_0)).trans hw48_0),((HB.out.cell (World.block_lt_of_cell? w _ hw48_1)).trans hw48_1),((HB.out.cell (World.block_lt_of_cell? w _ hw48_2)).trans hw48_2),((HB.out.cell (World.block_lt_of_cell? w _ hw48_3)).trans hw48_3),((HB.out.cell (World.block_lt_of_cell? w _ hw48_4)).trans hw48_4),((HB.out.cell (World.block_lt_of_cell? w _ hw48_5)).trans hw48_5),((HB.out.cell (World.block_lt_of_cell? w _ hw48_6)).trans hw48_6),((HB.out.cell (World.block_lt_of_cell? w _ hw48_7)).trans hw48_7),((HB.out.cell (World.block_lt_of_cell? w _ hw49_0)).trans hw49_0),((HB.out.cell (World.block_lt_of_cell? w _ hw49_1)).trans hw49_1),((HB.out.cell (World.block_lt_of_cell? w _ hw49_2)).trans hw49_2),((HB.out.cell (World.block_lt_of_cell? w _ hw49_3)).trans hw49_3),((HB.out.cell (World.block_lt_of_cell? w _ hw49_4)).trans hw49_4),((HB.out.cell (World.block_lt_of_cell? w _ hw49_5)).trans hw49_5),((HB.out.cell (World.block_lt_of_cell? w _ hw49_6)).trans hw49_6),((HB.out.cell (World.block_lt_of_cell? w _ hw49_7)).trans hw49_7),((HB.out.cell (World.block_lt_of_cell? w _ hw50_0)).trans hw50_0),((HB.out.cell (World.block_lt_of_cell? w _ hw50_1)).trans hw50_1),((HB.out.cell (World.block_lt_of_cell? w _ hw50_2)).trans hw50_2),((HB.out.cell (World.block_lt_of_cell? w _ hw50_3)).trans hw50_3),((HB.out.cell (World.block_lt_of_cell? w _ hw50_4)).trans hw50_4),((HB.out.cell (World.block_lt_of_cell? w _ hw50_5)).trans hw50_5),((HB.out.cell (World.block_lt_of_cell? w _ hw50_6)).trans hw50_6),((HB.out.cell (World.block_lt_of_cell? w _ hw50_7)).trans hw50_7),((HB.out.cell (World.block_lt_of_cell? w _ hw51_0)).trans hw51_0),((HB.out.cell (World.block_lt_of_cell? w _ hw51_1)).trans hw51_1),((HB.out.cell (World.block_lt_of_cell? w _ hw51_2)).trans hw51_2),((HB.out.cell (World.block_lt_of_cell? w _ hw51_3)).trans hw51_3),((HB.out.cell (World.block_lt_of_cell? w _ hw51_4)).trans hw51_4),((HB.out.cell (World.block_lt_of_cell? w _ hw51_5)).trans hw51_5),((HB.out.cell (World.block_lt_of_cell? w _ hw51_6)).trans hw51_6),((HB.out.cell (World.block_lt_of_cell? w _ hw51_7)).trans hw51_7)⟩ (fun hHeld=>?_);refine with_tabW tollbarref09_Same.tab6 tollbarref09_Same.bits6 (fun HT_ HW_=>?_)
      generalize wr.drew=w24 at HB HR48_1 HR49_1 HR50_1 HR51_1 hx48_0 hx48_1 hx48_2 hx48_3 hx48_4 hx48_5 hx48_6 hx48_7 hx49_0 hx49_1 hx49_2 hx49_3 hx49_4 hx49_5 hx49_6 hx49_7 hx50_0 hx50_1 hx50_2 hx50_3 hx50_4 hx50_5 hx50_6 hx50_7 hx51_0 hx51_1 hx51_2 hx51_3 hx51_4 hx51_5 hx51_6 hx51_7 hHeld ⊢
      refine zpu 0 (N:=some 17) (zl 39 1) HT_.out rfl rfl ?_
      refine zpu 1 (N:=some 18) (zl 39 3) HT_.out rfl rfl ?_
      refine zpu 2 (N:=some 19) (zl 39 7) HT_.out rfl rfl ?_
      refine zpu 3 (N:=some 20) (zl 39 15) HT_.out rfl rfl ?_
      refine zpu 5 (N:=some 22) (zl 39 47) HT_.out rfl rfl ?_
      refine zpu 6 (N:=some 23) (zl 39 111) HT_.out rfl rfl ?_
      refine zpu 7 (N:=some 24) (zl 39 239) HT_.out rfl rfl ?_
      refine zpu 8 (N:=some 25) (zl 39 495) HT_.out rfl rfl ?_
      refine take_ (i:=4) (N:=some 21) (v:=?_) (a' := ?_) (zl 39 511) rfl rfl (take_ofW HT_.out HW_.out zb14) (fun _ _ _ h=>h) (Or.inl ⟨zb45,?_⟩) hHeld ?_ ?_
      rotate_left
      ·rintro w' ⟨s0,s1,s2,s3,s4,s5,s6,s7,s8,s9,s10,s11,s12,s13,s14,s15,s16,s17,s18,s19,s20,s21,s22,s23,s24,s25,s26,s27,s28,s29,s30,s31⟩;go_simp;with_reducible rfl
      rotate_left
      ·simp only [Act.put,zqA,zqB,zqC,i64_w,i32_w];rfl
      refine take_ (i:=9) (N:=some 26) (v:=?_) (a' := ?_) (zl 39 1023) rfl rfl (take_ofW HT_.out HW_.out zb14) (fun _ _ _ h=>h) (Or.inl ⟨zb45,?_⟩) hHeld ?_ ?_
      rotate_left
      ·rintro w' ⟨s0,s1,s2,s3,s4,s5,s6,s7,s8,s9,s10,s11,s12,s13,s14,s15,s16,s17,s18,s19,s20,s21,s22,s23,s24,s25,s26,s27,s28,s29,s30,s31⟩;go_simp;with_reducible rfl
      rotate_left
      ·simp only [Act.put,zqA,zqB,zqC,i64_w,i32_w];rfl
      refine zpu 10 (N:=some 27) (zl 39 2047) HT_.out rfl rfl ?_
      refine zpu 11 (N:=some 28) (zl 39 4095) HT_.out rfl rfl ?_
      refine zpu 12 (N:=some 29) (zl 39 8191) HT_.out rfl rfl ?_
      refine zpu 13 (N:=some 30) (zl 39 16383) HT_.out rfl rfl ?_
      refine zpu 14 (N:=some 31) (zl 39 32767) HT_.out rfl rfl ?_
      refine zpu 15 (N:=some 32) (zl 39 65535) HT_.out rfl rfl ?_
      refine zpu 17 (N:=some 34) (zl 39 196607) HT_.out rfl rfl ?_
      refine zpu 18 (N:=some 35) (zl 39 458751) HT_.out rfl rfl ?_
      refine zpu 19 (N:=some 36) (zl 39 983039) HT_.out rfl rfl ?_
      refine zpu 20 (N:=some 37) (zl 39 2031615) HT_.out rfl rfl ?_
      refine take_ (i:=16) (N:=some 33) (v:=?_) (a' := ?_) (zl 39 2097151) rfl rfl (take_ofW HT_.out HW_.out zb14) (fun _ _ _ h=>h) (Or.inl ⟨zb45,?_⟩) hHeld ?_ ?_
      rotate_left
      ·rintro w' ⟨s0,s1,s2,s3,s4,s5,s6,s7,s8,s9,s10,s11,s12,s13,s14,s15,s16,s17,s18,s19,s20,s21,s22,s23,s24,s25,s26,s27,s28,s29,s30,s31⟩;go_simp;with_reducible rfl
      rotate_left
      ·simp only [Act.put,zqA,zqB,zqC,i64_w,i32_w];rfl
      refine take_ (i:=21) (N:=some 38) (v:=?_) (a' := ?_) (zl 39 4194303) rfl rfl (take_ofW HT_.out HW_.out zb14) (fun _ _ _ h=>h) (Or.inl ⟨zb45,?_⟩) hHeld ?_ ?_
      rotate_left
      ·rintro w' ⟨s0,s1,s2,s3,s4,s5,s6,s7,s8,s9,s10,s11,s12,s13,s14,s15,s16,s17,s18,s19,s20,s21,s22,s23,s24,s25,s26,s27,s28,s29,s30,s31⟩;go_simp;with_reducible rfl
      rotate_left
      ·simp only [Act.put,zqA,zqB,zqC,i64_w,i32_w];rfl
      refine one_ (i:=22) (N:=some 39) (zl 39 8388607) rfl rfl (one_of HT_.out zb14) zb22 (fun K hK=>?_)
      refine goes_ Tryz.func40 zb14 rfl #[.slice A48_1 ((rd_T64 l0 x5_1).f1).length c48_1,.slice A49_1 ((rd_T64 l1 x5_1).f1).length c49_1] zb45 rfl rfl zb2 ?_
      with_reducible refine (tollbarref01_SameTexts.calls k1 _ _ ((rd_T64 l0 x5_1).f1) _ _ ((rd_T64 l1 x5_1).f1) false _ ?side1 ?side2 ?side3 ?side4 A8.out).mono ?_
      (case side1=>exact zb52)
      (case side2=>exact HC50_1.out)
      (case side3=>exact zb53)
      (case side4=>exact HC51_1.out)
      rintro e w' ⟨rfl,⟨nd,rfl⟩⟩
      refine ⟨_,rfl,?_⟩
      refine hK.out _ _ ⟨((HB.out.cell (World.block_lt_of_cell? w _ hw48_0)).trans hw48_0),((HB.out.cell (World.block_lt_of_cell? w _ hw48_1)).trans hw48_1),((HB.out.cell (World.block_lt_of_cell? w _ hw48_2)).trans hw48_2),((HB.out.cell (World.block_lt_of_cell? w _ hw48_3)).trans hw48_3),((HB.out.cell (World.block_lt_of_cell? w _ hw48_4)).trans hw48_4),((HB.out.cell (World.block_lt_of_cell? w _ hw48_5)).trans hw48_5),((HB.out.cell (World.block_lt_of_cell? w _ hw48_6)).trans hw48_6),((HB.out.cell (World.block_lt_of_cell? w _ hw48_7)).trans hw48_7),((HB.out.cell (World.block_lt_of_cell? w _ hw49_0)).trans hw49_0),((HB.out.cell (World.block_lt_of_cell? w _ hw49_1)).trans hw49_1),((HB.out.cell (World.block_lt_of_cell? w _ hw49_2)).trans hw49_2),((HB.out.cell (World.block_lt_of_cell? w _ hw49_3)).trans hw49_3),((HB.out.cell (World.block_lt_of_cell? w _ hw49_4)).trans hw49_4),((HB.out.cell (World.block_lt_of_cell? w _ hw49_5)).trans hw49_5),((HB.out.cell (World.block_lt_of_cell? w _ hw49_6)).trans hw49_6),((HB.out.cell (World.block_lt_of_cell? w _ hw49_7)).trans hw49_7),((HB.out.cell (World.block_lt_of_cell? w _ hw50_0)).trans hw50_0),((HB.out.cell (World.block_lt_of_cell? w _ hw50_1)).trans hw50_1),((HB.out.cell (World.block_lt_of_cell? w _ hw50_2)).trans hw50_2),((HB.out.cell (World.block_lt_of_cell? w _ hw50_3)).trans hw50_3),((HB.out.cell (World.block_lt_of_cell? w _ hw50_4)).trans hw50_4),((HB.out.cell (World.block_lt_of_cell? w _ hw50_5)).trans hw50_5),((HB.out.cell (World.block_lt_of_cell? w _ hw50_6)).trans hw50_6),((HB.out.cell (World.block_lt_of_cell? w _ hw50_7)).trans hw50_7),((HB.out.cell (World.block_lt_of_cell? w _ hw51_0)).trans hw51_0),((HB.out.cell (World.block_lt_of_cell? w _ hw51_1)).trans hw51_1),((HB.out.cell (World.block_lt_of_cell? w _ hw51_2)).trans hw51_2),((HB.out.cell (World.block_lt_of_cell? w _ hw51_3)).trans hw51_3),((HB.out.cell (World.block_lt_of_cell? w _ hw51_4)).trans hw51_4),((HB.out.cell (World.block_lt_of_cell? w _ hw51_5)).trans hw51_5),((HB.out.cell (World.block_lt_of_cell? w _ hw51_6)).trans hw51_6),((HB.out.cell (World.block_lt_of_cell? w _ hw51_7)).trans hw51_7)⟩ (fun hHeld=>?_)
      clear hK K
      refine norm_ (a' := ?_) ?_ ?_
      rotate_left
      ·show Act.put _ (some 39) _=_
       simp only [Act.put,zqA,zqB,zqC,i64_w,i32_w]
       rfl
      refine zpu 23 (N:=some 40) (zl 39 16777215) HT_.out rfl rfl ?_
      refine zpu 24 (N:=some 41) (zl 39 33554431) HT_.out rfl rfl ?_
      refine zpu 25 (N:=some 42) (zl 39 67108863) HT_.out rfl rfl ?_
      refine pure_ (i:=26) (N:=some 43) (v:=undef) (a' := ?_) (zl 39 134217727) rfl rfl (any_of HT_.out zb14) (fun _ _ _ h=>h) (Or.inr ⟨zb45,rfl⟩) ?_ ?_
      rotate_left
      ·simp only [Act.put,zqA,zqB,zqC,i64_w,i32_w];rfl
      refine pure_ (i:=27) (N:=some 44) (v:=undef) (a' := ?_) (zl 39 268435455) rfl rfl (any_of HT_.out zb14) (fun _ _ _ h=>h) (Or.inr ⟨zb45,rfl⟩) ?_ ?_
      rotate_left
      ·simp only [Act.put,zqA,zqB,zqC,i64_w,i32_w];rfl
      refine pure_ (i:=28) (N:=some 45) (v:=undef) (a' := ?_) (zl 39 536870911) rfl rfl (any_of HT_.out zb14) (fun _ _ _ h=>h) (Or.inr ⟨zb45,rfl⟩) ?_ ?_
      rotate_left
      ·simp only [Act.put,zqA,zqB,zqC,i64_w,i32_w];rfl
      refine pure_ (i:=29) (N:=some 46) (v:=undef) (a' := ?_) (zl 39 1073741823) rfl rfl (any_of HT_.out zb14) (fun _ _ _ h=>h) (Or.inr ⟨zb45,rfl⟩) ?_ ?_
      rotate_left
      ·simp only [Act.put,zqA,zqB,zqC,i64_w,i32_w];rfl
      refine pure_ (i:=30) (N:=some 47) (v:=undef) (a' := ?_) (zl 39 2147483647) rfl rfl (any_of HT_.out zb14) (fun _ _ _ h=>h) (Or.inr ⟨zb45,rfl⟩) ?_ ?_
      rotate_left
      ·simp only [Act.put,zqA,zqB,zqC,i64_w,i32_w];rfl
      refine pure_ (i:=31) (N:=some 48) (v:=undef) (a' := ?_) (zl 39 4294967295) rfl rfl (any_of HT_.out zb14) (fun _ _ _ h=>h) (Or.inr ⟨zb45,rfl⟩) ?_ ?_
      rotate_left
      ·simp only [Act.put,zqA,zqB,zqC,i64_w,i32_w];rfl
      refine pure_ (i:=32) (N:=some 49) (v:=undef) (a' := ?_) (zl 39 8589934591) rfl rfl (any_of HT_.out zb14) (fun _ _ _ h=>h) (Or.inr ⟨zb45,rfl⟩) ?_ ?_
      rotate_left
      ·simp only [Act.put,zqA,zqB,zqC,i64_w,i32_w];rfl
      refine pure_ (i:=33) (N:=some 50) (v:=undef) (a' := ?_) (zl 39 17179869183) rfl rfl (any_of HT_.out zb14) (fun _ _ _ h=>h) (Or.inr ⟨zb45,rfl⟩) ?_ ?_
      rotate_left
      ·simp only [Act.put,zqA,zqB,zqC,i64_w,i32_w];rfl
      refine pure_ (i:=34) (N:=some 51) (v:=undef) (a' := ?_) (zl 39 34359738367) rfl rfl (any_of HT_.out zb14) (fun _ _ _ h=>h) (Or.inr ⟨zb45,rfl⟩) ?_ ?_
      rotate_left
      ·simp only [Act.put,zqA,zqB,zqC,i64_w,i32_w];rfl
      refine pure_ (i:=35) (N:=some 52) (v:=undef) (a' := ?_) (zl 39 68719476735) rfl rfl (any_of HT_.out zb14) (fun _ _ _ h=>h) (Or.inr ⟨zb45,rfl⟩) ?_ ?_
      rotate_left
      ·simp only [Act.put,zqA,zqB,zqC,i64_w,i32_w];rfl
      refine pure_ (i:=36) (N:=some 53) (v:=undef) (a' := ?_) (zl 39 137438953471) rfl rfl (any_of HT_.out zb14) (fun _ _ _ h=>h) (Or.inr ⟨zb45,rfl⟩) ?_ ?_
      rotate_left
      ·simp only [Act.put,zqA,zqB,zqC,i64_w,i32_w];rfl
      refine pure_ (i:=37) (N:=some 54) (v:=undef) (a' := ?_) (zl 39 274877906943) rfl rfl (any_of HT_.out zb14) (fun _ _ _ h=>h) (Or.inr ⟨zb45,rfl⟩) ?_ ?_
      rotate_left
      ·simp only [Act.put,zqA,zqB,zqC,i64_w,i32_w];rfl
      refine zpu 38 (N:=some 55) (zl 39 549755813887) HT_.out rfl rfl ?_
      refine done_ (done_of HT_.out zb14) ?_
      try go_wp2
      go_ret
      exact ⟨zb6,zb0⟩
     subst c9
     rw [if_pos rfl] at H
     replace H:=Option.bind_eq_some_iff.mp H
     obtain ⟨t56,A59,H⟩:=H
     try dsimp only at H
     have A10:=Aside0.mk A59
     clear A59
     replace H:=Option.bind_eq_some_iff.mp H
     obtain ⟨t55,A60,H⟩:=H
     try dsimp only at H
     have A11:=Aside0.mk A60
     clear A60
     replace H:=Option.bind_eq_some_iff.mp H
     obtain ⟨t57,A61,H⟩:=H
     try dsimp only at H
     have A12:=Aside0.mk A61
     clear A61
     by_cases c13:t57=true;rotate_left
     ·replace c13:=Bool.eq_false_iff.mpr c13
      subst c13
      rw [if_neg (show ¬ (false=true) by decide)] at H
      obtain rfl:=Option.some.inj H
      try go_wp2
      replace HB:=Aside0.mk (below_drew1 HB.out)
      have p48:0 ≤ (x5_1:Int):=of_decide_eq_true zb1
      have q48:x5_1 < (l0.length:Int):=of_decide_eq_true zb1
      obtain ⟨ad48,A48_1,c48_1,e48,hx48_0,hx48_1,hx48_2,hx48_3,hx48_4,hx48_5,hx48_6,hx48_7,hl48_1,hi48_1⟩:=at_T64 HR0.out x5_1 p48 q48
      have hw48_7:=hx48_7
      have hw48_6:=hx48_6
      have hw48_5:=hx48_5
      have hw48_4:=hx48_4
      have hw48_3:=hx48_3
      have hw48_2:=hx48_2
      have hw48_1:=hx48_1
      have hw48_0:=hx48_0
      cases e48
      replace hx48_0:=(HB.out.cell (World.block_lt_of_cell? w _ hx48_0)).trans hx48_0
      replace hx48_1:=(HB.out.cell (World.block_lt_of_cell? w _ hx48_1)).trans hx48_1
      replace hx48_2:=(HB.out.cell (World.block_lt_of_cell? w _ hx48_2)).trans hx48_2
      replace hx48_3:=(HB.out.cell (World.block_lt_of_cell? w _ hx48_3)).trans hx48_3
      replace hx48_4:=(HB.out.cell (World.block_lt_of_cell? w _ hx48_4)).trans hx48_4
      replace hx48_5:=(HB.out.cell (World.block_lt_of_cell? w _ hx48_5)).trans hx48_5
      replace hx48_6:=(HB.out.cell (World.block_lt_of_cell? w _ hx48_6)).trans hx48_6
      replace hx48_7:=(HB.out.cell (World.block_lt_of_cell? w _ hx48_7)).trans hx48_7
      have HR48_1:=Aside0.mk hi48_1
      have HC48_1:=Aside0.mk hl48_1
      clear hi48_1 hl48_1
      replace p48:=eq_true p48
      replace q48:=eq_true q48
      have p49:0 ≤ (x5_1:Int):=of_decide_eq_true zb1
      have q49:x5_1 < (l1.length:Int):=of_decide_eq_true zb1
      obtain ⟨ad49,A49_1,c49_1,e49,hx49_0,hx49_1,hx49_2,hx49_3,hx49_4,hx49_5,hx49_6,hx49_7,hl49_1,hi49_1⟩:=at_T64 HR1.out x5_1 p49 q49
      have hw49_7:=hx49_7
      have hw49_6:=hx49_6
      have hw49_5:=hx49_5
      have hw49_4:=hx49_4
      have hw49_3:=hx49_3
      have hw49_2:=hx49_2
      have hw49_1:=hx49_1
      have hw49_0:=hx49_0
      cases e49
      replace hx49_0:=(HB.out.cell (World.block_lt_of_cell? w _ hx49_0)).trans hx49_0
      replace hx49_1:=(HB.out.cell (World.block_lt_of_cell? w _ hx49_1)).trans hx49_1
      replace hx49_2:=(HB.out.cell (World.block_lt_of_cell? w _ hx49_2)).trans hx49_2
      replace hx49_3:=(HB.out.cell (World.block_lt_of_cell? w _ hx49_3)).trans hx49_3
      replace hx49_4:=(HB.out.cell (World.block_lt_of_cell? w _ hx49_4)).trans hx49_4
      replace hx49_5:=(HB.out.cell (World.block_lt_of_cell? w _ hx49_5)).trans hx49_5
      replace hx49_6:=(HB.out.cell (World.block_lt_of_cell? w _ hx49_6)).trans hx49_6
      replace hx49_7:=(HB.out.cell (World.block_lt_of_cell? w _ hx49_7)).trans hx49_7
      have HR49_1:=Aside0.mk hi49_1
      have HC49_1:=Aside0.mk hl49_1
      clear hi49_1 hl49_1
      replace p49:=eq_true p49
      replace q49:=eq_true q49
      have p50:0 ≤ (x5_1:Int):=of_decide_eq_true zb1
      have q50:x5_1 < (l0.length:Int):=of_decide_eq_true zb1
      obtain ⟨ad50,A50_1,c50_1,e50,hx50_0,hx50_1,hx50_2,hx50_3,hx50_4,hx50_5,hx50_6,hx50_7,hl50_1,hi50_1⟩:=at_T64 HR0.out x5_1 p50 q50
      have hw50_7:=hx50_7
      have hw50_6:=hx50_6
      have hw50_5:=hx50_5
      have hw50_4:=hx50_4
      have hw50_3:=hx50_3
      have hw50_2:=hx50_2
      have hw50_1:=hx50_1
      have hw50_0:=hx50_0
      obtain rfl:ad48=ad50:=(by injection e50)
      replace hx50_0:=(HB.out.cell (World.block_lt_of_cell? w _ hx50_0)).trans hx50_0
      replace hx50_1:=(HB.out.cell (World.block_lt_of_cell? w _ hx50_1)).trans hx50_1
      replace hx50_2:=(HB.out.cell (World.block_lt_of_cell? w _ hx50_2)).trans hx50_2
      replace hx50_3:=(HB.out.cell (World.block_lt_of_cell? w _ hx50_3)).trans hx50_3
      replace hx50_4:=(HB.out.cell (World.block_lt_of_cell? w _ hx50_4)).trans hx50_4
      replace hx50_5:=(HB.out.cell (World.block_lt_of_cell? w _ hx50_5)).trans hx50_5
      replace hx50_6:=(HB.out.cell (World.block_lt_of_cell? w _ hx50_6)).trans hx50_6
      replace hx50_7:=(HB.out.cell (World.block_lt_of_cell? w _ hx50_7)).trans hx50_7
      have HR50_1:=Aside0.mk hi50_1
      have HC50_1:=Aside0.mk hl50_1
      clear hi50_1 hl50_1
      replace p50:=eq_true p50
      replace q50:=eq_true q50
      have ea_:=Option.some.inj (hx48_1.symm.trans hx50_1)
      injection ea_ with ea_ en_ ec_
      subst ea_
      subst ec_
      clear en_
      have p51:0 ≤ (x5_1:Int):=of_decide_eq_true zb1
      have q51:x5_1 < (l1.length:Int):=of_decide_eq_true zb1
      obtain ⟨ad51,A51_1,c51_1,e51,hx51_0,hx51_1,hx51_2,hx51_3,hx51_4,hx51_5,hx51_6,hx51_7,hl51_1,hi51_1⟩:=at_T64 HR1.out x5_1 p51 q51
      have hw51_7:=hx51_7
      have hw51_6:=hx51_6
      have hw51_5:=hx51_5
      have hw51_4:=hx51_4
      have hw51_3:=hx51_3
      have hw51_2:=hx51_2
      have hw51_1:=hx51_1
      have hw51_0:=hx51_0
      obtain rfl:ad49=ad51:=(by injection e51)
      replace hx51_0:=(HB.out.cell (World.block_lt_of_cell? w _ hx51_0)).trans hx51_0
      replace hx51_1:=(HB.out.cell (World.block_lt_of_cell? w _ hx51_1)).trans hx51_1
      replace hx51_2:=(HB.out.cell (World.block_lt_of_cell? w _ hx51_2)).trans hx51_2
      replace hx51_3:=(HB.out.cell (World.block_lt_of_cell? w _ hx51_3)).trans hx51_3
      replace hx51_4:=(HB.out.cell (World.block_lt_of_cell? w _ hx51_4)).trans hx51_4
      replace hx51_5:=(HB.out.cell (World.block_lt_of_cell? w _ hx51_5)).trans hx51_5
      replace hx51_6:=(HB.out.cell (World.block_lt_of_cell? w _ hx51_6)).trans hx51_6
      replace hx51_7:=(HB.out.cell (World.block_lt_of_cell? w _ hx51_7)).trans hx51_7
      have HR51_1:=Aside0.mk hi51_1
      have HC51_1:=Aside0.mk hl51_1
      clear hi51_1 hl51_1
      replace p51:=eq_true p51
      replace q51:=eq_true q51
      have ea_:=Option.some.inj (hx49_1.symm.trans hx51_1)
      injection ea_ with ea_ en_ ec_
      subst ea_
      subst ec_
      clear en_
      have p52:0 ≤ (x5_1:Int):=of_decide_eq_true zb1
      have q52:x5_1 < (l0.length:Int):=of_decide_eq_true zb1
      obtain ⟨ad52,A52_1,c52_1,e52,hx52_0,hx52_1,hx52_2,hx52_3,hx52_4,hx52_5,hx52_6,hx52_7,hl52_1,hi52_1⟩:=at_T64 HR0.out x5_1 p52 q52
      have hw52_7:=hx52_7
      have hw52_6:=hx52_6
      have hw52_5:=hx52_5
      have hw52_4:=hx52_4
      have hw52_3:=hx52_3
      have hw52_2:=hx52_2
      have hw52_1:=hx52_1
      have hw52_0:=hx52_0
      obtain rfl:ad48=ad52:=(by injection e52)
      replace hx52_0:=(HB.out.cell (World.block_lt_of_cell? w _ hx52_0)).trans hx52_0
      replace hx52_1:=(HB.out.cell (World.block_lt_of_cell? w _ hx52_1)).trans hx52_1
      replace hx52_2:=(HB.out.cell (World.block_lt_of_cell? w _ hx52_2)).trans hx52_2
      replace hx52_3:=(HB.out.cell (World.block_lt_of_cell? w _ hx52_3)).trans hx52_3
      replace hx52_4:=(HB.out.cell (World.block_lt_of_cell? w _ hx52_4)).trans hx52_4
      replace hx52_5:=(HB.out.cell (World.block_lt_of_cell? w _ hx52_5)).trans hx52_5
      replace hx52_6:=(HB.out.cell (World.block_lt_of_cell? w _ hx52_6)).trans hx52_6
      replace hx52_7:=(HB.out.cell (World.block_lt_of_cell? w _ hx52_7)).trans hx52_7
      have HR52_1:=Aside0.mk hi52_1
      have HC52_1:=Aside0.mk hl52_1
      clear hi52_1 hl52_1
      replace p52:=eq_true p52
      replace q52:=eq_true q52
      have ea_:=Option.some.inj (hx48_1.symm.trans hx52_1)
      injection ea_ with ea_ en_ ec_
      subst ea_
      subst ec_
      clear en_
      have p53:0 ≤ (x5_1:Int):=of_decide_eq_true zb1
      have q53:x5_1 < (l1.length:Int):=of_decide_eq_true zb1
      obtain ⟨ad53,A53_1,c53_1,e53,hx53_0,hx53_1,hx53_2,hx53_3,hx53_4,hx53_5,hx53_6,hx53_7,hl53_1,hi53_1⟩:=at_T64 HR1.out x5_1 p53 q53
      have hw53_7:=hx53_7
      have hw53_6:=hx53_6
      have hw53_5:=hx53_5
      have hw53_4:=hx53_4
      have hw53_3:=hx53_3
      have hw53_2:=hx53_2
      have hw53_1:=hx53_1
      have hw53_0:=hx53_0
      obtain rfl:ad49=ad53:=(by injection e53)
      replace hx53_0:=(HB.out.cell (World.block_lt_of_cell? w _ hx53_0)).trans hx53_0
      replace hx53_1:=(HB.out.cell (World.block_lt_of_cell? w _ hx53_1)).trans hx53_1
      replace hx53_2:=(HB.out.cell (World.block_lt_of_cell? w _ hx53_2)).trans hx53_2
      replace hx53_3:=(HB.out.cell (World.block_lt_of_cell? w _ hx53_3)).trans hx53_3
      replace hx53_4:=(HB.out.cell (World.block_lt_of_cell? w _ hx53_4)).trans hx53_4
      replace hx53_5:=(HB.out.cell (World.block_lt_of_cell? w _ hx53_5)).trans hx53_5
      replace hx53_6:=(HB.out.cell (World.block_lt_of_cell? w _ hx53_6)).trans hx53_6
      replace hx53_7:=(HB.out.cell (World.block_lt_of_cell? w _ hx53_7)).trans hx53_7
      have HR53_1:=Aside0.mk hi53_1
      have HC53_1:=Aside0.mk hl53_1
      clear hi53_1 hl53_1
      replace p53:=eq_true p53
      replace q53:=eq_true q53
      have ea_:=Option.some.inj (hx49_1.symm.trans hx53_1)
      injection ea_ with ea_ en_ ec_
      subst ea_
      subst ec_
      clear en_
      refine start_ (n:=39) (S:=fun w' => w'.cell? (ad48.add ((x5_1).toNat * 8))=some (.string ((rd_T64 l0 x5_1).f0))∧w'.cell? ⟨(ad48.add ((x5_1).toNat * 8)).block,(ad48.add ((x5_1).toNat * 8)).off + 1,none⟩=some (.slice A48_1 ((rd_T64 l0 x5_1).f1).length c48_1)∧w'.cell? ⟨(ad48.add ((x5_1).toNat * 8)).block,(ad48.add ((x5_1).toNat * 8)).off + 2,none⟩=some (.int .i64 ((rd_T64 l0 x5_1).f2))∧w'.cell? ⟨(ad48.add ((x5_1).toNat * 8)).block,(ad48.add ((x5_1).toNat * 8)).off + 3,none⟩=some (.int .i64 ((rd_T64 l0 x5_1).f3))∧w'.cell? ⟨(ad48.add ((x5_1).toNat * 8)).block,(ad48.add ((x5_1).toNat * 8)).off + 4,none⟩=some (.int .i64 ((rd_T64 l0 x5_1).f4))∧w'.cell? ⟨(ad48.add ((x5_1).toNat * 8)).block,(ad48.add ((x5_1).toNat * 8)).off + 5,none⟩=some (.int .i64 ((rd_T64 l0 x5_1).f5))∧w'.cell? ⟨(ad48.add ((x5_1).toNat * 8)).block,(ad48.add ((x5_1).toNat * 8)).off + 6,none⟩=some (.int .i64 ((rd_T64 l0 x5_1).f6))∧w'.cell? ⟨(ad48.add ((x5_1).toNat * 8)).block,(ad48.add ((x5_1).toNat * 8)).off + 7,none⟩=some (.int .i64 ((rd_T64 l0 x5_1).f7))∧w'.cell? (ad49.add ((x5_1).toNat * 8))=some (.string ((rd_T64 l1 x5_1).f0))∧w'.cell? ⟨(ad49.add ((x5_1).toNat * 8)).block,(ad49.add ((x5_1).toNat * 8)).off + 1,none⟩=some (.slice A49_1 ((rd_T64 l1 x5_1).f1).length c49_1)∧w'.cell? ⟨(ad49.add ((x5_1).toNat * 8)).block,(ad49.add ((x5_1).toNat * 8)).off + 2,none⟩=some (.int .i64 ((rd_T64 l1 x5_1).f2))∧w'.cell? ⟨(ad49.add ((x5_1).toNat * 8)).block,(ad49.add ((x5_1).toNat * 8)).off + 3,none⟩=some (.int .i64 ((rd_T64 l1 x5_1).f3))∧w'.cell? ⟨(ad49.add ((x5_1).toNat * 8)).block,(ad49.add ((x5_1).toNat * 8)).off + 4,none⟩=some (.int .i64 ((rd_T64 l1 x5_1).f4))∧w'.cell? ⟨(ad49.add ((x5_1).toNat * 8)).block,(ad49.add ((x5_1).toNat * 8)).off + 5,none⟩=some (.int .i64 ((rd_T64 l1 x5_1).f5))∧w'.cell? ⟨(ad49.add ((x5_1).toNat * 8)).block,(ad49.add ((x5_1).toNat * 8)).off + 6,none⟩=some (.int .i64 ((rd_T64 l1 x5_1).f6))∧w'.cell? ⟨(ad49.add ((x5_1).toNat * 8)).block,(ad49.add ((x5_1).toNat * 8)).off + 7,none⟩=some (.int .i64 ((rd_T64 l1 x5_1).f7))∧w'.cell? (ad48.add ((x5_1).toNat * 8))=some (.string ((rd_T64 l0 x5_1).f0))∧w'.cell? ⟨(ad48.add ((x5_1).toNat * 8)).block,(ad48.add ((x5_1).toNat * 8)).off + 1,none⟩=some (.slice A48_1 ((rd_T64 l0 x5_1).f1).length c48_1)∧w'.cell? ⟨(ad48.add ((x5_1).toNat * 8)).block,(ad48.add ((x5_1).toNat * 8)).off + 2,none⟩=some (.int .i64 ((rd_T64 l0 x5_1).f2))∧w'.cell? ⟨(ad48.add ((x5_1).toNat * 8)).block,(ad48.add ((x5_1).toNat * 8)).off + 3,none⟩=some (.int .i64 ((rd_T64 l0 x5_1).f3))∧w'.cell? ⟨(ad48.add ((x5_1).toNat * 8)).block,(ad48.add ((x5_1).toNat * 8)).off + 4,none⟩=some (.int .i64 ((rd_T64 l0 x5_1).f4))∧w'.cell? ⟨(ad48.add ((x5_1).toNat * 8)).block,(ad48.add ((x5_1).toNat * 8)).off + 5,none⟩=some (.int .i64 ((rd_T64 l0 x5_1).f5))∧w'.cell? ⟨(ad48.add ((x5_1).toNat * 8)).block,(ad48.add ((x5_1).toNat * 8)).off + 6,none⟩=some (.int .i64 ((rd_T64 l0 x5_1).f6))∧w'.cell? ⟨(ad48.add ((x5_1).toNat * 8)).block,(ad48.add ((x5_1).toNat * 8)).off + 7,none⟩=some (.int .i64 ((rd_T64 l0 x5_1).f7))∧w'.cell? (ad49.add ((x5_1).toNat * 8))=some (.string ((rd_T64 l1 x5_1).f0))∧w'.cell? ⟨(ad49.add ((x5_1).toNat * 8)).block,(ad49.add ((x5_1).toNat * 8)).off + 1,none⟩=some (.slice A49_1 ((rd_T64 l1 x5_1).f1).length c49_1)∧w'.cell? ⟨(ad49.add ((x5_1).toNat * 8)).block,(ad49.add ((x5_1).toNat * 8)).off + 2,none⟩=some (.int .i64 ((rd_T64 l1 x5_1).f2))∧w'.cell? ⟨(ad49.add ((x5_1).toNat * 8)).block,(ad49.add ((x5_1).toNat * 8)).off + 3,none⟩=some (.int .i64 ((rd_T64 l1 x5_1).f3))∧w'.cell? ⟨(ad49.add ((x5_1).toNat * 8)).block,(ad49.add ((x5_1).toNat * 8)).off + 4,none⟩=some (.int .i64 ((rd_T64 l1 x5_1).f4))∧w'.cell? ⟨(ad49.add ((x5_1).toNat * 8)).block,(ad49.add ((x5_1).toNat * 8)).off + 5,none⟩=some (.int .i64 ((rd_T64 l1 x5_1).f5))∧w'.cell? ⟨(ad49.add ((x5_1).toNat * 8)).block,(ad49.add ((x5_1).toNat * 8)).off + 6,none⟩=some (.int .i64 ((rd_T64 l1 x5_1).f6))∧w'.cell? ⟨(ad49.add ((x5_1).toNat * 8)).block,(ad49.add ((x5_1).toNat * 8)).off + 7,none⟩=some (.int .i64 ((rd_T64 l1 x5_1).f7))∧w'.cell? (ad48.add ((x5_1).toNat * 8))=some (.string ((rd_T64 l0 x5_1).f0))∧w'.cell? ⟨(ad48.add ((x5_1).toNat * 8)).block,(ad48.add ((x5_1).toNat * 8)).off + 1,none⟩=some (.slice A48_1 ((rd_T64 l0 x5_1).f1).length c48_1)∧w'.cell? ⟨(ad48.add ((x5_1).toNat * 8)).block,(ad48.add ((x5_1).toNat * 8)).off + 2,none⟩=some (.int .i64 ((rd_T64 l0 x5_1).f2))∧w'.cell? ⟨(ad48.add ((x5_1).toNat * 8)).block,(ad48.add ((x5_1).toNat * 8)).off + 3,none⟩=some (.int .i64 ((rd_T64 l0 x5_1).f3))∧w'.cell? ⟨(ad48.add ((x5_1).toNat * 8)).block,(ad48.add ((x5_1).toNat * 8)).off + 4,none⟩=some (.int .i64 ((rd_T64 l0 x5_1).f4))∧w'.cell? ⟨(ad48.add ((x5_1).toNat * 8)).block,(ad48.add ((x5_1).toNat * 8)).off + 5,none⟩=some (.int .i64 ((rd_T64 l0 x5_1).f5))∧w'.cell? ⟨(ad48.add ((x5_1).toNat * 8)).block,(ad48.add ((x5_1).toNat * 8)).off + 6,none⟩=some (.int .i64 ((rd_T64 l0 x5_1).f6))∧w'.cell? ⟨(ad48.add ((x5_1).toNat * 8)).block,(ad48.add ((x5_1).toNat * 8)).off + 7,none⟩=some (.int .i64 ((rd_T64 l0 x5_1).f7))∧w'.cell? (ad49.add ((x5_1).toNat * 8))=some (.string ((rd_T64 l1 x5_1).f0))∧w'.cell? ⟨(ad49.add ((x5_1).toNat * 8)).block,(ad49.add ((x5_1).toNat * 8)).off + 1,none⟩=some (.slice A49_1 ((rd_T64 l1 x5_1).f1).length c49_1)∧w'.cell? ⟨(ad49.add ((x5_1).toNat * 8)).block,(ad49.add ((x5_1).toNat * 8)).off + 2,none⟩=some (.int .i64 ((rd_T64 l1 x5_1).f2))∧w'.cell? ⟨(ad49.add ((x5_1).toNat * 8)).block,(ad49.add ((x5_1).toNat * 8)).off + 3,none⟩=some (.int .i64 ((rd_T64 l1 x5_1).f3))∧w'.cell? ⟨(ad49.add ((x5_1).toNat * 8)).block,(ad49.add ((x5_1).toNat * 8)).off + 4,none⟩=some (.int .i64 ((rd_T64 l1 x5_1).f4))∧w'.cell? ⟨(ad49.add ((x5_1).toNat * 8)).block,(ad49.add ((x5_1).toNat * 8)).off + 5,none⟩=some (.int .i64 ((rd_T64 l1 x5_1).f5))∧w'.cell? ⟨(ad49.add ((x5_1).toNat * 8)).block,(ad49.add ((x5_1).toNat * 8)).off + 6,none⟩=some (.int .i64 ((rd_T64 l1 x5_1).f6))∧w'.cell? ⟨(ad49.add ((x5_1).toNat * 8)).block,(ad49.add ((x5_1).toNat * 8)).off + 7,none⟩=some (.int .i64 ((rd_T64 l1 x5_1).f7))) (ds:=[]) (zl 39 0) zb14 rfl rfl ⟨((HB.out.cell (World.block_lt_of_cell? w _ hw48_0)).trans hw48_0),((HB.out.cell (World.block_lt_of_cell? w _ hw48_1)).trans hw48_1),((HB.out.cell (World.block_lt_of_cell? w _ hw48_2)).trans hw48_2),((HB.out.cell (World.block_lt_of_cell? w _ hw48_3)).trans hw48_3),((HB.out.cell (World.block_lt_of_cell? w _ hw48_4)).trans hw48_4),((HB.out.cell (World.block_lt_of_cell? w _ hw48_5)).trans hw48_5),((HB.out.cell (World.block_lt_of_cell? w _ hw48_6)).trans hw48_6),((HB.out.cell (World.block_lt_of_cell? w _ hw48_7)).trans hw48_7),((HB.out.cell (World.block_lt_of_cell? w _ hw49_0)).trans hw49_0),((HB.out.cell (World.block_lt_of_cell? w _ hw49_1)).trans hw49_1),((HB.out.cell (World.block_lt_of_cell? w _ hw49_2)).trans hw49_2),((HB.out.cell (World.block_lt_of_cell? w _ hw49_3)).trans hw49_3),((HB.out.cell (World.block_lt_of_cell? w _ hw49_4)).trans hw49_4),((HB.out.cell (World.block_lt_of_cell? w _ hw49_5)).trans hw49_5),((HB.out.cell (World.block_lt_of_cell? w _ hw49_6)).trans hw49_6),((HB.out.cell (World.block_lt_of_cell? w _ hw49_7)).trans hw49_7),((HB.out.cell (World.block_lt_of_cell? w _ hw50_0)).trans hw50_0),((HB.out.cell (World.block_lt_of_cell? w _ hw50_1)).trans hw50_1),((HB.out.cell (World.block_lt_of_cell? w _ hw50_2)).trans hw50_2),((HB.out.cell (World.block_lt_of_cell? w _ hw50_3)).trans hw50_3),((HB.out.cell (World.block_lt_of_cell? w _ hw50_4)).trans hw50_4),((HB.out.cell (World.block_lt_of_cell? w _ hw50_5)).trans hw50_5),((HB.out.cell (World.block_lt_of_cell? w _ hw50_6)).trans hw50_6),((HB.out.cell (World.block_lt_of_cell? w _ hw50_7)).trans hw50_7),((HB.out.cell (World.block_lt_of_cell? w _ hw51_0)).trans hw51_0),((HB.out.cell (World.block_lt_of_cell? w _ hw51_1)).trans hw51_1),((HB.out.cell (World.block_lt_of_cell? w _ hw51_2)).trans hw51_2),((HB.out.cell (World.block_lt_of_cell? w _ hw51_3)).trans hw51_3),((HB.out.cell (World.block_lt_of_cell? w _ hw51_4)).trans hw51_4),((HB.out.cell (World.block_lt_of_cell? w _ hw51_5)).trans hw51_5),((HB.out.cell (World.block_lt_of_cell? w _ hw51_6)).trans hw51_6),((HB.out.cell (World.block_lt_of_cell? w _ hw51_7)).trans hw51_7),((HB.out.cell (World.block_lt_of_cell? w _ hw52_0)).trans hw52_0),((HB.out.cell (World.block_lt_of_cell? w _ hw52_1)).trans hw52_1),((HB.out.cell (World.block_lt_of_cell? w _ hw52_2)).trans hw52_2),((HB.out.cell (World.block_lt_of_cell? w _ hw52_3)).trans hw52_3),((HB.out.cell (World.block_lt_of_cell? w _ hw52_4)).trans hw52_4),((HB.out.cell (World.block_lt_of_cell? w _ hw52_5)).trans hw52_5),((HB.out.cell (World.block_lt_of_cell? w _ hw52_6)).trans hw52_6),((HB.out.cell (World.block_lt_of_cell? w _ hw52_7)).trans hw52_7),((HB.out.cell (World.block_lt_of_cell? w _ hw53_0)).trans hw53_0),((HB.out.cell (World.block_lt_of_cell? w _ hw53_1)).trans hw53_1),((HB.out.cell (World.block_lt_of_cell? w _ hw53_2)).trans hw53_2),((HB.out.cell (World.block_lt_of_cell? w _ hw53_3)).trans hw53_3),((HB.out.cell (World.block_lt_of_cell? w _ hw53_4)).trans hw53_4),((HB.out.cell (World.block_lt_of_cell? w _ hw53_5)).trans hw53_5),((HB.out.cell (World.block_lt_of_cell? w _ hw53_6)).trans hw53_6),((HB.out.cell (World.block_lt_of_cell? w _ hw53_7)).trans hw53_7)⟩ (fun hHeld=>?_);refine with_tabW tollbarref09_Same.tab6 tollbarref09_Same.bits6 (fun HT_ HW_=>?_)
      generalize wr.drew=w19 at HB HR48_1 HR49_1 HR50_1 HR51_1 HR52_1 HR53_1 hx48_0 hx48_1 hx48_2 hx48_3 hx48_4 hx48_5 hx48_6 hx48_7 hx49_0 hx49_1 hx49_2 hx49_3 hx49_4 hx49_5 hx49_6 hx49_7 hx50_0 hx50_1 hx50_2 hx50_3 hx50_4 hx50_5 hx50_6 hx50_7 hx51_0 hx51_1 hx51_2 hx51_3 hx51_4 hx51_5 hx51_6 hx51_7 hx52_0 hx52_1 hx52_2 hx52_3 hx52_4 hx52_5 hx52_6 hx52_7 hx53_0 hx53_1 hx53_2 hx53_3 hx53_4 hx53_5 hx53_6 hx53_7 hHeld ⊢
      refine zpu 0 (N:=some 17) (zl 39 1) HT_.out rfl rfl ?_
      refine zpu 1 (N:=some 18) (zl 39 3) HT_.out rfl rfl ?_
      refine zpu 2 (N:=some 19) (zl 39 7) HT_.out rfl rfl ?_
      refine zpu 3 (N:=some 20) (zl 39 15) HT_.out rfl rfl ?_
      refine zpu 5 (N:=some 22) (zl 39 47) HT_.out rfl rfl ?_
      refine zpu 6 (N:=some 23) (zl 39 111) HT_.out rfl rfl ?_
      refine zpu 7 (N:=some 24) (zl 39 239) HT_.out rfl rfl ?_
      refine zpu 8 (N:=some 25) (zl 39 495) HT_.out rfl rfl ?_
      refine take_ (i:=4) (N:=some 21) (v:=?_) (a' := ?_) (zl 39 511) rfl rfl (take_ofW HT_.out HW_.out zb14) (fun _ _ _ h=>h) (Or.inl ⟨zb45,?_⟩) hHeld ?_ ?_
      rotate_left
      ·rintro w' ⟨s0,s1,s2,s3,s4,s5,s6,s7,s8,s9,s10,s11,s12,s13,s14,s15,s16,s17,s18,s19,s20,s21,s22,s23,s24,s25,s26,s27,s28,s29,s30,s31,s32,s33,s34,s35,s36,s37,s38,s39,s40,s41,s42,s43,s44,s45,s46,s47⟩;go_simp;with_reducible rfl
      rotate_left
      ·simp only [Act.put,zqA,zqB,zqC,i64_w,i32_w];rfl
      refine take_ (i:=9) (N:=some 26) (v:=?_) (a' := ?_) (zl 39 1023) rfl rfl (take_ofW HT_.out HW_.out zb14) (fun _ _ _ h=>h) (Or.inl ⟨zb45,?_⟩) hHeld ?_ ?_
      rotate_left
      ·rintro w' ⟨s0,s1,s2,s3,s4,s5,s6,s7,s8,s9,s10,s11,s12,s13,s14,s15,s16,s17,s18,s19,s20,s21,s22,s23,s24,s25,s26,s27,s28,s29,s30,s31,s32,s33,s34,s35,s36,s37,s38,s39,s40,s41,s42,s43,s44,s45,s46,s47⟩;go_simp;with_reducible rfl
      rotate_left
      ·simp only [Act.put,zqA,zqB,zqC,i64_w,i32_w];rfl
      refine zpu 10 (N:=some 27) (zl 39 2047) HT_.out rfl rfl ?_
      refine zpu 11 (N:=some 28) (zl 39 4095) HT_.out rfl rfl ?_
      refine zpu 12 (N:=some 29) (zl 39 8191) HT_.out rfl rfl ?_
      refine zpu 13 (N:=some 30) (zl 39 16383) HT_.out rfl rfl ?_
      refine zpu 14 (N:=some 31) (zl 39 32767) HT_.out rfl rfl ?_
      refine zpu 15 (N:=some 32) (zl 39 65535) HT_.out rfl rfl ?_
      refine zpu 17 (N:=some 34) (zl 39 196607) HT_.out rfl rfl ?_
      refine zpu 18 (N:=some 35) (zl 39 458751) HT_.out rfl rfl ?_
      refine zpu 19 (N:=some 36) (zl 39 983039) HT_.out rfl rfl ?_
      refine zpu 20 (N:=some 37) (zl 39 2031615) HT_.out rfl rfl ?_
      refine take_ (i:=16) (N:=some 33) (v:=?_) (a' := ?_) (zl 39 2097151) rfl rfl (take_ofW HT_.out HW_.out zb14) (fun _ _ _ h=>h) (Or.inl ⟨zb45,?_⟩) hHeld ?_ ?_
      rotate_left
      ·rintro w' ⟨s0,s1,s2,s3,s4,s5,s6,s7,s8,s9,s10,s11,s12,s13,s14,s15,s16,s17,s18,s19,s20,s21,s22,s23,s24,s25,s26,s27,s28,s29,s30,s31,s32,s33,s34,s35,s36,s37,s38,s39,s40,s41,s42,s43,s44,s45,s46,s47⟩;go_simp;with_reducible rfl
      rotate_left
      ·simp only [Act.put,zqA,zqB,zqC,i64_w,i32_w];rfl
      refine take_ (i:=21) (N:=some 38) (v:=?_) (a' := ?_) (zl 39 4194303) rfl rfl (take_ofW HT_.out HW_.out zb14) (fun _ _ _ h=>h) (Or.inl ⟨zb45,?_⟩) hHeld ?_ ?_
      rotate_left
      ·rintro w' ⟨s0,s1,s2,s3,s4,s5,s6,s7,s8,s9,s10,s11,s12,s13,s14,s15,s16,s17,s18,s19,s20,s21,s22,s23,s24,s25,s26,s27,s28,s29,s30,s31,s32,s33,s34,s35,s36,s37,s38,s39,s40,s41,s42,s43,s44,s45,s46,s47⟩;go_simp;with_reducible rfl
      rotate_left
      ·simp only [Act.put,zqA,zqB,zqC,i64_w,i32_w];rfl
      refine one_ (i:=22) (N:=some 39) (zl 39 8388607) rfl rfl (one_of HT_.out zb14) zb22 (fun K hK=>?_)
      refine goes_ Tryz.func40 zb14 rfl #[.slice A48_1 ((rd_T64 l0 x5_1).f1).length c48_1,.slice A49_1 ((rd_T64 l1 x5_1).f1).length c49_1] zb45 rfl rfl zb2 ?_
      with_reducible refine (tollbarref01_SameTexts.calls k1 _ _ ((rd_T64 l0 x5_1).f1) _ _ ((rd_T64 l1 x5_1).f1) true _ ?side1 ?side2 ?side3 ?side4 A8.out).mono ?_
      (case side1=>exact zb52)
      (case side2=>exact HC50_1.out)
      (case side3=>exact zb53)
      (case side4=>exact HC51_1.out)
      rintro e w' ⟨rfl,⟨nd,rfl⟩⟩
      refine ⟨_,rfl,?_⟩
      refine hK.out _ _ ⟨((HB.out.cell (World.block_lt_of_cell? w _ hw48_0)).trans hw48_0),((HB.out.cell (World.block_lt_of_cell? w _ hw48_1)).trans hw48_1),((HB.out.cell (World.block_lt_of_cell? w _ hw48_2)).trans hw48_2),((HB.out.cell (World.block_lt_of_cell? w _ hw48_3)).trans hw48_3),((HB.out.cell (World.block_lt_of_cell? w _ hw48_4)).trans hw48_4),((HB.out.cell (World.block_lt_of_cell? w _ hw48_5)).trans hw48_5),((HB.out.cell (World.block_lt_of_cell? w _ hw48_6)).trans hw48_6),((HB.out.cell (World.block_lt_of_cell? w _ hw48_7)).trans hw48_7),((HB.out.cell (World.block_lt_of_cell? w _ hw49_0)).trans hw49_0),((HB.out.cell (World.block_lt_of_cell? w _ hw49_1)).trans hw49_1),((HB.out.cell (World.block_lt_of_cell? w _ hw49_2)).trans hw49_2),((HB.out.cell (World.block_lt_of_cell? w _ hw49_3)).trans hw49_3),((HB.out.cell (World.block_lt_of_cell? w _ hw49_4)).trans hw49_4),((HB.out.cell (World.block_lt_of_cell? w _ hw49_5)).trans hw49_5),((HB.out.cell (World.block_lt_of_cell? w _ hw49_6)).trans hw49_6),((HB.out.cell (World.block_lt_of_cell? w _ hw49_7)).trans hw49_7),((HB.out.cell (World.block_lt_of_cell? w _ hw50_0)).trans hw50_0),((HB.out.cell (World.block_lt_of_cell? w _ hw50_1)).trans hw50_1),((HB.out.cell (World.block_lt_of_cell? w _ hw50_2)).trans hw50_2),((HB.out.cell (World.block_lt_of_cell? w _ hw50_3)).trans hw50_3),((HB.out.cell (World.block_lt_of_cell? w _ hw50_4)).trans hw50_4),((HB.out.cell (World.block_lt_of_cell? w _ hw50_5)).trans hw50_5),((HB.out.cell (World.block_lt_of_cell? w _ hw50_6)).trans hw50_6),((HB.out.cell (World.block_lt_of_cell? w _ hw50_7)).trans hw50_7),((HB.out.cell (World.block_lt_of_cell? w _ hw51_0)).trans hw51_0),((HB.out.cell (World.block_lt_of_cell? w _ hw51_1)).trans hw51_1),((HB.out.cell (World.block_lt_of_cell? w _ hw51_2)).trans hw51_2),((HB.out.cell (World.block_lt_of_cell? w _ hw51_3)).trans hw51_3),((HB.out.cell (World.block_lt_of_cell? w _ hw51_4)).trans hw51_4),((HB.out.cell (World.block_lt_of_cell? w _ hw51_5)).trans hw51_5),((HB.out.cell (World.block_lt_of_cell? w _ hw51_6)).trans hw51_6),((HB.out.cell (World.block_lt_of_cell? w _ hw51_7)).trans hw51_7),((HB.out.cell (World.block_lt_of_cell? w _ hw52_0)).trans hw52_0),((HB.out.cell (World.block_lt_of_cell? w _ hw52_1)).trans hw52_1),((HB.out.cell (World.block_lt_of_cell? w _ hw52_2)).trans hw52_2),((HB.out.cell (World.block_lt_of_cell? w _ hw52_3)).trans hw52_3),((HB.out.cell (World.block_lt_of_cell? w _ hw52_4)).trans hw52_4),((HB.out.cell (World.block_lt_of_cell? w _ hw52_5)).trans hw52_5),((HB.out.cell (World.block_lt_of_cell? w _ hw52_6)).trans hw52_6),((HB.out.cell (World.block_lt_of_cell? w _ hw52_7)).trans hw52_7),((HB.out.cell (World.block_lt_of_cell? w _ hw53_0)).trans hw53_0),((HB.out.cell (World.block_lt_of_cell? w _ hw53_1)).trans hw53_1),((HB.out.cell (World.block_lt_of_cell? w _ hw53_2)).trans hw53_2),((HB.out.cell (World.block_lt_of_cell? w _ hw53_3)).trans hw53_3),((HB.out.cell (World.block_lt_of_cell? w _ hw53_4)).trans hw53_4),((HB.out.cell (World.block_lt_of_cell? w _ hw53_5)).trans hw53_5),((HB.out.cell (World.block_lt_of_cell? w _ hw53_6)).trans hw53_6),((HB.out.cell (World.block_lt_of_cell? w _ hw53_7)).trans hw53_7)⟩ (fun hHeld=>?_)
      clear hK K
      refine norm_ (a' := ?_) ?_ ?_
      rotate_left
      ·show Act.put _ (some 39) _=_
       simp only [Act.put,zqA,zqB,zqC,i64_w,i32_w]
       rfl
      refine zpu 23 (N:=some 40) (zl 39 16777215) HT_.out rfl rfl ?_
      refine zpu 24 (N:=some 41) (zl 39 33554431) HT_.out rfl rfl ?_
      refine zpu 25 (N:=some 42) (zl 39 67108863) HT_.out rfl rfl ?_
      refine zpu 26 (N:=some 43) (zl 39 134217727) HT_.out rfl rfl ?_
      refine zpu 27 (N:=some 44) (zl 39 268435455) HT_.out rfl rfl ?_
      refine zpu 28 (N:=some 45) (zl 39 536870911) HT_.out rfl rfl ?_
      refine zpu 31 (N:=some 48) (zl 39 2684354559) HT_.out rfl rfl ?_
      refine zpu 32 (N:=some 49) (zl 39 6979321855) HT_.out rfl rfl ?_
      refine zpu 33 (N:=some 50) (zl 39 15569256447) HT_.out rfl rfl ?_
      refine take_ (i:=29) (N:=some 46) (v:=?_) (a' := ?_) (zl 39 16106127359) rfl rfl (take_ofW HT_.out HW_.out zb14) (fun _ _ _ h=>h) (Or.inl ⟨zb45,?_⟩) hHeld ?_ ?_
      rotate_left
      ·rintro w' ⟨s0,s1,s2,s3,s4,s5,s6,s7,s8,s9,s10,s11,s12,s13,s14,s15,s16,s17,s18,s19,s20,s21,s22,s23,s24,s25,s26,s27,s28,s29,s30,s31,s32,s33,s34,s35,s36,s37,s38,s39,s40,s41,s42,s43,s44,s45,s46,s47⟩;go_simp;with_reducible rfl
      rotate_left
      ·simp only [Act.put,zqA,zqB,zqC,i64_w,i32_w];rfl
      refine take_ (i:=34) (N:=some 51) (v:=?_) (a' := ?_) (zl 39 33285996543) rfl rfl (take_ofW HT_.out HW_.out zb14) (fun _ _ _ h=>h) (Or.inl ⟨zb45,?_⟩) hHeld ?_ ?_
      rotate_left
      ·rintro w' ⟨s0,s1,s2,s3,s4,s5,s6,s7,s8,s9,s10,s11,s12,s13,s14,s15,s16,s17,s18,s19,s20,s21,s22,s23,s24,s25,s26,s27,s28,s29,s30,s31,s32,s33,s34,s35,s36,s37,s38,s39,s40,s41,s42,s43,s44,s45,s46,s47⟩;go_simp;with_reducible rfl
      rotate_left
      ·simp only [Act.put,zqA,zqB,zqC,i64_w,i32_w];rfl
      refine one_ (i:=30) (N:=some 47) (zl 39 34359738367) rfl rfl (one_of HT_.out zb14) zb22 (fun K hK=>?_)
      refine goes_ Tryz.func42 zb14 rfl #[.agg #[.string ((rd_T64 l0 x5_1).f0),.slice A48_1 ((rd_T64 l0 x5_1).f1).length c48_1,.int .i64 ((rd_T64 l0 x5_1).f2),.int .i64 ((rd_T64 l0 x5_1).f3),.int .i64 ((rd_T64 l0 x5_1).f4),.int .i64 ((rd_T64 l0 x5_1).f5),.int .i64 ((rd_T64 l0 x5_1).f6),.int .i64 ((rd_T64 l0 x5_1).f7)]] zb45 rfl rfl zb2 ?_
      with_reducible refine (tollbarref09_numbers.calls ((rd_T64 l0 x5_1).f0) _ _ ((rd_T64 l0 x5_1).f1) ((rd_T64 l0 x5_1).f2) ((rd_T64 l0 x5_1).f3) ((rd_T64 l0 x5_1).f4) ((rd_T64 l0 x5_1).f5) ((rd_T64 l0 x5_1).f6) ((rd_T64 l0 x5_1).f7) t56 _ ?side1 ?side2 A10.out).mono ?_
      (case side1=>exact zb48)
      (case side2=>exact HC52_1.out)
      rintro e w20 ⟨v63,rfl,ho0,hb⟩
      refine ⟨_,rfl,?_⟩
      have n0_:=Aside0.mk (Kd.R_lower ho0 (below_size zb0))
      have n1_:=Aside0.mk (below_step zb0 hb)
      clear HB
      have HO54:=n0_
      have HB:=n1_
      clear n0_ n1_
      (try clear hb)
      (try clear hb2)
      (try clear hk)
      (try clear hi)
      (try clear ho0)
      refine hK.out _ _ ⟨((HB.out.cell (World.block_lt_of_cell? w _ hw48_0)).trans hw48_0),((HB.out.cell (World.block_lt_of_cell? w _ hw48_1)).trans hw48_1),((HB.out.cell (World.block_lt_of_cell? w _ hw48_2)).trans hw48_2),((HB.out.cell (World.block_lt_of_cell? w _ hw48_3)).trans hw48_3),((HB.out.cell (World.block_lt_of_cell? w _ hw48_4)).trans hw48_4),((HB.out.cell (World.block_lt_of_cell? w _ hw48_5)).trans hw48_5),((HB.out.cell (World.block_lt_of_cell? w _ hw48_6)).trans hw48_6),((HB.out.cell (World.block_lt_of_cell? w _ hw48_7)).trans hw48_7),((HB.out.cell (World.block_lt_of_cell? w _ hw49_0)).trans hw49_0),((HB.out.cell (World.block_lt_of_cell? w _ hw49_1)).trans hw49_1),((HB.out.cell (World.block_lt_of_cell? w _ hw49_2)).trans hw49_2),((HB.out.cell (World.block_lt_of_cell? w _ hw49_3)).trans hw49_3),((HB.out.cell (World.block_lt_of_cell? w _ hw49_4)).trans hw49_4),((HB.out.cell (World.block_lt_of_cell? w _ hw49_5)).trans hw49_5),((HB.out.cell (World.block_lt_of_cell? w _ hw49_6)).trans hw49_6),((HB.out.cell (World.block_lt_of_cell? w _ hw49_7)).trans hw49_7),((HB.out.cell (World.block_lt_of_cell? w _ hw50_0)).trans hw50_0),((HB.out.cell (World.block_lt_of_cell? w _ hw50_1)).trans hw50_1),((HB.out.cell (World.block_lt_of_cell? w _ hw50_2)).trans hw50_2),((HB.out.cell (World.block_lt_of_cell? w _ hw50_3)).trans hw50_3),((HB.out.cell (World.block_lt_of_cell? w _ hw50_4)).trans hw50_4),((HB.out.cell (World.block_lt_of_cell? w _ hw50_5)).trans hw50_5),((HB.out.cell (World.block_lt_of_cell? w _ hw50_6)).trans hw50_6),((HB.out.cell (World.block_lt_of_cell? w _ hw50_7)).trans hw50_7),((HB.out.cell (World.block_lt_of_cell? w _ hw51_0)).trans hw51_0),((HB.out.cell (World.block_lt_of_cell? w _ hw51_1)).trans hw51_1),((HB.out.cell (World.block_lt_of_cell? w _ hw51_2)).trans hw51_2),((HB.out.cell (World.block_lt_of_cell? w _ hw51_3)).trans hw51_3),((HB.out.cell (World.block_lt_of_cell? w _ hw51_4)).trans hw51_4),((HB.out.cell (World.block_lt_of_cell? w _ hw51_5)).trans hw51_5),((HB.out.cell (World.block_lt_of_cell? w _ hw51_6)).trans hw51_6),((HB.out.cell (World.block_lt_of_cell? w _ hw51_7)).trans hw51_7),((HB.out.cell (World.block_lt_of_cell? w _ hw52_0)).trans hw52_0),((HB.out.cell (World.block_lt_of_cell? w _ hw52_1)).trans hw52_1),((HB.out.cell (World.block_lt_of_cell? w _ hw52_2)).trans hw52_2),((HB.out.cell (World.block_lt_of_cell? w _ hw52_3)).trans hw52_3),((HB.out.cell (World.block_lt_of_cell? w _ hw52_4)).trans hw52_4),((HB.out.cell (World.block_lt_of_cell? w _ hw52_5)).trans hw52_5),((HB.out.cell (World.block_lt_of_cell? w _ hw52_6)).trans hw52_6),((HB.out.cell (World.block_lt_of_cell? w _ hw52_7)).trans hw52_7),((HB.out.cell (World.block_lt_of_cell? w _ hw53_0)).trans hw53_0),((HB.out.cell (World.block_lt_of_cell? w _ hw53_1)).trans hw53_1),((HB.out.cell (World.block_lt_of_cell? w _ hw53_2)).trans hw53_2),((HB.out.cell (World.block_lt_of_cell? w _ hw53_3)).trans hw53_3),((HB.out.cell (World.block_lt_of_cell? w _ hw53_4)).trans hw53_4),((HB.out.cell (World.block_lt_of_cell? w _ hw53_5)).trans hw53_5),((HB.out.cell (World.block_lt_of_cell? w _ hw53_6)).trans hw53_6),((HB.out.cell (World.block_lt_of_cell? w _ hw53_7)).trans hw53_7)⟩ (fun hHeld=>?_)
      clear hK K
      refine norm_ (a' := ?_) ?_ ?_
      rotate_left
      ·show Act.put _ (some 47) _=_
       simp only [Act.put,zqA,zqB,zqC,i64_w,i32_w]
       rfl
      refine one_ (i:=35) (N:=some 52) (zl 39 68719476735) rfl rfl (one_of HT_.out zb14) zb22 (fun K hK=>?_)
      refine goes_ Tryz.func42 zb14 rfl #[.agg #[.string ((rd_T64 l1 x5_1).f0),.slice A49_1 ((rd_T64 l1 x5_1).f1).length c49_1,.int .i64 ((rd_T64 l1 x5_1).f2),.int .i64 ((rd_T64 l1 x5_1).f3),.int .i64 ((rd_T64 l1 x5_1).f4),.int .i64 ((rd_T64 l1 x5_1).f5),.int .i64 ((rd_T64 l1 x5_1).f6),.int .i64 ((rd_T64 l1 x5_1).f7)]] zb45 rfl rfl zb2 ?_
      with_reducible refine (tollbarref09_numbers.calls ((rd_T64 l1 x5_1).f0) _ _ ((rd_T64 l1 x5_1).f1) ((rd_T64 l1 x5_1).f2) ((rd_T64 l1 x5_1).f3) ((rd_T64 l1 x5_1).f4) ((rd_T64 l1 x5_1).f5) ((rd_T64 l1 x5_1).f6) ((rd_T64 l1 x5_1).f7) t55 _ ?side1 ?side2 A11.out).mono ?_
      (case side1=>exact zb69)
      (case side2=>exact HC53_1.out)
      rintro e w21 ⟨v65,rfl,ho0,hb⟩
      refine ⟨_,rfl,?_⟩
      have n0_:=Aside0.mk (Kd.R_elder' zb61 (Kd.R_base ho0) hb)
      have n1_:=Aside0.mk (Kd.R_lower (Kd.R_new' ho0 (Kd.R_lt zb61)) (below_size zb0))
      have n2_:=Aside0.mk (below_step zb0 hb)
      clear HO54 HB
      have HO54:=n0_
      have HO58:=n1_
      have HB:=n2_
      clear n0_ n1_ n2_
      (try clear hb)
      (try clear hb2)
      (try clear hk)
      (try clear hi)
      (try clear ho0)
      obtain ⟨Ao22,co22,eo22⟩:=Kd.R_slice HO54.out
      (first|subst eo22|(injection eo22 with f1_ f2_ f3_;have f4_:=f1_.symm;have f5_:=f3_.symm;clear f1_ f2_ f3_;subst f4_;subst f5_))
      obtain ⟨Ao23,co23,eo23⟩:=Kd.R_slice HO58.out
      (first|subst eo23|(injection eo23 with f1_ f2_ f3_;have f4_:=f1_.symm;have f5_:=f3_.symm;clear f1_ f2_ f3_;subst f4_;subst f5_))
      refine hK.out _ _ ⟨((HB.out.cell (World.block_lt_of_cell? w _ hw48_0)).trans hw48_0),((HB.out.cell (World.block_lt_of_cell? w _ hw48_1)).trans hw48_1),((HB.out.cell (World.block_lt_of_cell? w _ hw48_2)).trans hw48_2),((HB.out.cell (World.block_lt_of_cell? w _ hw48_3)).trans hw48_3),((HB.out.cell (World.block_lt_of_cell? w _ hw48_4)).trans hw48_4),((HB.out.cell (World.block_lt_of_cell? w _ hw48_5)).trans hw48_5),((HB.out.cell (World.block_lt_of_cell? w _ hw48_6)).trans hw48_6),((HB.out.cell (World.block_lt_of_cell? w _ hw48_7)).trans hw48_7),((HB.out.cell (World.block_lt_of_cell? w _ hw49_0)).trans hw49_0),((HB.out.cell (World.block_lt_of_cell? w _ hw49_1)).trans hw49_1),((HB.out.cell (World.block_lt_of_cell? w _ hw49_2)).trans hw49_2),((HB.out.cell (World.block_lt_of_cell? w _ hw49_3)).trans hw49_3),((HB.out.cell (World.block_lt_of_cell? w _ hw49_4)).trans hw49_4),((HB.out.cell (World.block_lt_of_cell? w _ hw49_5)).trans hw49_5),((HB.out.cell (World.block_lt_of_cell? w _ hw49_6)).trans hw49_6),((HB.out.cell (World.block_lt_of_cell? w _ hw49_7)).trans hw49_7),((HB.out.cell (World.block_lt_of_cell? w _ hw50_0)).trans hw50_0),((HB.out.cell (World.block_lt_of_cell? w _ hw50_1)).trans hw50_1),((HB.out.cell (World.block_lt_of_cell? w _ hw50_2)).trans hw50_2),((HB.out.cell (World.block_lt_of_cell? w _ hw50_3)).trans hw50_3),((HB.out.cell (World.block_lt_of_cell? w _ hw50_4)).trans hw50_4),((HB.out.cell (World.block_lt_of_cell? w _ hw50_5)).trans hw50_5),((HB.out.cell (World.block_lt_of_cell? w _ hw50_6)).trans hw50_6),((HB.out.cell (World.block_lt_of_cell? w _ hw50_7)).trans hw50_7),((HB.out.cell (World.block_lt_of_cell? w _ hw51_0)).trans hw51_0),((HB.out.cell (World.block_lt_of_cell? w _ hw51_1)).trans hw51_1),((HB.out.cell (World.block_lt_of_cell? w _ hw51_2)).trans hw51_2),((HB.out.cell (World.block_lt_of_cell? w _ hw51_3)).trans hw51_3),((HB.out.cell (World.block_lt_of_cell? w _ hw51_4)).trans hw51_4),((HB.out.cell (World.block_lt_of_cell? w _ hw51_5)).trans hw51_5),((HB.out.cell (World.block_lt_of_cell? w _ hw51_6)).trans hw51_6),((HB.out.cell (World.block_lt_of_cell? w _ hw51_7)).trans hw51_7),((HB.out.cell (World.block_lt_of_cell? w _ hw52_0)).trans hw52_0),((HB.out.cell (World.block_lt_of_cell? w _ hw52_1)).trans hw52_1),((HB.out.cell (World.block_lt_of_cell? w _ hw52_2)).trans hw52_2),((HB.out.cell (World.block_lt_of_cell? w _ hw52_3)).trans hw52_3),((HB.out.cell (World.block_lt_of_cell? w _ hw52_4)).trans hw52_4),((HB.out.cell (World.block_lt_of_cell? w _ hw52_5)).trans hw52_5),((HB.out.cell (World.block_lt_of_cell? w _ hw52_6)).trans hw52_6),((HB.out.cell (World.block_lt_of_cell? w _ hw52_7)).trans hw52_7),((HB.out.cell (World.block_lt_of_cell? w _ hw53_0)).trans hw53_0),((HB.out.cell (World.block_lt_of_cell? w _ hw53_1)).trans hw53_1),((HB.out.cell (World.block_lt_of_cell? w _ hw53_2)).trans hw53_2),((HB.out.cell (World.block_lt_of_cell? w _ hw53_3)).trans hw53_3),((HB.out.cell (World.block_lt_of_cell? w _ hw53_4)).trans hw53_4),((HB.out.cell (World.block_lt_of_cell? w _ hw53_5)).trans hw53_5),((HB.out.cell (World.block_lt_of_cell? w _ hw53_6)).trans hw53_6),((HB.out.cell (World.block_lt_of_cell? w _ hw53_7)).trans hw53_7)⟩ (fun hHeld=>?_)
      clear hK K
      refine norm_ (a' := ?_) ?_ ?_
      rotate_left
      ·show Act.put _ (some 52) _=_
       simp only [Act.put,zqA,zqB,zqC,i64_w,i32_w]
       rfl
      refine one_ (i:=36) (N:=some 53) (zl 39 137438953471) rfl rfl (one_of HT_.out zb14) zb22 (fun K hK=>?_)
      refine goes_ Tryz.func41 zb14 rfl #[.slice Ao22 t56.length co22,.slice Ao23 t55.length co23] zb45 rfl rfl zb2 ?_
      with_reducible refine (tollbarref01_SameInts.calls k1 _ _ t56 _ _ t55 false _ ?side1 ?side2 ?side3 ?side4 A12.out).mono ?_
      (case side1=>exact zb74)
      (case side2=>exact (Kd.R_reads' HO54.out).2.1)
      (case side3=>exact zb75)
      (case side4=>exact (Kd.R_reads' HO58.out).2.1)
      rintro e w' ⟨rfl,⟨nd,rfl⟩⟩
      refine ⟨_,rfl,?_⟩
      refine hK.out _ _ ⟨((HB.out.cell (World.block_lt_of_cell? w _ hw48_0)).trans hw48_0),((HB.out.cell (World.block_lt_of_cell? w _ hw48_1)).trans hw48_1),((HB.out.cell (World.block_lt_of_cell? w _ hw48_2)).trans hw48_2),((HB.out.cell (World.block_lt_of_cell? w _ hw48_3)).trans hw48_3),((HB.out.cell (World.block_lt_of_cell? w _ hw48_4)).trans hw48_4),((HB.out.cell (World.block_lt_of_cell? w _ hw48_5)).trans hw48_5),((HB.out.cell (World.block_lt_of_cell? w _ hw48_6)).trans hw48_6),((HB.out.cell (World.block_lt_of_cell? w _ hw48_7)).trans hw48_7),((HB.out.cell (World.block_lt_of_cell? w _ hw49_0)).trans hw49_0),((HB.out.cell (World.block_lt_of_cell? w _ hw49_1)).trans hw49_1),((HB.out.cell (World.block_lt_of_cell? w _ hw49_2)).trans hw49_2),((HB.out.cell (World.block_lt_of_cell? w _ hw49_3)).trans hw49_3),((HB.out.cell (World.block_lt_of_cell? w _ hw49_4)).trans hw49_4),((HB.out.cell (World.block_lt_of_cell? w _ hw49_5)).trans hw49_5),((HB.out.cell (World.block_lt_of_cell? w _ hw49_6)).trans hw49_6),((HB.out.cell (World.block_lt_of_cell? w _ hw49_7)).trans hw49_7),((HB.out.cell (World.block_lt_of_cell? w _ hw50_0)).trans hw50_0),((HB.out.cell (World.block_lt_of_cell? w _ hw50_1)).trans hw50_1),((HB.out.cell (World.block_lt_of_cell? w _ hw50_2)).trans hw50_2),((HB.out.cell (World.block_lt_of_cell? w _ hw50_3)).trans hw50_3),((HB.out.cell (World.block_lt_of_cell? w _ hw50_4)).trans hw50_4),((HB.out.cell (World.block_lt_of_cell? w _ hw50_5)).trans hw50_5),((HB.out.cell (World.block_lt_of_cell? w _ hw50_6)).trans hw50_6),((HB.out.cell (World.block_lt_of_cell? w _ hw50_7)).trans hw50_7),((HB.out.cell (World.block_lt_of_cell? w _ hw51_0)).trans hw51_0),((HB.out.cell (World.block_lt_of_cell? w _ hw51_1)).trans hw51_1),((HB.out.cell (World.block_lt_of_cell? w _ hw51_2)).trans hw51_2),((HB.out.cell (World.block_lt_of_cell? w _ hw51_3)).trans hw51_3),((HB.out.cell (World.block_lt_of_cell? w _ hw51_4)).trans hw51_4),((HB.out.cell (World.block_lt_of_cell? w _ hw51_5)).trans hw51_5),((HB.out.cell (World.block_lt_of_cell? w _ hw51_6)).trans hw51_6),((HB.out.cell (World.block_lt_of_cell? w _ hw51_7)).trans hw51_7),((HB.out.cell (World.block_lt_of_cell? w _ hw52_0)).trans hw52_0),((HB.out.cell (World.block_lt_of_cell? w _ hw52_1)).trans hw52_1),((HB.out.cell (World.block_lt_of_cell? w _ hw52_2)).trans hw52_2),((HB.out.cell (World.block_lt_of_cell? w _ hw52_3)).trans hw52_3),((HB.out.cell (World.block_lt_of_cell? w _ hw52_4)).trans hw52_4),((HB.out.cell (World.block_lt_of_cell? w _ hw52_5)).trans hw52_5),((HB.out.cell (World.block_lt_of_cell? w _ hw52_6)).trans hw52_6),((HB.out.cell (World.block_lt_of_cell? w _ hw52_7)).trans hw52_7),((HB.out.cell (World.block_lt_of_cell? w _ hw53_0)).trans hw53_0),((HB.out.cell (World.block_lt_of_cell? w _ hw53_1)).trans hw53_1),((HB.out.cell (World.block_lt_of_cell? w _ hw53_2)).trans hw53_2),((HB.out.cell (World.block_lt_of_cell? w _ hw53_3)).trans hw53_3),((HB.out.cell (World.block_lt_of_cell? w _ hw53_4)).trans hw53_4),((HB.out.cell (World.block_lt_of_cell? w _ hw53_5)).trans hw53_5),((HB.out.cell (World.block_lt_of_cell? w _ hw53_6)).trans hw53_6),((HB.out.cell (World.block_lt_of_cell? w _ hw53_7)).trans hw53_7)⟩ (fun hHeld=>?_)
      clear hK K
      refine norm_ (a' := ?_) ?_ ?_
      rotate_left
      ·show Act.put _ (some 53) _=_
       simp only [Act.put,zqA,zqB,zqC,i64_w,i32_w]
       rfl
      refine zpu 37 (N:=some 54) (zl 39 274877906943) HT_.out rfl rfl ?_
      refine zpu 38 (N:=some 55) (zl 39 549755813887) HT_.out rfl rfl ?_
      refine done_ (done_of HT_.out zb14) ?_
      try go_wp2
      go_ret
      exact ⟨zb6,zb0⟩
     subst c13
     rw [if_pos rfl] at H
     have H' := Aside0.mk H
     clear H
     try go_wp2
     replace HB:=Aside0.mk (below_drew1 HB.out)
     have p48:0 ≤ (x5_1:Int):=of_decide_eq_true zb1
     have q48:x5_1 < (l0.length:Int):=of_decide_eq_true zb1
     obtain ⟨ad48,A48_1,c48_1,e48,hx48_0,hx48_1,hx48_2,hx48_3,hx48_4,hx48_5,hx48_6,hx48_7,hl48_1,hi48_1⟩:=at_T64 HR0.out x5_1 p48 q48
     have hw48_7:=hx48_7
     have hw48_6:=hx48_6
     have hw48_5:=hx48_5
     have hw48_4:=hx48_4
     have hw48_3:=hx48_3
     have hw48_2:=hx48_2
     have hw48_1:=hx48_1
     have hw48_0:=hx48_0
     cases e48
     replace hx48_0:=(HB.out.cell (World.block_lt_of_cell? w _ hx48_0)).trans hx48_0
     replace hx48_1:=(HB.out.cell (World.block_lt_of_cell? w _ hx48_1)).trans hx48_1
     replace hx48_2:=(HB.out.cell (World.block_lt_of_cell? w _ hx48_2)).trans hx48_2
     replace hx48_3:=(HB.out.cell (World.block_lt_of_cell? w _ hx48_3)).trans hx48_3
     replace hx48_4:=(HB.out.cell (World.block_lt_of_cell? w _ hx48_4)).trans hx48_4
     replace hx48_5:=(HB.out.cell (World.block_lt_of_cell? w _ hx48_5)).trans hx48_5
     replace hx48_6:=(HB.out.cell (World.block_lt_of_cell? w _ hx48_6)).trans hx48_6
     replace hx48_7:=(HB.out.cell (World.block_lt_of_cell? w _ hx48_7)).trans hx48_7
     have HR48_1:=Aside0.mk hi48_1
     have HC48_1:=Aside0.mk hl48_1
     clear hi48_1 hl48_1
     replace p48:=eq_true p48
     replace q48:=eq_true q48
     have p49:0 ≤ (x5_1:Int):=of_decide_eq_true zb1
     have q49:x5_1 < (l1.length:Int):=of_decide_eq_true zb1
     obtain ⟨ad49,A49_1,c49_1,e49,hx49_0,hx49_1,hx49_2,hx49_3,hx49_4,hx49_5,hx49_6,hx49_7,hl49_1,hi49_1⟩:=at_T64 HR1.out x5_1 p49 q49
     have hw49_7:=hx49_7
     have hw49_6:=hx49_6
     have hw49_5:=hx49_5
     have hw49_4:=hx49_4
     have hw49_3:=hx49_3
     have hw49_2:=hx49_2
     have hw49_1:=hx49_1
     have hw49_0:=hx49_0
     cases e49
     replace hx49_0:=(HB.out.cell (World.block_lt_of_cell? w _ hx49_0)).trans hx49_0
     replace hx49_1:=(HB.out.cell (World.block_lt_of_cell? w _ hx49_1)).trans hx49_1
     replace hx49_2:=(HB.out.cell (World.block_lt_of_cell? w _ hx49_2)).trans hx49_2
     replace hx49_3:=(HB.out.cell (World.block_lt_of_cell? w _ hx49_3)).trans hx49_3
     replace hx49_4:=(HB.out.cell (World.block_lt_of_cell? w _ hx49_4)).trans hx49_4
     replace hx49_5:=(HB.out.cell (World.block_lt_of_cell? w _ hx49_5)).trans hx49_5
     replace hx49_6:=(HB.out.cell (World.block_lt_of_cell? w _ hx49_6)).trans hx49_6
     replace hx49_7:=(HB.out.cell (World.block_lt_of_cell? w _ hx49_7)).trans hx49_7
     have HR49_1:=Aside0.mk hi49_1
     have HC49_1:=Aside0.mk hl49_1
     clear hi49_1 hl49_1
     replace p49:=eq_true p49
     replace q49:=eq_true q49
     have p50:0 ≤ (x5_1:Int):=of_decide_eq_true zb1
     have q50:x5_1 < (l0.length:Int):=of_decide_eq_true zb1
     obtain ⟨ad50,A50_1,c50_1,e50,hx50_0,hx50_1,hx50_2,hx50_3,hx50_4,hx50_5,hx50_6,hx50_7,hl50_1,hi50_1⟩:=at_T64 HR0.out x5_1 p50 q50
     have hw50_7:=hx50_7
     have hw50_6:=hx50_6
     have hw50_5:=hx50_5
     have hw50_4:=hx50_4
     have hw50_3:=hx50_3
     have hw50_2:=hx50_2
     have hw50_1:=hx50_1
     have hw50_0:=hx50_0
     obtain rfl:ad48=ad50:=(by injection e50)
     replace hx50_0:=(HB.out.cell (World.block_lt_of_cell? w _ hx50_0)).trans hx50_0
     replace hx50_1:=(HB.out.cell (World.block_lt_of_cell? w _ hx50_1)).trans hx50_1
     replace hx50_2:=(HB.out.cell (World.block_lt_of_cell? w _ hx50_2)).trans hx50_2
     replace hx50_3:=(HB.out.cell (World.block_lt_of_cell? w _ hx50_3)).trans hx50_3
     replace hx50_4:=(HB.out.cell (World.block_lt_of_cell? w _ hx50_4)).trans hx50_4
     replace hx50_5:=(HB.out.cell (World.block_lt_of_cell? w _ hx50_5)).trans hx50_5
     replace hx50_6:=(HB.out.cell (World.block_lt_of_cell? w _ hx50_6)).trans hx50_6
     replace hx50_7:=(HB.out.cell (World.block_lt_of_cell? w _ hx50_7)).trans hx50_7
     have HR50_1:=Aside0.mk hi50_1
     have HC50_1:=Aside0.mk hl50_1
     clear hi50_1 hl50_1
     replace p50:=eq_true p50
     replace q50:=eq_true q50
     have ea_:=Option.some.inj (hx48_1.symm.trans hx50_1)
     injection ea_ with ea_ en_ ec_
     subst ea_
     subst ec_
     clear en_
     have p51:0 ≤ (x5_1:Int):=of_decide_eq_true zb1
     have q51:x5_1 < (l1.length:Int):=of_decide_eq_true zb1
     obtain ⟨ad51,A51_1,c51_1,e51,hx51_0,hx51_1,hx51_2,hx51_3,hx51_4,hx51_5,hx51_6,hx51_7,hl51_1,hi51_1⟩:=at_T64 HR1.out x5_1 p51 q51
     have hw51_7:=hx51_7
     have hw51_6:=hx51_6
     have hw51_5:=hx51_5
     have hw51_4:=hx51_4
     have hw51_3:=hx51_3
     have hw51_2:=hx51_2
     have hw51_1:=hx51_1
     have hw51_0:=hx51_0
     obtain rfl:ad49=ad51:=(by injection e51)
     replace hx51_0:=(HB.out.cell (World.block_lt_of_cell? w _ hx51_0)).trans hx51_0
     replace hx51_1:=(HB.out.cell (World.block_lt_of_cell? w _ hx51_1)).trans hx51_1
     replace hx51_2:=(HB.out.cell (World.block_lt_of_cell? w _ hx51_2)).trans hx51_2
     replace hx51_3:=(HB.out.cell (World.block_lt_of_cell? w _ hx51_3)).trans hx51_3
     replace hx51_4:=(HB.out.cell (World.block_lt_of_cell? w _ hx51_4)).trans hx51_4
     replace hx51_5:=(HB.out.cell (World.block_lt_of_cell? w _ hx51_5)).trans hx51_5
     replace hx51_6:=(HB.out.cell (World.block_lt_of_cell? w _ hx51_6)).trans hx51_6
     replace hx51_7:=(HB.out.cell (World.block_lt_of_cell? w _ hx51_7)).trans hx51_7
     have HR51_1:=Aside0.mk hi51_1
     have HC51_1:=Aside0.mk hl51_1
     clear hi51_1 hl51_1
     replace p51:=eq_true p51
     replace q51:=eq_true q51
     have ea_:=Option.some.inj (hx49_1.symm.trans hx51_1)
     injection ea_ with ea_ en_ ec_
     subst ea_
     subst ec_
     clear en_
     have p52:0 ≤ (x5_1:Int):=of_decide_eq_true zb1
     have q52:x5_1 < (l0.length:Int):=of_decide_eq_true zb1
     obtain ⟨ad52,A52_1,c52_1,e52,hx52_0,hx52_1,hx52_2,hx52_3,hx52_4,hx52_5,hx52_6,hx52_7,hl52_1,hi52_1⟩:=at_T64 HR0.out x5_1 p52 q52
     have hw52_7:=hx52_7
     have hw52_6:=hx52_6
     have hw52_5:=hx52_5
     have hw52_4:=hx52_4
     have hw52_3:=hx52_3
     have hw52_2:=hx52_2
     have hw52_1:=hx52_1
     have hw52_0:=hx52_0
     obtain rfl:ad48=ad52:=(by injection e52)
     replace hx52_0:=(HB.out.cell (World.block_lt_of_cell? w _ hx52_0)).trans hx52_0
     replace hx52_1:=(HB.out.cell (World.block_lt_of_cell? w _ hx52_1)).trans hx52_1
     replace hx52_2:=(HB.out.cell (World.block_lt_of_cell? w _ hx52_2)).trans hx52_2
     replace hx52_3:=(HB.out.cell (World.block_lt_of_cell? w _ hx52_3)).trans hx52_3
     replace hx52_4:=(HB.out.cell (World.block_lt_of_cell? w _ hx52_4)).trans hx52_4
     replace hx52_5:=(HB.out.cell (World.block_lt_of_cell? w _ hx52_5)).trans hx52_5
     replace hx52_6:=(HB.out.cell (World.block_lt_of_cell? w _ hx52_6)).trans hx52_6
     replace hx52_7:=(HB.out.cell (World.block_lt_of_cell? w _ hx52_7)).trans hx52_7
     have HR52_1:=Aside0.mk hi52_1
     have HC52_1:=Aside0.mk hl52_1
     clear hi52_1 hl52_1
     replace p52:=eq_true p52
     replace q52:=eq_true q52
     have ea_:=Option.some.inj (hx48_1.symm.trans hx52_1)
     injection ea_ with ea_ en_ ec_
     subst ea_
     subst ec_
     clear en_
     have p53:0 ≤ (x5_1:Int):=of_decide_eq_true zb1
     have q53:x5_1 < (l1.length:Int):=of_decide_eq_true zb1
     obtain ⟨ad53,A53_1,c53_1,e53,hx53_0,hx53_1,hx53_2,hx53_3,hx53_4,hx53_5,hx53_6,hx53_7,hl53_1,hi53_1⟩:=at_T64 HR1.out x5_1 p53 q53
     have hw53_7:=hx53_7
     have hw53_6:=hx53_6
     have hw53_5:=hx53_5
     have hw53_4:=hx53_4
     have hw53_3:=hx53_3
     have hw53_2:=hx53_2
     have hw53_1:=hx53_1
     have hw53_0:=hx53_0
     obtain rfl:ad49=ad53:=(by injection e53)
     replace hx53_0:=(HB.out.cell (World.block_lt_of_cell? w _ hx53_0)).trans hx53_0
     replace hx53_1:=(HB.out.cell (World.block_lt_of_cell? w _ hx53_1)).trans hx53_1
     replace hx53_2:=(HB.out.cell (World.block_lt_of_cell? w _ hx53_2)).trans hx53_2
     replace hx53_3:=(HB.out.cell (World.block_lt_of_cell? w _ hx53_3)).trans hx53_3
     replace hx53_4:=(HB.out.cell (World.block_lt_of_cell? w _ hx53_4)).trans hx53_4
     replace hx53_5:=(HB.out.cell (World.block_lt_of_cell? w _ hx53_5)).trans hx53_5
     replace hx53_6:=(HB.out.cell (World.block_lt_of_cell? w _ hx53_6)).trans hx53_6
     replace hx53_7:=(HB.out.cell (World.block_lt_of_cell? w _ hx53_7)).trans hx53_7
     have HR53_1:=Aside0.mk hi53_1
     have HC53_1:=Aside0.mk hl53_1
     clear hi53_1 hl53_1
     replace p53:=eq_true p53
     replace q53:=eq_true q53
     have ea_:=Option.some.inj (hx49_1.symm.trans hx53_1)
     injection ea_ with ea_ en_ ec_
     subst ea_
     subst ec_
     clear en_
     refine start_ (n:=39) (S:=fun w' => w'.cell? (ad48.add ((x5_1).toNat * 8))=some (.string ((rd_T64 l0 x5_1).f0))∧w'.cell? ⟨(ad48.add ((x5_1).toNat * 8)).block,(ad48.add ((x5_1).toNat * 8)).off + 1,none⟩=some (.slice A48_1 ((rd_T64 l0 x5_1).f1).length c48_1)∧w'.cell? ⟨(ad48.add ((x5_1).toNat * 8)).block,(ad48.add ((x5_1).toNat * 8)).off + 2,none⟩=some (.int .i64 ((rd_T64 l0 x5_1).f2))∧w'.cell? ⟨(ad48.add ((x5_1).toNat * 8)).block,(ad48.add ((x5_1).toNat * 8)).off + 3,none⟩=some (.int .i64 ((rd_T64 l0 x5_1).f3))∧w'.cell? ⟨(ad48.add ((x5_1).toNat * 8)).block,(ad48.add ((x5_1).toNat * 8)).off + 4,none⟩=some (.int .i64 ((rd_T64 l0 x5_1).f4))∧w'.cell? ⟨(ad48.add ((x5_1).toNat * 8)).block,(ad48.add ((x5_1).toNat * 8)).off + 5,none⟩=some (.int .i64 ((rd_T64 l0 x5_1).f5))∧w'.cell? ⟨(ad48.add ((x5_1).toNat * 8)).block,(ad48.add ((x5_1).toNat * 8)).off + 6,none⟩=some (.int .i64 ((rd_T64 l0 x5_1).f6))∧w'.cell? ⟨(ad48.add ((x5_1).toNat * 8)).block,(ad48.add ((x5_1).toNat * 8)).off + 7,none⟩=some (.int .i64 ((rd_T64 l0 x5_1).f7))∧w'.cell? (ad49.add ((x5_1).toNat * 8))=some (.string ((rd_T64 l1 x5_1).f0))∧w'.cell? ⟨(ad49.add ((x5_1).toNat * 8)).block,(ad49.add ((x5_1).toNat * 8)).off + 1,none⟩=some (.slice A49_1 ((rd_T64 l1 x5_1).f1).length c49_1)∧w'.cell? ⟨(ad49.add ((x5_1).toNat * 8)).block,(ad49.add ((x5_1).toNat * 8)).off + 2,none⟩=some (.int .i64 ((rd_T64 l1 x5_1).f2))∧w'.cell? ⟨(ad49.add ((x5_1).toNat * 8)).block,(ad49.add ((x5_1).toNat * 8)).off + 3,none⟩=some (.int .i64 ((rd_T64 l1 x5_1).f3))∧w'.cell? ⟨(ad49.add ((x5_1).toNat * 8)).block,(ad49.add ((x5_1).toNat * 8)).off + 4,none⟩=some (.int .i64 ((rd_T64 l1 x5_1).f4))∧w'.cell? ⟨(ad49.add ((x5_1).toNat * 8)).block,(ad49.add ((x5_1).toNat * 8)).off + 5,none⟩=some (.int .i64 ((rd_T64 l1 x5_1).f5))∧w'.cell? ⟨(ad49.add ((x5_1).toNat * 8)).block,(ad49.add ((x5_1).toNat * 8)).off + 6,none⟩=some (.int .i64 ((rd_T64 l1 x5_1).f6))∧w'.cell? ⟨(ad49.add ((x5_1).toNat * 8)).block,(ad49.add ((x5_1).toNat * 8)).off + 7,none⟩=some (.int .i64 ((rd_T64 l1 x5_1).f7))∧w'.cell? (ad48.add ((x5_1).toNat * 8))=some (.string ((rd_T64 l0 x5_1).f0))∧w'.cell? ⟨(ad48.add ((x5_1).toNat * 8)).block,(ad48.add ((x5_1).toNat * 8)).off + 1,none⟩=some (.slice A48_1 ((rd_T64 l0 x5_1).f1).length c48_1)∧w'.cell? ⟨(ad48.add ((x5_1).toNat * 8)).block,(ad48.add ((x5_1).toNat * 8)).off + 2,none⟩=some (.int .i64 ((rd_T64 l0 x5_1).f2))∧w'.cell? ⟨(ad48.add ((x5_1).toNat * 8)).block,(ad48.add ((x5_1).toNat * 8)).off + 3,none⟩=some (.int .i64 ((rd_T64 l0 x5_1).f3))∧w'.cell? ⟨(ad48.add ((x5_1).toNat * 8)).block,(ad48.add ((x5_1).toNat * 8)).off + 4,none⟩=some (.int .i64 ((rd_T64 l0 x5_1).f4))∧w'.cell? ⟨(ad48.add ((x5_1).toNat * 8)).block,(ad48.add ((x5_1).toNat * 8)).off + 5,none⟩=some (.int .i64 ((rd_T64 l0 x5_1).f5))∧w'.cell? ⟨(ad48.add ((x5_1).toNat * 8)).block,(ad48.add ((x5_1).toNat * 8)).off + 6,none⟩=some (.int .i64 ((rd_T64 l0 x5_1).f6))∧w'.cell? ⟨(ad48.add ((x5_1).toNat * 8)).block,(ad48.add ((x5_1).toNat * 8)).off + 7,none⟩=some (.int .i64 ((rd_T64 l0 x5_1).f7))∧w'.cell? (ad49.add ((x5_1).toNat * 8))=some (.string ((rd_T64 l1 x5_1).f0))∧w'.cell? ⟨(ad49.add ((x5_1).toNat * 8)).block,(ad49.add ((x5_1).toNat * 8)).off + 1,none⟩=some (.slice A49_1 ((rd_T64 l1 x5_1).f1).length c49_1)∧w'.cell? ⟨(ad49.add ((x5_1).toNat * 8)).block,(ad49.add ((x5_1).toNat * 8)).off + 2,none⟩=some (.int .i64 ((rd_T64 l1 x5_1).f2))∧w'.cell? ⟨(ad49.add ((x5_1).toNat * 8)).block,(ad49.add ((x5_1).toNat * 8)).off + 3,none⟩=some (.int .i64 ((rd_T64 l1 x5_1).f3))∧w'.cell? ⟨(ad49.add ((x5_1).toNat * 8)).block,(ad49.add ((x5_1).toNat * 8)).off + 4,none⟩=some (.int .i64 ((rd_T64 l1 x5_1).f4))∧w'.cell? ⟨(ad49.add ((x5_1).toNat * 8)).block,(ad49.add ((x5_1).toNat * 8)).off + 5,none⟩=some (.int .i64 ((rd_T64 l1 x5_1).f5))∧w'.cell? ⟨(ad49.add ((x5_1).toNat * 8)).block,(ad49.add ((x5_1).toNat * 8)).off + 6,none⟩=some (.int .i64 ((rd_T64 l1 x5_1).f6))∧w'.cell? ⟨(ad49.add ((x5_1).toNat * 8)).block,(ad49.add ((x5_1).toNat * 8)).off + 7,none⟩=some (.int .i64 ((rd_T64 l1 x5_1).f7))∧w'.cell? (ad48.add ((x5_1).toNat * 8))=some (.string ((rd_T64 l0 x5_1).f0))∧w'.cell? ⟨(ad48.add ((x5_1).toNat * 8)).block,(ad48.add ((x5_1).toNat * 8)).off + 1,none⟩=some (.slice A48_1 ((rd_T64 l0 x5_1).f1).length c48_1)∧w'.cell? ⟨(ad48.add ((x5_1).toNat * 8)).block,(ad48.add ((x5_1).toNat * 8)).off + 2,none⟩=some (.int .i64 ((rd_T64 l0 x5_1).f2))∧w'.cell? ⟨(ad48.add ((x5_1).toNat * 8)).block,(ad48.add ((x5_1).toNat * 8)).off + 3,none⟩=some (.int .i64 ((rd_T64 l0 x5_1).f3))∧w'.cell? ⟨(ad48.add ((x5_1).toNat * 8)).block,(ad48.add ((x5_1).toNat * 8)).off + 4,none⟩=some (.int .i64 ((rd_T64 l0 x5_1).f4))∧w'.cell? ⟨(ad48.add ((x5_1).toNat * 8)).block,(ad48.add ((x5_1).toNat * 8)).off + 5,none⟩=some (.int .i64 ((rd_T64 l0 x5_1).f5))∧w'.cell? ⟨(ad48.add ((x5_1).toNat * 8)).block,(ad48.add ((x5_1).toNat * 8)).off + 6,none⟩=some (.int .i64 ((rd_T64 l0 x5_1).f6))∧w'.cell? ⟨(ad48.add ((x5_1).toNat * 8)).block,(ad48.add ((x5_1).toNat * 8)).off + 7,none⟩=some (.int .i64 ((rd_T64 l0 x5_1).f7))∧w'.cell? (ad49.add ((x5_1).toNat * 8))=some (.string ((rd_T64 l1 x5_1).f0))∧w'.cell? ⟨(ad49.add ((x5_1).toNat * 8)).block,(ad49.add ((x5_1).toNat * 8)).off + 1,none⟩=some (.slice A49_1 ((rd_T64 l1 x5_1).f1).length c49_1)∧w'.cell? ⟨(ad49.add ((x5_1).toNat * 8)).block,(ad49.add ((x5_1).toNat * 8)).off + 2,none⟩=some (.int .i64 ((rd_T64 l1 x5_1).f2))∧w'.cell? ⟨(ad49.add ((x5_1).toNat * 8)).block,(ad49.add ((x5_1).toNat * 8)).off + 3,none⟩=some (.int .i64 ((rd_T64 l1 x5_1).f3))∧w'.cell? ⟨(ad49.add ((x5_1).toNat * 8)).block,(ad49.add ((x5_1).toNat * 8)).off + 4,none⟩=some (.int .i64 ((rd_T64 l1 x5_1).f4))∧w'.cell? ⟨(ad49.add ((x5_1).toNat * 8)).block,(ad49.add ((x5_1).toNat * 8)).off + 5,none⟩=some (.int .i64 ((rd_T64 l1 x5_1).f5))∧w'.cell? ⟨(ad49.add ((x5_1).toNat * 8)).block,(ad49.add ((x5_1).toNat * 8)).off + 6,none⟩=some (.int .i64 ((rd_T64 l1 x5_1).f6))∧w'.cell? ⟨(ad49.add ((x5_1).toNat * 8)).block,(ad49.add ((x5_1).toNat * 8)).off + 7,none⟩=some (.int .i64 ((rd_T64 l1 x5_1).f7))) (ds:=[]) (zl 39 0) zb14 rfl rfl ⟨((HB.out.cell (World.block_lt_of_cell? w _ hw48_0)).trans hw48_0),((HB.out.cell (World.block_lt_of_cell? w _ hw48_1)).trans hw48_1),((HB.out.cell (World.block_lt_of_cell? w _ hw48_2)).trans hw48_2),((HB.out.cell (World.block_lt_of_cell? w _ hw48_3)).trans hw48_3),((HB.out.cell (World.block_lt_of_cell? w _ hw48_4)).trans hw48_4),((HB.out.cell (World.block_lt_of_cell? w _ hw48_5)).trans hw48_5),((HB.out.cell (World.block_lt_of_cell? w _ hw48_6)).trans hw48_6),((HB.out.cell (World.block_lt_of_cell? w _ hw48_7)).trans hw48_7),((HB.out.cell (World.block_lt_of_cell? w _ hw49_0)).trans hw49_0),((HB.out.cell (World.block_lt_of_cell? w _ hw49_1)).trans hw49_1),((HB.out.cell (World.block_lt_of_cell? w _ hw49_2)).trans hw49_2),((HB.out.cell (World.block_lt_of_cell? w _ hw49_3)).trans hw49_3),((HB.out.cell (World.block_lt_of_cell? w _ hw49_4)).trans hw49_4),((HB.out.cell (World.block_lt_of_cell? w _ hw49_5)).trans hw49_5),((HB.out.cell (World.block_lt_of_cell? w _ hw49_6)).trans hw49_6),((HB.out.cell (World.block_lt_of_cell? w _ hw49_7)).trans hw49_7),((HB.out.cell (World.block_lt_of_cell? w _ hw50_0)).trans hw50_0),((HB.out.cell (World.block_lt_of_cell? w _ hw50_1)).trans hw50_1),((HB.out.cell (World.block_lt_of_cell? w _ hw50_2)).trans hw50_2),((HB.out.cell (World.block_lt_of_cell? w _ hw50_3)).trans hw50_3),((HB.out.cell (World.block_lt_of_cell? w _ hw50_4)).trans hw50_4),((HB.out.cell (World.block_lt_of_cell? w _ hw50_5)).trans hw50_5),((HB.out.cell (World.block_lt_of_cell? w _ hw50_6)).trans hw50_6),((HB.out.cell (World.block_lt_of_cell? w _ hw50_7)).trans hw50_7),((HB.out.cell (World.block_lt_of_cell? w _ hw51_0)).trans hw51_0),((HB.out.cell (World.block_lt_of_cell? w _ hw51_1)).trans hw51_1),((HB.out.cell (World.block_lt_of_cell? w _ hw51_2)).trans hw51_2),((HB.out.cell (World.block_lt_of_cell? w _ hw51_3)).trans hw51_3),((HB.out.cell (World.block_lt_of_cell? w _ hw51_4)).trans hw51_4),((HB.out.cell (World.block_lt_of_cell? w _ hw51_5)).trans hw51_5),((HB.out.cell (World.block_lt_of_cell? w _ hw51_6)).trans hw51_6),((HB.out.cell (World.block_lt_of_cell? w _ hw51_7)).trans hw51_7),((HB.out.cell (World.block_lt_of_cell? w _ hw52_0)).trans hw52_0),((HB.out.cell (World.block_lt_of_cell? w _ hw52_1)).trans hw52_1),((HB.out.cell (World.block_lt_of_cell? w _ hw52_2)).trans hw52_2),((HB.out.cell (World.block_lt_of_cell? w _ hw52_3)).trans hw52_3),((HB.out.cell (World.block_lt_of_cell? w _ hw52_4)).trans hw52_4),((HB.out.cell (World.block_lt_of_cell? w _ hw52_5)).trans hw52_5),((HB.out.cell (World.block_lt_of_cell? w _ hw52_6)).trans hw52_6),((HB.out.cell (World.block_lt_of_cell? w _ hw52_7)).trans hw52_7),((HB.out.cell (World.block_lt_of_cell? w _ hw53_0)).trans hw53_0),((HB.out.cell (World.block_lt_of_cell? w _ hw53_1)).trans hw53_1),((HB.out.cell (World.block_lt_of_cell? w _ hw53_2)).trans hw53_2),((HB.out.cell (World.block_lt_of_cell? w _ hw53_3)).trans hw53_3),((HB.out.cell (World.block_lt_of_cell? w _ hw53_4)).trans hw53_4),((HB.out.cell (World.block_lt_of_cell? w _ hw53_5)).trans hw53_5),((HB.out.cell (World.block_lt_of_cell? w _ hw53_6)).trans hw53_6),((HB.out.cell (World.block_lt_of_cell? w _ hw53_7)).trans hw53_7)⟩ (fun hHeld=>?_);refine with_tabW tollbarref09_Same.tab6 tollbarref09_Same.bits6 (fun HT_ HW_=>?_)
     generalize wr.drew=w14 at HB HR48_1 HR49_1 HR50_1 HR51_1 HR52_1 HR53_1 hx48_0 hx48_1 hx48_2 hx48_3 hx48_4 hx48_5 hx48_6 hx48_7 hx49_0 hx49_1 hx49_2 hx49_3 hx49_4 hx49_5 hx49_6 hx49_7 hx50_0 hx50_1 hx50_2 hx50_3 hx50_4 hx50_5 hx50_6 hx50_7 hx51_0 hx51_1 hx51_2 hx51_3 hx51_4 hx51_5 hx51_6 hx51_7 hx52_0 hx52_1 hx52_2 hx52_3 hx52_4 hx52_5 hx52_6 hx52_7 hx53_0 hx53_1 hx53_2 hx53_3 hx53_4 hx53_5 hx53_6 hx53_7 hHeld ⊢
     refine zpu 0 (N:=some 17) (zl 39 1) HT_.out rfl rfl ?_
     refine zpu 1 (N:=some 18) (zl 39 3) HT_.out rfl rfl ?_
     refine zpu 2 (N:=some 19) (zl 39 7) HT_.out rfl rfl ?_
     refine zpu 3 (N:=some 20) (zl 39 15) HT_.out rfl rfl ?_
     refine zpu 5 (N:=some 22) (zl 39 47) HT_.out rfl rfl ?_
     refine zpu 6 (N:=some 23) (zl 39 111) HT_.out rfl rfl ?_
     refine zpu 7 (N:=some 24) (zl 39 239) HT_.out rfl rfl ?_
     refine zpu 8 (N:=some 25) (zl 39 495) HT_.out rfl rfl ?_
     refine take_ (i:=4) (N:=some 21) (v:=?_) (a' := ?_) (zl 39 511) rfl rfl (take_ofW HT_.out HW_.out zb14) (fun _ _ _ h=>h) (Or.inl ⟨zb45,?_⟩) hHeld ?_ ?_
     rotate_left
     ·rintro w' ⟨s0,s1,s2,s3,s4,s5,s6,s7,s8,s9,s10,s11,s12,s13,s14,s15,s16,s17,s18,s19,s20,s21,s22,s23,s24,s25,s26,s27,s28,s29,s30,s31,s32,s33,s34,s35,s36,s37,s38,s39,s40,s41,s42,s43,s44,s45,s46,s47⟩;go_simp;with_reducible rfl
     rotate_left
     ·simp only [Act.put,zqA,zqB,zqC,i64_w,i32_w];rfl
     refine take_ (i:=9) (N:=some 26) (v:=?_) (a' := ?_) (zl 39 1023) rfl rfl (take_ofW HT_.out HW_.out zb14) (fun _ _ _ h=>h) (Or.inl ⟨zb45,?_⟩) hHeld ?_ ?_
     rotate_left
     ·rintro w' ⟨s0,s1,s2,s3,s4,s5,s6,s7,s8,s9,s10,s11,s12,s13,s14,s15,s16,s17,s18,s19,s20,s21,s22,s23,s24,s25,s26,s27,s28,s29,s30,s31,s32,s33,s34,s35,s36,s37,s38,s39,s40,s41,s42,s43,s44,s45,s46,s47⟩;go_simp;with_reducible rfl
     rotate_left
     ·simp only [Act.put,zqA,zqB,zqC,i64_w,i32_w];rfl
     refine zpu 10 (N:=some 27) (zl 39 2047) HT_.out rfl rfl ?_
     refine zpu 11 (N:=some 28) (zl 39 4095) HT_.out rfl rfl ?_
     refine zpu 12 (N:=some 29) (zl 39 8191) HT_.out rfl rfl ?_
     refine zpu 13 (N:=some 30) (zl 39 16383) HT_.out rfl rfl ?_
     refine zpu 14 (N:=some 31) (zl 39 32767) HT_.out rfl rfl ?_
     refine zpu 15 (N:=some 32) (zl 39 65535) HT_.out rfl rfl ?_
     refine zpu 17 (N:=some 34) (zl 39 196607) HT_.out rfl rfl ?_
     refine zpu 18 (N:=some 35) (zl 39 458751) HT_.out rfl rfl ?_
     refine zpu 19 (N:=some 36) (zl 39 983039) HT_.out rfl rfl ?_
     refine zpu 20 (N:=some 37) (zl 39 2031615) HT_.out rfl rfl ?_
     refine take_ (i:=16) (N:=some 33) (v:=?_) (a' := ?_) (zl 39 2097151) rfl rfl (take_ofW HT_.out HW_.out zb14) (fun _ _ _ h=>h) (Or.inl ⟨zb45,?_⟩) hHeld ?_ ?_
     rotate_left
     ·rintro w' ⟨s0,s1,s2,s3,s4,s5,s6,s7,s8,s9,s10,s11,s12,s13,s14,s15,s16,s17,s18,s19,s20,s21,s22,s23,s24,s25,s26,s27,s28,s29,s30,s31,s32,s33,s34,s35,s36,s37,s38,s39,s40,s41,s42,s43,s44,s45,s46,s47⟩;go_simp;with_reducible rfl
     rotate_left
     ·simp only [Act.put,zqA,zqB,zqC,i64_w,i32_w];rfl
     refine take_ (i:=21) (N:=some 38) (v:=?_) (a' := ?_) (zl 39 4194303) rfl rfl (take_ofW HT_.out HW_.out zb14) (fun _ _ _ h=>h) (Or.inl ⟨zb45,?_⟩) hHeld ?_ ?_
     rotate_left
     ·rintro w' ⟨s0,s1,s2,s3,s4,s5,s6,s7,s8,s9,s10,s11,s12,s13,s14,s15,s16,s17,s18,s19,s20,s21,s22,s23,s24,s25,s26,s27,s28,s29,s30,s31,s32,s33,s34,s35,s36,s37,s38,s39,s40,s41,s42,s43,s44,s45,s46,s47⟩;go_simp;with_reducible rfl
     rotate_left
     ·simp only [Act.put,zqA,zqB,zqC,i64_w,i32_w];rfl
     refine one_ (i:=22) (N:=some 39) (zl 39 8388607) rfl rfl (one_of HT_.out zb14) zb22 (fun K hK=>?_)
     refine goes_ Tryz.func40 zb14 rfl #[.slice A48_1 ((rd_T64 l0 x5_1).f1).length c48_1,.slice A49_1 ((rd_T64 l1 x5_1).f1).length c49_1] zb45 rfl rfl zb2 ?_
     with_reducible refine (tollbarref01_SameTexts.calls k1 _ _ ((rd_T64 l0 x5_1).f1) _ _ ((rd_T64 l1 x5_1).f1) true _ ?side1 ?side2 ?side3 ?side4 A8.out).mono ?_
     (case side1=>exact zb52)
     (case side2=>exact HC50_1.out)
     (case side3=>exact zb53)
     (case side4=>exact HC51_1.out)
     rintro e w' ⟨rfl,⟨nd,rfl⟩⟩
     refine ⟨_,rfl,?_⟩
     refine hK.out _ _ ⟨((HB.out.cell (World.block_lt_of_cell? w _ hw48_0)).trans hw48_0),((HB.out.cell (World.block_lt_of_cell? w _ hw48_1)).trans hw48_1),((HB.out.cell (World.block_lt_of_cell? w _ hw48_2)).trans hw48_2),((HB.out.cell (World.block_lt_of_cell? w _ hw48_3)).trans hw48_3),((HB.out.cell (World.block_lt_of_cell? w _ hw48_4)).trans hw48_4),((HB.out.cell (World.block_lt_of_cell? w _ hw48_5)).trans hw48_5),((HB.out.cell (World.block_lt_of_cell? w _ hw48_6)).trans hw48_6),((HB.out.cell (World.block_lt_of_cell? w _ hw48_7)).trans hw48_7),((HB.out.cell (World.block_lt_of_cell? w _ hw49_0)).trans hw49_0),((HB.out.cell (World.block_lt_of_cell? w _ hw49_1)).trans hw49_1),((HB.out.cell (World.block_lt_of_cell? w _ hw49_2)).trans hw49_2),((HB.out.cell (World.block_lt_of_cell? w _ hw49_3)).trans hw49_3),((HB.out.cell (World.block_lt_of_cell? w _ hw49_4)).trans hw49_4),((HB.out.cell (World.block_lt_of_cell? w _ hw49_5)).trans hw49_5),((HB.out.cell (World.block_lt_of_cell? w _ hw49_6)).trans hw49_6),((HB.out.cell (World.block_lt_of_cell? w _ hw49_7)).trans hw49_7),((HB.out.cell (World.block_lt_of_cell? w _ hw50_0)).trans hw50_0),((HB.out.cell (World.block_lt_of_cell? w _ hw50_1)).trans hw50_1),((HB.out.cell (World.block_lt_of_cell? w _ hw50_2)).trans hw50_2),((HB.out.cell (World.block_lt_of_cell? w _ hw50_3)).trans hw50_3),((HB.out.cell (World.block_lt_of_cell? w _ hw50_4)).trans hw50_4),((HB.out.cell (World.block_lt_of_cell? w _ hw50_5)).trans hw50_5),((HB.out.cell (World.block_lt_of_cell? w _ hw50_6)).trans hw50_6),((HB.out.cell (World.block_lt_of_cell? w _ hw50_7)).trans hw50_7),((HB.out.cell (World.block_lt_of_cell? w _ hw51_0)).trans hw51_0),((HB.out.cell (World.block_lt_of_cell? w _ hw51_1)).trans hw51_1),((HB.out.cell (World.block_lt_of_cell? w _ hw51_2)).trans hw51_2),((HB.out.cell (World.block_lt_of_cell? w _ hw51_3)).trans hw51_3),((HB.out.cell (World.block_lt_of_cell? w _ hw51_4)).trans hw51_4),((HB.out.cell (World.block_lt_of_cell? w _ hw51_5)).trans hw51_5),((HB.out.cell (World.block_lt_of_cell? w _ hw51_6)).trans hw51_6),((HB.out.cell (World.block_lt_of_cell? w _ hw51_7)).trans hw51_7),((HB.out.cell (World.block_lt_of_cell? w _ hw52_0)).trans hw52_0),((HB.out.cell (World.block_lt_of_cell? w _ hw52_1)).trans hw52_1),((HB.out.cell (World.block_lt_of_cell? w _ hw52_2)).trans hw52_2),((HB.out.cell (World.block_lt_of_cell? w _ hw52_3)).trans hw52_3),((HB.out.cell (World.block_lt_of_cell? w _ hw52_4)).trans hw52_4),((HB.out.cell (World.block_lt_of_cell? w _ hw52_5)).trans hw52_5),((HB.out.cell (World.block_lt_of_cell? w _ hw52_6)).trans hw52_6),((HB.out.cell (World.block_lt_of_cell? w _ hw52_7)).trans hw52_7),((HB.out.cell (World.block_lt_of_cell? w _ hw53_0)).trans hw53_0),((HB.out.cell (World.block_lt_of_cell? w _ hw53_1)).trans hw53_1),((HB.out.cell (World.block_lt_of_cell? w _ hw53_2)).trans hw53_2),((HB.out.cell (World.block_lt_of_cell? w _ hw53_3)).trans hw53_3),((HB.out.cell (World.block_lt_of_cell? w _ hw53_4)).trans hw53_4),((HB.out.cell (World.block_lt_of_cell? w _ hw53_5)).trans hw53_5),((HB.out.cell (World.block_lt_of_cell? w _ hw53_6)).trans hw53_6),((HB.out.cell (World.block_lt_of_cell? w _ hw53_7)).trans hw53_7)⟩ (fun hHeld=>?_)
     clear hK K
     refine norm_ (a' := ?_) ?_ ?_
     rotate_left
     ·show Act.put _ (some 39) _=_
      simp only [Act.put,zqA,zqB,zqC,i64_w,i32_w]
      rfl
     refine zpu 23 (N:=some 40) (zl 39 16777215) HT_.out rfl rfl ?_
     refine zpu 24 (N:=some 41) (zl 39 33554431) HT_.out rfl rfl ?_
     refine zpu 25 (N:=some 42) (zl 39 67108863) HT_.out rfl rfl ?_
     refine zpu 26 (N:=some 43) (zl 39 134217727) HT_.out rfl rfl ?_
     refine zpu 27 (N:=some 44) (zl 39 268435455) HT_.out rfl rfl ?_
     refine zpu 28 (N:=some 45) (zl 39 536870911) HT_.out rfl rfl ?_
     refine zpu 31 (N:=some 48) (zl 39 2684354559) HT_.out rfl rfl ?_
     refine zpu 32 (N:=some 49) (zl 39 6979321855) HT_.out rfl rfl ?_
     refine zpu 33 (N:=some 50) (zl 39 15569256447) HT_.out rfl rfl ?_
     refine take_ (i:=29) (N:=some 46) (v:=?_) (a' := ?_) (zl 39 16106127359) rfl rfl (take_ofW HT_.out HW_.out zb14) (fun _ _ _ h=>h) (Or.inl ⟨zb45,?_⟩) hHeld ?_ ?_
     rotate_left
     ·rintro w' ⟨s0,s1,s2,s3,s4,s5,s6,s7,s8,s9,s10,s11,s12,s13,s14,s15,s16,s17,s18,s19,s20,s21,s22,s23,s24,s25,s26,s27,s28,s29,s30,s31,s32,s33,s34,s35,s36,s37,s38,s39,s40,s41,s42,s43,s44,s45,s46,s47⟩;go_simp;with_reducible rfl
     rotate_left
     ·simp only [Act.put,zqA,zqB,zqC,i64_w,i32_w];rfl
     refine take_ (i:=34) (N:=some 51) (v:=?_) (a' := ?_) (zl 39 33285996543) rfl rfl (take_ofW HT_.out HW_.out zb14) (fun _ _ _ h=>h) (Or.inl ⟨zb45,?_⟩) hHeld ?_ ?_
     rotate_left
     ·rintro w' ⟨s0,s1,s2,s3,s4,s5,s6,s7,s8,s9,s10,s11,s12,s13,s14,s15,s16,s17,s18,s19,s20,s21,s22,s23,s24,s25,s26,s27,s28,s29,s30,s31,s32,s33,s34,s35,s36,s37,s38,s39,s40,s41,s42,s43,s44,s45,s46,s47⟩;go_simp;with_reducible rfl
     rotate_left
     ·simp only [Act.put,zqA,zqB,zqC,i64_w,i32_w];rfl
     refine one_ (i:=30) (N:=some 47) (zl 39 34359738367) rfl rfl (one_of HT_.out zb14) zb22 (fun K hK=>?_)
     refine goes_ Tryz.func42 zb14 rfl #[.agg #[.string ((rd_T64 l0 x5_1).f0),.slice A48_1 ((rd_T64 l0 x5_1).f1).length c48_1,.int .i64 ((rd_T64 l0 x5_1).f2),.int .i64 ((rd_T64 l0 x5_1).f3),.int .i64 ((rd_T64 l0 x5_1).f4),.int .i64 ((rd_T64 l0 x5_1).f5),.int .i64 ((rd_T64 l0 x5_1).f6),.int .i64 ((rd_T64 l0 x5_1).f7)]] zb45 rfl rfl zb2 ?_
     with_reducible refine (tollbarref09_numbers.calls ((rd_T64 l0 x5_1).f0) _ _ ((rd_T64 l0 x5_1).f1) ((rd_T64 l0 x5_1).f2) ((rd_T64 l0 x5_1).f3) ((rd_T64 l0 x5_1).f4) ((rd_T64 l0 x5_1).f5) ((rd_T64 l0 x5_1).f6) ((rd_T64 l0 x5_1).f7) t56 _ ?side1 ?side2 A10.out).mono ?_
     (case side1=>exact zb48)
     (case side2=>exact HC52_1.out)
     rintro e w15 ⟨v63,rfl,ho0,hb⟩
     refine ⟨_,rfl,?_⟩
     have n0_:=Aside0.mk (Kd.R_lower ho0 (below_size zb0))
     have n1_:=Aside0.mk (below_step zb0 hb)
     clear HB
     have HO54:=n0_
     have HB:=n1_
     clear n0_ n1_
     (try clear hb)
     (try clear hb2)
     (try clear hk)
     (try clear hi)
     (try clear ho0)
     refine hK.out _ _ ⟨((HB.out.cell (World.block_lt_of_cell? w _ hw48_0)).trans hw48_0),((HB.out.cell (World.block_lt_of_cell? w _ hw48_1)).trans hw48_1),((HB.out.cell (World.block_lt_of_cell? w _ hw48_2)).trans hw48_2),((HB.out.cell (World.block_lt_of_cell? w _ hw48_3)).trans hw48_3),((HB.out.cell (World.block_lt_of_cell? w _ hw48_4)).trans hw48_4),((HB.out.cell (World.block_lt_of_cell? w _ hw48_5)).trans hw48_5),((HB.out.cell (World.block_lt_of_cell? w _ hw48_6)).trans hw48_6),((HB.out.cell (World.block_lt_of_cell? w _ hw48_7)).trans hw48_7),((HB.out.cell (World.block_lt_of_cell? w _ hw49_0)).trans hw49_0),((HB.out.cell (World.block_lt_of_cell? w _ hw49_1)).trans hw49_1),((HB.out.cell (World.block_lt_of_cell? w _ hw49_2)).trans hw49_2),((HB.out.cell (World.block_lt_of_cell? w _ hw49_3)).trans hw49_3),((HB.out.cell (World.block_lt_of_cell? w _ hw49_4)).trans hw49_4),((HB.out.cell (World.block_lt_of_cell? w _ hw49_5)).trans hw49_5),((HB.out.cell (World.block_lt_of_cell? w _ hw49_6)).trans hw49_6),((HB.out.cell (World.block_lt_of_cell? w _ hw49_7)).trans hw49_7),((HB.out.cell (World.block_lt_of_cell? w _ hw50_0)).trans hw50_0),((HB.out.cell (World.block_lt_of_cell? w _ hw50_1)).trans hw50_1),((HB.out.cell (World.block_lt_of_cell? w _ hw50_2)).trans hw50_2),((HB.out.cell (World.block_lt_of_cell? w _ hw50_3)).trans hw50_3),((HB.out.cell (World.block_lt_of_cell? w _ hw50_4)).trans hw50_4),((HB.out.cell (World.block_lt_of_cell? w _ hw50_5)).trans hw50_5),((HB.out.cell (World.block_lt_of_cell? w _ hw50_6)).trans hw50_6),((HB.out.cell (World.block_lt_of_cell? w _ hw50_7)).trans hw50_7),((HB.out.cell (World.block_lt_of_cell? w _ hw51_0)).trans hw51_0),((HB.out.cell (World.block_lt_of_cell? w _ hw51_1)).trans hw51_1),((HB.out.cell (World.block_lt_of_cell? w _ hw51_2)).trans hw51_2),((HB.out.cell (World.block_lt_of_cell? w _ hw51_3)).trans hw51_3),((HB.out.cell (World.block_lt_of_cell? w _ hw51_4)).trans hw51_4),((HB.out.cell (World.block_lt_of_cell? w _ hw51_5)).trans hw51_5),((HB.out.cell (World.block_lt_of_cell? w _ hw51_6)).trans hw51_6),((HB.out.cell (World.block_lt_of_cell? w _ hw51_7)).trans hw51_7),((HB.out.cell (World.block_lt_of_cell? w _ hw52_0)).trans hw52_0),((HB.out.cell (World.block_lt_of_cell? w _ hw52_1)).trans hw52_1),((HB.out.cell (World.block_lt_of_cell? w _ hw52_2)).trans hw52_2),((HB.out.cell (World.block_lt_of_cell? w _ hw52_3)).trans hw52_3),((HB.out.cell (World.block_lt_of_cell? w _ hw52_4)).trans hw52_4),((HB.out.cell (World.block_lt_of_cell? w _ hw52_5)).trans hw52_5),((HB.out.cell (World.block_lt_of_cell? w _ hw52_6)).trans hw52_6),((HB.out.cell (World.block_lt_of_cell? w _ hw52_7)).trans hw52_7),((HB.out.cell (World.block_lt_of_cell? w _ hw53_0)).trans hw53_0),((HB.out.cell (World.block_lt_of_cell? w _ hw53_1)).trans hw53_1),((HB.out.cell (World.block_lt_of_cell? w _ hw53_2)).trans hw53_2),((HB.out.cell (World.block_lt_of_cell? w _ hw53_3)).trans hw53_3),((HB.out.cell (World.block_lt_of_cell? w _ hw53_4)).trans hw53_4),((HB.out.cell (World.block_lt_of_cell? w _ hw53_5)).trans hw53_5),((HB.out.cell (World.block_lt_of_cell? w _ hw53_6)).trans hw53_6),((HB.out.cell (World.block_lt_of_cell? w _ hw53_7)).trans hw53_7)⟩ (fun hHeld=>?_)
     clear hK K
     refine norm_ (a' := ?_) ?_ ?_
     rotate_left
     ·show Act.put _ (some 47) _=_
      simp only [Act.put,zqA,zqB,zqC,i64_w,i32_w]
      rfl
     refine one_ (i:=35) (N:=some 52) (zl 39 68719476735) rfl rfl (one_of HT_.out zb14) zb22 (fun K hK=>?_)
     refine goes_ Tryz.func42 zb14 rfl #[.agg #[.string ((rd_T64 l1 x5_1).f0),.slice A49_1 ((rd_T64 l1 x5_1).f1).length c49_1,.int .i64 ((rd_T64 l1 x5_1).f2),.int .i64 ((rd_T64 l1 x5_1).f3),.int .i64 ((rd_T64 l1 x5_1).f4),.int .i64 ((rd_T64 l1 x5_1).f5),.int .i64 ((rd_T64 l1 x5_1).f6),.int .i64 ((rd_T64 l1 x5_1).f7)]] zb45 rfl rfl zb2 ?_
     with_reducible refine (tollbarref09_numbers.calls ((rd_T64 l1 x5_1).f0) _ _ ((rd_T64 l1 x5_1).f1) ((rd_T64 l1 x5_1).f2) ((rd_T64 l1 x5_1).f3) ((rd_T64 l1 x5_1).f4) ((rd_T64 l1 x5_1).f5) ((rd_T64 l1 x5_1).f6) ((rd_T64 l1 x5_1).f7) t55 _ ?side1 ?side2 A11.out).mono ?_
     (case side1=>exact zb69)
     (case side2=>exact HC53_1.out)
     rintro e w16 ⟨v65,rfl,ho0,hb⟩
     refine ⟨_,rfl,?_⟩
     have n0_:=Aside0.mk (Kd.R_elder' zb61 (Kd.R_base ho0) hb)
     have n1_:=Aside0.mk (Kd.R_lower (Kd.R_new' ho0 (Kd.R_lt zb61)) (below_size zb0))
     have n2_:=Aside0.mk (below_step zb0 hb)
     clear HO54 HB
     have HO54:=n0_
     have HO58:=n1_
     have HB:=n2_
     clear n0_ n1_ n2_
     (try clear hb)
     (try clear hb2)
     (try clear hk)
     (try clear hi)
     (try clear ho0)
     obtain ⟨Ao17,co17,eo17⟩:=Kd.R_slice HO54.out
     (first|subst eo17|(injection eo17 with f1_ f2_ f3_;have f4_:=f1_.symm;have f5_:=f3_.symm;clear f1_ f2_ f3_;subst f4_;subst f5_))
     obtain ⟨Ao18,co18,eo18⟩:=Kd.R_slice HO58.out
     (first|subst eo18|(injection eo18 with f1_ f2_ f3_;have f4_:=f1_.symm;have f5_:=f3_.symm;clear f1_ f2_ f3_;subst f4_;subst f5_))
     refine hK.out _ _ ⟨((HB.out.cell (World.block_lt_of_cell? w _ hw48_0)).trans hw48_0),((HB.out.cell (World.block_lt_of_cell? w _ hw48_1)).trans hw48_1),((HB.out.cell (World.block_lt_of_cell? w _ hw48_2)).trans hw48_2),((HB.out.cell (World.block_lt_of_cell? w _ hw48_3)).trans hw48_3),((HB.out.cell (World.block_lt_of_cell? w _ hw48_4)).trans hw48_4),((HB.out.cell (World.block_lt_of_cell? w _ hw48_5)).trans hw48_5),((HB.out.cell (World.block_lt_of_cell? w _ hw48_6)).trans hw48_6),((HB.out.cell (World.block_lt_of_cell? w _ hw48_7)).trans hw48_7),((HB.out.cell (World.block_lt_of_cell? w _ hw49_0)).trans hw49_0),((HB.out.cell (World.block_lt_of_cell? w _ hw49_1)).trans hw49_1),((HB.out.cell (World.block_lt_of_cell? w _ hw49_2)).trans hw49_2),((HB.out.cell (World.block_lt_of_cell? w _ hw49_3)).trans hw49_3),((HB.out.cell (World.block_lt_of_cell? w _ hw49_4)).trans hw49_4),((HB.out.cell (World.block_lt_of_cell? w _ hw49_5)).trans hw49_5),((HB.out.cell (World.block_lt_of_cell? w _ hw49_6)).trans hw49_6),((HB.out.cell (World.block_lt_of_cell? w _ hw49_7)).trans hw49_7),((HB.out.cell (World.block_lt_of_cell? w _ hw50_0)).trans hw50_0),((HB.out.cell (World.block_lt_of_cell? w _ hw50_1)).trans hw50_1),((HB.out.cell (World.block_lt_of_cell? w _ hw50_2)).trans hw50_2),((HB.out.cell (World.block_lt_of_cell? w _ hw50_3)).trans hw50_3),((HB.out.cell (World.block_lt_of_cell? w _ hw50_4)).trans hw50_4),((HB.out.cell (World.block_lt_of_cell? w _ hw50_5)).trans hw50_5),((HB.out.cell (World.block_lt_of_cell? w _ hw50_6)).trans hw50_6),((HB.out.cell (World.block_lt_of_cell? w _ hw50_7)).trans hw50_7),((HB.out.cell (World.block_lt_of_cell? w _ hw51_0)).trans hw51_0),((HB.out.cell (World.block_lt_of_cell? w _ hw51_1)).trans hw51_1),((HB.out.cell (World.block_lt_of_cell? w _ hw51_2)).trans hw51_2),((HB.out.cell (World.block_lt_of_cell? w _ hw51_3)).trans hw51_3),((HB.out.cell (World.block_lt_of_cell? w _ hw51_4)).trans hw51_4),((HB.out.cell (World.block_lt_of_cell? w _ hw51_5)).trans hw51_5),((HB.out.cell (World.block_lt_of_cell? w _ hw51_6)).trans hw51_6),((HB.out.cell (World.block_lt_of_cell? w _ hw51_7)).trans hw51_7),((HB.out.cell (World.block_lt_of_cell? w _ hw52_0)).trans hw52_0),((HB.out.cell (World.block_lt_of_cell? w _ hw52_1)).trans hw52_1),((HB.out.cell (World.block_lt_of_cell? w _ hw52_2)).trans hw52_2),((HB.out.cell (World.block_lt_of_cell? w _ hw52_3)).trans hw52_3),((HB.out.cell (World.block_lt_of_cell? w _ hw52_4)).trans hw52_4),((HB.out.cell (World.block_lt_of_cell? w _ hw52_5)).trans hw52_5),((HB.out.cell (World.block_lt_of_cell? w _ hw52_6)).trans hw52_6),((HB.out.cell (World.block_lt_of_cell? w _ hw52_7)).trans hw52_7),((HB.out.cell (World.block_lt_of_cell? w _ hw53_0)).trans hw53_0),((HB.out.cell (World.block_lt_of_cell? w _ hw53_1)).trans hw53_1),((HB.out.cell (World.block_lt_of_cell? w _ hw53_2)).trans hw53_2),((HB.out.cell (World.block_lt_of_cell? w _ hw53_3)).trans hw53_3),((HB.out.cell (World.block_lt_of_cell? w _ hw53_4)).trans hw53_4),((HB.out.cell (World.block_lt_of_cell? w _ hw53_5)).trans hw53_5),((HB.out.cell (World.block_lt_of_cell? w _ hw53_6)).trans hw53_6),((HB.out.cell (World.block_lt_of_cell? w _ hw53_7)).trans hw53_7)⟩ (fun hHeld=>?_)
     clear hK K
     refine norm_ (a' := ?_) ?_ ?_
     rotate_left
     ·show Act.put _ (some 52) _=_
      simp only [Act.put,zqA,zqB,zqC,i64_w,i32_w]
      rfl
     refine one_ (i:=36) (N:=some 53) (zl 39 137438953471) rfl rfl (one_of HT_.out zb14) zb22 (fun K hK=>?_)
     refine goes_ Tryz.func41 zb14 rfl #[.slice Ao17 t56.length co17,.slice Ao18 t55.length co18] zb45 rfl rfl zb2 ?_
     with_reducible refine (tollbarref01_SameInts.calls k1 _ _ t56 _ _ t55 true _ ?side1 ?side2 ?side3 ?side4 A12.out).mono ?_
     (case side1=>exact zb74)
     (case side2=>exact (Kd.R_reads' HO54.out).2.1)
     (case side3=>exact zb75)
     (case side4=>exact (Kd.R_reads' HO58.out).2.1)
     rintro e w' ⟨rfl,⟨nd,rfl⟩⟩
     refine ⟨_,rfl,?_⟩
     refine hK.out _ _ ⟨((HB.out.cell (World.block_lt_of_cell? w _ hw48_0)).trans hw48_0),((HB.out.cell (World.block_lt_of_cell? w _ hw48_1)).trans hw48_1),((HB.out.cell (World.block_lt_of_cell? w _ hw48_2)).trans hw48_2),((HB.out.cell (World.block_lt_of_cell? w _ hw48_3)).trans hw48_3),((HB.out.cell (World.block_lt_of_cell? w _ hw48_4)).trans hw48_4),((HB.out.cell (World.block_lt_of_cell? w _ hw48_5)).trans hw48_5),((HB.out.cell (World.block_lt_of_cell? w _ hw48_6)).trans hw48_6),((HB.out.cell (World.block_lt_of_cell? w _ hw48_7)).trans hw48_7),((HB.out.cell (World.block_lt_of_cell? w _ hw49_0)).trans hw49_0),((HB.out.cell (World.block_lt_of_cell? w _ hw49_1)).trans hw49_1),((HB.out.cell (World.block_lt_of_cell? w _ hw49_2)).trans hw49_2),((HB.out.cell (World.block_lt_of_cell? w _ hw49_3)).trans hw49_3),((HB.out.cell (World.block_lt_of_cell? w _ hw49_4)).trans hw49_4),((HB.out.cell (World.block_lt_of_cell? w _ hw49_5)).trans hw49_5),((HB.out.cell (World.block_lt_of_cell? w _ hw49_6)).trans hw49_6),((HB.out.cell (World.block_lt_of_cell? w _ hw49_7)).trans hw49_7),((HB.out.cell (World.block_lt_of_cell? w _ hw50_0)).trans hw50_0),((HB.out.cell (World.block_lt_of_cell? w _ hw50_1)).trans hw50_1),((HB.out.cell (World.block_lt_of_cell? w _ hw50_2)).trans hw50_2),((HB.out.cell (World.block_lt_of_cell? w _ hw50_3)).trans hw50_3),((HB.out.cell (World.block_lt_of_cell? w _ hw50_4)).trans hw50_4),((HB.out.cell (World.block_lt_of_cell? w _ hw50_5)).trans hw50_5),((HB.out.cell (World.block_lt_of_cell? w _ hw50_6)).trans hw50_6),((HB.out.cell (World.block_lt_of_cell? w _ hw50_7)).trans hw50_7),((HB.out.cell (World.block_lt_of_cell? w _ hw51_0)).trans hw51_0),((HB.out.cell (World.block_lt_of_cell? w _ hw51_1)).trans hw51_1),((HB.out.cell (World.block_lt_of_cell? w _ hw51_2)).trans hw51_2),((HB.out.cell (World.block_lt_of_cell? w _ hw51_3)).trans hw51_3),((HB.out.cell (World.block_lt_of_cell? w _ hw51_4)).trans hw51_4),((HB.out.cell (World.block_lt_of_cell? w _ hw51_5)).trans hw51_5),((HB.out.cell (World.block_lt_of_cell? w _ hw51_6)).trans hw51_6),((HB.out.cell (World.block_lt_of_cell? w _ hw51_7)).trans hw51_7),((HB.out.cell (World.block_lt_of_cell? w _ hw52_0)).trans hw52_0),((HB.out.cell (World.block_lt_of_cell? w _ hw52_1)).trans hw52_1),((HB.out.cell (World.block_lt_of_cell? w _ hw52_2)).trans hw52_2),((HB.out.cell (World.block_lt_of_cell? w _ hw52_3)).trans hw52_3),((HB.out.cell (World.block_lt_of_cell? w _ hw52_4)).trans hw52_4),((HB.out.cell (World.block_lt_of_cell? w _ hw52_5)).trans hw52_5),((HB.out.cell (World.block_lt_of_cell? w _ hw52_6)).trans hw52_6),((HB.out.cell (World.block_lt_of_cell? w _ hw52_7)).trans hw52_7),((HB.out.cell (World.block_lt_of_cell? w _ hw53_0)).trans hw53_0),((HB.out.cell (World.block_lt_of_cell? w _ hw53_1)).trans hw53_1),((HB.out.cell (World.block_lt_of_cell? w _ hw53_2)).trans hw53_2),((HB.out.cell (World.block_lt_of_cell? w _ hw53_3)).trans hw53_3),((HB.out.cell (World.block_lt_of_cell? w _ hw53_4)).trans hw53_4),((HB.out.cell (World.block_lt_of_cell? w _ hw53_5)).trans hw53_5),((HB.out.cell (World.block_lt_of_cell? w _ hw53_6)).trans hw53_6),((HB.out.cell (World.block_lt_of_cell? w _ hw53_7)).trans hw53_7)⟩ (fun hHeld=>?_)
     clear hK K
     refine norm_ (a' := ?_) ?_ ?_
     rotate_left
     ·show Act.put _ (some 53) _=_
      simp only [Act.put,zqA,zqB,zqC,i64_w,i32_w]
      rfl
     refine zpu 37 (N:=some 54) (zl 39 274877906943) HT_.out rfl rfl ?_
     refine zpu 38 (N:=some 55) (zl 39 549755813887) HT_.out rfl rfl ?_
     refine done_ (done_of HT_.out zb14) ?_
     try go_wp2
     go_roundg k1
     case measure=>have:=HK1.out;omega
     case rel=>exact ⟨(wrap64 (x5_1 + 1)),zb5,H',⟨zb54⟩,⟨zb0⟩⟩
    ·rw [if_neg c5] at H
     exact absurd H zb24
   ·rw [if_neg c4] at H
    have c4b0:=decide_eq_false c4
    clear c4
    obtain rfl:=Option.some.inj H
    go_wp2
    go_ret
    exact ⟨zb6,zb0⟩
end Go.Proofs.YtclpanalnbmejaaGreatDoor.P
