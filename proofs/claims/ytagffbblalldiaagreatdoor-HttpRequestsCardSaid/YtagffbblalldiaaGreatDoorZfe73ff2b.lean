/- Each function below answers as its Lean twin says; plain lemmas; a row where its theorem stands. No further condition. (Laid by this repo's pack.py out of its texts and of the print's words.) -/
import Derived.Test.YtagffbblalldiaaGreatDoorZ8a043510
import Derived.Test.YtagffbblalldiaaGreatDoorZ71c394fb
import Derived.Test.YtagffbblalldiaaGreatDoorZbf959539
set_option maxRecDepth 100000
set_option maxHeartbeats 16000000
namespace Go.Proofs.YtagffbblalldiaaGreatDoor.P
open Go.RowKit Go.Proofs.YtagffbblalldiaaGreatDoorW.PrintWords Go.Proofs.YtagffbblalldiaaGreatDoorW.PrintLast Go.Proofs.YtagffbblalldiaaGreatDoorW.PrintMore
attribute [local go_sem] max2_int min2_int max_two min_two max_three min_three max_four min_four
set_option linter.unusedVariables false
set_option linter.unusedSimpArgs false
def tollbarref04_Parse.l0:Nat → ByteArray → Int → Option (ByteArray × ByteArray × Bool)
 | 0,_,_=>none
 | k + 1,x0,x4=>if x4 < (x0.size:Int) then (if 0 ≤ x4 then (if (bt x0 x4)=58 then (if x4 ≤ (x0.size:Int) then (if 0 ≤ (wrap64 (x4 + 1)) then (if (wrap64 (x4 + 1)) ≤ (x0.size:Int) then ((tollbarref02_Trim.f k (x0.extract ((wrap64 (x4 + 1)):Int).toNat x0.size)).bind fun t421=>((tollbarref04_One.f k (x0.extract 0 (x4:Int).toNat) t421).bind fun t423=>(if t423=true then (some (x0.extract 0 (x4:Int).toNat,t421,true)) else (some ((⟨#[]⟩:ByteArray),(⟨#[]⟩:ByteArray),false))))) else (none)) else (none)) else (none)) else (tollbarref04_Parse.l0 k x0 (wrap64 (x4 + 1)))) else (none)) else (some ((⟨#[]⟩:ByteArray),(⟨#[]⟩:ByteArray),false))
def tollbarref04_Parse.f (k:Nat) (a0:ByteArray):Option (ByteArray × ByteArray × Bool):=tollbarref04_Parse.l0 k a0 0
def tollbarref04_Parse.T5:Bool × List (List Nat × List Nat):=(true,[([],[]),([],[]),([0,1],[0,1]),([],[]),([],[]),([4],[4]),([3,5],[3,5]),([6],[6]),([2,7],[2,7]),([],[]),([9,8,7,0,1,2,3,4,5,6,7,8,9],[8,9])])
def tollbarref04_Parse.B5:List Nat:=[0,0,3,0,0,16,56,120,255,0,1023]
theorem tollbarref04_Parse.tab5:rtab .any (opsOf Tryz.f130 5)=tollbarref04_Parse.T5:=by kernel_rfl
theorem tollbarref04_Parse.bits5:waitsOk tollbarref04_Parse.T5.2 tollbarref04_Parse.B5=true:=by kernel_rfl
theorem tollbarref04_Parse.calls (k:Nat) (a0:ByteArray) (r1:ByteArray) (r2:ByteArray) (r3:Bool) (w:World) (h:tollbarref04_Parse.f k a0=some (r1,r2,r3)) :
 Calls Tryz.prog 130 #[.string a0] w fun e w' => e = .returned (.tuple #[.agg #[.string r1,.string r2],.bool r3])∧Below w.heap.size w w' := by
 have hu36:=Tryz.underlying36
 have HB:=zB w
 unfold tollbarref04_Parse.f at h
 have H:=h
 clear h
 have H' := Aside0.mk H
 clear H
 go_enter Tryz.func130,Tryz.ntmps130
 go_wp2_with (first|((with_reducible refine gate_dst (N:=2) rfl ?_);refine box_event rfl (N:=2) rfl (cs:=#[.string (⟨#[]⟩:ByteArray),.string (⟨#[]⟩:ByteArray)]) (t:=36) zS ?_;intro gb35 hg w2 hbox hb;have GW35:=zG hg zb0;have GE35:=GW35;have BK35:=Aside0.mk hbox;replace HB:=Aside0.mk (below_step zb0 hb);clear hb hbox hg))
 go_loopg [4] k (fun kq v4 w' => ∃ (x4_1:Int) (x39_1:ByteArray) (x38_1:ByteArray),v4 = .int .i64 x4_1∧Aside0 (tollbarref04_Parse.l0 kq a0 x4_1=some (r1,r2,r3))∧Aside0 (kq ≤ k)∧Aside0 (w'.heap[gb35]? = some (.cells #[.string x39_1,.string x38_1] 36 (0,0)))∧Aside0 (Below w.heap.size w w'))
 case atStart=>exact ⟨(0),((⟨#[]⟩:ByteArray)),((⟨#[]⟩:ByteArray)),zb4,H',⟨Nat.le_refl _⟩,⟨zb26⟩,⟨zb21⟩⟩
 case round =>
  clear H'
  try clear c1
  try clear p2
  obtain ⟨x4_1,x39_1,x38_1,rfl,HA,HK1,BK35,HB⟩:=hrel
  cases gk with
  | zero=>exact absurd HA.out (by simp [tollbarref04_Parse.l0])
  | succ k1 =>
   have H:=HA.out
   clear HA
   simp only [tollbarref04_Parse.l0] at H
   by_cases c3:x4_1 < (a0.size:Int);rotate_left
   ·rw [if_neg c3] at H
    have c3b0:=decide_eq_false c3
    clear c3
    simp only [zi,zj] at H
    obtain ⟨rfl,rfl,rfl⟩:=H
    obtain ⟨hcz34_0,hcz34_1,hfz34_0,hfz34_1⟩:=zq2 BK35.out
    go_wp2
    refine bodyPost_ret (results_ct rfl _ _ gb35 36 #[.string (⟨#[]⟩:ByteArray),.string (⟨#[]⟩:ByteArray)] (0,0) _ rfl zb65 Tryz.underlying36 rfl zb7) rfl ?_
    exact ⟨zb3,zb21⟩
   rw [if_pos c3] at H
   have c3b0:=decide_eq_true c3
   clear c3
   by_cases c4:0 ≤ x4_1
   ·rw [if_pos c4] at H
    have c4b0:=decide_eq_true c4
    clear c4
    by_cases c6:(bt a0 x4_1)=58;rotate_left
    ·rw [if_neg c6] at H
     have c6b0:=beq_eq_false_iff_ne.mpr c6
     have c6b1:=bne_iff_ne.mpr c6
     have H' := Aside0.mk H
     clear H
     have p5:0 ≤ (x4_1:Int):=of_decide_eq_true zb1
     have q5:x4_1 < (a0.size:Int):=of_decide_eq_true zb1
     have hx5:=bt_at a0 x4_1
     replace p5:=eq_true p5
     replace q5:=eq_true q5
     go_wp2
     go_roundg k1
     case measure=>have:=HK1.out;omega
     case rel=>exact ⟨(wrap64 (x4_1 + 1)),(x39_1),(x38_1),zb4,H',⟨zb80⟩,⟨zb26⟩,⟨zb21⟩⟩
    rw [if_pos c6] at H
    have c6b0:=beq_iff_eq.mpr c6
    have c6b1:=bne_eq_false_iff_eq.mpr c6
    clear c6
    have c7b0:=eq_true (of_decide_eq_true zb1:0 ≤ x4_1)
    by_cases c8:x4_1 ≤ (a0.size:Int)
    ·rw [if_pos c8] at H
     have c8b0:=eq_true c8
     have c8b1:=decide_eq_true c8
     clear c8
     obtain ⟨ji9,hji9⟩ : ∃ j_:Int,(wrap64 (x4_1 + 1))=j_:=⟨_,rfl⟩
     replace H:(if 0 ≤ (ji9) then (if (ji9) ≤ (a0.size:Int) then ((tollbarref02_Trim.f k1 (a0.extract ((ji9):Int).toNat a0.size)).bind fun t40=>((tollbarref04_One.f k1 (a0.extract 0 (x4_1:Int).toNat) t40).bind fun t41=>(if t41=true then (some (a0.extract 0 (x4_1:Int).toNat,t40,true)) else (some ((⟨#[]⟩:ByteArray),(⟨#[]⟩:ByteArray),false))))) else (none)) else (none))=some (r1,r2,r3):=by first|(rw [hji9] at H;exact H)|(simp only [hji9] at H ⊢;exact H)
     have hji9w:(IntKind.i64.wrap (x4_1 + 1))=ji9:=(i64_w _).trans hji9
     by_cases c10:0 ≤ (ji9)
     ·rw [if_pos c10] at H
      have c10b0:=eq_true c10
      have c10b1:=decide_eq_true c10
      clear c10
      by_cases c11:(ji9) ≤ (a0.size:Int)
      ·rw [if_pos c11] at H
       have c11b0:=eq_true c11
       have c11b1:=decide_eq_true c11
       clear c11
       replace H:=Option.bind_eq_some_iff.mp H
       obtain ⟨t40,A43,H⟩:=H
       try dsimp only at H
       have A12:=Aside0.mk A43
       clear A43
       replace H:=Option.bind_eq_some_iff.mp H
       obtain ⟨t41,A42,H⟩:=H
       try dsimp only at H
       have A13:=Aside0.mk A42
       clear A42
       by_cases c14:t41=true
       ·subst c14
        rw [if_pos rfl] at H
        simp only [zi,zj] at H
        obtain ⟨rfl,rfl,rfl⟩:=H
        have p5:0 ≤ (x4_1:Int):=of_decide_eq_true zb1
        have q5:x4_1 < (a0.size:Int):=of_decide_eq_true zb1
        have hx5:=bt_at a0 x4_1
        replace p5:=eq_true p5
        replace q5:=eq_true q5
        try go_wp2
        replace BK35:=Aside0.mk (blk_drew BK35.out)
        replace HB:=Aside0.mk (below_drew1 HB.out)
        refine start_ (n:=11) (S:=fun w' => True) (ds:=[]) (zl 11 0) zb7 rfl rfl trivial (fun hHeld=>?_);refine with_tabW tollbarref04_Parse.tab5 tollbarref04_Parse.bits5 (fun HT_ HW_=>?_)
        generalize wr.drew=w15 at BK35 HB hHeld ⊢
        refine zpu 0 (N:=some 16) (zl 11 1) HT_.out rfl rfl ?_
        refine zpu 1 (N:=some 17) (zl 11 3) HT_.out rfl rfl ?_
        refine zpu 2 (N:=some 18) (zl 11 7) HT_.out rfl rfl ?_
        refine zpu 3 (N:=some 19) (zl 11 15) HT_.out rfl rfl ?_
        refine zpu 4 (N:=some 20) (zl 11 31) HT_.out rfl rfl ?_
        refine zpu 5 (N:=some 21) (zl 11 63) HT_.out rfl rfl ?_
        refine zpu 6 (N:=some 22) (zl 11 127) HT_.out rfl rfl ?_
        refine join_ (σ:=Nat) 1 (zl 11 1023) (fun s_=>[(23,.string t40),(5,.pointer (some ⟨s_,0,none⟩)),(24,.agg #[.string (a0.extract 0 (x4_1:Int).toNat),.string t40])]) (fun s_ w' => (w'.heap[gb35]? = some (.cells #[.string x39_1,.string x38_1] 36 (0,0)))∧(w'.heap[s_]? = some (.cells #[.string (⟨#[]⟩:ByteArray),.string (⟨#[]⟩:ByteArray)] 36 (0,0)))∧(w.heap.size ≤ s_)∧(w.heap.size ≤ s_)∧(gb35 ≠ s_)∧(s_ ≠ gb35)∧(Below w.heap.size w w')) ?_ ?_
        rotate_left
        ·intro hCont
         refine two_ (i:=7) (j:=9) (Ni:=some 23) (Nj:=some 5) (zl 11 255) (zl 11 639) rfl rfl rfl rfl (two_of HT_.out zb7) zb78 zb78 (fun K hK=>?_) (fun K hK=>?_)
         ·skip
          refine goes_ Tryz.func106 zb7 rfl #[.string (a0.extract ((ji9):Int).toNat a0.size)] zb49 rfl rfl zb82 ?_
          with_reducible refine (tollbarref02_Trim.calls k1 (a0.extract ((ji9):Int).toNat a0.size) t40 _ A12.out).mono ?_
          rintro e w' ⟨rfl,⟨nd,rfl⟩⟩
          refine ⟨_,rfl,?_⟩
          refine hK.out _ _ trivial (fun hHeld=>?_)
          clear hK K
          refine norm_ (a' := ?_) ?_ ?_
          rotate_left
          ·show Act.put _ (some 23) _=_
           simp only [Act.put,zqA,zqB,zqC,i64_w,i32_w]
           rfl
          refine zpu 8 (N:=some 24) (zl 11 511) HT_.out rfl rfl ?_
          refine one_ (i:=9) (N:=some 5) (zl 11 1023) rfl rfl (one_of HT_.out zb7) zb78 (fun K hK=>?_)
          refine box_step ?hg (N:=5) ?hd (cs:=#[.string (⟨#[]⟩:ByteArray),.string (⟨#[]⟩:ByteArray)]) (t:=36) ?hr ?_;(case hd=>rfl);(case hg=>rfl);(case hr=>first|(go_simp;done)|(go_simp;rfl))
          intro gb37 hg w16 hbox hb
          have n0_:=Aside0.mk (blk_below (g:=gb35) (o:=.cells #[.string x39_1,.string x38_1] 36 (0,0)) zb26 hb)
          have n1_:=Aside0.mk (below_step zb21 hb)
          have n2_:=Aside0.mk (hbox)
          have n3_:=zG hg zb21
          have n4_:=zG hg zb21
          have n5_:=Aside0.mk ((by rw [hg];exact Nat.ne_of_lt (blk_lt (g:=gb35) (o:=.cells #[.string x39_1,.string x38_1] 36 (0,0)) zb26):gb35 ≠ gb37))
          have n6_:=Aside0.mk ((by rw [hg];exact Nat.ne_of_gt (blk_lt (g:=gb35) (o:=.cells #[.string x39_1,.string x38_1] 36 (0,0)) zb26):gb37 ≠ gb35))
          clear BK35 HB
          have BK35:=n0_
          have HB:=n1_
          have BK37:=n2_
          have GW37:=n3_
          have GE37:=n4_
          have NB35_422:=n5_
          have NB37_420:=n6_
          clear n0_ n1_ n2_ n3_ n4_ n5_ n6_ hb hbox hg
          refine hK.out _ _ trivial (fun hHeld=>?_)
          clear hK K
          refine norm_ (a' := ?_) ?_ ?_
          rotate_left
          ·show Act.put _ (some 5) _=_
           simp only [Act.put,zqA,zqB,zqC,i64_w,i32_w]
           rfl
          exact norm_ zb131 (hCont (gb37) _ ⟨zb26,zb99,GW37.out,GE37.out,NB35_422.out,NB37_420.out,zb36⟩)
         skip
         refine box_step ?hg (N:=5) ?hd (cs:=#[.string (⟨#[]⟩:ByteArray),.string (⟨#[]⟩:ByteArray)]) (t:=36) ?hr ?_;(case hd=>rfl);(case hg=>rfl);(case hr=>first|(go_simp;done)|(go_simp;rfl))
         intro gb37 hg w16 hbox hb
         have n0_:=Aside0.mk (blk_below (g:=gb35) (o:=.cells #[.string x39_1,.string x38_1] 36 (0,0)) zb26 hb)
         have n1_:=Aside0.mk (below_step zb21 hb)
         have n2_:=Aside0.mk (hbox)
         have n3_:=zG hg zb21
         have n4_:=zG hg zb21
         have n5_:=Aside0.mk ((by rw [hg];exact Nat.ne_of_lt (blk_lt (g:=gb35) (o:=.cells #[.string x39_1,.string x38_1] 36 (0,0)) zb26):gb35 ≠ gb37))
         have n6_:=Aside0.mk ((by rw [hg];exact Nat.ne_of_gt (blk_lt (g:=gb35) (o:=.cells #[.string x39_1,.string x38_1] 36 (0,0)) zb26):gb37 ≠ gb35))
         clear BK35 HB
         have BK35:=n0_
         have HB:=n1_
         have BK37:=n2_
         have GW37:=n3_
         have GE37:=n4_
         have NB35_422:=n5_
         have NB37_420:=n6_
         clear n0_ n1_ n2_ n3_ n4_ n5_ n6_ hb hbox hg
         refine hK.out _ _ trivial (fun hHeld=>?_)
         clear hK K
         refine norm_ (a' := ?_) ?_ ?_
         rotate_left
         ·show Act.put _ (some 5) _=_
          simp only [Act.put,zqA,zqB,zqC,i64_w,i32_w]
          rfl
         refine one_ (i:=7) (N:=some 23) (zl 11 767) rfl rfl (one_of HT_.out zb7) zb78 (fun K hK=>?_)
         refine goes_ Tryz.func106 zb7 rfl #[.string (a0.extract ((ji9):Int).toNat a0.size)] zb49 rfl rfl zb82 ?_
         with_reducible refine (tollbarref02_Trim.calls k1 (a0.extract ((ji9):Int).toNat a0.size) t40 _ A12.out).mono ?_
         rintro e w' ⟨rfl,⟨nd,rfl⟩⟩
         refine ⟨_,rfl,?_⟩
         refine hK.out _ _ trivial (fun hHeld=>?_)
         clear hK K
         refine norm_ (a' := ?_) ?_ ?_
         rotate_left
         ·show Act.put _ (some 23) _=_
          simp only [Act.put,zqA,zqB,zqC,i64_w,i32_w]
          rfl
         refine zpu 8 (N:=some 24) (zl 11 1023) HT_.out rfl rfl ?_
         exact norm_ zb131 (hCont (gb37) _ ⟨zb26,zb99,GW37.out,GE37.out,NB35_422.out,NB37_420.out,zb36⟩)
        rintro gb37 w17 ⟨h0_,h1_,h2_,h3_,h4_,h5_,h6_⟩
        have n0_:Aside0 (w17.heap[gb35]? = some (.cells #[.string x39_1,.string x38_1] 36 (0,0))):=⟨h0_⟩
        have n1_:Aside0 (w17.heap[gb37]? = some (.cells #[.string (⟨#[]⟩:ByteArray),.string (⟨#[]⟩:ByteArray)] 36 (0,0))):=⟨h1_⟩
        have n2_:Aside0 (w.heap.size ≤ gb37):=⟨h2_⟩
        have n3_:Aside0 (w.heap.size ≤ gb37):=⟨h3_⟩
        have n4_:Aside0 (gb35 ≠ gb37):=⟨h4_⟩
        have n5_:Aside0 (gb37 ≠ gb35):=⟨h5_⟩
        have n6_:Aside0 (Below w.heap.size w w17):=⟨h6_⟩
        clear BK35 HB h0_ h1_ h2_ h3_ h4_ h5_ h6_
        have BK35:=n0_
        have BK37:=n1_
        have GW37:=n2_
        have GE37:=n3_
        have NB35_422:=n4_
        have NB37_420:=n5_
        have HB:=n6_
        clear n0_ n1_ n2_ n3_ n4_ n5_ n6_
        have hHeld:=trivial
        refine norm_ (a' := ?_) ?_ ?_
        rotate_left
        ·simp only [putAll,Act.put,zqA,zqB,zqC];rfl
        refine one_ (i:=10) (N:=none) (zl 11 2047) rfl rfl (one_of HT_.out zb7) zb78 (fun K hK=>?_)
        have hs18:w17.cell? ⟨gb37,0,none⟩=some (.string (⟨#[]⟩:ByteArray)):=(blk_cell BK37.out 0).trans rfl
        have hfs18:=blk_frozen BK37.out 0
        have hns18_0:=NB35_422.out
        have hms18_0:=NB37_420.out
        have hs19:w17.cell? ⟨gb37,1,none⟩=some (.string (⟨#[]⟩:ByteArray)):=(blk_cell BK37.out 1).trans rfl
        have hfs19:=blk_frozen BK37.out 1
        have hns19_0:=NB35_422.out
        have hms19_0:=NB37_420.out
        refine skip_ (w1:=?_) zb49 rfl ?_ ?_
        rotate_left
        ·go_simp
         rfl
        refine hK.out _ _ trivial (fun hHeld=>?_)
        clear hK K
        refine done_ (done_of HT_.out zb7) ?_
        have hnb20:=NB37_420.out
        have hnc20:=NB35_422.out
        obtain ⟨hcz21_0,hcz21_1,hfz21_0,hfz21_1⟩:=zq2 BK37.out
        try go_wp2_with (first|((with_reducible refine gate_callee (f:=169) rfl ?_);refine goesL_ (some 26) rfl rfl Tryz.func169 zb7 rfl #[.agg #[.string (a0.extract 0 (x4_1:Int).toNat),.string t40]] rfl zb2 ?_;(with_reducible refine (tollbarref04_One.calls k1 (a0.extract 0 (x4_1:Int).toNat) t40 true _ A13.out).mono ?_);rintro e w22 ⟨rfl,hb⟩;(try clear A13);refine ⟨_,rfl,?_⟩;replace BK35:=Aside0.mk (blk_below (g:=gb35) (o:=.cells #[.string x39_1,.string x38_1] 36 (0,0)) zb73 hb);replace BK37:=Aside0.mk (blk_below (g:=gb37) (o:=.cells #[.string (a0.extract 0 (x4_1:Int).toNat),.string t40] 36 (0,0)) zb52 hb);replace HB:=Aside0.mk (below_step zb36 hb);(try clear hb);obtain ⟨hcz23_0,hcz23_1,hfz23_0,hfz23_1⟩:=zq2 BK37.out;obtain ⟨hcz24_0,hcz24_1,hfz24_0,hfz24_1⟩:=zq2 BK35.out))
        refine bodyPost_ret (results_ct rfl _ _ gb35 36 #[.string (a0.extract 0 (x4_1:Int).toNat),.string t40] (0,0) _ rfl (by (with_reducible repeat (first|refine blk_drewN ?_ _|refine blk_drew ?_|refine blk_alloc ?_ _));refine blk_put (cs:=#[.string (a0.extract 0 (x4_1:Int).toNat),.string x38_1]) ?_ 1 _ rfl;(with_reducible repeat (first|refine blk_drewN ?_ _|refine blk_drew ?_|refine blk_alloc ?_ _));refine blk_put (cs:=#[.string x39_1,.string x38_1]) ?_ 0 _ rfl;(with_reducible repeat (first|refine blk_drewN ?_ _|refine blk_drew ?_|refine blk_alloc ?_ _));exact BK35.out) Tryz.underlying36 rfl zb7) rfl ?_
        exact ⟨zb117,zb36⟩
       replace c14:=Bool.eq_false_iff.mpr c14
       subst c14
       rw [if_neg zf] at H
       simp only [zi,zj] at H
       obtain ⟨rfl,rfl,rfl⟩:=H
       have p5:0 ≤ (x4_1:Int):=of_decide_eq_true zb1
       have q5:x4_1 < (a0.size:Int):=of_decide_eq_true zb1
       have hx5:=bt_at a0 x4_1
       replace p5:=eq_true p5
       replace q5:=eq_true q5
       try go_wp2
       replace BK35:=Aside0.mk (blk_drew BK35.out)
       replace HB:=Aside0.mk (below_drew1 HB.out)
       refine start_ (n:=11) (S:=fun w' => True) (ds:=[]) (zl 11 0) zb7 rfl rfl trivial (fun hHeld=>?_);refine with_tabW tollbarref04_Parse.tab5 tollbarref04_Parse.bits5 (fun HT_ HW_=>?_)
       generalize wr.drew=w25 at BK35 HB hHeld ⊢
       refine zpu 0 (N:=some 16) (zl 11 1) HT_.out rfl rfl ?_
       refine zpu 1 (N:=some 17) (zl 11 3) HT_.out rfl rfl ?_
       refine zpu 2 (N:=some 18) (zl 11 7) HT_.out rfl rfl ?_
       refine zpu 3 (N:=some 19) (zl 11 15) HT_.out rfl rfl ?_
       refine zpu 4 (N:=some 20) (zl 11 31) HT_.out rfl rfl ?_
       refine zpu 5 (N:=some 21) (zl 11 63) HT_.out rfl rfl ?_
       refine zpu 6 (N:=some 22) (zl 11 127) HT_.out rfl rfl ?_
       refine join_ (σ:=Nat) 1 (zl 11 1023) (fun s_=>[(23,.string t40),(5,.pointer (some ⟨s_,0,none⟩)),(24,.agg #[.string (a0.extract 0 (x4_1:Int).toNat),.string t40])]) (fun s_ w' => (w'.heap[gb35]? = some (.cells #[.string x39_1,.string x38_1] 36 (0,0)))∧(w'.heap[s_]? = some (.cells #[.string (⟨#[]⟩:ByteArray),.string (⟨#[]⟩:ByteArray)] 36 (0,0)))∧(w.heap.size ≤ s_)∧(w.heap.size ≤ s_)∧(gb35 ≠ s_)∧(s_ ≠ gb35)∧(Below w.heap.size w w')) ?_ ?_
       rotate_left
       ·intro hCont
        refine two_ (i:=7) (j:=9) (Ni:=some 23) (Nj:=some 5) (zl 11 255) (zl 11 639) rfl rfl rfl rfl (two_of HT_.out zb7) zb78 zb78 (fun K hK=>?_) (fun K hK=>?_)
        ·skip
         refine goes_ Tryz.func106 zb7 rfl #[.string (a0.extract ((ji9):Int).toNat a0.size)] zb49 rfl rfl zb82 ?_
         with_reducible refine (tollbarref02_Trim.calls k1 (a0.extract ((ji9):Int).toNat a0.size) t40 _ A12.out).mono ?_
         rintro e w' ⟨rfl,⟨nd,rfl⟩⟩
         refine ⟨_,rfl,?_⟩
         refine hK.out _ _ trivial (fun hHeld=>?_)
         clear hK K
         refine norm_ (a' := ?_) ?_ ?_
         rotate_left
         ·show Act.put _ (some 23) _=_
          simp only [Act.put,zqA,zqB,zqC,i64_w,i32_w]
          rfl
         refine zpu 8 (N:=some 24) (zl 11 511) HT_.out rfl rfl ?_
         refine one_ (i:=9) (N:=some 5) (zl 11 1023) rfl rfl (one_of HT_.out zb7) zb78 (fun K hK=>?_)
         refine box_step ?hg (N:=5) ?hd (cs:=#[.string (⟨#[]⟩:ByteArray),.string (⟨#[]⟩:ByteArray)]) (t:=36) ?hr ?_;(case hd=>rfl);(case hg=>rfl);(case hr=>first|(go_simp;done)|(go_simp;rfl))
         intro gb37 hg w26 hbox hb
         have n0_:=Aside0.mk (blk_below (g:=gb35) (o:=.cells #[.string x39_1,.string x38_1] 36 (0,0)) zb26 hb)
         have n1_:=Aside0.mk (below_step zb21 hb)
         have n2_:=Aside0.mk (hbox)
         have n3_:=zG hg zb21
         have n4_:=zG hg zb21
         have n5_:=Aside0.mk ((by rw [hg];exact Nat.ne_of_lt (blk_lt (g:=gb35) (o:=.cells #[.string x39_1,.string x38_1] 36 (0,0)) zb26):gb35 ≠ gb37))
         have n6_:=Aside0.mk ((by rw [hg];exact Nat.ne_of_gt (blk_lt (g:=gb35) (o:=.cells #[.string x39_1,.string x38_1] 36 (0,0)) zb26):gb37 ≠ gb35))
         clear BK35 HB
         have BK35:=n0_
         have HB:=n1_
         have BK37:=n2_
         have GW37:=n3_
         have GE37:=n4_
         have NB35_422:=n5_
         have NB37_420:=n6_
         clear n0_ n1_ n2_ n3_ n4_ n5_ n6_ hb hbox hg
         refine hK.out _ _ trivial (fun hHeld=>?_)
         clear hK K
         refine norm_ (a' := ?_) ?_ ?_
         rotate_left
         ·show Act.put _ (some 5) _=_
          simp only [Act.put,zqA,zqB,zqC,i64_w,i32_w]
          rfl
         exact norm_ zb131 (hCont (gb37) _ ⟨zb26,zb99,GW37.out,GE37.out,NB35_422.out,NB37_420.out,zb36⟩)
        skip
        refine box_step ?hg (N:=5) ?hd (cs:=#[.string (⟨#[]⟩:ByteArray),.string (⟨#[]⟩:ByteArray)]) (t:=36) ?hr ?_;(case hd=>rfl);(case hg=>rfl);(case hr=>first|(go_simp;done)|(go_simp;rfl))
        intro gb37 hg w26 hbox hb
        have n0_:=Aside0.mk (blk_below (g:=gb35) (o:=.cells #[.string x39_1,.string x38_1] 36 (0,0)) zb26 hb)
        have n1_:=Aside0.mk (below_step zb21 hb)
        have n2_:=Aside0.mk (hbox)
        have n3_:=zG hg zb21
        have n4_:=zG hg zb21
        have n5_:=Aside0.mk ((by rw [hg];exact Nat.ne_of_lt (blk_lt (g:=gb35) (o:=.cells #[.string x39_1,.string x38_1] 36 (0,0)) zb26):gb35 ≠ gb37))
        have n6_:=Aside0.mk ((by rw [hg];exact Nat.ne_of_gt (blk_lt (g:=gb35) (o:=.cells #[.string x39_1,.string x38_1] 36 (0,0)) zb26):gb37 ≠ gb35))
        clear BK35 HB
        have BK35:=n0_
        have HB:=n1_
        have BK37:=n2_
        have GW37:=n3_
        have GE37:=n4_
        have NB35_422:=n5_
        have NB37_420:=n6_
        clear n0_ n1_ n2_ n3_ n4_ n5_ n6_ hb hbox hg
        refine hK.out _ _ trivial (fun hHeld=>?_)
        clear hK K
        refine norm_ (a' := ?_) ?_ ?_
        rotate_left
        ·show Act.put _ (some 5) _=_
         simp only [Act.put,zqA,zqB,zqC,i64_w,i32_w]
         rfl
        refine one_ (i:=7) (N:=some 23) (zl 11 767) rfl rfl (one_of HT_.out zb7) zb78 (fun K hK=>?_)
        refine goes_ Tryz.func106 zb7 rfl #[.string (a0.extract ((ji9):Int).toNat a0.size)] zb49 rfl rfl zb82 ?_
        with_reducible refine (tollbarref02_Trim.calls k1 (a0.extract ((ji9):Int).toNat a0.size) t40 _ A12.out).mono ?_
        rintro e w' ⟨rfl,⟨nd,rfl⟩⟩
        refine ⟨_,rfl,?_⟩
        refine hK.out _ _ trivial (fun hHeld=>?_)
        clear hK K
        refine norm_ (a' := ?_) ?_ ?_
        rotate_left
        ·show Act.put _ (some 23) _=_
         simp only [Act.put,zqA,zqB,zqC,i64_w,i32_w]
         rfl
        refine zpu 8 (N:=some 24) (zl 11 1023) HT_.out rfl rfl ?_
        exact norm_ zb131 (hCont (gb37) _ ⟨zb26,zb99,GW37.out,GE37.out,NB35_422.out,NB37_420.out,zb36⟩)
       rintro gb37 w27 ⟨h0_,h1_,h2_,h3_,h4_,h5_,h6_⟩
       have n0_:Aside0 (w27.heap[gb35]? = some (.cells #[.string x39_1,.string x38_1] 36 (0,0))):=⟨h0_⟩
       have n1_:Aside0 (w27.heap[gb37]? = some (.cells #[.string (⟨#[]⟩:ByteArray),.string (⟨#[]⟩:ByteArray)] 36 (0,0))):=⟨h1_⟩
       have n2_:Aside0 (w.heap.size ≤ gb37):=⟨h2_⟩
       have n3_:Aside0 (w.heap.size ≤ gb37):=⟨h3_⟩
       have n4_:Aside0 (gb35 ≠ gb37):=⟨h4_⟩
       have n5_:Aside0 (gb37 ≠ gb35):=⟨h5_⟩
       have n6_:Aside0 (Below w.heap.size w w27):=⟨h6_⟩
       clear BK35 HB h0_ h1_ h2_ h3_ h4_ h5_ h6_
       have BK35:=n0_
       have BK37:=n1_
       have GW37:=n2_
       have GE37:=n3_
       have NB35_422:=n4_
       have NB37_420:=n5_
       have HB:=n6_
       clear n0_ n1_ n2_ n3_ n4_ n5_ n6_
       have hHeld:=trivial
       refine norm_ (a' := ?_) ?_ ?_
       rotate_left
       ·simp only [putAll,Act.put,zqA,zqB,zqC];rfl
       refine one_ (i:=10) (N:=none) (zl 11 2047) rfl rfl (one_of HT_.out zb7) zb78 (fun K hK=>?_)
       have hs28:w27.cell? ⟨gb37,0,none⟩=some (.string (⟨#[]⟩:ByteArray)):=(blk_cell BK37.out 0).trans rfl
       have hfs28:=blk_frozen BK37.out 0
       have hns28_0:=NB35_422.out
       have hms28_0:=NB37_420.out
       have hs29:w27.cell? ⟨gb37,1,none⟩=some (.string (⟨#[]⟩:ByteArray)):=(blk_cell BK37.out 1).trans rfl
       have hfs29:=blk_frozen BK37.out 1
       have hns29_0:=NB35_422.out
       have hms29_0:=NB37_420.out
       refine skip_ (w1:=?_) zb49 rfl ?_ ?_
       rotate_left
       ·go_simp
        rfl
       refine hK.out _ _ trivial (fun hHeld=>?_)
       clear hK K
       refine done_ (done_of HT_.out zb7) ?_
       have hnb30:=NB37_420.out
       have hnc30:=NB35_422.out
       obtain ⟨hcz31_0,hcz31_1,hfz31_0,hfz31_1⟩:=zq2 BK37.out
       try go_wp2_with (first|((with_reducible refine gate_callee (f:=169) rfl ?_);refine goesL_ (some 26) rfl rfl Tryz.func169 zb7 rfl #[.agg #[.string (a0.extract 0 (x4_1:Int).toNat),.string t40]] rfl zb2 ?_;(with_reducible refine (tollbarref04_One.calls k1 (a0.extract 0 (x4_1:Int).toNat) t40 false _ A13.out).mono ?_);rintro e w32 ⟨rfl,hb⟩;(try clear A13);refine ⟨_,rfl,?_⟩;replace BK35:=Aside0.mk (blk_below (g:=gb35) (o:=.cells #[.string x39_1,.string x38_1] 36 (0,0)) zb73 hb);replace BK37:=Aside0.mk (blk_below (g:=gb37) (o:=.cells #[.string (a0.extract 0 (x4_1:Int).toNat),.string t40] 36 (0,0)) zb52 hb);replace HB:=Aside0.mk (below_step zb36 hb);(try clear hb);obtain ⟨hcz33_0,hcz33_1,hfz33_0,hfz33_1⟩:=zq2 BK35.out))
       refine bodyPost_ret (results_ct rfl _ _ gb35 36 #[.string (⟨#[]⟩:ByteArray),.string (⟨#[]⟩:ByteArray)] (0,0) _ rfl zb65 Tryz.underlying36 rfl zb7) rfl ?_
       exact ⟨zb117,zb36⟩
      ·rw [if_neg c11] at H
       exact absurd H zb24
     ·rw [if_neg c10] at H
      exact absurd H zb24
    ·rw [if_neg c8] at H
     exact absurd H zb24
   ·rw [if_neg c4] at H
    exact absurd H zb24
def tollbarref08_fields.l0:Nat → List ByteArray → List (S36) → Int → Option ((List (S36)) × Int)
 | 0,_,_,_=>none
 | k + 1,x0,x4,x5=>if x5 < (x0.length:Int) then (if 0 ≤ x5 then ((tollbarref04_Parse.f k (rdOf ByteArray.empty x0 x5)).bind fun bt428=>(if bt428.2.2=true then (if (x4.length:Int)=40 then (some (([]:List (S36)),431)) else (if x4.length < 4398046511104 then (tollbarref08_fields.l0 k x0 (x4 ++ [(⟨bt428.1,bt428.2.1⟩:S36)]) (wrap64 (x5 + 1))) else (none))) else (some (([]:List (S36)),400)))) else (none)) else (some (x4,0))
def tollbarref08_fields.f (k:Nat) (l0:List ByteArray):Option ((List (S36)) × Int):=tollbarref08_fields.l0 k l0 (([]:List (S36))) 0
theorem tollbarref08_fields.calls (k:Nat) (A0:Option Addr) (c0:Nat) (l0:List ByteArray) (r1:List (S36)) (r2:Int) (w:World) (hr0:Kd.C Kd.string w A0 l0.length l0) (hc0:l0.length ≤ c0) (h:tollbarref08_fields.f k l0=some (r1,r2)) :
 Calls Tryz.prog 82 #[.slice A0 l0.length c0] w fun e w' => ∃ v0_:Value,e = .returned (.tuple #[v0_,.int .i64 r2])∧Kd.R k36 36 w' w.heap.size (fun _=>True) v0_ r1∧Below w.heap.size w w' := by
 have hu36:=Tryz.underlying36
 have HR0:=Aside0.mk hr0
 have HC0:=Aside0.mk hc0
 clear hr0 hc0
 have HB:=zB w
 unfold tollbarref08_fields.f at h
 have H:=h
 clear h
 obtain ⟨y424,hy424⟩ : ∃ y_:List (S36),y_=(([]:List (S36))):=⟨_,rfl⟩
 replace H:(tollbarref08_fields.l0 k l0 y424 0)=some (r1,r2):=by first|(rw [hy424];with_reducible exact H)|(have H2_:=(Option.bind_some _ _).symm.trans H;rw [hy424];with_reducible exact H2_)|(have H2_:=(Option.bind_some _ _).symm.trans H;with_reducible exact H2_)|with_reducible exact H|(rw [hy424];exact H)|exact H
 have Ny424:=Aside0.mk hy424
 clear hy424
 have H' := Aside0.mk H
 clear H
 go_enter Tryz.func82,Tryz.ntmps82
 go_wp2_with (first|((with_reducible refine gate_dst (N:=8) rfl ?_);refine Kd.R_lit k36 _ 36 ?hg (N:=8) ?hd (xs:=([]:List (S36))) (inner:=[]) (ok:=fun _=>True) (okp:=fun _=>True) ?hr ?hp (fun _ hk=>hk) trivial (Below.refl _ _) (Nat.le_refl _) zb24 ?_;(case hd=>rfl);(case hg=>rfl);(case hr=>first|(go_simp;done)|(go_simp;rfl));(case hp=>exact (Reps.none _ _));intro v425 w2 ho3 hb hg_ hnew_;clear hg_ hnew_;(first|rw [← Ny424.out] at ho3|(simp only [Int.reduceToNat] at ho3;rw [← Ny424.out] at ho3));have HO426:=Aside0.mk (Kd.R_lower ho3 (below_size zb0));replace HB:=Aside0.mk (below_step zb0 hb);clear hb ho3))
 go_loopg [4,5] k (fun kq v4 v5 w' => ∃ (x4_1:List (S36)) (x5_1:Int),v5 = .int .i64 x5_1∧Aside0 (tollbarref08_fields.l0 kq l0 x4_1 x5_1=some (r1,r2))∧Aside0 (kq ≤ k)∧Aside0 (Kd.R k36 36 w' w.heap.size (fun _=>True) v4 x4_1)∧Aside0 (Below w.heap.size w w'))
 case atStart=>exact ⟨(y424),(0),zb4,H',⟨Nat.le_refl _⟩,⟨by (with_reducible repeat (first|apply Kd.R_alloc|apply Kd.R_drewN|apply Kd.R_drew));exact HO426.out⟩,⟨zb0⟩⟩
 case round =>
  clear H'
  try clear p2
  obtain ⟨x4_1,x5_1,rfl,HA,HK1,HO_4,HB⟩:=hrel
  cases gk with
  | zero=>exact absurd HA.out (by simp [tollbarref08_fields.l0])
  | succ k1 =>
   have H:=HA.out
   clear HA
   simp only [tollbarref08_fields.l0] at H
   by_cases c4:x5_1 < (l0.length:Int);rotate_left
   ·rw [if_neg c4] at H
    have c4b0:=decide_eq_false c4
    clear c4
    simp only [zi,zj] at H
    obtain ⟨rfl,rfl⟩:=H
    go_wp2
    go_ret2
    exact ⟨_,zb3,zb47,zb0⟩
   rw [if_pos c4] at H
   have c4b0:=decide_eq_true c4
   clear c4
   by_cases c5:0 ≤ x5_1
   ·rw [if_pos c5] at H
    have c5b0:=decide_eq_true c5
    clear c5
    replace H:=Option.bind_eq_some_iff.mp H
    obtain ⟨⟨t428,t429,t430⟩,A60,H⟩:=H
    try dsimp only at H
    have A6:=Aside0.mk A60
    clear A60
    by_cases c7:t430=true;rotate_left
    ·replace c7:=Bool.eq_false_iff.mpr c7
     subst c7
     rw [if_neg zf] at H
     simp only [zi,zj] at H
     obtain ⟨rfl,rfl⟩:=H
     have p427:0 ≤ (x5_1:Int):=of_decide_eq_true zb1
     have q427:x5_1 < (l0.length:Int):=of_decide_eq_true zb1
     obtain ⟨ad427,e427,hx427_0⟩:=Kd.at_string HR0.out x5_1 p427 q427
     cases e427
     replace hx427_0:=(HB.out.cell (World.block_lt_of_cell? w _ hx427_0)).trans hx427_0
     replace p427:=eq_true p427
     replace q427:=eq_true q427
     go_wp2_with (first|((with_reducible refine gate_callee (f:=130) rfl ?_);refine goesL_ (some 20) rfl rfl Tryz.func130 zb7 rfl #[.string (rdOf ByteArray.empty l0 x5_1)] rfl zb2 ?_;(with_reducible refine (tollbarref04_Parse.calls k1 (rdOf ByteArray.empty l0 x5_1) t428 t429 false _ A6.out).mono ?_);rintro e w19 ⟨rfl,hb⟩;(try clear A6);refine ⟨_,rfl,?_⟩;replace HO_4:=Aside0.mk (Kd.R_below zb47 hb);replace HB:=Aside0.mk (below_step zb0 hb);(try clear hb))|((with_reducible refine gate_dst (N:=6) rfl ?_);refine box_event rfl (N:=6) rfl (cs:=#[.string (⟨#[]⟩:ByteArray),.string (⟨#[]⟩:ByteArray)]) (t:=36) zS ?_;intro gb431 hg w20 hbox hb;replace HO_4:=Aside0.mk (Kd.R_below (Kd.R_elderB zb47 gb431 (Nat.le_of_eq hg.symm)) hb);have BK431:=Aside0.mk (hbox);have GW431:=zG hg zb0;have GE431:=GW431;replace HB:=Aside0.mk (below_step zb0 hb);clear hb hbox hg;obtain ⟨hcz21_0,hcz21_1,hfz21_0,hfz21_1⟩:=zq2 BK431.out))
     go_ret2
     exact ⟨_,zb3,zb6,zb69⟩
    subst c7
    rw [if_pos rfl] at H
    by_cases c8:(x4_1.length:Int)=40
    ·rw [if_pos c8] at H
     have c8b0:=beq_iff_eq.mpr c8
     have c8b1:=bne_eq_false_iff_eq.mpr c8
     clear c8
     simp only [zi,zj] at H
     obtain ⟨rfl,rfl⟩:=H
     have p427:0 ≤ (x5_1:Int):=of_decide_eq_true zb1
     have q427:x5_1 < (l0.length:Int):=of_decide_eq_true zb1
     obtain ⟨ad427,e427,hx427_0⟩:=Kd.at_string HR0.out x5_1 p427 q427
     cases e427
     replace hx427_0:=(HB.out.cell (World.block_lt_of_cell? w _ hx427_0)).trans hx427_0
     replace p427:=eq_true p427
     replace q427:=eq_true q427
     go_wp2_with (first|((with_reducible refine gate_callee (f:=130) rfl ?_);refine goesL_ (some 20) rfl rfl Tryz.func130 zb7 rfl #[.string (rdOf ByteArray.empty l0 x5_1)] rfl zb2 ?_;(with_reducible refine (tollbarref04_Parse.calls k1 (rdOf ByteArray.empty l0 x5_1) t428 t429 true _ A6.out).mono ?_);rintro e w9 ⟨rfl,hb⟩;(try clear A6);refine ⟨_,rfl,?_⟩;replace HO_4:=Aside0.mk (Kd.R_below zb47 hb);replace HB:=Aside0.mk (below_step zb0 hb);(try clear hb))|((with_reducible refine gate_dst (N:=6) rfl ?_);refine box_event rfl (N:=6) rfl (cs:=#[.string (⟨#[]⟩:ByteArray),.string (⟨#[]⟩:ByteArray)]) (t:=36) zS ?_;intro gb431 hg w10 hbox hb;replace HO_4:=Aside0.mk (Kd.R_below (Kd.R_elderB zb47 gb431 (Nat.le_of_eq hg.symm)) hb);have BK431:=Aside0.mk (hbox);have GW431:=zG hg zb0;have GE431:=GW431;replace HB:=Aside0.mk (below_step zb0 hb);clear hb hbox hg;obtain ⟨hcz11_0,hcz11_1,hfz11_0,hfz11_1⟩:=zq2 BK431.out;obtain ⟨Ao12,co12,eo12⟩:=Kd.R_slice HO_4.out;subst eo12))
     go_ret2
     exact ⟨_,zb3,zb6,zb69⟩
    rw [if_neg c8] at H
    have c8b0:=beq_eq_false_iff_ne.mpr c8
    have c8b1:=bne_iff_ne.mpr c8
    by_cases c13:x4_1.length < 4398046511104
    ·rw [if_pos c13] at H
     have LMc13:=Aside0.mk c13
     clear c13
     obtain ⟨y432,hy432⟩ : ∃ y_:List (S36),y_=(x4_1 ++ [(⟨t428,t429⟩:S36)]):=⟨_,rfl⟩
     replace H:(tollbarref08_fields.l0 k1 l0 y432 (wrap64 (x5_1 + 1)))=some (r1,r2):=by first|(rw [hy432];with_reducible exact H)|(have H2_:=(Option.bind_some _ _).symm.trans H;rw [hy432];with_reducible exact H2_)|(have H2_:=(Option.bind_some _ _).symm.trans H;with_reducible exact H2_)|with_reducible exact H|(rw [hy432];exact H)|exact H
     have Ny432:=Aside0.mk hy432
     clear hy432
     have H' := Aside0.mk H
     clear H
     have p427:0 ≤ (x5_1:Int):=of_decide_eq_true zb1
     have q427:x5_1 < (l0.length:Int):=of_decide_eq_true zb1
     obtain ⟨ad427,e427,hx427_0⟩:=Kd.at_string HR0.out x5_1 p427 q427
     cases e427
     replace hx427_0:=(HB.out.cell (World.block_lt_of_cell? w _ hx427_0)).trans hx427_0
     replace p427:=eq_true p427
     replace q427:=eq_true q427
     go_wp2_with (first|((with_reducible refine gate_callee (f:=130) rfl ?_);refine goesL_ (some 20) rfl rfl Tryz.func130 zb7 rfl #[.string (rdOf ByteArray.empty l0 x5_1)] rfl zb2 ?_;(with_reducible refine (tollbarref04_Parse.calls k1 (rdOf ByteArray.empty l0 x5_1) t428 t429 true _ A6.out).mono ?_);rintro e w14 ⟨rfl,hb⟩;(try clear A6);refine ⟨_,rfl,?_⟩;replace HO_4:=Aside0.mk (Kd.R_below zb47 hb);replace HB:=Aside0.mk (below_step zb0 hb);(try clear hb))|((with_reducible refine gate_dst (N:=6) rfl ?_);refine box_event rfl (N:=6) rfl (cs:=#[.string (⟨#[]⟩:ByteArray),.string (⟨#[]⟩:ByteArray)]) (t:=36) zS ?_;intro gb431 hg w15 hbox hb;replace HO_4:=Aside0.mk (Kd.R_below (Kd.R_elderB zb47 gb431 (Nat.le_of_eq hg.symm)) hb);have BK431:=Aside0.mk (hbox);have GW431:=zG hg zb0;have GE431:=GW431;replace HB:=Aside0.mk (below_step zb0 hb);clear hb hbox hg;obtain ⟨hcz16_0,hcz16_1,hfz16_0,hfz16_1⟩:=zq2 BK431.out;obtain ⟨Ao17,co17,eo17⟩:=Kd.R_slice HO_4.out;subst eo17)|((with_reducible refine gate_builtin (b:=.append) (xs:=#[.tmp 28,.tmp 30]) rfl ?_);at_builtin;refine Kd.R_append k36 (w0:=w) w.heap.size rfl (.tmp 28) (.tmp 30) 24 36 (.agg #[(.string ⟨#[]⟩),(.string ⟨#[]⟩)]) 32 rfl Tryz.underlying24 info36 rfl zb78 zb10 (.slice Ao17 x4_1.length co17) x4_1 (⟨t428,t429⟩:S36) [.string t428,.string t429] (fun k_=>k_ ≠ gb431) (fun _=>False) rfl (by first|(go_simp;done)|(go_simp;rfl)) ?aP (fun _ hk=>hk.elim) ?aF ?aO ?aB ?aS ?aL ?_;(case aP=>exact k36_mkM _ _ _ (⟨t428,t429⟩:S36));(case aB=>exact zb69);(case aF=>exact (fun k_ hk=>Kd.freshB (g:=gb431) (o:=.cells #[.string t428,.string t429] 36 (0,0)) zb56 k_ hk));(case aO=>exact (by (with_reducible repeat (first|apply Kd.R_alloc|apply Kd.R_drewN|apply Kd.R_drew));exact Kd.R_mono (Kd.R_far (p:=⟨gb431,1,none⟩) (Kd.R_far (p:=⟨gb431,0,none⟩) (Kd.R_mono HO_4.out (fun k_ hk=>(⟨hk,hk.2⟩:_∧k_ ≠ gb431))) (fun _ hk=>hk.2) (.string t428)) (fun _ hk=>hk.2) (.string t429)) (fun _ hk=>hk.1.2)));(case aS=>exact (below_size zb69));(case aL=>have:=LMc13.out;omega);intro v433 w18 ho hb hg hat;rw [← Ny432.out] at ho;replace BK431:=Aside0.mk (blk_grown (g:=gb431) (o:=.cells #[.string t428,.string t429] 36 (0,0)) zb56 hg (Kd.R_away HO_4.out (fun _ hk=>hk.2)));replace HB:=Aside0.mk (hb);have HO434:=Aside0.mk (ho);clear ho hb hg hat))
     go_roundg k1
     case measure=>have:=HK1.out;omega
     case rel=>exact ⟨(y432),(wrap64 (x5_1 + 1)),zb4,H',⟨zb80⟩,⟨by (with_reducible repeat (first|apply Kd.R_alloc|apply Kd.R_drewN|apply Kd.R_drew));exact Kd.R_mono HO434.out (fun _ hk=>trivial)⟩,⟨zb69⟩⟩
    ·rw [if_neg c13] at H
     exact absurd H zb24
   ·rw [if_neg c5] at H
    exact absurd H zb24
def tollbarref08_opened.f (k:Nat) (l0:List Int):Option (ByteArray × ByteArray × Int × List (S36) × List Int × Int × Int × Bool × Int) :=
 (tollbarref08_Lines.f k l0).bind fun L=>if (L.1.length:Int)=0 then some (⟨#[]⟩,⟨#[]⟩,0,[],[],0,0,false,L.2.2) else (if 0 < (L.1.length:Int) then ((tollbarref05_Request.f k (rdOf ByteArray.empty L.1 0)).bind fun q=>if q.2.2.2.2.2=0 then ((tollbarref08_fields.f k (L.1.drop 1)).bind fun g=>if g.2=0 then (if L.2.1=0 then some (⟨#[]⟩,⟨#[]⟩,0,[],[],0,0,false,L.2.2) else
  ((tollbarref04_Get.f k g.1 (⟨#[104,111,115,116]⟩:ByteArray)).bind fun hs=>if (hs.length:Int) > 1 then some (⟨#[]⟩,⟨#[]⟩,0,[],[],0,0,false,400) else (if (hs.length:Int)=0 then (if q.2.2.1=1 then some (⟨#[]⟩,⟨#[]⟩,0,[],[],0,0,false,400) else ((tollbarref07_Request.f k g.1 q.2.2.1).bind fun y=>if y.2.2=0 then some (q.1,q.2.1,q.2.2.1,g.1,q.2.2.2.2.1,L.2.1,y.1,y.2.1,0) else some (⟨#[]⟩,⟨#[]⟩,0,[],[],0,0,false,y.2.2))) else ((tollbarref05_Host.f k (rdOf ByteArray.empty hs 0)).bind fun x=>if x.2=true then ((tollbarref07_Request.f k g.1 q.2.2.1).bind fun y=>if y.2.2=0 then some (q.1,q.2.1,q.2.2.1,g.1,q.2.2.2.2.1,L.2.1,y.1,y.2.1,0) else some (⟨#[]⟩,⟨#[]⟩,0,[],[],0,0,false,y.2.2)) else some (⟨#[]⟩,⟨#[]⟩,0,[],[],0,0,false,400))))) else some (⟨#[]⟩,⟨#[]⟩,0,[],[],0,0,false,g.2)) else some (⟨#[]⟩,⟨#[]⟩,0,[],[],0,0,false,q.2.2.2.2.2)) else none)
set_option maxHeartbeats 0 in
theorem tollbarref08_opened_leaf {p:Prop} (h:p:=by
 go_enter Tryz.func46,Tryz.ntmps46
 go_wp2_with (first
  | ((with_reducible refine gate_dst (N:=2) rfl ?_);refine box_event ?hg (N:=2) ?hd (cs:=#[.string (⟨#[]⟩:ByteArray),.string (⟨#[]⟩:ByteArray),.int .i64 0,.slice none 0 0,.slice none 0 0]) (t:=26) ?hr ?_;(case hd=>rfl);(case hg=>rfl);(case hr=>first|(go_simp;done)|(go_simp;rfl));intro R hR w5 hBR hb5;have BR:=Aside0.mk hBR;have LR:=Aside0.mk hb5;have ER:=Aside0.mk hR;clear hBR hb5 hR)
  | (go_at_call 36;refine (tollbarref04_Get.calls k Af cf g1 (⟨#[104,111,115,116]⟩:ByteArray) hs _ (Kd.R_reads' (Kd.R_far (p:=⟨w7.heap.size,3,none⟩) S8.out (fun q hq=>hq.1) (.slice Af g1.length cf))).2.2 (Kd.R_reads' S8.out).2.1 HH.out).mono ?_;rintro E w9 ⟨v9,rfl,h9,hb9⟩;obtain ⟨Ah,ch,rfl⟩:=Kd.R_slice h9;have SH9:=Aside0.mk h9;have S9:=Aside0.mk (Kd.R_below (Kd.R_far (p:=⟨w7.heap.size,3,none⟩) S8.out (fun q hq=>hq.1) (.slice Af g1.length cf)) hb9);have SB9:=Aside0.mk (Kd.R_below (Kd.R_far (p:=⟨w7.heap.size,3,none⟩) SB8.out (fun q hq=>hq.1) (.slice Af g1.length cf)) hb9);have BX9:=Aside0.mk (blk_below (blk_put BX8.out 3 (.slice Af g1.length cf) rfl) hb9);have BR9:=Aside0.mk (blk_below ((Below.heap_setCell w8 ⟨w7.heap.size,3,none⟩ (.slice Af g1.length cf) R RX.out).trans BR8.out) hb9);have L9:=Aside0.mk ((L8.out.setCell (p:=⟨w7.heap.size,3,none⟩) LX.out (.slice Af g1.length cf)).trans (hbase (by simpa [World.setCell] using L8.out.size) hb9));have fR0:=blk_frozen BR9.out 0;have qR0:w9.cell? ⟨R,0,none⟩=some (.string (⟨#[]⟩:ByteArray)):=(blk_cell BR9.out 0).trans rfl;have fR1:=blk_frozen BR9.out 1;have qR1:w9.cell? ⟨R,1,none⟩=some (.string (⟨#[]⟩:ByteArray)):=(blk_cell BR9.out 1).trans rfl;have fR2:=blk_frozen BR9.out 2;have qR2:w9.cell? ⟨R,2,none⟩=some (.int .i64 0):=(blk_cell BR9.out 2).trans rfl;have fR3:=blk_frozen BR9.out 3;have qR3:w9.cell? ⟨R,3,none⟩=some (.slice none 0 0):=(blk_cell BR9.out 3).trans rfl;have fR4:=blk_frozen BR9.out 4;have qR4:w9.cell? ⟨R,4,none⟩=some (.slice none 0 0):=(blk_cell BR9.out 4).trans rfl;have fX0:=blk_frozen BX9.out 0;have qX0:w9.cell? ⟨w7.heap.size,0,none⟩=some (.string q1):=(blk_cell BX9.out 0).trans rfl;have fX1:=blk_frozen BX9.out 1;have qX1:w9.cell? ⟨w7.heap.size,1,none⟩=some (.string q2):=(blk_cell BX9.out 1).trans rfl;have fX2:=blk_frozen BX9.out 2;have qX2:w9.cell? ⟨w7.heap.size,2,none⟩=some (.int .i64 q3):=(blk_cell BX9.out 2).trans rfl;have fX3:=blk_frozen BX9.out 3;have qX3:w9.cell? ⟨w7.heap.size,3,none⟩=some (.slice Af g1.length cf):=(blk_cell BX9.out 3).trans rfl;have fX4:=blk_frozen BX9.out 4;have qX4:w9.cell? ⟨w7.heap.size,4,none⟩=some (.slice A4 q5.length c4):=(blk_cell BX9.out 4).trans rfl;obtain ⟨ah,eh,hy⟩:=Kd.at_string (Kd.R_reads' SH9.out).2.2 0 (by omega) NH.out;cases eh;rw [show ((0:Int)).toNat=0 from rfl] at hy;rw [Addr.add_zero'] at hy;clear h9 hb9)
  | (go_at_call 36;refine (tollbarref04_Get.calls k Af cf g1 (⟨#[104,111,115,116]⟩:ByteArray) hs _ (Kd.R_reads' (Kd.R_far (p:=⟨w7.heap.size,3,none⟩) S8.out (fun q hq=>hq.1) (.slice Af g1.length cf))).2.2 (Kd.R_reads' S8.out).2.1 HH.out).mono ?_;rintro E w9 ⟨v9,rfl,h9,hb9⟩;obtain ⟨Ah,ch,rfl⟩:=Kd.R_slice h9;have SH9:=Aside0.mk h9;have S9:=Aside0.mk (Kd.R_below (Kd.R_far (p:=⟨w7.heap.size,3,none⟩) S8.out (fun q hq=>hq.1) (.slice Af g1.length cf)) hb9);have SB9:=Aside0.mk (Kd.R_below (Kd.R_far (p:=⟨w7.heap.size,3,none⟩) SB8.out (fun q hq=>hq.1) (.slice Af g1.length cf)) hb9);have BX9:=Aside0.mk (blk_below (blk_put BX8.out 3 (.slice Af g1.length cf) rfl) hb9);have BR9:=Aside0.mk (blk_below ((Below.heap_setCell w8 ⟨w7.heap.size,3,none⟩ (.slice Af g1.length cf) R RX.out).trans BR8.out) hb9);have L9:=Aside0.mk ((L8.out.setCell (p:=⟨w7.heap.size,3,none⟩) LX.out (.slice Af g1.length cf)).trans (hbase (by simpa [World.setCell] using L8.out.size) hb9));have fR0:=blk_frozen BR9.out 0;have qR0:w9.cell? ⟨R,0,none⟩=some (.string (⟨#[]⟩:ByteArray)):=(blk_cell BR9.out 0).trans rfl;have fR1:=blk_frozen BR9.out 1;have qR1:w9.cell? ⟨R,1,none⟩=some (.string (⟨#[]⟩:ByteArray)):=(blk_cell BR9.out 1).trans rfl;have fR2:=blk_frozen BR9.out 2;have qR2:w9.cell? ⟨R,2,none⟩=some (.int .i64 0):=(blk_cell BR9.out 2).trans rfl;have fR3:=blk_frozen BR9.out 3;have qR3:w9.cell? ⟨R,3,none⟩=some (.slice none 0 0):=(blk_cell BR9.out 3).trans rfl;have fR4:=blk_frozen BR9.out 4;have qR4:w9.cell? ⟨R,4,none⟩=some (.slice none 0 0):=(blk_cell BR9.out 4).trans rfl;have fX0:=blk_frozen BX9.out 0;have qX0:w9.cell? ⟨w7.heap.size,0,none⟩=some (.string q1):=(blk_cell BX9.out 0).trans rfl;have fX1:=blk_frozen BX9.out 1;have qX1:w9.cell? ⟨w7.heap.size,1,none⟩=some (.string q2):=(blk_cell BX9.out 1).trans rfl;have fX2:=blk_frozen BX9.out 2;have qX2:w9.cell? ⟨w7.heap.size,2,none⟩=some (.int .i64 q3):=(blk_cell BX9.out 2).trans rfl;have fX3:=blk_frozen BX9.out 3;have qX3:w9.cell? ⟨w7.heap.size,3,none⟩=some (.slice Af g1.length cf):=(blk_cell BX9.out 3).trans rfl;have fX4:=blk_frozen BX9.out 4;have qX4:w9.cell? ⟨w7.heap.size,4,none⟩=some (.slice A4 q5.length c4):=(blk_cell BX9.out 4).trans rfl;clear h9 hb9)
  | (go_at_call 52;refine (tollbarref05_Host.calls k _ x1 _ w9 HO.out).mono ?_;rintro E w10 ⟨rfl,hb10⟩;have S10:=Aside0.mk (Kd.R_below S9.out hb10);have SB10:=Aside0.mk (Kd.R_below SB9.out hb10);have BX10:=Aside0.mk (blk_below BX9.out hb10);have BR10:=Aside0.mk (blk_below BR9.out hb10);have L10:=Aside0.mk (L9.out.trans (hbase L9.out.size hb10));have fR0:=blk_frozen BR10.out 0;have qR0:w10.cell? ⟨R,0,none⟩=some (.string (⟨#[]⟩:ByteArray)):=(blk_cell BR10.out 0).trans rfl;have fR1:=blk_frozen BR10.out 1;have qR1:w10.cell? ⟨R,1,none⟩=some (.string (⟨#[]⟩:ByteArray)):=(blk_cell BR10.out 1).trans rfl;have fR2:=blk_frozen BR10.out 2;have qR2:w10.cell? ⟨R,2,none⟩=some (.int .i64 0):=(blk_cell BR10.out 2).trans rfl;have fR3:=blk_frozen BR10.out 3;have qR3:w10.cell? ⟨R,3,none⟩=some (.slice none 0 0):=(blk_cell BR10.out 3).trans rfl;have fR4:=blk_frozen BR10.out 4;have qR4:w10.cell? ⟨R,4,none⟩=some (.slice none 0 0):=(blk_cell BR10.out 4).trans rfl;have fX0:=blk_frozen BX10.out 0;have qX0:w10.cell? ⟨w7.heap.size,0,none⟩=some (.string q1):=(blk_cell BX10.out 0).trans rfl;have fX1:=blk_frozen BX10.out 1;have qX1:w10.cell? ⟨w7.heap.size,1,none⟩=some (.string q2):=(blk_cell BX10.out 1).trans rfl;have fX2:=blk_frozen BX10.out 2;have qX2:w10.cell? ⟨w7.heap.size,2,none⟩=some (.int .i64 q3):=(blk_cell BX10.out 2).trans rfl;have fX3:=blk_frozen BX10.out 3;have qX3:w10.cell? ⟨w7.heap.size,3,none⟩=some (.slice Af g1.length cf):=(blk_cell BX10.out 3).trans rfl;have fX4:=blk_frozen BX10.out 4;have qX4:w10.cell? ⟨w7.heap.size,4,none⟩=some (.slice A4 q5.length c4):=(blk_cell BX10.out 4).trans rfl;clear hb10)
  | (go_at_call 81;refine (tollbarref05_Request.calls k _ q1 q2 q3 q4 q5 _ w6 HQ.out).mono ?_;rintro E w7 ⟨v3,v4,rfl,h3,h4,hb7⟩;obtain ⟨A3,c3,rfl⟩:=Kd.R_slice h3;obtain ⟨A4,c4,rfl⟩:=Kd.R_slice h4;have S7:=Aside0.mk (Kd.R_alloc (Kd.R_below S6.out hb7) (.cells #[.string q1,.string q2,.int .i64 q3,.slice A3 q4.length c3,.slice A4 q5.length c4] 26 (0,0)));have SB7:=Aside0.mk (Kd.R_alloc (Kd.R_mono (Kd.R_bound h4) (fun q hq=>(⟨Nat.ne_of_lt hq.2.2.1,fun e=>by have z1:=hq.2.1;have z2:=blk_lt BR6.out;omega⟩:q ≠ w7.heap.size∧q ≠ R))) (.cells #[.string q1,.string q2,.int .i64 q3,.slice A3 q4.length c3,.slice A4 q5.length c4] 26 (0,0)));have L7:=Aside0.mk (below_alloc (L6.out.trans (hbase L6.out.size hb7)) (.cells #[.string q1,.string q2,.int .i64 q3,.slice A3 q4.length c3,.slice A4 q5.length c4] 26 (0,0)));have BR7:=Aside0.mk (blk_alloc (blk_below BR6.out hb7) (.cells #[.string q1,.string q2,.int .i64 q3,.slice A3 q4.length c3,.slice A4 q5.length c4] 26 (0,0)));have LX:=Aside0.mk (L6.out.trans (hbase L6.out.size hb7)).size;have RX:=Aside0.mk (Nat.ne_of_lt (blk_lt (blk_below BR6.out hb7)));have BX7:=Aside0.mk (blk_new w7 (.cells #[.string q1,.string q2,.int .i64 q3,.slice A3 q4.length c3,.slice A4 q5.length c4] 26 (0,0)));have fR0:=blk_frozen BR7.out 0;have qR0:(w7.alloc (.cells #[.string q1,.string q2,.int .i64 q3,.slice A3 q4.length c3,.slice A4 q5.length c4] 26 (0,0))).cell? ⟨R,0,none⟩=some (.string (⟨#[]⟩:ByteArray)):=(blk_cell BR7.out 0).trans rfl;have fR1:=blk_frozen BR7.out 1;have qR1:(w7.alloc (.cells #[.string q1,.string q2,.int .i64 q3,.slice A3 q4.length c3,.slice A4 q5.length c4] 26 (0,0))).cell? ⟨R,1,none⟩=some (.string (⟨#[]⟩:ByteArray)):=(blk_cell BR7.out 1).trans rfl;have fR2:=blk_frozen BR7.out 2;have qR2:(w7.alloc (.cells #[.string q1,.string q2,.int .i64 q3,.slice A3 q4.length c3,.slice A4 q5.length c4] 26 (0,0))).cell? ⟨R,2,none⟩=some (.int .i64 0):=(blk_cell BR7.out 2).trans rfl;have fR3:=blk_frozen BR7.out 3;have qR3:(w7.alloc (.cells #[.string q1,.string q2,.int .i64 q3,.slice A3 q4.length c3,.slice A4 q5.length c4] 26 (0,0))).cell? ⟨R,3,none⟩=some (.slice none 0 0):=(blk_cell BR7.out 3).trans rfl;have fR4:=blk_frozen BR7.out 4;have qR4:(w7.alloc (.cells #[.string q1,.string q2,.int .i64 q3,.slice A3 q4.length c3,.slice A4 q5.length c4] 26 (0,0))).cell? ⟨R,4,none⟩=some (.slice none 0 0):=(blk_cell BR7.out 4).trans rfl;clear h3 h4 hb7)
  | (go_at_call 83;refine (tollbarref07_Request.calls k Af cf g1 q3 y1 y2 _ w10 (Kd.R_reads' S10.out).2.2 (Kd.R_reads' S10.out).2.1 HY.out).mono ?_;rintro E w11 ⟨rfl,hb11⟩;have S11:=Aside0.mk (Kd.R_below S10.out hb11);have SB11:=Aside0.mk (Kd.R_below SB10.out hb11);have BX11:=Aside0.mk (blk_below BX10.out hb11);have BR11:=Aside0.mk (blk_below BR10.out hb11);have L11:=Aside0.mk (L10.out.trans (hbase L10.out.size hb11));have fR0:=blk_frozen BR11.out 0;have qR0:w11.cell? ⟨R,0,none⟩=some (.string (⟨#[]⟩:ByteArray)):=(blk_cell BR11.out 0).trans rfl;have fR1:=blk_frozen BR11.out 1;have qR1:w11.cell? ⟨R,1,none⟩=some (.string (⟨#[]⟩:ByteArray)):=(blk_cell BR11.out 1).trans rfl;have fR2:=blk_frozen BR11.out 2;have qR2:w11.cell? ⟨R,2,none⟩=some (.int .i64 0):=(blk_cell BR11.out 2).trans rfl;have fR3:=blk_frozen BR11.out 3;have qR3:w11.cell? ⟨R,3,none⟩=some (.slice none 0 0):=(blk_cell BR11.out 3).trans rfl;have fR4:=blk_frozen BR11.out 4;have qR4:w11.cell? ⟨R,4,none⟩=some (.slice none 0 0):=(blk_cell BR11.out 4).trans rfl;have fX0:=blk_frozen BX11.out 0;have qX0:w11.cell? ⟨w7.heap.size,0,none⟩=some (.string q1):=(blk_cell BX11.out 0).trans rfl;have fX1:=blk_frozen BX11.out 1;have qX1:w11.cell? ⟨w7.heap.size,1,none⟩=some (.string q2):=(blk_cell BX11.out 1).trans rfl;have fX2:=blk_frozen BX11.out 2;have qX2:w11.cell? ⟨w7.heap.size,2,none⟩=some (.int .i64 q3):=(blk_cell BX11.out 2).trans rfl;have fX3:=blk_frozen BX11.out 3;have qX3:w11.cell? ⟨w7.heap.size,3,none⟩=some (.slice Af g1.length cf):=(blk_cell BX11.out 3).trans rfl;have fX4:=blk_frozen BX11.out 4;have qX4:w11.cell? ⟨w7.heap.size,4,none⟩=some (.slice A4 q5.length c4):=(blk_cell BX11.out 4).trans rfl;clear hb11)
  | (go_at_call 83;refine (tollbarref07_Request.calls k Af cf g1 q3 y1 y2 _ w9 (Kd.R_reads' S9.out).2.2 (Kd.R_reads' S9.out).2.1 HY.out).mono ?_;rintro E w11 ⟨rfl,hb11⟩;have S11:=Aside0.mk (Kd.R_below S9.out hb11);have SB11:=Aside0.mk (Kd.R_below SB9.out hb11);have BX11:=Aside0.mk (blk_below BX9.out hb11);have BR11:=Aside0.mk (blk_below BR9.out hb11);have L11:=Aside0.mk (L9.out.trans (hbase L9.out.size hb11));have fR0:=blk_frozen BR11.out 0;have qR0:w11.cell? ⟨R,0,none⟩=some (.string (⟨#[]⟩:ByteArray)):=(blk_cell BR11.out 0).trans rfl;have fR1:=blk_frozen BR11.out 1;have qR1:w11.cell? ⟨R,1,none⟩=some (.string (⟨#[]⟩:ByteArray)):=(blk_cell BR11.out 1).trans rfl;have fR2:=blk_frozen BR11.out 2;have qR2:w11.cell? ⟨R,2,none⟩=some (.int .i64 0):=(blk_cell BR11.out 2).trans rfl;have fR3:=blk_frozen BR11.out 3;have qR3:w11.cell? ⟨R,3,none⟩=some (.slice none 0 0):=(blk_cell BR11.out 3).trans rfl;have fR4:=blk_frozen BR11.out 4;have qR4:w11.cell? ⟨R,4,none⟩=some (.slice none 0 0):=(blk_cell BR11.out 4).trans rfl;have fX0:=blk_frozen BX11.out 0;have qX0:w11.cell? ⟨w7.heap.size,0,none⟩=some (.string q1):=(blk_cell BX11.out 0).trans rfl;have fX1:=blk_frozen BX11.out 1;have qX1:w11.cell? ⟨w7.heap.size,1,none⟩=some (.string q2):=(blk_cell BX11.out 1).trans rfl;have fX2:=blk_frozen BX11.out 2;have qX2:w11.cell? ⟨w7.heap.size,2,none⟩=some (.int .i64 q3):=(blk_cell BX11.out 2).trans rfl;have fX3:=blk_frozen BX11.out 3;have qX3:w11.cell? ⟨w7.heap.size,3,none⟩=some (.slice Af g1.length cf):=(blk_cell BX11.out 3).trans rfl;have fX4:=blk_frozen BX11.out 4;have qX4:w11.cell? ⟨w7.heap.size,4,none⟩=some (.slice A4 q5.length c4):=(blk_cell BX11.out 4).trans rfl;clear hb11)
  | (go_at_call 80;refine (tollbarref08_Lines.calls k A0 c0 l0 _ _ _ w5 (Kd.C_below HC.out LR.out) HCC.out HL.out).mono ?_;rintro E w6 ⟨v6,rfl,h6,hb6⟩;obtain ⟨As,cs,rfl⟩:=Kd.R_slice h6;have S6:=Aside0.mk h6;have L6:=Aside0.mk (LR.out.trans (hbase LR.out.size hb6));have BR6:=Aside0.mk (blk_below BR.out hb6);have fR0:=blk_frozen BR6.out 0;have qR0:w6.cell? ⟨R,0,none⟩=some (.string (⟨#[]⟩:ByteArray)):=(blk_cell BR6.out 0).trans rfl;have fR1:=blk_frozen BR6.out 1;have qR1:w6.cell? ⟨R,1,none⟩=some (.string (⟨#[]⟩:ByteArray)):=(blk_cell BR6.out 1).trans rfl;have fR2:=blk_frozen BR6.out 2;have qR2:w6.cell? ⟨R,2,none⟩=some (.int .i64 0):=(blk_cell BR6.out 2).trans rfl;have fR3:=blk_frozen BR6.out 3;have qR3:w6.cell? ⟨R,3,none⟩=some (.slice none 0 0):=(blk_cell BR6.out 3).trans rfl;have fR4:=blk_frozen BR6.out 4;have qR4:w6.cell? ⟨R,4,none⟩=some (.slice none 0 0):=(blk_cell BR6.out 4).trans rfl;obtain ⟨ad,ea,hx⟩:=Kd.at_string (Kd.R_reads' S6.out).2.2 0 (by omega) NE.out;cases ea;rw [show ((0:Int)).toNat=0 from rfl] at hx;rw [Addr.add_zero'] at hx;obtain ⟨A1,hsl,hrd,hcc⟩:=print_drop_of (P:=Tryz.prog) Value.string ByteArray.empty 34 9 .i64 Tryz.underlying34 HI.out.1 HI.out.2 (some ad) cs ss 1 (by omega) (by have z:=NE.out;omega) (Kd.R_reads' S6.out).2.1;rw [← HDS.out] at hsl hrd hcc;have HRD:=Aside0.mk hrd;have HDC:=Aside0.mk hcc;clear hrd hcc;clear h6 hb6)
  | (go_at_call 80;refine (tollbarref08_Lines.calls k A0 c0 l0 _ _ _ w5 (Kd.C_below HC.out LR.out) HCC.out HL.out).mono ?_;rintro E w6 ⟨v6,rfl,h6,hb6⟩;obtain ⟨As,cs,rfl⟩:=Kd.R_slice h6;have S6:=Aside0.mk h6;have L6:=Aside0.mk (LR.out.trans (hbase LR.out.size hb6));have BR6:=Aside0.mk (blk_below BR.out hb6);have fR0:=blk_frozen BR6.out 0;have qR0:w6.cell? ⟨R,0,none⟩=some (.string (⟨#[]⟩:ByteArray)):=(blk_cell BR6.out 0).trans rfl;have fR1:=blk_frozen BR6.out 1;have qR1:w6.cell? ⟨R,1,none⟩=some (.string (⟨#[]⟩:ByteArray)):=(blk_cell BR6.out 1).trans rfl;have fR2:=blk_frozen BR6.out 2;have qR2:w6.cell? ⟨R,2,none⟩=some (.int .i64 0):=(blk_cell BR6.out 2).trans rfl;have fR3:=blk_frozen BR6.out 3;have qR3:w6.cell? ⟨R,3,none⟩=some (.slice none 0 0):=(blk_cell BR6.out 3).trans rfl;have fR4:=blk_frozen BR6.out 4;have qR4:w6.cell? ⟨R,4,none⟩=some (.slice none 0 0):=(blk_cell BR6.out 4).trans rfl;obtain ⟨ad,ea,hx⟩:=Kd.at_string (Kd.R_reads' S6.out).2.2 0 (by omega) NE.out;cases ea;rw [show ((0:Int)).toNat=0 from rfl] at hx;rw [Addr.add_zero'] at hx;clear h6 hb6)
  | (go_at_call 80;refine (tollbarref08_Lines.calls k A0 c0 l0 _ _ _ w5 (Kd.C_below HC.out LR.out) HCC.out HL.out).mono ?_;rintro E w6 ⟨v6,rfl,h6,hb6⟩;obtain ⟨As,cs,rfl⟩:=Kd.R_slice h6;have S6:=Aside0.mk h6;have L6:=Aside0.mk (LR.out.trans (hbase LR.out.size hb6));have BR6:=Aside0.mk (blk_below BR.out hb6);have fR0:=blk_frozen BR6.out 0;have qR0:w6.cell? ⟨R,0,none⟩=some (.string (⟨#[]⟩:ByteArray)):=(blk_cell BR6.out 0).trans rfl;have fR1:=blk_frozen BR6.out 1;have qR1:w6.cell? ⟨R,1,none⟩=some (.string (⟨#[]⟩:ByteArray)):=(blk_cell BR6.out 1).trans rfl;have fR2:=blk_frozen BR6.out 2;have qR2:w6.cell? ⟨R,2,none⟩=some (.int .i64 0):=(blk_cell BR6.out 2).trans rfl;have fR3:=blk_frozen BR6.out 3;have qR3:w6.cell? ⟨R,3,none⟩=some (.slice none 0 0):=(blk_cell BR6.out 3).trans rfl;have fR4:=blk_frozen BR6.out 4;have qR4:w6.cell? ⟨R,4,none⟩=some (.slice none 0 0):=(blk_cell BR6.out 4).trans rfl;clear h6 hb6)
  | (go_at_call 82;refine (tollbarref08_fields.calls k A1 _ ds g1 _ _ (Kd.C_of_reads (h1:=fun _=>rfl) (HRD.out _ (Kd.reads_of_C (d:=ByteArray.empty) (Kd.R_reads' S7.out).2.2))) HDC.out HG.out).mono ?_;rintro E w8 ⟨v8,rfl,h8,hb8⟩;obtain ⟨Af,cf,rfl⟩:=Kd.R_slice h8;have S8:=Aside0.mk (Kd.R_mono (Kd.R_bound h8) (fun q hq=>(⟨fun e=>by have z1:=hq.2.1;have z2:=blk_lt BX7.out;omega,fun e=>by have z1:=hq.2.1;have z2:=blk_lt BR7.out;omega⟩:q ≠ w7.heap.size∧q ≠ R)));have SB8:=Aside0.mk (Kd.R_below SB7.out hb8);have BX8:=Aside0.mk (blk_below BX7.out hb8);have BR8:=Aside0.mk (blk_below BR7.out hb8);have L8:=Aside0.mk (L7.out.trans (hbase L7.out.size hb8));have fR0:=blk_frozen BR8.out 0;have qR0:w8.cell? ⟨R,0,none⟩=some (.string (⟨#[]⟩:ByteArray)):=(blk_cell BR8.out 0).trans rfl;have fR1:=blk_frozen BR8.out 1;have qR1:w8.cell? ⟨R,1,none⟩=some (.string (⟨#[]⟩:ByteArray)):=(blk_cell BR8.out 1).trans rfl;have fR2:=blk_frozen BR8.out 2;have qR2:w8.cell? ⟨R,2,none⟩=some (.int .i64 0):=(blk_cell BR8.out 2).trans rfl;have fR3:=blk_frozen BR8.out 3;have qR3:w8.cell? ⟨R,3,none⟩=some (.slice none 0 0):=(blk_cell BR8.out 3).trans rfl;have fR4:=blk_frozen BR8.out 4;have qR4:w8.cell? ⟨R,4,none⟩=some (.slice none 0 0):=(blk_cell BR8.out 4).trans rfl;have fX0:=blk_frozen BX8.out 0;have qX0:w8.cell? ⟨w7.heap.size,0,none⟩=some (.string q1):=(blk_cell BX8.out 0).trans rfl;have fX1:=blk_frozen BX8.out 1;have qX1:w8.cell? ⟨w7.heap.size,1,none⟩=some (.string q2):=(blk_cell BX8.out 1).trans rfl;have fX2:=blk_frozen BX8.out 2;have qX2:w8.cell? ⟨w7.heap.size,2,none⟩=some (.int .i64 q3):=(blk_cell BX8.out 2).trans rfl;have fX3:=blk_frozen BX8.out 3;have qX3:w8.cell? ⟨w7.heap.size,3,none⟩=some (.slice A3 q4.length c3):=(blk_cell BX8.out 3).trans rfl;have fX4:=blk_frozen BX8.out 4;have qX4:w8.cell? ⟨w7.heap.size,4,none⟩=some (.slice A4 q5.length c4):=(blk_cell BX8.out 4).trans rfl;clear h8 hb8))
 first
  | (refine bodyPost_ret (results_list (rs:=[.cell 2 26,.tmp 3,.tmp 4,.tmp 5,.tmp 6]) rfl (by simp) (.cell R 26 #[.string q1,.string q2,.int .i64 q3,.slice Af g1.length cf,.slice A4 q5.length c4] (0,0) _ rfl (opBlk5 BR11.out _ _ _ _ _) hu rfl (by kernel_rfl) (.tmp (.tmp (.tmp (.tmp .nil)))))) rfl ?_;exact ⟨_,_,rfl,Kd.R_lower (Kd.R_mono (opR5 (Kd.R_mono S11.out (fun _ hk=>hk.2)) _ _ _ _ _) (fun _ _=>trivial)) L7.out.size,Kd.R_lower (Kd.R_mono (opR5 (Kd.R_mono SB11.out (fun _ hk=>hk.2)) _ _ _ _ _) (fun _ _=>trivial)) L6.out.size,opPut5 L11.out (Nat.le_of_eq ER.out.symm) _ _ _ _ _⟩)
  | (refine bodyPost_ret (results_list (rs:=[.cell 2 26,.tmp 3,.tmp 4,.tmp 5,.tmp 6]) rfl (by simp) (.cell R 26 #[.string (⟨#[]⟩:ByteArray),.string (⟨#[]⟩:ByteArray),.int .i64 0,.slice none 0 0,.slice none 0 0] (0,0) _ rfl (opBlk5 BR11.out _ _ _ _ _) hu rfl (by kernel_rfl) (.tmp (.tmp (.tmp (.tmp .nil)))))) rfl ?_;exact open_none (opPut5 L11.out (Nat.le_of_eq ER.out.symm) _ _ _ _ _))
  | (refine bodyPost_ret (results_list (rs:=[.cell 2 26,.tmp 3,.tmp 4,.tmp 5,.tmp 6]) rfl (by simp) (.cell R 26 #[.string (⟨#[]⟩:ByteArray),.string (⟨#[]⟩:ByteArray),.int .i64 0,.slice none 0 0,.slice none 0 0] (0,0) _ rfl (opBlk5 BR10.out _ _ _ _ _) hu rfl (by kernel_rfl) (.tmp (.tmp (.tmp (.tmp .nil)))))) rfl ?_;exact open_none (opPut5 L10.out (Nat.le_of_eq ER.out.symm) _ _ _ _ _))
  | (refine bodyPost_ret (results_list (rs:=[.cell 2 26,.tmp 3,.tmp 4,.tmp 5,.tmp 6]) rfl (by simp) (.cell R 26 #[.string (⟨#[]⟩:ByteArray),.string (⟨#[]⟩:ByteArray),.int .i64 0,.slice none 0 0,.slice none 0 0] (0,0) _ rfl (opBlk5 BR9.out _ _ _ _ _) hu rfl (by kernel_rfl) (.tmp (.tmp (.tmp (.tmp .nil)))))) rfl ?_;exact open_none (opPut5 L9.out (Nat.le_of_eq ER.out.symm) _ _ _ _ _))
  | (refine bodyPost_ret (results_list (rs:=[.cell 2 26,.tmp 3,.tmp 4,.tmp 5,.tmp 6]) rfl (by simp) (.cell R 26 #[.string (⟨#[]⟩:ByteArray),.string (⟨#[]⟩:ByteArray),.int .i64 0,.slice none 0 0,.slice none 0 0] (0,0) _ rfl (opBlk5 BR8.out _ _ _ _ _) hu rfl (by kernel_rfl) (.tmp (.tmp (.tmp (.tmp .nil)))))) rfl ?_;exact open_none (opPut5 L8.out (Nat.le_of_eq ER.out.symm) _ _ _ _ _))
  | (refine bodyPost_ret (results_list (rs:=[.cell 2 26,.tmp 3,.tmp 4,.tmp 5,.tmp 6]) rfl (by simp) (.cell R 26 #[.string (⟨#[]⟩:ByteArray),.string (⟨#[]⟩:ByteArray),.int .i64 0,.slice none 0 0,.slice none 0 0] (0,0) _ rfl (opBlk5 BR7.out _ _ _ _ _) hu rfl (by kernel_rfl) (.tmp (.tmp (.tmp (.tmp .nil)))))) rfl ?_;exact open_none (opPut5 L7.out (Nat.le_of_eq ER.out.symm) _ _ _ _ _))
  | (refine bodyPost_ret (results_list (rs:=[.cell 2 26,.tmp 3,.tmp 4,.tmp 5,.tmp 6]) rfl (by simp) (.cell R 26 #[.string (⟨#[]⟩:ByteArray),.string (⟨#[]⟩:ByteArray),.int .i64 0,.slice none 0 0,.slice none 0 0] (0,0) _ rfl (opBlk5 BR6.out _ _ _ _ _) hu rfl (by kernel_rfl) (.tmp (.tmp (.tmp (.tmp .nil)))))) rfl ?_;exact open_none (opPut5 L6.out (Nat.le_of_eq ER.out.symm) _ _ _ _ _))):p:=h
theorem tollbarref08_opened.calls (k:Nat) (A0:Option Addr) (c0:Nat) (l0:List Int) (r1 r2:ByteArray) (r3:Int) (r4:List (S36)) (r5:List Int) (r6:Int) (r7:Int) (r8:Bool) (r9:Int) (w:World) (hr0:Kd.C (Kd.int .u8) w A0 l0.length l0) (hc0:l0.length ≤ c0) (h:tollbarref08_opened.f k l0=some (r1,r2,r3,r4,r5,r6,r7,r8,r9)) :
 Calls Tryz.prog 46 #[.slice A0 l0.length c0] w fun e w' => ∃ v3_ v4_:Value,e = .returned (.tuple #[.agg #[.string r1,.string r2,.int .i64 r3,v3_,v4_],.int .i64 r6,.int .i64 r7,.bool r8,.int .i64 r9])∧Kd.R k36 36 w' w.heap.size (fun _=>True) v3_ r4∧Kd.R (Kd.int .u8) 5 w' w.heap.size (fun _=>True) v4_ r5∧Below w.heap.size w w' := by
 show Calls _ _ _ _ (OpenPost w r1 r2 r3 r4 r5 r6 r7 r8 r9)
 unfold tollbarref08_opened.f at h
 obtain ⟨⟨ss,n0,cd⟩,hL,h'⟩:=Option.bind_eq_some_iff.1 h
 clear h
 simp only at h'
 have hu:=Tryz.underlying26
 have HC:=Aside0.mk hr0
 have HCC:=Aside0.mk hc0
 have HL:=Aside0.mk hL
 clear hr0 hc0 hL
 by_cases b0:(ss.length:Int)=0
 ·rw [if_pos b0] at h'
  have h:=h'
  clear h'
  simp only [zi,zj] at h
  obtain ⟨rfl,rfl,rfl,rfl,rfl,rfl,rfl,rfl,rfl⟩:=h
  have d0:((ss.length:Int) == 0)=true:=beq_iff_eq.2 b0
  have d1:(ss.length == 0)=true:=beq_iff_eq.2 zb10
  clear b0
  exact tollbarref08_opened_leaf
 rw [if_neg b0] at h'
 have d0:((ss.length:Int) == 0)=false:=beq_eq_false_iff_ne.2 b0
 have d1:(ss.length == 0)=false:=beq_eq_false_iff_ne.2 zb10
 clear b0
 by_cases b1:0 < (ss.length:Int);rotate_left
 ·rw [if_neg b1] at h'
  cases h'
 rw [if_pos b1] at h'
 have NE:=Aside0.mk b1
 have e0:(0 < ss.length)=True:=eq_true zb10
 have e00:((0:Int) < (ss.length:Int))=True:=eq_true b1
 clear b1
 obtain ⟨⟨q1,q2,q3,q4,q5,q6⟩,hq,h⟩:=Option.bind_eq_some_iff.1 h'
 clear h'
 try simp only at h
 have HQ:=Aside0.mk hq
 clear hq
 by_cases b2:q6=0;rotate_left
 ·rw [if_neg b2] at h
  simp only [zi,zj] at h
  obtain ⟨rfl,rfl,rfl,rfl,rfl,rfl,rfl,rfl,rfl⟩:=h
  have d2:(q6 != 0)=true:=bne_iff_ne.2 b2
  clear b2
  exact tollbarref08_opened_leaf
 rw [if_pos b2] at h
 subst b2
 obtain ⟨ds,hds⟩ : ∃ ds,ds=ss.drop (1:Int).toNat:=⟨_,rfl⟩
 obtain ⟨⟨g1,g2⟩,hg,h'⟩:=Option.bind_eq_some_iff.1 h
 clear h
 try simp only at h'
 have HG:=Aside0.mk (show tollbarref08_fields.f k ds=some (g1,g2) by rw [hds];exact hg)
 have HDS:=Aside0.mk hds
 clear hg hds
 obtain ⟨i0,hi0,_,hsz,_⟩:=info_parts info9
 have HI:=Aside0.mk (And.intro hi0 hsz)
 have e1:(1 ≤ (ss.length:Int))=True:=eq_true (by have z:=NE.out;omega)
 have e2:(1 ≤ ss.length)=True:=eq_true (by have z:=NE.out;omega)
 clear hi0 hsz
 by_cases b3:g2=0;rotate_left
 ·rw [if_neg b3] at h'
  have h:=h'
  clear h'
  simp only [zi,zj] at h
  obtain ⟨rfl,rfl,rfl,rfl,rfl,rfl,rfl,rfl,rfl⟩:=h
  have d3:(g2 != 0)=true:=bne_iff_ne.2 b3
  clear b3
  exact tollbarref08_opened_leaf
 rw [if_pos b3] at h'
 subst b3
 by_cases b4:n0=0
 ·rw [if_pos b4] at h'
  have h:=h'
  clear h'
  simp only [zi,zj] at h
  obtain ⟨rfl,rfl,rfl,rfl,rfl,rfl,rfl,rfl,rfl⟩:=h
  subst b4
  exact tollbarref08_opened_leaf
 rw [if_neg b4] at h'
 have d4:(n0 == 0)=false:=beq_eq_false_iff_ne.2 b4
 clear b4
 obtain ⟨hs,hh,h⟩:=Option.bind_eq_some_iff.1 h'
 clear h'
 try simp only at h
 have HH:=Aside0.mk hh
 clear hh
 by_cases b5:(hs.length:Int) > 1
 ·rw [if_pos b5] at h
  simp only [zi,zj] at h
  obtain ⟨rfl,rfl,rfl,rfl,rfl,rfl,rfl,rfl,rfl⟩:=h
  have d5:decide (1 < (hs.length:Int))=true:=decide_eq_true b5
  have d6:(1 < hs.length)=True:=eq_true zb10
  have d7:(1 < (hs.length:Int))=True:=eq_true b5
  clear b5
  exact tollbarref08_opened_leaf
 rw [if_neg b5] at h
 have d5:decide (1 < (hs.length:Int))=false:=decide_eq_false b5
 have d6:(1 < hs.length)=False:=eq_false zb10
 have d7:(1 < (hs.length:Int))=False:=eq_false b5
 by_cases b6:(hs.length:Int)=0
 ·rw [if_pos b6] at h
  have d8:((hs.length:Int) == 0)=true:=beq_iff_eq.2 b6
  have d9:(hs.length == 0)=true:=beq_iff_eq.2 zb10
  have da:((hs.length:Int) == 1)=false:=beq_eq_false_iff_ne.2 zb10
  have db:(hs.length == 1)=false:=beq_eq_false_iff_ne.2 zb10
  clear b5 b6
  by_cases b7:q3=1
  ·rw [if_pos b7] at h
   simp only [zi,zj] at h
   obtain ⟨rfl,rfl,rfl,rfl,rfl,rfl,rfl,rfl,rfl⟩:=h
   have dc:(q3 == 1)=true:=beq_iff_eq.2 b7
   clear b7
   exact tollbarref08_opened_leaf
  rw [if_neg b7] at h
  have dc:(q3 == 1)=false:=beq_eq_false_iff_ne.2 b7
  clear b7
  obtain ⟨⟨y1,y2,y3⟩,hy,h'⟩:=Option.bind_eq_some_iff.1 h
  clear h
  try simp only at h'
  have HY:=Aside0.mk hy
  clear hy
  by_cases b8:y3=0
  ·rw [if_pos b8] at h'
   have h:=h'
   clear h'
   simp only [zi,zj] at h
   obtain ⟨rfl,rfl,rfl,rfl,rfl,rfl,rfl,rfl,rfl⟩:=h
   subst b8
   exact tollbarref08_opened_leaf
  rw [if_neg b8] at h'
  have h:=h'
  clear h'
  simp only [zi,zj] at h
  obtain ⟨rfl,rfl,rfl,rfl,rfl,rfl,rfl,rfl,rfl⟩:=h
  have d8:(y3 != 0)=true:=bne_iff_ne.2 b8
  clear b8
  exact tollbarref08_opened_leaf
 rw [if_neg b6] at h
 have NH:=Aside0.mk (show (0:Int) < (hs.length:Int) by omega)
 have d8:((hs.length:Int) == 0)=false:=beq_eq_false_iff_ne.2 b6
 have d9:(hs.length == 0)=false:=beq_eq_false_iff_ne.2 zb10
 have da:((hs.length:Int) == 1)=true:=beq_iff_eq.2 zb10
 have db:(hs.length == 1)=true:=beq_iff_eq.2 zb10
 have dd:(0 < hs.length)=True:=eq_true zb10
 have de:((0:Int) < (hs.length:Int))=True:=eq_true zb10
 clear b5 b6
 obtain ⟨⟨x1,x2⟩,ho,h'⟩:=Option.bind_eq_some_iff.1 h
 clear h
 try simp only at h'
 have HO:=Aside0.mk ho
 clear ho
 cases x2
 ·rw [if_neg zb24] at h'
  have h:=h'
  clear h'
  simp only [zi,zj] at h
  obtain ⟨rfl,rfl,rfl,rfl,rfl,rfl,rfl,rfl,rfl⟩:=h
  exact tollbarref08_opened_leaf
 rw [if_pos rfl] at h'
 have h:=h'
 clear h'
 obtain ⟨⟨y1,y2,y3⟩,hy,h'⟩:=Option.bind_eq_some_iff.1 h
 clear h
 try simp only at h'
 have HY:=Aside0.mk hy
 clear hy
 by_cases b8:y3=0
 ·rw [if_pos b8] at h'
  have h:=h'
  clear h'
  simp only [zi,zj] at h
  obtain ⟨rfl,rfl,rfl,rfl,rfl,rfl,rfl,rfl,rfl⟩:=h
  subst b8
  exact tollbarref08_opened_leaf
 ·rw [if_neg b8] at h'
  have h:=h'
  clear h'
  simp only [zi,zj] at h
  obtain ⟨rfl,rfl,rfl,rfl,rfl,rfl,rfl,rfl,rfl⟩:=h
  have d8:(y3 != 0)=true:=bne_iff_ne.2 b8
  clear b8
  exact tollbarref08_opened_leaf
def tollbarref08_Head.f (k:Nat) (l0:List Int):Option (ByteArray × ByteArray × Int × (List (S36)) × List Int × Int × Int):=(tollbarref08_opened.f k l0).bind fun bt550=>(some (bt550.1,bt550.2.1,bt550.2.2.1,bt550.2.2.2.1,bt550.2.2.2.2.1,bt550.2.2.2.2.2.1,bt550.2.2.2.2.2.2.2.2))
theorem tollbarref08_Head.calls (k:Nat) (A0:Option Addr) (c0:Nat) (l0:List Int) (r1:ByteArray) (r2:ByteArray) (r3:Int) (r4:List (S36)) (r5:List Int) (r6:Int) (r7:Int) (w:World) (hr0:Kd.C (Kd.int .u8) w A0 l0.length l0) (hc0:l0.length ≤ c0) (h:tollbarref08_Head.f k l0=some (r1,r2,r3,r4,r5,r6,r7)) :
 Calls Tryz.prog 15 #[.slice A0 l0.length c0] w fun e w' => ∃ v3_ v4_:Value,e = .returned (.tuple #[.agg #[.string r1,.string r2,.int .i64 r3,v3_,v4_],.int .i64 r6,.int .i64 r7])∧Kd.R k36 36 w' w.heap.size (fun _=>True) v3_ r4∧Kd.R (Kd.int .u8) 5 w' w.heap.size (fun _=>True) v4_ r5∧Below w.heap.size w w' := by
 have hu26:=Tryz.underlying26
 have HR0:=Aside0.mk hr0
 have HC0:=Aside0.mk hc0
 clear hr0 hc0
 have HB:=zB w
 unfold tollbarref08_Head.f at h
 have H:=h
 clear h
 replace H:=Option.bind_eq_some_iff.mp H
 obtain ⟨⟨t550,t551,t552,t553,t556,t559,t560,t561,t562⟩,A20,H⟩:=H
 try dsimp only at H
 have A2:=Aside0.mk A20
 clear A20
 simp only [zi,zj] at H
 obtain ⟨rfl,rfl,rfl,rfl,rfl,rfl,rfl⟩:=H
 go_enter Tryz.func15,Tryz.ntmps15
 go_wp2_with (first|((with_reducible refine gate_dst (N:=2) rfl ?_);refine box_event rfl (N:=2) rfl (cs:=#[.string (⟨#[]⟩:ByteArray),.string (⟨#[]⟩:ByteArray),.int .i64 0,.slice none 0 0,.slice none 0 0]) (t:=26) zS ?_;intro gb549 hg w3 hbox hb;have GW549:=zG hg zb0;have GE549:=GW549;have BK549:=Aside0.mk hbox;replace HB:=Aside0.mk (below_step zb0 hb);clear hb hbox hg)|((with_reducible refine gate_callee (f:=46) rfl ?_);refine goesL_ (some 12) rfl rfl Tryz.func46 zb7 rfl #[.slice A0 l0.length c0] rfl zb2 ?_;(with_reducible refine (tollbarref08_opened.calls k _ _ l0 t550 t551 t552 t553 t556 t559 t560 t561 t562 _ ?side1 ?side2 A2.out).mono ?_);(case side1=>exact zb19);(case side2=>exact HC0.out);rintro e w4 ⟨v554,v557,rfl,ho0,ho1,hb⟩;(try clear A2);refine ⟨_,rfl,?_⟩;have HO555:=Aside0.mk (Kd.R_lower ho0 (below_size zb68));have HO558:=Aside0.mk (Kd.R_lower ho1 (below_size zb68));replace BK549:=Aside0.mk (blk_below (g:=gb549) (o:=.cells #[.string (⟨#[]⟩:ByteArray),.string (⟨#[]⟩:ByteArray),.int .i64 0,.slice none 0 0,.slice none 0 0] 26 (0,0)) zb98 hb);replace HB:=Aside0.mk (below_step zb68 hb);try clear hb ho0 ho1)|((with_reducible refine gate_dst (N:=5) rfl ?_);refine box_event rfl (N:=5) rfl (cs:=#[.string (⟨#[]⟩:ByteArray),.string (⟨#[]⟩:ByteArray),.int .i64 0,.slice none 0 0,.slice none 0 0]) (t:=26) zS ?_;intro gb563 hg w5 hbox hb;replace HO555:=Aside0.mk (Kd.R_below (by (with_reducible repeat (first|apply Kd.R_alloc|apply Kd.R_drewN|apply Kd.R_drew));exact HO555.out) hb);replace HO558:=Aside0.mk (Kd.R_below (by (with_reducible repeat (first|apply Kd.R_alloc|apply Kd.R_drewN|apply Kd.R_drew));exact HO558.out) hb);have BK563:=Aside0.mk (hbox);have GW563:=zG hg zb68;have GE563:=GW563;replace HB:=Aside0.mk (below_step zb68 hb);have NB549_563:=Aside0.mk ((by rw [hg];exact Nat.ne_of_lt (blk_lt (g:=gb549) (o:=.cells #[.string (⟨#[]⟩:ByteArray),.string (⟨#[]⟩:ByteArray),.int .i64 0,.slice none 0 0,.slice none 0 0] 26 (0,0)) zb98):gb549 ≠ gb563));have NB563_549:=Aside0.mk ((by rw [hg];exact Nat.ne_of_gt (blk_lt (g:=gb549) (o:=.cells #[.string (⟨#[]⟩:ByteArray),.string (⟨#[]⟩:ByteArray),.int .i64 0,.slice none 0 0,.slice none 0 0] 26 (0,0)) zb98):gb563 ≠ gb549));replace BK549:=Aside0.mk (blk_below (g:=gb549) (o:=.cells #[.string (⟨#[]⟩:ByteArray),.string (⟨#[]⟩:ByteArray),.int .i64 0,.slice none 0 0,.slice none 0 0] 26 (0,0)) zb98 hb);clear hb hbox hg;have hnb6:=NB563_549.out;have hnc6:=NB549_563.out;obtain ⟨hcz7_0,hcz7_1,hcz7_2,hcz7_3,hcz7_4,hfz7_0,hfz7_1,hfz7_2,hfz7_3,hfz7_4⟩:=zq5 BK563.out;obtain ⟨Ao8,co8,eo8⟩:=Kd.R_slice HO555.out;subst eo8;obtain ⟨Ao9,co9,eo9⟩:=Kd.R_slice HO558.out;subst eo9;obtain ⟨hcz10_0,hcz10_1,hcz10_2,hcz10_3,hcz10_4,hfz10_0,hfz10_1,hfz10_2,hfz10_3,hfz10_4⟩:=zq5 BK549.out))
 refine bodyPost_ret (results_ctt rfl _ _ gb549 26 #[.string t550,.string t551,.int .i64 t552,.slice Ao8 t553.length co8,.slice Ao9 t556.length co9] (0,0) _ rfl (by (with_reducible repeat (first|refine blk_drewN ?_ _|refine blk_drew ?_|refine blk_alloc ?_ _));refine zp5 (x0:=.string (⟨#[]⟩:ByteArray)) (x1:=.string (⟨#[]⟩:ByteArray)) (x2:=.int .i64 0) (x3:=.slice none 0 0) (x4:=.slice none 0 0) ?_;(with_reducible repeat (first|refine blk_drewN ?_ _|refine blk_drew ?_|refine blk_alloc ?_ _));refine blk_far ?_ NB549_563.out _;(with_reducible repeat (first|refine blk_drewN ?_ _|refine blk_drew ?_|refine blk_alloc ?_ _));refine blk_far ?_ NB549_563.out _;(with_reducible repeat (first|refine blk_drewN ?_ _|refine blk_drew ?_|refine blk_alloc ?_ _));refine blk_far ?_ NB549_563.out _;(with_reducible repeat (first|refine blk_drewN ?_ _|refine blk_drew ?_|refine blk_alloc ?_ _));refine blk_far ?_ NB549_563.out _;(with_reducible repeat (first|refine blk_drewN ?_ _|refine blk_drew ?_|refine blk_alloc ?_ _));refine blk_far ?_ NB549_563.out _;(with_reducible repeat (first|refine blk_drewN ?_ _|refine blk_drew ?_|refine blk_alloc ?_ _));exact BK549.out) Tryz.underlying26 rfl zb7) rfl ?_
 exact ⟨_,_,zb3,by (with_reducible repeat (first|apply Kd.R_alloc|apply Kd.R_drewN|apply Kd.R_drew));exact Kd.R_mono (zf5 (g:=gb549) (Kd.R_far (p:=⟨gb563,4,none⟩) (Kd.R_far (p:=⟨gb563,3,none⟩) (Kd.R_far (p:=⟨gb563,2,none⟩) (Kd.R_far (p:=⟨gb563,1,none⟩) (Kd.R_far (p:=⟨gb563,0,none⟩) (Kd.R_types (Kd.R_types HO555.out BK563.out (by decide)) BK549.out (by decide)) (fun _ hk=>hk.1.2) (.string t550)) (fun _ hk=>hk.1.2) (.string t551)) (fun _ hk=>hk.1.2) (.int .i64 t552)) (fun _ hk=>hk.1.2) (.slice Ao8 t553.length co8)) (fun _ hk=>hk.1.2) (.slice Ao9 t556.length co9)) (fun _ hk=>hk.2)) (fun _ hk=>trivial),by (with_reducible repeat (first|apply Kd.R_alloc|apply Kd.R_drewN|apply Kd.R_drew));exact Kd.R_mono (zf5 (g:=gb549) (Kd.R_far (p:=⟨gb563,4,none⟩) (Kd.R_far (p:=⟨gb563,3,none⟩) (Kd.R_far (p:=⟨gb563,2,none⟩) (Kd.R_far (p:=⟨gb563,1,none⟩) (Kd.R_far (p:=⟨gb563,0,none⟩) (Kd.R_types (Kd.R_types HO558.out BK563.out (by decide)) BK549.out (by decide)) (fun _ hk=>hk.1.2) (.string t550)) (fun _ hk=>hk.1.2) (.string t551)) (fun _ hk=>hk.1.2) (.int .i64 t552)) (fun _ hk=>hk.1.2) (.slice Ao8 t553.length co8)) (fun _ hk=>hk.1.2) (.slice Ao9 t556.length co9)) (fun _ hk=>hk.2)) (fun _ hk=>trivial),by repeat (first|(with_reducible first|exact HB.out|apply below_alloc|apply pw_below_drewN|apply below_drew1|refine below_set ?_ GE549.out|refine below_set ?_ GE563.out)|exact HB.out)⟩
def tollbarref08_Host.f (k:Nat) (a0_0:ByteArray) (a0_1:ByteArray) (a0_2:Int) (l0_3:List (S36)) (l0_4:List Int):Option (ByteArray):=(tollbarref04_Get.f k l0_3 (⟨#[104,111,115,116]⟩:ByteArray)).bind fun t600=>(if (t600.length:Int)=0 then (some (⟨#[]⟩:ByteArray)) else (if 0 < (t600.length:Int) then ((tollbarref05_Host.f k (rdOf ByteArray.empty t600 0)).bind fun bt604=>(some bt604.1)) else (none)))
theorem tollbarref08_Host.calls (k:Nat) (a0_0:ByteArray) (a0_1:ByteArray) (a0_2:Int) (A0_3:Option Addr) (c0_3:Nat) (l0_3:List (S36)) (A0_4:Option Addr) (c0_4:Nat) (l0_4:List Int) (r:ByteArray) (w:World) (hr0_3:Kd.C k36 w A0_3 l0_3.length l0_3) (hc0_3:l0_3.length ≤ c0_3) (hr0_4:Kd.C (Kd.int .u8) w A0_4 l0_4.length l0_4) (hc0_4:l0_4.length ≤ c0_4) (h:tollbarref08_Host.f k a0_0 a0_1 a0_2 l0_3 l0_4=some r) :
 Calls Tryz.prog 20 #[.agg #[.string a0_0,.string a0_1,.int .i64 a0_2,.slice A0_3 l0_3.length c0_3,.slice A0_4 l0_4.length c0_4]] w fun e w' => e = .returned (.string r)∧Below w.heap.size w w' := by
 have hu26:=Tryz.underlying26
 have HR0_3:=Aside0.mk hr0_3
 have HC0_3:=Aside0.mk hc0_3
 clear hr0_3 hc0_3
 have HR0_4:=Aside0.mk hr0_4
 have HC0_4:=Aside0.mk hc0_4
 clear hr0_4 hc0_4
 have HB:=zB w
 unfold tollbarref08_Host.f at h
 have H:=h
 clear h
 replace H:=Option.bind_eq_some_iff.mp H
 obtain ⟨t600,A20,H⟩:=H
 try dsimp only at H
 have A2:=Aside0.mk A20
 clear A20
 by_cases c3:(t600.length:Int)=0
 ·rw [if_pos c3] at H
  have c3b0:=beq_iff_eq.mpr c3
  have c3b1:=bne_eq_false_iff_eq.mpr c3
  clear c3
  obtain rfl:=Option.some.inj H
  go_enter Tryz.func20,Tryz.ntmps20
  go_wp2_with (first|((with_reducible refine gate_dst (N:=1) rfl ?_);refine box_event rfl (N:=1) rfl (cs:=#[.string a0_0,.string a0_1,.int .i64 a0_2,.slice A0_3 l0_3.length c0_3,.slice A0_4 l0_4.length c0_4]) (t:=26) zS ?_;intro gb599 hg w4 hbox hb;have GW599:=zG hg zb0;have GE599:=GW599;have BK599:=Aside0.mk hbox;replace HB:=Aside0.mk (below_step zb0 hb);clear hb hbox hg;obtain ⟨hcz5_0,hcz5_1,hcz5_2,hcz5_3,hcz5_4,hfz5_0,hfz5_1,hfz5_2,hfz5_3,hfz5_4⟩:=zq5 BK599.out)|((with_reducible refine gate_callee (f:=36) rfl ?_);refine goesL_ (some 8) rfl rfl Tryz.func36 zb7 rfl #[.slice A0_3 l0_3.length c0_3,.string (⟨#[104,111,115,116]⟩:ByteArray)] rfl zb2 ?_;(with_reducible refine (tollbarref04_Get.calls k _ _ l0_3 (⟨#[104,111,115,116]⟩:ByteArray) t600 _ ?side1 ?side2 A2.out).mono ?_);(case side1=>exact zb42);(case side2=>exact HC0_3.out);rintro e w6 ⟨v601,rfl,ho0,hb⟩;(try clear A2);refine ⟨_,rfl,?_⟩;have HO602:=Aside0.mk (Kd.R_lower ho0 (below_size zb48));replace BK599:=Aside0.mk (blk_below (g:=gb599) (o:=.cells #[.string a0_0,.string a0_1,.int .i64 a0_2,.slice A0_3 l0_3.length c0_3,.slice A0_4 l0_4.length c0_4] 26 (0,0)) zb109 hb);replace HB:=Aside0.mk (below_step zb48 hb);try clear hb ho0;obtain ⟨Ao7,co7,eo7⟩:=Kd.R_slice HO602.out;subst eo7))
  go_ret
  exact ⟨zb3,zb48⟩
 rw [if_neg c3] at H
 have c3b0:=beq_eq_false_iff_ne.mpr c3
 have c3b1:=bne_iff_ne.mpr c3
 have c3b2 : ¬ (t600=[]):=fun h_=>c3 (by rw [h_];rfl)
 by_cases c8:0 < (t600.length:Int);rotate_left
 ·rw [if_neg c8] at H
  exact absurd H zb24
 rw [if_pos c8] at H
 have c8b0:=decide_eq_true c8
 have c8b1:decide (0 < t600.length)=true:=decide_eq_true zb10
 clear c8
 replace H:=Option.bind_eq_some_iff.mp H
 obtain ⟨⟨t604,t605⟩,A90,H⟩:=H
 try dsimp only at H
 have A9:=Aside0.mk A90
 clear A90
 obtain rfl:=Option.some.inj H
 go_enter Tryz.func20,Tryz.ntmps20
 go_wp2_with (first|((with_reducible refine gate_dst (N:=1) rfl ?_);refine box_event rfl (N:=1) rfl (cs:=#[.string a0_0,.string a0_1,.int .i64 a0_2,.slice A0_3 l0_3.length c0_3,.slice A0_4 l0_4.length c0_4]) (t:=26) zS ?_;intro gb599 hg w10 hbox hb;have GW599:=zG hg zb0;have GE599:=GW599;have BK599:=Aside0.mk hbox;replace HB:=Aside0.mk (below_step zb0 hb);clear hb hbox hg;obtain ⟨hcz11_0,hcz11_1,hcz11_2,hcz11_3,hcz11_4,hfz11_0,hfz11_1,hfz11_2,hfz11_3,hfz11_4⟩:=zq5 BK599.out)|((with_reducible refine gate_callee (f:=36) rfl ?_);refine goesL_ (some 8) rfl rfl Tryz.func36 zb7 rfl #[.slice A0_3 l0_3.length c0_3,.string (⟨#[104,111,115,116]⟩:ByteArray)] rfl zb2 ?_;(with_reducible refine (tollbarref04_Get.calls k _ _ l0_3 (⟨#[104,111,115,116]⟩:ByteArray) t600 _ ?side1 ?side2 A2.out).mono ?_);(case side1=>exact zb42);(case side2=>exact HC0_3.out);rintro e w12 ⟨v601,rfl,ho0,hb⟩;(try clear A2);refine ⟨_,rfl,?_⟩;have HO602:=Aside0.mk (Kd.R_lower ho0 (below_size zb48));replace BK599:=Aside0.mk (blk_below (g:=gb599) (o:=.cells #[.string a0_0,.string a0_1,.int .i64 a0_2,.slice A0_3 l0_3.length c0_3,.slice A0_4 l0_4.length c0_4] 26 (0,0)) zb109 hb);replace HB:=Aside0.mk (below_step zb48 hb);try clear hb ho0;obtain ⟨Ao13,co13,eo13⟩:=Kd.R_slice HO602.out;subst eo13;have p603:0 ≤ (0:Int):=zb10;have q603:0 < (t600.length:Int):=of_decide_eq_true zb1;obtain ⟨ad603,e603,hx603_0⟩:=Kd.at_string (Kd.R_reads' HO602.out).2.2 0 p603 q603;cases e603;have qi603:(0 < t600.length)=True:=eq_true zb10;(try rw [show ((0:Int)).toNat=0 from rfl] at hx603_0);(try rw [Addr.add_zero'] at hx603_0);replace p603:=eq_true p603;replace q603:=eq_true q603)|((with_reducible refine gate_callee (f:=52) rfl ?_);refine goesL_ (some 16) rfl rfl Tryz.func52 zb7 rfl #[.string (rdOf ByteArray.empty t600 0)] rfl zb2 ?_;(with_reducible refine (tollbarref05_Host.calls k (rdOf ByteArray.empty t600 0) t604 t605 _ A9.out).mono ?_);rintro e w14 ⟨rfl,hb⟩;(try clear A9);refine ⟨_,rfl,?_⟩;replace HO602:=Aside0.mk (Kd.R_below (by (with_reducible repeat (first|apply Kd.R_alloc|apply Kd.R_drewN|apply Kd.R_drew));exact HO602.out) hb);replace BK599:=Aside0.mk (blk_below (g:=gb599) (o:=.cells #[.string a0_0,.string a0_1,.int .i64 a0_2,.slice A0_3 l0_3.length c0_3,.slice A0_4 l0_4.length c0_4] 26 (0,0)) zb109 hb);replace HB:=Aside0.mk (below_step zb48 hb);(try clear hb)))
 go_ret
 exact ⟨zb3,zb48⟩
mutual
def tollbarref01_Join.l0:Nat → List Int → List Int → List Int → Int → Option (List Int)
 | 0,_,_,_,_=>none
 | k + 1,x0,x1,x5,x6=>if x6 < (x0.length:Int) then (if 0 ≤ x6 then (if x5.length < 140737488355328 then (tollbarref01_Join.l0 k x0 x1 (x5 ++ [rd x0 x6]) (wrap64 (x6 + 1))) else (none)) else (none)) else (tollbarref01_Join.l1 k x1 x5 0)
def tollbarref01_Join.l1:Nat → List Int → List Int → Int → Option (List Int)
 | 0,_,_,_=>none
 | k + 1,x1,x5,x7=>if x7 < (x1.length:Int) then (if 0 ≤ x7 then (if x5.length < 140737488355328 then (tollbarref01_Join.l1 k x1 (x5 ++ [rd x1 x7]) (wrap64 (x7 + 1))) else (none)) else (none)) else (some x5)
end
def tollbarref01_Join.f (k:Nat) (l0:List Int) (l1:List Int):Option (List Int):=tollbarref01_Join.l0 k l0 l1 (([]:List Int)) 0
theorem tollbarref01_Join.calls (k:Nat) (A0:Option Addr) (c0:Nat) (l0:List Int) (A1:Option Addr) (c1:Nat) (l1:List Int) (r:List Int) (w:World) (hr0:Kd.C (Kd.int .u8) w A0 l0.length l0) (hc0:l0.length ≤ c0) (hr1:Kd.C (Kd.int .u8) w A1 l1.length l1) (hc1:l1.length ≤ c1) (h:tollbarref01_Join.f k l0 l1=some r) :
 Calls Tryz.prog 85 #[.slice A0 l0.length c0,.slice A1 l1.length c1] w fun e w' => ∃ v0_:Value,e = .returned (v0_)∧Kd.R (Kd.int .u8) 5 w' w.heap.size (fun _=>True) v0_ r∧Below w.heap.size w w' := by
 have HR0:=Aside0.mk hr0
 have HC0:=Aside0.mk hc0
 clear hr0 hc0
 have HR1:=Aside0.mk hr1
 have HC1:=Aside0.mk hc1
 clear hr1 hc1
 have HB:=zB w
 unfold tollbarref01_Join.f at h
 have H:=h
 clear h
 obtain ⟨y511,hy511⟩ : ∃ y_:List Int,y_=(([]:List Int)):=⟨_,rfl⟩
 replace H:(tollbarref01_Join.l0 k l0 l1 y511 0)=some r:=by first|(rw [hy511];with_reducible exact H)|(have H2_:=(Option.bind_some _ _).symm.trans H;rw [hy511];with_reducible exact H2_)|(have H2_:=(Option.bind_some _ _).symm.trans H;with_reducible exact H2_)|with_reducible exact H|(rw [hy511];exact H)|exact H
 have Ny511:=Aside0.mk hy511
 clear hy511
 have H' := Aside0.mk H
 clear H
 go_enter Tryz.func85,Tryz.ntmps85
 go_wp2_with (first|((with_reducible refine gate_dst (N:=8) rfl ?_);refine Kd.R_lit (Kd.int .u8) _ 5 ?hg (N:=8) ?hd (xs:=([]:List Int)) (inner:=[]) (ok:=fun _=>True) (okp:=fun _=>True) ?hr ?hp (fun _ hk=>hk) trivial (Below.refl _ _) (Nat.le_refl _) zb24 ?_;(case hd=>rfl);(case hg=>rfl);(case hr=>first|(go_simp;done)|(go_simp;rfl));(case hp=>exact (Reps.none _ _));intro v512 w3 ho4 hb hg_ hnew_;clear hg_ hnew_;(first|rw [← Ny511.out] at ho4|(simp only [Int.reduceToNat] at ho4;rw [← Ny511.out] at ho4));have HO513:=Aside0.mk (Kd.R_lower ho4 (below_size zb0));replace HB:=Aside0.mk (below_step zb0 hb);clear hb ho4))
 go_loopg [5,6] k (fun kq v5 v6 w' => ∃ (x5_1:List Int) (x6_1:Int),v6 = .int .i64 x6_1∧Aside0 (tollbarref01_Join.l0 kq l0 l1 x5_1 x6_1=some r)∧Aside0 (kq ≤ k)∧Aside0 (Kd.R (Kd.int .u8) 5 w' w.heap.size (fun _=>True) v5 x5_1)∧Aside0 (Below w.heap.size w w'))
 case atStart=>exact ⟨(y511),(0),zb4,H',⟨Nat.le_refl _⟩,⟨by (with_reducible repeat (first|apply Kd.R_alloc|apply Kd.R_drewN|apply Kd.R_drew));exact HO513.out⟩,⟨zb0⟩⟩
 case round =>
  clear H'
  try clear c1
  try clear p2
  obtain ⟨x5_1,x6_1,rfl,HA,HK1,HO_5,HB⟩:=hrel
  cases gk with
  | zero=>exact absurd HA.out (by simp [tollbarref01_Join.l0])
  | succ k1 =>
   have H:=HA.out
   clear HA
   simp only [tollbarref01_Join.l0] at H
   by_cases c5:x6_1 < (l0.length:Int)
   ·rw [if_pos c5] at H
    have c5b0:=decide_eq_true c5
    clear c5
    by_cases c6:0 ≤ x6_1;rotate_left
    ·rw [if_neg c6] at H
     exact absurd H zb24
    rw [if_pos c6] at H
    have c6b0:=decide_eq_true c6
    clear c6
    by_cases c7:x5_1.length < 140737488355328
    ·rw [if_pos c7] at H
     have LMc7:=Aside0.mk c7
     clear c7
     obtain ⟨y515,hy515⟩ : ∃ y_:List Int,y_=(x5_1 ++ [rd l0 x6_1]):=⟨_,rfl⟩
     replace H:(tollbarref01_Join.l0 k1 l0 l1 y515 (wrap64 (x6_1 + 1)))=some r:=by first|(rw [hy515];with_reducible exact H)|(have H2_:=(Option.bind_some _ _).symm.trans H;rw [hy515];with_reducible exact H2_)|(have H2_:=(Option.bind_some _ _).symm.trans H;with_reducible exact H2_)|with_reducible exact H|(rw [hy515];exact H)|exact H
     have Ny515:=Aside0.mk hy515
     clear hy515
     have H' := Aside0.mk H
     clear H
     have p514:0 ≤ (x6_1:Int):=of_decide_eq_true zb1
     have q514:x6_1 < (l0.length:Int):=of_decide_eq_true zb1
     obtain ⟨ad514,e514,hx514_0⟩:=Kd.at_int HR0.out x6_1 p514 q514
     cases e514
     replace hx514_0:=(HB.out.cell (World.block_lt_of_cell? w _ hx514_0)).trans hx514_0
     replace p514:=eq_true p514
     replace q514:=eq_true q514
     go_wp2_with (first|((with_reducible refine gate_builtin (b:=.append) (xs:=#[.tmp 15,.tmp 20]) rfl ?_);at_builtin;refine Kd.R_append (Kd.int .u8) (w0:=w) w.heap.size rfl (.tmp 15) (.tmp 20) 22 5 (.int .u8 0) 1 rfl Tryz.underlying22 info5 rfl zb78 zb10 u5 x5_1 (rd l0 x6_1) [.int .u8 (rd l0 x6_1)] (fun _=>True) (fun _=>False) rfl rfl ?aP (fun _ hk=>hk.elim) ?aF ?aO ?aB ?aS ?aL ?_;(case aP=>exact rfl);(case aB=>exact zb23);(case aF=>exact (fun _ _=>trivial));(case aO=>exact zb66);(case aS=>exact zb20);(case aL=>have:=LMc7.out;omega);intro v516 w8 ho hb hg hat;rw [← Ny515.out] at ho;replace HB:=Aside0.mk (hb);have HO517:=Aside0.mk (ho);clear ho hb hg hat))
     go_roundg k1
     case measure=>have:=HK1.out;omega
     case rel=>exact ⟨(y515),(wrap64 (x6_1 + 1)),zb4,H',⟨zb80⟩,⟨by (with_reducible repeat (first|apply Kd.R_alloc|apply Kd.R_drewN|apply Kd.R_drew));exact HO517.out⟩,⟨zb0⟩⟩
    ·rw [if_neg c7] at H
     exact absurd H zb24
   rw [if_neg c5] at H
   have c5b0:=decide_eq_false c5
   clear c5
   have H' := Aside0.mk H
   clear H
   go_wp2
   go_loopg [5,7] k1 (fun kq v5 v7 w' => ∃ (x5_2:List Int) (x7_2:Int),v7 = .int .i64 x7_2∧Aside0 (tollbarref01_Join.l1 kq l1 x5_2 x7_2=some r)∧Aside0 (kq ≤ k1)∧Aside0 (Kd.R (Kd.int .u8) 5 w' w.heap.size (fun _=>True) v5 x5_2)∧Aside0 (Below w.heap.size w w'))
   case atStart=>exact ⟨(x5_1),(0),zb4,H',⟨Nat.le_refl _⟩,⟨zb15⟩,⟨zb0⟩⟩
   case round =>
    clear H'
    try clear c1
    try clear p2
    try clear c5
    try clear c5b0
    try clear p5
    try clear q5
    try clear hx5
    try clear c6
    try clear c6b0
    try clear p6
    try clear c7
    try clear c8
    try clear hx514_0
    try clear p2
    try clear p514
    try clear q514
    obtain ⟨x5_2,x7_2,rfl,HA,HK2,HO_5,HB⟩:=hrel
    cases gk with
    | zero=>exact absurd HA.out (by simp [tollbarref01_Join.l1])
    | succ k2 =>
     have H:=HA.out
     clear HA
     simp only [tollbarref01_Join.l1] at H
     by_cases c9:x7_2 < (l1.length:Int);rotate_left
     ·rw [if_neg c9] at H
      have c9b0:=decide_eq_false c9
      clear c9
      obtain rfl:=Option.some.inj H
      go_wp2
      go_ret
      exact ⟨_,zb3,zb15,zb0⟩
     rw [if_pos c9] at H
     have c9b0:=decide_eq_true c9
     clear c9
     by_cases c10:0 ≤ x7_2
     ·rw [if_pos c10] at H
      have c10b0:=decide_eq_true c10
      clear c10
      by_cases c11:x5_2.length < 140737488355328
      ·rw [if_pos c11] at H
       have LMc11:=Aside0.mk c11
       clear c11
       obtain ⟨y519,hy519⟩ : ∃ y_:List Int,y_=(x5_2 ++ [rd l1 x7_2]):=⟨_,rfl⟩
       replace H:(tollbarref01_Join.l1 k2 l1 y519 (wrap64 (x7_2 + 1)))=some r:=by first|(rw [hy519];with_reducible exact H)|(have H2_:=(Option.bind_some _ _).symm.trans H;rw [hy519];with_reducible exact H2_)|(have H2_:=(Option.bind_some _ _).symm.trans H;with_reducible exact H2_)|with_reducible exact H|(rw [hy519];exact H)|exact H
       have Ny519:=Aside0.mk hy519
       clear hy519
       have H' := Aside0.mk H
       clear H
       have p518:0 ≤ (x7_2:Int):=of_decide_eq_true zb1
       have q518:x7_2 < (l1.length:Int):=of_decide_eq_true zb1
       obtain ⟨ad518,e518,hx518_0⟩:=Kd.at_int HR1.out x7_2 p518 q518
       cases e518
       replace hx518_0:=(HB.out.cell (World.block_lt_of_cell? w _ hx518_0)).trans hx518_0
       replace p518:=eq_true p518
       replace q518:=eq_true q518
       go_wp2_with (first|((with_reducible refine gate_builtin (b:=.append) (xs:=#[.tmp 28,.tmp 33]) rfl ?_);at_builtin;refine Kd.R_append (Kd.int .u8) (w0:=w) w.heap.size rfl (.tmp 28) (.tmp 33) 22 5 (.int .u8 0) 1 rfl Tryz.underlying22 info5 rfl zb78 zb10 u5 x5_2 (rd l1 x7_2) [.int .u8 (rd l1 x7_2)] (fun _=>True) (fun _=>False) rfl rfl ?aP (fun _ hk=>hk.elim) ?aF ?aO ?aB ?aS ?aL ?_;(case aP=>exact rfl);(case aB=>exact zb23);(case aF=>exact (fun _ _=>trivial));(case aO=>exact zb66);(case aS=>exact zb20);(case aL=>have:=LMc11.out;omega);intro v520 w12 ho hb hg hat;rw [← Ny519.out] at ho;replace HB:=Aside0.mk (hb);have HO521:=Aside0.mk (ho);clear ho hb hg hat))
       go_roundg k2
       case measure=>have:=HK1.out;have:=HK2.out;omega
       case rel=>exact ⟨(y519),(wrap64 (x7_2 + 1)),zb4,H',⟨by have:=HK1.out;have:=HK2.out;omega⟩,⟨by (with_reducible repeat (first|apply Kd.R_alloc|apply Kd.R_drewN|apply Kd.R_drew));exact HO521.out⟩,⟨zb0⟩⟩
      ·rw [if_neg c11] at H
       exact absurd H zb24
     ·rw [if_neg c10] at H
      exact absurd H zb24
mutual
def tollbarref02_Hex.j0:Nat → ByteArray → Bool → Option (Int × Bool)
 | 0,_,_=>none
 | k + 1,x0,x14=>if x14=true then (some (0,false)) else (tollbarref02_Hex.l0 k x0 0 0)
def tollbarref02_Hex.l0:Nat → ByteArray → Int → Int → Option (Int × Bool)
 | 0,_,_,_=>none
 | k + 1,x0,x4,x5=>if x5 < (x0.size:Int) then (if 0 ≤ x5 then ((tollbarref02_Digit.f (bt x0 x5)).bind fun t479=>(if t479=true then (tollbarref02_Hex.l0 k x0 (wrap64 ((wrap64 (x4 * 16)) + (((bt x0 x5) - 48) % 256))) (wrap64 (x5 + 1))) else (if (bt x0 x5) ≥ 97 then (tollbarref02_Hex.j2 k x0 x4 x5 (bt x0 x5) (decide ((bt x0 x5) ≤ 102))) else (tollbarref02_Hex.j2 k x0 x4 x5 (bt x0 x5) false)))) else (none)) else (some (x4,true))
def tollbarref02_Hex.j2:Nat → ByteArray → Int → Int → Int → Bool → Option (Int × Bool)
 | 0,_,_,_,_,_=>none
 | k + 1,x0,x4,x5,x6,x33=>if x33=true then (tollbarref02_Hex.l0 k x0 (wrap64 ((wrap64 ((wrap64 (x4 * 16)) + ((x6 - 97) % 256))) + 10)) (wrap64 (x5 + 1))) else (if x6 ≥ 65 then (if x6 ≤ 70 then (tollbarref02_Hex.l0 k x0 (wrap64 ((wrap64 ((wrap64 (x4 * 16)) + ((x6 - 65) % 256))) + 10)) (wrap64 (x5 + 1))) else (some (0,false))) else (some (0,false)))
end
def tollbarref02_Hex.f (k:Nat) (a0:ByteArray):Option (Int × Bool):=if (a0.size:Int) < 1 then (tollbarref02_Hex.j0 k a0 true) else (tollbarref02_Hex.j0 k a0 (decide ((a0.size:Int) > 15)))
theorem tollbarref02_Hex.calls (k:Nat) (a0:ByteArray) (r1:Int) (r2:Bool) (w:World) (h:tollbarref02_Hex.f k a0=some (r1,r2)) :
 Calls Tryz.prog 172 #[.string a0] w fun e w' => e = .returned (.tuple #[.int .i64 r1,.bool r2])∧Drawn0 w w' := by
 unfold tollbarref02_Hex.f at h
 have H:=h
 clear h
 have HC2:=Aside0.mk H
 clear H
 go_enter Tryz.func172,Tryz.ntmps172
 go_upto_region 1 with (fail)
 go_cut [14] (fun v14 wc => ∃ (kq:Nat) (x14_1:Bool),v14 = .bool x14_1∧Aside0 (tollbarref02_Hex.j0 kq a0 x14_1=some (r1,r2))∧Aside0 (kq ≤ k)∧Drawn0 w wc)
 case first =>
  have H:=HC2.out
  clear HC2
  by_cases c3:(a0.size:Int) < 1
  ·rw [if_pos c3] at H
   have c3b0:=decide_eq_true c3
   have c3b1:decide (a0.size < 1)=true:=decide_eq_true zb10
   clear c3
   (first|rw [c3b0]|(simp only [i64_w,i32_w];rw [c3b0])|rw [c3b1]|skip)
   have H' := Aside0.mk H
   clear H
   go_wp2
   go_meet
   case rel=>exact ⟨_,(true),zb4,H',⟨zb37⟩,zb5⟩
  rw [if_neg c3] at H
  have c3b0:=decide_eq_false c3
  have c3b1:decide (a0.size < 1)=false:=decide_eq_false zb10
  clear c3
  (first|rw [c3b0]|(simp only [i64_w,i32_w];rw [c3b0])|rw [c3b1]|skip)
  have H' := Aside0.mk H
  clear H
  go_wp2
  go_meet
  case rel=>exact ⟨_,(decide ((a0.size:Int) > 15)),zb4,H',⟨zb37⟩,zb5⟩
 case rest =>
  clear HC2
  try clear c1
  try clear p2
  try clear c3
  try clear c3b0
  try clear c3b1
  obtain ⟨kq,x14_1,rfl,HA,HJ1,⟨mc1,rfl⟩⟩:=hcut
  cases kq with
  | zero=>exact absurd HA.out (by simp [tollbarref02_Hex.j0])
  | succ kj1 =>
   have H:=HA.out
   clear HA
   simp only [tollbarref02_Hex.j0] at H
   by_cases c4:x14_1=true
   ·subst c4
    rw [if_pos rfl] at H
    simp only [zi,zj] at H
    obtain ⟨rfl,rfl⟩:=H
    go_wp2
    go_ret2
    exact ⟨zb4,zb5⟩
   replace c4:=Bool.eq_false_iff.mpr c4
   subst c4
   rw [if_neg zf] at H
   have H' := Aside0.mk H
   clear H
   go_wp2
   go_loopg [4,5] kj1 (fun kq v4 v5 w' => ∃ (x4_2:Int) (x5_2:Int),v4 = .int .i64 x4_2∧v5 = .int .i64 x5_2∧Aside0 (tollbarref02_Hex.l0 kq a0 x4_2 x5_2=some (r1,r2))∧Aside0 (kq ≤ kj1)∧Drawn0 w w')
   case atStart=>exact ⟨(0),(0),zb4,zb4,H',⟨Nat.le_refl _⟩,zb5⟩
   case round =>
    clear H'
    try clear c1
    try clear p2
    try clear c3
    try clear c3b0
    try clear c3b1
    try clear c4
    try clear p2
    obtain ⟨x4_2,x5_2,rfl,rfl,HA,HK2,⟨m2,rfl⟩⟩:=hrel
    cases gk with
    | zero=>exact absurd HA.out (by simp [tollbarref02_Hex.l0])
    | succ k2 =>
     have H:=HA.out
     clear HA
     simp only [tollbarref02_Hex.l0] at H
     by_cases c5:x5_2 < (a0.size:Int);rotate_left
     ·rw [if_neg c5] at H
      have c5b0:=decide_eq_false c5
      clear c5
      simp only [zi,zj] at H
      obtain ⟨rfl,rfl⟩:=H
      go_wp2
      go_ret2
      exact ⟨zb4,zb5⟩
     rw [if_pos c5] at H
     have c5b0:=decide_eq_true c5
     clear c5
     by_cases c6:0 ≤ x5_2
     ·rw [if_pos c6] at H
      have c6b0:=decide_eq_true c6
      clear c6
      replace H:=Option.bind_eq_some_iff.mp H
      obtain ⟨t479,A80,H⟩:=H
      try dsimp only at H
      have A8:=Aside0.mk A80
      clear A80
      by_cases c9:t479=true
      ·subst c9
       rw [if_pos rfl] at H
       have H' := Aside0.mk H
       clear H
       have p7:0 ≤ (x5_2:Int):=of_decide_eq_true zb1
       have q7:x5_2 < (a0.size:Int):=of_decide_eq_true zb1
       have hx7:=bt_at a0 x5_2
       replace p7:=eq_true p7
       replace q7:=eq_true q7
       go_wp2_with (first|((with_reducible refine gate_callee (f:=92) rfl ?_);refine goesL_ (some 26) rfl rfl Tryz.func92 zb7 rfl #[.int .u8 (bt a0 x5_2)] rfl zb2 ?_;(with_reducible refine (tollbarref02_Digit.calls (bt a0 x5_2) true _ A8.out).mono ?_);rintro e w' ⟨rfl,⟨nd,rfl⟩⟩;(try clear A8);refine ⟨_,rfl,?_⟩))
       go_roundg k2
       case measure=>have:=HJ1.out;have:=HK2.out;omega
       case rel=>exact ⟨(wrap64 ((wrap64 (x4_2 * 16)) + (((bt a0 x5_2) - 48) % 256))),(wrap64 (x5_2 + 1)),zb4,zb4,H',⟨by have:=HJ1.out;have:=HK2.out;omega⟩,zb5⟩
      replace c9:=Bool.eq_false_iff.mpr c9
      subst c9
      rw [if_neg zf] at H
      have HC10:=Aside0.mk H
      clear H
      have p7:0 ≤ (x5_2:Int):=of_decide_eq_true zb1
      have q7:x5_2 < (a0.size:Int):=of_decide_eq_true zb1
      have hx7:=bt_at a0 x5_2
      replace p7:=eq_true p7
      replace q7:=eq_true q7
      go_upto_region 11 with (first|((with_reducible refine gate_callee (f:=92) rfl ?_);refine goesL_ (some 26) rfl rfl Tryz.func92 zb7 rfl #[.int .u8 (bt a0 x5_2)] rfl zb2 ?_;(with_reducible refine (tollbarref02_Digit.calls (bt a0 x5_2) false _ A8.out).mono ?_);rintro e w' ⟨rfl,⟨nd,rfl⟩⟩;refine ⟨_,rfl,?_⟩))
      (try simp only [Act.put,zqA,zqB,zqC])
      go_cut [33] (fun v33 wc => ∃ (kq:Nat) (x33_9:Bool),v33 = .bool x33_9∧Aside0 (tollbarref02_Hex.j2 kq a0 x4_2 x5_2 (bt a0 x5_2) x33_9=some (r1,r2))∧Aside0 (kq ≤ k2)∧Drawn0 w wc)
      case first =>
       have H:=HC10.out
       clear HC10
       by_cases c11:(bt a0 x5_2) ≥ 97
       ·rw [if_pos c11] at H
        have c11b0:decide (97 ≤ (bt a0 x5_2))=true:=decide_eq_true c11
        clear c11
        (first|rw [c11b0]|(simp only [i64_w,i32_w];rw [c11b0])|skip)
        have H' := Aside0.mk H
        clear H
        go_wp2
        go_meet
        case rel=>exact ⟨_,(decide ((bt a0 x5_2) ≤ 102)),zb4,H',⟨by have:=HJ1.out;have:=HK2.out;first|omega|exact Nat.le_refl _⟩,zb5⟩
       rw [if_neg c11] at H
       have c11b0:decide (97 ≤ (bt a0 x5_2))=false:=decide_eq_false c11
       clear c11
       (first|rw [c11b0]|(simp only [i64_w,i32_w];rw [c11b0])|skip)
       have H' := Aside0.mk H
       clear H
       go_wp2
       go_meet
       case rel=>exact ⟨_,(false),zb4,H',⟨by have:=HJ1.out;have:=HK2.out;first|omega|exact Nat.le_refl _⟩,zb5⟩
      case rest =>
       clear HC10
       try clear c1
       try clear p2
       try clear c3
       try clear c3b0
       try clear c3b1
       try clear c4
       try clear c5
       try clear c5b0
       try clear c6
       try clear c6b0
       try clear p6
       try clear p7
       try clear q7
       try clear hx7
       try clear c9
       try clear c11
       try clear c11b0
       try clear p2
       try clear p7
       try clear q7
       obtain ⟨kq,x33_9,rfl,HA,HJ9,⟨mc9,rfl⟩⟩:=hcut
       cases kq with
       | zero=>exact absurd HA.out (by simp [tollbarref02_Hex.j2])
       | succ kj9 =>
        have H:=HA.out
        clear HA
        simp only [tollbarref02_Hex.j2] at H
        by_cases c12:x33_9=true
        ·subst c12
         rw [if_pos rfl] at H
         have H' := Aside0.mk H
         clear H
         go_wp2
         go_roundg kj9
         case measure=>have:=HJ1.out;have:=HK2.out;have:=HJ9.out;omega
         case rel=>exact ⟨(wrap64 ((wrap64 ((wrap64 (x4_2 * 16)) + (((bt a0 x5_2) - 97) % 256))) + 10)),(wrap64 (x5_2 + 1)),zb4,zb4,H',⟨by have:=HJ1.out;have:=HK2.out;have:=HJ9.out;omega⟩,zb5⟩
        replace c12:=Bool.eq_false_iff.mpr c12
        subst c12
        rw [if_neg zf] at H
        by_cases c13:(bt a0 x5_2) ≥ 65;rotate_left
        ·rw [if_neg c13] at H
         have c13b0:decide (65 ≤ (bt a0 x5_2))=false:=decide_eq_false c13
         clear c13
         simp only [zi,zj] at H
         obtain ⟨rfl,rfl⟩:=H
         go_wp2
         go_ret2
         exact ⟨zb4,zb5⟩
        rw [if_pos c13] at H
        have c13b0:decide (65 ≤ (bt a0 x5_2))=true:=decide_eq_true c13
        clear c13
        by_cases c14:(bt a0 x5_2) ≤ 70
        ·rw [if_pos c14] at H
         have c14b0:=decide_eq_true c14
         clear c14
         have H' := Aside0.mk H
         clear H
         go_wp2
         go_roundg kj9
         case measure=>have:=HJ1.out;have:=HK2.out;have:=HJ9.out;omega
         case rel=>exact ⟨(wrap64 ((wrap64 ((wrap64 (x4_2 * 16)) + (((bt a0 x5_2) - 65) % 256))) + 10)),(wrap64 (x5_2 + 1)),zb4,zb4,H',⟨by have:=HJ1.out;have:=HK2.out;have:=HJ9.out;omega⟩,zb5⟩
        ·rw [if_neg c14] at H
         have c14b0:=decide_eq_false c14
         clear c14
         simp only [zi,zj] at H
         obtain ⟨rfl,rfl⟩:=H
         go_wp2
         go_ret2
         exact ⟨zb4,zb5⟩
     ·rw [if_neg c6] at H
      exact absurd H zb24
mutual
def tollbarref06_size.l0:Nat → ByteArray → Int → Int → Option (Int × Bool)
 | 0,_,_,_=>none
 | k + 1,x0,x4,x5=>if x5 ≥ 0 then (if 0 ≤ x5 then (if x5 < (x0.size:Int) then (if (bt x0 x5)=59 then (tollbarref06_size.l0 k x0 x5 (wrap64 (x5 - 1))) else (tollbarref06_size.l0 k x0 x4 (wrap64 (x5 - 1)))) else (none)) else (none)) else (if x4 < (x0.size:Int) then (if 0 ≤ (wrap64 (x4 + 1)) then (if (wrap64 (x4 + 1)) ≤ (x0.size:Int) then ((tollbarref02_Value.f k (x0.extract ((wrap64 (x4 + 1)):Int).toNat x0.size)).bind fun t480=>(tollbarref06_size.j1 k x0 x4 (!t480))) else (none)) else (none)) else (tollbarref06_size.j1 k x0 x4 false))
def tollbarref06_size.j1:Nat → ByteArray → Int → Bool → Option (Int × Bool)
 | 0,_,_,_=>none
 | k + 1,x0,x4,x32=>if x32=true then (some (0,false)) else (if 0 ≤ x4 then (if x4 ≤ (x0.size:Int) then (tollbarref06_size.l1 k (x0.extract 0 (x4:Int).toNat)) else (none)) else (none))
def tollbarref06_size.l1:Nat → ByteArray → Option (Int × Bool)
 | 0,_=>none
 | k + 1,x6=>if (x6.size:Int) > 0 then (if 0 ≤ (wrap64 ((x6.size:Int) - 1)) then (if (wrap64 ((x6.size:Int) - 1)) < (x6.size:Int) then (if (bt x6 (wrap64 ((x6.size:Int) - 1)))=32 then (if (wrap64 ((x6.size:Int) - 1)) ≤ (x6.size:Int) then (tollbarref06_size.l1 k (x6.extract 0 ((wrap64 ((x6.size:Int) - 1)):Int).toNat)) else (none)) else (if (bt x6 (wrap64 ((x6.size:Int) - 1)))=9 then (if (wrap64 ((x6.size:Int) - 1)) ≤ (x6.size:Int) then (tollbarref06_size.l1 k (x6.extract 0 ((wrap64 ((x6.size:Int) - 1)):Int).toNat)) else (none)) else ((tollbarref02_Hex.f k x6).bind fun bt481=>(some (bt481.1,bt481.2))))) else (none)) else (none)) else ((tollbarref02_Hex.f k x6).bind fun bt483=>(some (bt483.1,bt483.2)))
end
def tollbarref06_size.f (k:Nat) (a0:ByteArray):Option (Int × Bool):=tollbarref06_size.l0 k a0 (a0.size:Int) (wrap64 ((a0.size:Int) - 1))
theorem tollbarref06_size.calls (k:Nat) (a0:ByteArray) (r1:Int) (r2:Bool) (w:World) (h:tollbarref06_size.f k a0=some (r1,r2)) :
 Calls Tryz.prog 134 #[.string a0] w fun e w' => e = .returned (.tuple #[.int .i64 r1,.bool r2])∧Drawn0 w w' := by
 unfold tollbarref06_size.f at h
 have H:=h
 clear h
 have H' := Aside0.mk H
 clear H
 go_enter Tryz.func134,Tryz.ntmps134
 go_wp2
 go_loopg [4,5] k (fun kq v4 v5 w' => ∃ (x4_1:Int) (x5_1:Int),v4 = .int .i64 x4_1∧v5 = .int .i64 x5_1∧Aside0 (tollbarref06_size.l0 kq a0 x4_1 x5_1=some (r1,r2))∧Aside0 (kq ≤ k)∧Drawn0 w w')
 case atStart=>exact ⟨((a0.size:Int)),(wrap64 ((a0.size:Int) - 1)),zb4,zb4,H',⟨Nat.le_refl _⟩,zb5⟩
 case round =>
  clear H'
  try clear c1
  obtain ⟨x4_1,x5_1,rfl,rfl,HA,HK1,⟨m1,rfl⟩⟩:=hrel
  cases gk with
  | zero=>exact absurd HA.out (by simp [tollbarref06_size.l0])
  | succ k1 =>
   have H:=HA.out
   clear HA
   simp only [tollbarref06_size.l0] at H
   by_cases c2:x5_1 ≥ 0
   ·rw [if_pos c2] at H
    have c2b0:decide (0 ≤ x5_1)=true:=decide_eq_true c2
    clear c2
    by_cases c3:0 ≤ x5_1;rotate_left
    ·rw [if_neg c3] at H
     exact absurd H zb24
    rw [if_pos c3] at H
    have c3b0:=decide_eq_true c3
    clear c3
    by_cases c4:x5_1 < (a0.size:Int)
    ·rw [if_pos c4] at H
     have c4b0:=decide_eq_true c4
     clear c4
     by_cases c6:(bt a0 x5_1)=59;rotate_left
     ·rw [if_neg c6] at H
      have c6b0:=beq_eq_false_iff_ne.mpr c6
      have c6b1:=bne_iff_ne.mpr c6
      have H' := Aside0.mk H
      clear H
      have p5:0 ≤ (x5_1:Int):=of_decide_eq_true zb1
      have q5:x5_1 < (a0.size:Int):=of_decide_eq_true zb1
      have hx5:=bt_at a0 x5_1
      replace p5:=eq_true p5
      replace q5:=eq_true q5
      go_wp2
      go_roundg k1
      case measure=>have:=HK1.out;omega
      case rel=>exact ⟨(x4_1),(wrap64 (x5_1 - 1)),zb4,zb4,H',⟨zb80⟩,zb5⟩
     rw [if_pos c6] at H
     have c6b0:=beq_iff_eq.mpr c6
     have c6b1:=bne_eq_false_iff_eq.mpr c6
     clear c6
     have H' := Aside0.mk H
     clear H
     have p5:0 ≤ (x5_1:Int):=of_decide_eq_true zb1
     have q5:x5_1 < (a0.size:Int):=of_decide_eq_true zb1
     have hx5:=bt_at a0 x5_1
     replace p5:=eq_true p5
     replace q5:=eq_true q5
     go_wp2
     go_roundg k1
     case measure=>have:=HK1.out;omega
     case rel=>exact ⟨(x5_1),(wrap64 (x5_1 - 1)),zb4,zb4,H',⟨zb80⟩,zb5⟩
    ·rw [if_neg c4] at H
     exact absurd H zb24
   rw [if_neg c2] at H
   have c2b0:decide (0 ≤ x5_1)=false:=decide_eq_false c2
   clear c2
   have HC7:=Aside0.mk H
   clear H
   go_upto_region 7 with (fail)
   go_cut [32] (fun v32 wc => ∃ (kq:Nat) (x32_6:Bool),v32 = .bool x32_6∧Aside0 (tollbarref06_size.j1 kq a0 x4_1 x32_6=some (r1,r2))∧Aside0 (kq ≤ k1)∧Drawn0 w wc)
   case first =>
    have H:=HC7.out
    clear HC7
    by_cases c8:x4_1 < (a0.size:Int);rotate_left
    ·rw [if_neg c8] at H
     have c8b0:=decide_eq_false c8
     clear c8
     (first|rw [c8b0]|(simp only [i64_w,i32_w];rw [c8b0])|skip)
     have H' := Aside0.mk H
     clear H
     go_wp2
     go_meet
     case rel=>exact ⟨_,(false),zb4,H',⟨zb70⟩,zb5⟩
    rw [if_pos c8] at H
    have c8b0:=decide_eq_true c8
    clear c8
    (first|rw [c8b0]|(simp only [i64_w,i32_w];rw [c8b0])|skip)
    obtain ⟨ji9,hji9⟩ : ∃ j_:Int,(wrap64 (x4_1 + 1))=j_:=⟨_,rfl⟩
    replace H:(if 0 ≤ (ji9) then (if (ji9) ≤ (a0.size:Int) then ((tollbarref02_Value.f k1 (a0.extract ((ji9):Int).toNat a0.size)).bind fun t480=>(tollbarref06_size.j1 k1 a0 x4_1 (!t480))) else (none)) else (none))=some (r1,r2):=by first|(rw [hji9] at H;exact H)|(simp only [hji9] at H ⊢;exact H)
    have hji9w:(IntKind.i64.wrap (x4_1 + 1))=ji9:=(i64_w _).trans hji9
    by_cases c10:0 ≤ (ji9)
    ·rw [if_pos c10] at H
     have c10b0:=eq_true c10
     have c10b1:=decide_eq_true c10
     clear c10
     by_cases c11:(ji9) ≤ (a0.size:Int)
     ·rw [if_pos c11] at H
      have c11b0:=eq_true c11
      have c11b1:=decide_eq_true c11
      clear c11
      replace H:=Option.bind_eq_some_iff.mp H
      obtain ⟨t480,A120,H⟩:=H
      try dsimp only at H
      have A12:=Aside0.mk A120
      clear A120
      have H' := Aside0.mk H
      clear H
      go_wp2_with (first|(go_at_call 171;(with_reducible refine (tollbarref02_Value.calls k1 (a0.extract ((ji9):Int).toNat a0.size) t480 _ A12.out).mono ?_);rintro e w' ⟨rfl,⟨nd,rfl⟩⟩;(try clear A12)))
      go_meet
      case rel=>exact ⟨_,(!t480),zb4,H',⟨zb70⟩,zb5⟩
     ·rw [if_neg c11] at H
      exact absurd H zb24
    ·rw [if_neg c10] at H
     exact absurd H zb24
   case rest =>
    clear HC7
    try clear c1
    try clear c2
    try clear c2b0
    try clear p2
    try clear c3
    try clear c3b0
    try clear c4
    try clear c4b0
    try clear p5
    try clear q5
    try clear hx5
    try clear c6
    try clear c6b0
    try clear c6b1
    try clear p6
    try clear c8
    try clear c8b0
    try clear c10
    try clear c10b0
    try clear c10b1
    try clear c11
    try clear c11b0
    try clear c11b1
    try clear p5
    try clear q5
    obtain ⟨kq,x32_6,rfl,HA,HJ6,⟨mc6,rfl⟩⟩:=hcut
    cases kq with
    | zero=>exact absurd HA.out (by simp [tollbarref06_size.j1])
    | succ kj6 =>
     have H:=HA.out
     clear HA
     simp only [tollbarref06_size.j1] at H
     by_cases c13:x32_6=true
     ·subst c13
      rw [if_pos rfl] at H
      simp only [zi,zj] at H
      obtain ⟨rfl,rfl⟩:=H
      go_wp2
      go_ret2
      exact ⟨zb4,zb5⟩
     replace c13:=Bool.eq_false_iff.mpr c13
     subst c13
     rw [if_neg zf] at H
     by_cases c14:0 ≤ x4_1;rotate_left
     ·rw [if_neg c14] at H
      exact absurd H zb24
     rw [if_pos c14] at H
     have c14b0:=eq_true c14
     have c14b1:=decide_eq_true c14
     clear c14
     by_cases c15:x4_1 ≤ (a0.size:Int)
     ·rw [if_pos c15] at H
      have c15b0:=eq_true c15
      have c15b1:=decide_eq_true c15
      clear c15
      have H' := Aside0.mk H
      clear H
      go_wp2
      go_loopg [6] kj6 (fun kq v6 w' => ∃ (x6_3:ByteArray),v6 = .string x6_3∧Aside0 (tollbarref06_size.l1 kq x6_3=some (r1,r2))∧Aside0 (kq ≤ kj6)∧Drawn0 w w')
      case atStart=>exact ⟨(a0.extract 0 (x4_1:Int).toNat),zb4,H',⟨Nat.le_refl _⟩,zb5⟩
      case round =>
       clear H'
       try clear c1
       try clear c2
       try clear c2b0
       try clear p2
       try clear c3
       try clear c3b0
       try clear c4
       try clear c4b0
       try clear p5
       try clear q5
       try clear hx5
       try clear c6
       try clear c6b0
       try clear c6b1
       try clear p6
       try clear c8
       try clear c8b0
       try clear c10
       try clear c10b0
       try clear c10b1
       try clear c11
       try clear c11b0
       try clear c11b1
       try clear c13
       try clear c14
       try clear c14b0
       try clear c14b1
       try clear c15
       try clear c15b0
       try clear c15b1
       try clear p2
       try clear p5
       try clear p6
       try clear q5
       obtain ⟨x6_3,rfl,HA,HK3,⟨m3,rfl⟩⟩:=hrel
       cases gk with
       | zero=>exact absurd HA.out (by simp [tollbarref06_size.l1])
       | succ k3 =>
        have H:=HA.out
        clear HA
        simp only [tollbarref06_size.l1] at H
        by_cases c16:(x6_3.size:Int) > 0;rotate_left
        ·rw [if_neg c16] at H
         have c16b0:decide (0 < (x6_3.size:Int))=false:=decide_eq_false c16
         have c16b1:decide (0 < x6_3.size)=false:=decide_eq_false zb10
         clear c16
         replace H:=Option.bind_eq_some_iff.mp H
         obtain ⟨⟨t483,t484⟩,A290,H⟩:=H
         try dsimp only at H
         have A29:=Aside0.mk A290
         clear A290
         simp only [zi,zj] at H
         obtain ⟨rfl,rfl⟩:=H
         go_wp2_with (first|((with_reducible refine gate_callee (f:=172) rfl ?_);refine goesL_ (some 61) rfl rfl Tryz.func172 zb7 rfl #[.string x6_3] rfl zb2 ?_;(with_reducible refine (tollbarref02_Hex.calls k3 x6_3 t483 t484 _ A29.out).mono ?_);rintro e w' ⟨rfl,⟨nd,rfl⟩⟩;(try clear A29);refine ⟨_,rfl,?_⟩))
         go_ret2
         exact ⟨zb4,zb5⟩
        rw [if_pos c16] at H
        have c16b0:decide (0 < (x6_3.size:Int))=true:=decide_eq_true c16
        have c16b1:decide (0 < x6_3.size)=true:=decide_eq_true zb10
        clear c16
        obtain ⟨ji17,hji17⟩ : ∃ j_:Int,(wrap64 ((x6_3.size:Int) - 1))=j_:=⟨_,rfl⟩
        replace H:(if 0 ≤ (ji17) then (if (ji17) < (x6_3.size:Int) then (if (bt x6_3 (ji17))=32 then (if (ji17) ≤ (x6_3.size:Int) then (tollbarref06_size.l1 k3 (x6_3.extract 0 ((ji17):Int).toNat)) else (none)) else (if (bt x6_3 (ji17))=9 then (if (ji17) ≤ (x6_3.size:Int) then (tollbarref06_size.l1 k3 (x6_3.extract 0 ((ji17):Int).toNat)) else (none)) else ((tollbarref02_Hex.f k3 x6_3).bind fun bt481=>(some (bt481.1,bt481.2))))) else (none)) else (none))=some (r1,r2):=by first|(rw [hji17] at H;exact H)|(simp only [hji17] at H ⊢;exact H)
        have hji17w:(IntKind.i64.wrap ((x6_3.size:Int) - 1))=ji17:=(i64_w _).trans hji17
        by_cases c18:0 ≤ (ji17)
        ·rw [if_pos c18] at H
         have c18b0:=decide_eq_true c18
         clear c18
         by_cases c19:(ji17) < (x6_3.size:Int)
         ·rw [if_pos c19] at H
          have c19b0:=decide_eq_true c19
          clear c19
          by_cases c21:(bt x6_3 (ji17))=32
          ·rw [if_pos c21] at H
           have c21b0:=beq_iff_eq.mpr c21
           have c21b1:=bne_eq_false_iff_eq.mpr c21
           clear c21
           have c22b0:=eq_true (of_decide_eq_true zb1:0 ≤ (ji17))
           by_cases c23:(ji17) ≤ (x6_3.size:Int);rotate_left
           ·rw [if_neg c23] at H
            exact absurd H zb24
           rw [if_pos c23] at H
           have c23b0:=eq_true c23
           have c23b1:=decide_eq_true c23
           clear c23
           have H' := Aside0.mk H
           clear H
           have p20:0 ≤ ((ji17):Int):=of_decide_eq_true zb1
           have q20:(ji17) < (x6_3.size:Int):=of_decide_eq_true zb1
           have hx20:=bt_at x6_3 (ji17)
           replace p20:=eq_true p20
           replace q20:=eq_true q20
           go_wp2
           go_roundg k3
           case measure=>have:=HK1.out;have:=HJ6.out;have:=HK3.out;omega
           case rel=>exact ⟨(x6_3.extract 0 ((ji17):Int).toNat),zb127,H',⟨by have:=HK1.out;have:=HJ6.out;have:=HK3.out;omega⟩,zb5⟩
          rw [if_neg c21] at H
          have c21b0:=beq_eq_false_iff_ne.mpr c21
          have c21b1:=bne_iff_ne.mpr c21
          by_cases c25:(bt x6_3 (ji17))=9;rotate_left
          ·rw [if_neg c25] at H
           have c25b0:=beq_eq_false_iff_ne.mpr c25
           have c25b1:=bne_iff_ne.mpr c25
           replace H:=Option.bind_eq_some_iff.mp H
           obtain ⟨⟨t481,t482⟩,A280,H⟩:=H
           try dsimp only at H
           have A28:=Aside0.mk A280
           clear A280
           simp only [zi,zj] at H
           obtain ⟨rfl,rfl⟩:=H
           have p20:0 ≤ ((ji17):Int):=of_decide_eq_true zb1
           have q20:(ji17) < (x6_3.size:Int):=of_decide_eq_true zb1
           have hx20:=bt_at x6_3 (ji17)
           replace p20:=eq_true p20
           replace q20:=eq_true q20
           have p24:0 ≤ ((ji17):Int):=of_decide_eq_true zb1
           have q24:(ji17) < (x6_3.size:Int):=of_decide_eq_true zb1
           have hx24:=bt_at x6_3 (ji17)
           replace p24:=eq_true p24
           replace q24:=eq_true q24
           go_wp2_with (first|((with_reducible refine gate_callee (f:=172) rfl ?_);refine goesL_ (some 61) rfl rfl Tryz.func172 zb7 rfl #[.string x6_3] rfl zb2 ?_;(with_reducible refine (tollbarref02_Hex.calls k3 x6_3 t481 t482 _ A28.out).mono ?_);rintro e w' ⟨rfl,⟨nd,rfl⟩⟩;(try clear A28);refine ⟨_,rfl,?_⟩))
           go_ret2
           exact ⟨zb127,zb5⟩
          rw [if_pos c25] at H
          have c25b0:=beq_iff_eq.mpr c25
          have c25b1:=bne_eq_false_iff_eq.mpr c25
          clear c25
          have c26b0:=eq_true (of_decide_eq_true zb1:0 ≤ (ji17))
          by_cases c27:(ji17) ≤ (x6_3.size:Int)
          ·rw [if_pos c27] at H
           have c27b0:=eq_true c27
           have c27b1:=decide_eq_true c27
           clear c27
           have H' := Aside0.mk H
           clear H
           have p20:0 ≤ ((ji17):Int):=of_decide_eq_true zb1
           have q20:(ji17) < (x6_3.size:Int):=of_decide_eq_true zb1
           have hx20:=bt_at x6_3 (ji17)
           replace p20:=eq_true p20
           replace q20:=eq_true q20
           have p24:0 ≤ ((ji17):Int):=of_decide_eq_true zb1
           have q24:(ji17) < (x6_3.size:Int):=of_decide_eq_true zb1
           have hx24:=bt_at x6_3 (ji17)
           replace p24:=eq_true p24
           replace q24:=eq_true q24
           go_wp2
           go_roundg k3
           case measure=>have:=HK1.out;have:=HJ6.out;have:=HK3.out;omega
           case rel=>exact ⟨(x6_3.extract 0 ((ji17):Int).toNat),zb127,H',⟨by have:=HK1.out;have:=HJ6.out;have:=HK3.out;omega⟩,zb5⟩
          ·rw [if_neg c27] at H
           exact absurd H zb24
         ·rw [if_neg c19] at H
          exact absurd H zb24
        ·rw [if_neg c18] at H
         exact absurd H zb24
     ·rw [if_neg c15] at H
      exact absurd H zb24
mutual
def tollbarref06_Decode.j0:Nat → List Int → Int → Option (List Int × Int × Int)
 | 0,_,_=>none
 | k + 1,x0,x1=>tollbarref06_Decode.l0 k x0 x1 (([]:List Int)) 0 0
def tollbarref06_Decode.l0:Nat → List Int → Int → List Int → Int → Int → Option (List Int × Int × Int)
 | 0,_,_,_,_,_=>none
 | k + 1,x0,x1,x7,x8,x9=>if 0 ≤ x9 then (if x9 ≤ (x0.length:Int) then ((tollbarref05_Cut.f k (x0.drop (x9:Int).toNat) 256).bind fun bt489=>(if bt489.2.2=0 then (tollbarref06_Decode.j2 k x0 x1 x7 x8 x9 bt489.1 bt489.2.1 bt489.2.2 (bt489.2.1 == 0)) else (tollbarref06_Decode.j2 k x0 x1 x7 x8 x9 bt489.1 bt489.2.1 bt489.2.2 true))) else (none)) else (none)
def tollbarref06_Decode.j2:Nat → List Int → Int → List Int → Int → Int → ByteArray → Int → Int → Bool → Option (List Int × Int × Int)
 | 0,_,_,_,_,_,_,_,_,_=>none
 | k + 1,x0,x1,x7,x8,x9,x10,x11,x12,x40=>if x40=true then (some (([]:List Int),0,x12)) else ((tollbarref06_size.f k x10).bind fun bt492=>(if bt492.2=true then (if bt492.1=0 then (tollbarref06_Decode.l3 k x0 x7 (wrap64 (x9 + x11)) 0) else (if bt492.1 > (wrap64 (x1 - x8)) then (some (([]:List Int),0,2)) else (tollbarref06_Decode.l1 k x0 x1 x7 (wrap64 (x8 + bt492.1)) (wrap64 (x9 + x11)) bt492.1 0))) else (some (([]:List Int),0,30))))
def tollbarref06_Decode.l3:Nat → List Int → List Int → Int → Int → Option (List Int × Int × Int)
 | 0,_,_,_,_=>none
 | k + 1,x0,x7,x9,x18=>if 0 ≤ x9 then (if x9 ≤ (x0.length:Int) then ((tollbarref05_Cut.f k (x0.drop (x9:Int).toNat) 256).bind fun bt504=>(if bt504.2.2=0 then (tollbarref06_Decode.j6 k x0 x7 x9 x18 bt504.1 bt504.2.1 bt504.2.2 (bt504.2.1 == 0)) else (tollbarref06_Decode.j6 k x0 x7 x9 x18 bt504.1 bt504.2.1 bt504.2.2 true))) else (none)) else (none)
def tollbarref06_Decode.j6:Nat → List Int → List Int → Int → Int → ByteArray → Int → Int → Bool → Option (List Int × Int × Int)
 | 0,_,_,_,_,_,_,_,_=>none
 | k + 1,x0,x7,x9,x18,x19,x20,x21,x113=>if x113=true then (some (([]:List Int),0,x21)) else (if x19.toList=([]:List UInt8) then (some (x7,wrap64 (x9 + x20),0)) else ((tollbarref04_Parse.f k x19).bind fun bt507=>(if bt507.2.2=true then (if (wrap64 (x18 + 1)) > 40 then (some (([]:List Int),0,3)) else (tollbarref06_Decode.l3 k x0 x7 (wrap64 (x9 + x20)) (wrap64 (x18 + 1)))) else (some (([]:List Int),0,20)))))
def tollbarref06_Decode.l1:Nat → List Int → Int → List Int → Int → Int → Int → Int → Option (List Int × Int × Int)
 | 0,_,_,_,_,_,_,_=>none
 | k + 1,x0,x1,x7,x8,x9,x13,x15=>if x15 < x13 then (if x9=(x0.length:Int) then (some (([]:List Int),0,0)) else (if 0 ≤ x9 then (if x9 < (x0.length:Int) then (if x7.length < 140737488355328 then (tollbarref06_Decode.l1 k x0 x1 (x7 ++ [rd x0 x9]) x8 (wrap64 (x9 + 1)) x13 (wrap64 (x15 + 1))) else (none)) else (none)) else (none))) else (tollbarref06_Decode.l2 k x0 x1 x7 x8 x9 (([13,10]:List Int)) 0)
def tollbarref06_Decode.l2:Nat → List Int → Int → List Int → Int → Int → List Int → Int → Option (List Int × Int × Int)
 | 0,_,_,_,_,_,_,_=>none
 | k + 1,x0,x1,x7,x8,x9,x16,x17=>if x17 < 2 then (if x9=(x0.length:Int) then (some (([]:List Int),0,0)) else (if 0 ≤ x9 then (if x9 < (x0.length:Int) then (if 0 ≤ x17 then (if x17 < (x16.length:Int) then (if (rd x0 x9)=(rd x16 x17) then (tollbarref06_Decode.l2 k x0 x1 x7 x8 (wrap64 (x9 + 1)) x16 (wrap64 (x17 + 1))) else (some (([]:List Int),0,20))) else (none)) else (none)) else (none)) else (none))) else (tollbarref06_Decode.l0 k x0 x1 x7 x8 x9)
end
def tollbarref06_Decode.f (k:Nat) (l0:List Int) (a1:Int):Option (List Int × Int × Int):=if a1 < 0 then (tollbarref06_Decode.j0 k l0 0) else (tollbarref06_Decode.j0 k l0 a1)
theorem tollbarref06_Decode.calls (k:Nat) (A0:Option Addr) (c0:Nat) (l0:List Int) (a1:Int) (r1:List Int) (r2:Int) (r3:Int) (w:World) (hr0:Kd.C (Kd.int .u8) w A0 l0.length l0) (hc0:l0.length ≤ c0) (h:tollbarref06_Decode.f k l0 a1=some (r1,r2,r3)) :
 Calls Tryz.prog 84 #[.slice A0 l0.length c0,.int .i64 a1] w fun e w' => ∃ v0_:Value,e = .returned (.tuple #[v0_,.int .i64 r2,.int .i64 r3])∧Kd.R (Kd.int .u8) 5 w' w.heap.size (fun _=>True) v0_ r1∧Below w.heap.size w w' := by
 have hu36:=Tryz.underlying36
 have HR0:=Aside0.mk hr0
 have HC0:=Aside0.mk hc0
 clear hr0 hc0
 have HB:=zB w
 unfold tollbarref06_Decode.f at h
 have H:=h
 clear h
 have HC3:=Aside0.mk H
 clear H
 go_enter Tryz.func84,Tryz.ntmps84
 go_upto_if 25 with (fail)
 repeat (go_quiet (fail);go_upto_if 25 with (fail))
 go_cut [1] (fun v1 wc => ∃ (kq:Nat) (x1_2:Int),v1 = .int .i64 x1_2∧Aside0 (tollbarref06_Decode.j0 kq l0 x1_2=some (r1,r2,r3))∧Aside0 (kq ≤ k)∧Aside0 (Below w.heap.size w wc))
 case first =>
  have H:=HC3.out
  clear HC3
  by_cases c4:a1 < 0
  ·rw [if_pos c4] at H
   have c4b0:=decide_eq_true c4
   clear c4
   (first|rw [c4b0]|(simp only [i64_w,i32_w];rw [c4b0])|skip)
   have H' := Aside0.mk H
   clear H
   go_wp2
   repeat (go_quiet (fail);try go_wp2)
   go_meet
   case rel=>exact ⟨_,(0),zb4,H',⟨zb37⟩,⟨zb0⟩⟩
  rw [if_neg c4] at H
  have c4b0:=decide_eq_false c4
  clear c4
  (first|rw [c4b0]|(simp only [i64_w,i32_w];rw [c4b0])|skip)
  have H' := Aside0.mk H
  clear H
  go_wp2
  repeat (go_quiet (fail);try go_wp2)
  go_meet
  case rel=>exact ⟨_,(a1),zb4,H',⟨zb37⟩,⟨zb0⟩⟩
 case rest =>
  clear HC3
  try clear p2
  try clear c4
  try clear c4b0
  obtain ⟨kq,x1_2,rfl,HA,HJ2,HB⟩:=hcut
  cases kq with
  | zero=>exact absurd HA.out (by simp [tollbarref06_Decode.j0])
  | succ kj2 =>
   have H:=HA.out
   clear HA
   simp only [tollbarref06_Decode.j0] at H
   obtain ⟨y65,hy65⟩ : ∃ y_:List Int,y_=(([]:List Int)):=⟨_,rfl⟩
   replace H:(tollbarref06_Decode.l0 kj2 l0 x1_2 y65 0 0)=some (r1,r2,r3):=by first|(rw [hy65];with_reducible exact H)|(have H2_:=(Option.bind_some _ _).symm.trans H;rw [hy65];with_reducible exact H2_)|(have H2_:=(Option.bind_some _ _).symm.trans H;with_reducible exact H2_)|with_reducible exact H|(rw [hy65];exact H)|exact H
   have Ny65:=Aside0.mk hy65
   clear hy65
   have H' := Aside0.mk H
   clear H
   go_wp2_with (first|((with_reducible refine gate_dst (N:=26) rfl ?_);refine Kd.R_lit (Kd.int .u8) _ 5 ?hg (N:=26) ?hd (xs:=([]:List Int)) (inner:=[]) (ok:=fun _=>True) (okp:=fun _=>True) ?hr ?hp (fun _ hk=>hk) trivial (Below.refl _ _) (Nat.le_refl _) zb24 ?_;(case hd=>rfl);(case hg=>rfl);(case hr=>first|(go_simp;done)|(go_simp;rfl));(case hp=>exact (Reps.none _ _));intro v85 w5 ho6 hb hg_ hnew_;clear hg_ hnew_;(first|rw [← Ny65.out] at ho6|(simp only [Int.reduceToNat] at ho6;rw [← Ny65.out] at ho6));have HO78:=Aside0.mk (Kd.R_lower ho6 (below_size zb0));replace HB:=Aside0.mk (below_step zb0 hb);clear hb ho6))
   repeat (go_quiet (first|((with_reducible refine gate_dst (N:=26) rfl ?_);refine Kd.R_lit (Kd.int .u8) _ 5 ?hg (N:=26) ?hd (xs:=([]:List Int)) (inner:=[]) (ok:=fun _=>True) (okp:=fun _=>True) ?hr ?hp (fun _ hk=>hk) trivial (Below.refl _ _) (Nat.le_refl _) zb24 ?_;(case hd=>rfl);(case hg=>rfl);(case hr=>first|(go_simp;done)|(go_simp;rfl));(case hp=>exact (Reps.none _ _));intro v85 w5 ho6 hb hg_ hnew_;clear hg_ hnew_;(first|rw [← Ny65.out] at ho6|(simp only [Int.reduceToNat] at ho6;rw [← Ny65.out] at ho6));have HO78:=Aside0.mk (Kd.R_lower ho6 (below_size zb0));replace HB:=Aside0.mk (below_step zb0 hb);clear hb ho6));try go_wp2_with (first|((with_reducible refine gate_dst (N:=26) rfl ?_);refine Kd.R_lit (Kd.int .u8) _ 5 ?hg (N:=26) ?hd (xs:=([]:List Int)) (inner:=[]) (ok:=fun _=>True) (okp:=fun _=>True) ?hr ?hp (fun _ hk=>hk) trivial (Below.refl _ _) (Nat.le_refl _) zb24 ?_;(case hd=>rfl);(case hg=>rfl);(case hr=>first|(go_simp;done)|(go_simp;rfl));(case hp=>exact (Reps.none _ _));intro v85 w5 ho6 hb hg_ hnew_;clear hg_ hnew_;(first|rw [← Ny65.out] at ho6|(simp only [Int.reduceToNat] at ho6;rw [← Ny65.out] at ho6));have HO78:=Aside0.mk (Kd.R_lower ho6 (below_size zb0));replace HB:=Aside0.mk (below_step zb0 hb);clear hb ho6)))
   go_loopg [7,8,9] kj2 (fun kq v7 v8 v9 w' => ∃ (x7_2:List Int) (x8_2:Int) (x9_2:Int),v8 = .int .i64 x8_2∧v9 = .int .i64 x9_2∧Aside0 (tollbarref06_Decode.l0 kq l0 x1_2 x7_2 x8_2 x9_2=some (r1,r2,r3))∧Aside0 (kq ≤ kj2)∧Aside0 (Kd.R (Kd.int .u8) 5 w' w.heap.size (fun _=>True) v7 x7_2)∧Aside0 (Below w.heap.size w w'))
   case atStart=>exact ⟨(y65),(0),(0),zb4,zb4,H',⟨Nat.le_refl _⟩,⟨by (with_reducible repeat (first|apply Kd.R_alloc|apply Kd.R_drewN|apply Kd.R_drew));exact HO78.out⟩,⟨zb0⟩⟩
   case round =>
    clear H'
    try clear p2
    try clear c4
    try clear c4b0
    try clear p2
    obtain ⟨x7_2,x8_2,x9_2,rfl,rfl,HA,HK2,HO_7,HB⟩:=hrel
    cases gk with
    | zero=>exact absurd HA.out (by simp [tollbarref06_Decode.l0])
    | succ k2 =>
     have H:=HA.out
     clear HA
     simp only [tollbarref06_Decode.l0] at H
     by_cases c7:0 ≤ x9_2;rotate_left
     ·rw [if_neg c7] at H
      exact absurd H zb24
     rw [if_pos c7] at H
     have c7b0:=eq_true c7
     have c7b1:=decide_eq_true c7
     clear c7
     by_cases c8:x9_2 ≤ (l0.length:Int)
     ·rw [if_pos c8] at H
      have c8b0:=eq_true c8
      have c8b1:=decide_eq_true c8
      clear c8
      replace H:=Option.bind_eq_some_iff.mp H
      obtain ⟨⟨t61,t63,t66⟩,A90,H⟩:=H
      try dsimp only at H
      have A9:=Aside0.mk A90
      clear A90
      have HC10:=Aside0.mk H
      clear H
      obtain ⟨i76,hi76,_,hsz11,_⟩:=info_parts info5
      obtain ⟨A11,hcut11,hA11,hC11⟩:=print_drop_of (P:=Tryz.prog) (Value.int .u8) 0 22 5 .i64 Tryz.underlying22 hi76 hsz11 A0 c0 l0 x9_2 (of_decide_eq_true zb1) (of_decide_eq_true zb1) HC0.out
      have HR72:=Aside0.mk (Kd.C_of_reads (h1:=fun _=>rfl) (hA11 _ (Kd.reads_of_C HR0.out)))
      have HC72:=Aside0.mk hC11
      clear hA11 hC11 hi76 hsz11
      go_upto_region 7 with (first|(go_at_call 125;(try rw [← List.length_drop]);(with_reducible refine (tollbarref05_Cut.calls k2 _ _ (l0.drop (x9_2:Int).toNat) 256 t61 t63 t66 _ ?side1 ?side2 A9.out).mono ?_);(case side1=>exact zb92);(case side2=>exact HC72.out);rintro e w' ⟨rfl,⟨nd,rfl⟩⟩;(try first|exact ⟨rfl,_,World.drewN_drewN _ _ _⟩|exact ⟨rfl,_,Eq.trans (World.drewN_drewN _ _ _) (congrArg (World.drewN _) (Nat.add_assoc _ _ _))⟩)))
      repeat (go_quiet (first|(go_at_call 125;(try rw [← List.length_drop]);(with_reducible refine (tollbarref05_Cut.calls k2 _ _ (l0.drop (x9_2:Int).toNat) 256 t61 t63 t66 _ ?side1 ?side2 A9.out).mono ?_);(case side1=>exact zb92);(case side2=>exact HC72.out);rintro e w' ⟨rfl,⟨nd,rfl⟩⟩;(try first|exact ⟨rfl,_,World.drewN_drewN _ _ _⟩|exact ⟨rfl,_,Eq.trans (World.drewN_drewN _ _ _) (congrArg (World.drewN _) (Nat.add_assoc _ _ _))⟩)));go_upto_region 7 with (first|(go_at_call 125;(try rw [← List.length_drop]);(with_reducible refine (tollbarref05_Cut.calls k2 _ _ (l0.drop (x9_2:Int).toNat) 256 t61 t63 t66 _ ?side1 ?side2 A9.out).mono ?_);(case side1=>exact zb92);(case side2=>exact HC72.out);rintro e w' ⟨rfl,⟨nd,rfl⟩⟩;(try first|exact ⟨rfl,_,World.drewN_drewN _ _ _⟩|exact ⟨rfl,_,Eq.trans (World.drewN_drewN _ _ _) (congrArg (World.drewN _) (Nat.add_assoc _ _ _))⟩))))
      (try simp only [Act.put,zqA,zqB,zqC])
      go_cut [40] (fun v40 wc => ∃ (kq:Nat) (x40_9:Bool),v40 = .bool x40_9∧Aside0 (tollbarref06_Decode.j2 kq l0 x1_2 x7_2 x8_2 x9_2 t61 t63 t66 x40_9=some (r1,r2,r3))∧Aside0 (kq ≤ k2)∧Aside0 (Kd.R (Kd.int .u8) 5 wc w.heap.size (fun _=>True) u7 x7_2)∧Aside0 (Below w.heap.size w wc))
      case first =>
       have H:=HC10.out
       clear HC10
       by_cases c12:t66=0;rotate_left
       ·rw [if_neg c12] at H
        have c12b0:=beq_eq_false_iff_ne.mpr c12
        have c12b1:=bne_iff_ne.mpr c12
        (first|rw [c12b0]|(simp only [i64_w,i32_w];rw [c12b0])|rw [c12b1]|skip)
        have H' := Aside0.mk H
        clear H
        go_wp2
        repeat (go_quiet (fail);try go_wp2)
        go_meet
        case rel=>exact ⟨_,(true),zb4,H',⟨zb91⟩,⟨zb8⟩,⟨zb0⟩⟩
       rw [if_pos c12] at H
       have c12b0:=beq_iff_eq.mpr c12
       have c12b1:=bne_eq_false_iff_eq.mpr c12
       clear c12
       (first|rw [c12b0]|(simp only [i64_w,i32_w];rw [c12b0])|rw [c12b1]|skip)
       have H' := Aside0.mk H
       clear H
       go_wp2
       repeat (go_quiet (fail);try go_wp2)
       go_meet
       case rel=>exact ⟨_,((t63 == 0)),zb4,H',⟨zb91⟩,⟨zb8⟩,⟨zb0⟩⟩
      case rest =>
       clear HC10
       try clear c1
       try clear p2
       try clear c4
       try clear c4b0
       try clear c7
       try clear c7b0
       try clear c7b1
       try clear c8
       try clear c8b0
       try clear c8b1
       try clear c12
       try clear c12b0
       try clear c12b1
       try clear p2
       obtain ⟨kq,x40_9,rfl,HA,HJ9,HO_7,HB⟩:=hcut
       cases kq with
       | zero=>exact absurd HA.out (by simp [tollbarref06_Decode.j2])
       | succ kj9 =>
        have H:=HA.out
        clear HA
        simp only [tollbarref06_Decode.j2] at H
        by_cases c13:x40_9=true
        ·subst c13
         rw [if_pos rfl] at H
         simp only [zi,zj] at H
         obtain ⟨rfl,rfl,rfl⟩:=H
         go_wp2
         repeat (go_quiet (fail);try go_wp2)
         go_ret3
         exact ⟨_,zb3,zb6,zb0⟩
        replace c13:=Bool.eq_false_iff.mpr c13
        subst c13
        rw [if_neg zf] at H
        replace H:=Option.bind_eq_some_iff.mp H
        obtain ⟨⟨t56,t86⟩,A81,H⟩:=H
        try dsimp only at H
        have A14:=Aside0.mk A81
        clear A81
        by_cases c15:t86=true;rotate_left
        ·replace c15:=Bool.eq_false_iff.mpr c15
         subst c15
         rw [if_neg zf] at H
         simp only [zi,zj] at H
         obtain ⟨rfl,rfl,rfl⟩:=H
         go_wp2_with (first|(go_at_call 134;(with_reducible refine (tollbarref06_size.calls kj9 t61 t56 false _ A14.out).mono ?_);rintro e w' ⟨rfl,⟨nd,rfl⟩⟩;(try clear A14);(try first|exact ⟨rfl,_,World.drewN_drewN _ _ _⟩|exact ⟨rfl,_,Eq.trans (World.drewN_drewN _ _ _) (congrArg (World.drewN _) (Nat.add_assoc _ _ _))⟩)))
         repeat (go_quiet (first|(go_at_call 134;(with_reducible refine (tollbarref06_size.calls kj9 t61 t56 false _ A14.out).mono ?_);rintro e w' ⟨rfl,⟨nd,rfl⟩⟩;(try clear A14);(try first|exact ⟨rfl,_,World.drewN_drewN _ _ _⟩|exact ⟨rfl,_,Eq.trans (World.drewN_drewN _ _ _) (congrArg (World.drewN _) (Nat.add_assoc _ _ _))⟩)));try go_wp2_with (first|(go_at_call 134;(with_reducible refine (tollbarref06_size.calls kj9 t61 t56 false _ A14.out).mono ?_);rintro e w' ⟨rfl,⟨nd,rfl⟩⟩;(try clear A14);(try first|exact ⟨rfl,_,World.drewN_drewN _ _ _⟩|exact ⟨rfl,_,Eq.trans (World.drewN_drewN _ _ _) (congrArg (World.drewN _) (Nat.add_assoc _ _ _))⟩))))
         go_ret3
         exact ⟨_,zb3,zb6,zb0⟩
        subst c15
        rw [if_pos rfl] at H
        by_cases c16:t56=0
        ·rw [if_pos c16] at H
         have c16b0:=beq_iff_eq.mpr c16
         have c16b1:=bne_eq_false_iff_eq.mpr c16
         clear c16
         have H' := Aside0.mk H
         clear H
         go_wp2_with (first|(go_at_call 134;(with_reducible refine (tollbarref06_size.calls kj9 t61 t56 true _ A14.out).mono ?_);rintro e w' ⟨rfl,⟨nd,rfl⟩⟩;(try clear A14);(try first|exact ⟨rfl,_,World.drewN_drewN _ _ _⟩|exact ⟨rfl,_,Eq.trans (World.drewN_drewN _ _ _) (congrArg (World.drewN _) (Nat.add_assoc _ _ _))⟩)))
         repeat (go_quiet (first|(go_at_call 134;(with_reducible refine (tollbarref06_size.calls kj9 t61 t56 true _ A14.out).mono ?_);rintro e w' ⟨rfl,⟨nd,rfl⟩⟩;(try clear A14);(try first|exact ⟨rfl,_,World.drewN_drewN _ _ _⟩|exact ⟨rfl,_,Eq.trans (World.drewN_drewN _ _ _) (congrArg (World.drewN _) (Nat.add_assoc _ _ _))⟩)));try go_wp2_with (first|(go_at_call 134;(with_reducible refine (tollbarref06_size.calls kj9 t61 t56 true _ A14.out).mono ?_);rintro e w' ⟨rfl,⟨nd,rfl⟩⟩;(try clear A14);(try first|exact ⟨rfl,_,World.drewN_drewN _ _ _⟩|exact ⟨rfl,_,Eq.trans (World.drewN_drewN _ _ _) (congrArg (World.drewN _) (Nat.add_assoc _ _ _))⟩))))
         go_loopg [9,18] kj9 (fun kq v9 v18 w' => ∃ (x9_4:Int) (x18_4:Int),v9 = .int .i64 x9_4∧v18 = .int .i64 x18_4∧Aside0 (tollbarref06_Decode.l3 kq l0 x7_2 x9_4 x18_4=some (r1,r2,r3))∧Aside0 (kq ≤ kj9)∧Aside0 (Kd.R (Kd.int .u8) 5 w' w.heap.size (fun _=>True) u7 x7_2)∧Aside0 (Below w.heap.size w w'))
         case atStart=>exact ⟨(wrap64 (x9_2 + t63)),(0),zb4,zb4,H',⟨Nat.le_refl _⟩,⟨zb8⟩,⟨zb0⟩⟩
         case round =>
          clear H'
          try clear c1
          try clear p2
          try clear c4
          try clear c4b0
          try clear p6
          try clear c7
          try clear c7b0
          try clear c7b1
          try clear c8
          try clear c8b0
          try clear c8b1
          try clear c12
          try clear c12b0
          try clear c12b1
          try clear c13
          try clear c15
          try clear c16
          try clear c16b0
          try clear c16b1
          try clear p2
          obtain ⟨x9_4,x18_4,rfl,rfl,HA,HK4,HO_7,HB⟩:=hrel
          cases gk with
          | zero=>exact absurd HA.out (by simp [tollbarref06_Decode.l3])
          | succ k4 =>
           have H:=HA.out
           clear HA
           simp only [tollbarref06_Decode.l3] at H
           by_cases c17:0 ≤ x9_4;rotate_left
           ·rw [if_neg c17] at H
            exact absurd H zb24
           rw [if_pos c17] at H
           have c17b0:=eq_true c17
           have c17b1:=decide_eq_true c17
           clear c17
           by_cases c18:x9_4 ≤ (l0.length:Int)
           ·rw [if_pos c18] at H
            have c18b0:=eq_true c18
            have c18b1:=decide_eq_true c18
            clear c18
            replace H:=Option.bind_eq_some_iff.mp H
            obtain ⟨⟨t60,t67,t68⟩,A82,H⟩:=H
            try dsimp only at H
            have A19:=Aside0.mk A82
            clear A82
            have HC20:=Aside0.mk H
            clear H
            obtain ⟨i77,hi77,_,hsz21,_⟩:=info_parts info5
            obtain ⟨A21,hcut21,hA21,hC21⟩:=print_drop_of (P:=Tryz.prog) (Value.int .u8) 0 22 5 .i64 Tryz.underlying22 hi77 hsz21 A0 c0 l0 x9_4 (of_decide_eq_true zb1) (of_decide_eq_true zb1) HC0.out
            have HR73:=Aside0.mk (Kd.C_of_reads (h1:=fun _=>rfl) (hA21 _ (Kd.reads_of_C HR0.out)))
            have HC73:=Aside0.mk hC21
            clear hA21 hC21 hi77 hsz21
            go_upto_region 35 with (first|(go_at_call 125;(try rw [← List.length_drop]);(with_reducible refine (tollbarref05_Cut.calls k4 _ _ (l0.drop (x9_4:Int).toNat) 256 t60 t67 t68 _ ?side1 ?side2 A19.out).mono ?_);(case side1=>exact zb93);(case side2=>exact HC73.out);rintro e w' ⟨rfl,⟨nd,rfl⟩⟩;(try first|exact ⟨rfl,_,World.drewN_drewN _ _ _⟩|exact ⟨rfl,_,Eq.trans (World.drewN_drewN _ _ _) (congrArg (World.drewN _) (Nat.add_assoc _ _ _))⟩)))
            repeat (go_quiet (first|(go_at_call 125;(try rw [← List.length_drop]);(with_reducible refine (tollbarref05_Cut.calls k4 _ _ (l0.drop (x9_4:Int).toNat) 256 t60 t67 t68 _ ?side1 ?side2 A19.out).mono ?_);(case side1=>exact zb93);(case side2=>exact HC73.out);rintro e w' ⟨rfl,⟨nd,rfl⟩⟩;(try first|exact ⟨rfl,_,World.drewN_drewN _ _ _⟩|exact ⟨rfl,_,Eq.trans (World.drewN_drewN _ _ _) (congrArg (World.drewN _) (Nat.add_assoc _ _ _))⟩)));go_upto_region 35 with (first|(go_at_call 125;(try rw [← List.length_drop]);(with_reducible refine (tollbarref05_Cut.calls k4 _ _ (l0.drop (x9_4:Int).toNat) 256 t60 t67 t68 _ ?side1 ?side2 A19.out).mono ?_);(case side1=>exact zb93);(case side2=>exact HC73.out);rintro e w' ⟨rfl,⟨nd,rfl⟩⟩;(try first|exact ⟨rfl,_,World.drewN_drewN _ _ _⟩|exact ⟨rfl,_,Eq.trans (World.drewN_drewN _ _ _) (congrArg (World.drewN _) (Nat.add_assoc _ _ _))⟩))))
            (try simp only [Act.put,zqA,zqB,zqC])
            go_cut [113] (fun v74 wc => ∃ (kq:Nat) (x74_19:Bool),v74 = .bool x74_19∧Aside0 (tollbarref06_Decode.j6 kq l0 x7_2 x9_4 x18_4 t60 t67 t68 x74_19=some (r1,r2,r3))∧Aside0 (kq ≤ k4)∧Aside0 (Kd.R (Kd.int .u8) 5 wc w.heap.size (fun _=>True) u7 x7_2)∧Aside0 (Below w.heap.size w wc))
            case first =>
             have H:=HC20.out
             clear HC20
             by_cases c22:t68=0;rotate_left
             ·rw [if_neg c22] at H
              have c22b0:=beq_eq_false_iff_ne.mpr c22
              have c22b1:=bne_iff_ne.mpr c22
              (first|rw [c22b0]|(simp only [i64_w,i32_w];rw [c22b0])|rw [c22b1]|skip)
              have H' := Aside0.mk H
              clear H
              go_wp2
              repeat (go_quiet (fail);try go_wp2)
              go_meet
              case rel=>exact ⟨_,(true),zb4,H',⟨by have:=HJ2.out;have:=HK2.out;have:=HJ9.out;have:=HK4.out;first|omega|exact Nat.le_refl _⟩,⟨zb8⟩,⟨zb0⟩⟩
             rw [if_pos c22] at H
             have c22b0:=beq_iff_eq.mpr c22
             have c22b1:=bne_eq_false_iff_eq.mpr c22
             clear c22
             (first|rw [c22b0]|(simp only [i64_w,i32_w];rw [c22b0])|rw [c22b1]|skip)
             have H' := Aside0.mk H
             clear H
             go_wp2
             repeat (go_quiet (fail);try go_wp2)
             go_meet
             case rel=>exact ⟨_,((t67 == 0)),zb4,H',⟨by have:=HJ2.out;have:=HK2.out;have:=HJ9.out;have:=HK4.out;first|omega|exact Nat.le_refl _⟩,⟨zb8⟩,⟨zb0⟩⟩
            case rest =>
             clear HC20
             try clear c1
             try clear c2
             try clear p2
             try clear c4
             try clear c4b0
             try clear p6
             try clear c7
             try clear c7b0
             try clear c7b1
             try clear c8
             try clear c8b0
             try clear c8b1
             try clear c12
             try clear c12b0
             try clear c12b1
             try clear c13
             try clear c15
             try clear c16
             try clear c16b0
             try clear c16b1
             try clear c17
             try clear c17b0
             try clear c17b1
             try clear c18
             try clear c18b0
             try clear c18b1
             try clear c22
             try clear c22b0
             try clear c22b1
             try clear p2
             try clear p6
             obtain ⟨kq,x74_19,rfl,HA,HJ19,HO_7,HB⟩:=hcut
             cases kq with
             | zero=>exact absurd HA.out (by simp [tollbarref06_Decode.j6])
             | succ kj19 =>
              have H:=HA.out
              clear HA
              simp only [tollbarref06_Decode.j6] at H
              by_cases c23:x74_19=true
              ·subst c23
               rw [if_pos rfl] at H
               simp only [zi,zj] at H
               obtain ⟨rfl,rfl,rfl⟩:=H
               go_wp2
               repeat (go_quiet (fail);try go_wp2)
               go_ret3
               exact ⟨_,zb3,zb6,zb0⟩
              replace c23:=Bool.eq_false_iff.mpr c23
              subst c23
              rw [if_neg zf] at H
              by_cases c24:t60.toList=([]:List UInt8)
              ·rw [if_pos c24] at H
               have c24b0:=beq_iff_eq.mpr c24
               have c24b1:=bne_eq_false_iff_eq.mpr c24
               clear c24
               simp only [zi,zj] at H
               obtain ⟨rfl,rfl,rfl⟩:=H
               go_wp2
               repeat (go_quiet (fail);try go_wp2)
               go_ret3
               exact ⟨_,zb3,zb8,zb0⟩
              rw [if_neg c24] at H
              have c24b0:=beq_eq_false_iff_ne.mpr c24
              have c24b1:=bne_iff_ne.mpr c24
              replace H:=Option.bind_eq_some_iff.mp H
              obtain ⟨⟨t70,t71,t88⟩,A83,H⟩:=H
              try dsimp only at H
              have A25:=Aside0.mk A83
              clear A83
              by_cases c26:t88=true;rotate_left
              ·replace c26:=Bool.eq_false_iff.mpr c26
               subst c26
               rw [if_neg zf] at H
               simp only [zi,zj] at H
               obtain ⟨rfl,rfl,rfl⟩:=H
               go_wp2_with (first|(go_at_call 130;(with_reducible refine (tollbarref04_Parse.calls kj19 t60 t70 t71 false _ A25.out).mono ?_);rintro e w34 ⟨rfl,hb⟩;(try clear A25);replace HO_7:=Aside0.mk (Kd.R_below zb8 hb);replace HB:=Aside0.mk (below_step zb0 hb);(try clear hb))|((with_reducible refine gate_dst (N:=22) rfl ?_);refine box_event rfl (N:=22) rfl (cs:=#[.string (⟨#[]⟩:ByteArray),.string (⟨#[]⟩:ByteArray)]) (t:=36) zS ?_;intro gb55 hg w35 hbox hb;replace HO_7:=Aside0.mk (Kd.R_below zb8 hb);have BK55:=Aside0.mk (hbox);have GW55:=zG hg zb0;have GE55:=GW55;replace HB:=Aside0.mk (below_step zb0 hb);clear hb hbox hg;obtain ⟨hcz36_0,hcz36_1,hfz36_0,hfz36_1⟩:=zq2 BK55.out))
               repeat (go_quiet (first|(go_at_call 130;(with_reducible refine (tollbarref04_Parse.calls kj19 t60 t70 t71 false _ A25.out).mono ?_);rintro e w34 ⟨rfl,hb⟩;(try clear A25);replace HO_7:=Aside0.mk (Kd.R_below zb8 hb);replace HB:=Aside0.mk (below_step zb0 hb);(try clear hb))|((with_reducible refine gate_dst (N:=22) rfl ?_);refine box_event rfl (N:=22) rfl (cs:=#[.string (⟨#[]⟩:ByteArray),.string (⟨#[]⟩:ByteArray)]) (t:=36) zS ?_;intro gb55 hg w35 hbox hb;replace HO_7:=Aside0.mk (Kd.R_below zb8 hb);have BK55:=Aside0.mk (hbox);have GW55:=zG hg zb0;have GE55:=GW55;replace HB:=Aside0.mk (below_step zb0 hb);clear hb hbox hg;obtain ⟨hcz36_0,hcz36_1,hfz36_0,hfz36_1⟩:=zq2 BK55.out));try go_wp2_with (first|(go_at_call 130;(with_reducible refine (tollbarref04_Parse.calls kj19 t60 t70 t71 false _ A25.out).mono ?_);rintro e w34 ⟨rfl,hb⟩;(try clear A25);replace HO_7:=Aside0.mk (Kd.R_below zb8 hb);replace HB:=Aside0.mk (below_step zb0 hb);(try clear hb))|((with_reducible refine gate_dst (N:=22) rfl ?_);refine box_event rfl (N:=22) rfl (cs:=#[.string (⟨#[]⟩:ByteArray),.string (⟨#[]⟩:ByteArray)]) (t:=36) zS ?_;intro gb55 hg w35 hbox hb;replace HO_7:=Aside0.mk (Kd.R_below zb8 hb);have BK55:=Aside0.mk (hbox);have GW55:=zG hg zb0;have GE55:=GW55;replace HB:=Aside0.mk (below_step zb0 hb);clear hb hbox hg;obtain ⟨hcz36_0,hcz36_1,hfz36_0,hfz36_1⟩:=zq2 BK55.out)))
               go_ret3
               exact ⟨_,zb3,zb6,zb100⟩
              subst c26
              rw [if_pos rfl] at H
              by_cases c27:(wrap64 (x18_4 + 1)) > 40
              ·rw [if_pos c27] at H
               have c27b0:decide (40 < (wrap64 (x18_4 + 1)))=true:=decide_eq_true c27
               clear c27
               simp only [zi,zj] at H
               obtain ⟨rfl,rfl,rfl⟩:=H
               go_wp2_with (first|(go_at_call 130;(with_reducible refine (tollbarref04_Parse.calls kj19 t60 t70 t71 true _ A25.out).mono ?_);rintro e w28 ⟨rfl,hb⟩;(try clear A25);replace HO_7:=Aside0.mk (Kd.R_below zb8 hb);replace HB:=Aside0.mk (below_step zb0 hb);(try clear hb))|((with_reducible refine gate_dst (N:=22) rfl ?_);refine box_event rfl (N:=22) rfl (cs:=#[.string (⟨#[]⟩:ByteArray),.string (⟨#[]⟩:ByteArray)]) (t:=36) zS ?_;intro gb55 hg w29 hbox hb;replace HO_7:=Aside0.mk (Kd.R_below zb8 hb);have BK55:=Aside0.mk (hbox);have GW55:=zG hg zb0;have GE55:=GW55;replace HB:=Aside0.mk (below_step zb0 hb);clear hb hbox hg;obtain ⟨hcz30_0,hcz30_1,hfz30_0,hfz30_1⟩:=zq2 BK55.out))
               repeat (go_quiet (first|(go_at_call 130;(with_reducible refine (tollbarref04_Parse.calls kj19 t60 t70 t71 true _ A25.out).mono ?_);rintro e w28 ⟨rfl,hb⟩;(try clear A25);replace HO_7:=Aside0.mk (Kd.R_below zb8 hb);replace HB:=Aside0.mk (below_step zb0 hb);(try clear hb))|((with_reducible refine gate_dst (N:=22) rfl ?_);refine box_event rfl (N:=22) rfl (cs:=#[.string (⟨#[]⟩:ByteArray),.string (⟨#[]⟩:ByteArray)]) (t:=36) zS ?_;intro gb55 hg w29 hbox hb;replace HO_7:=Aside0.mk (Kd.R_below zb8 hb);have BK55:=Aside0.mk (hbox);have GW55:=zG hg zb0;have GE55:=GW55;replace HB:=Aside0.mk (below_step zb0 hb);clear hb hbox hg;obtain ⟨hcz30_0,hcz30_1,hfz30_0,hfz30_1⟩:=zq2 BK55.out));try go_wp2_with (first|(go_at_call 130;(with_reducible refine (tollbarref04_Parse.calls kj19 t60 t70 t71 true _ A25.out).mono ?_);rintro e w28 ⟨rfl,hb⟩;(try clear A25);replace HO_7:=Aside0.mk (Kd.R_below zb8 hb);replace HB:=Aside0.mk (below_step zb0 hb);(try clear hb))|((with_reducible refine gate_dst (N:=22) rfl ?_);refine box_event rfl (N:=22) rfl (cs:=#[.string (⟨#[]⟩:ByteArray),.string (⟨#[]⟩:ByteArray)]) (t:=36) zS ?_;intro gb55 hg w29 hbox hb;replace HO_7:=Aside0.mk (Kd.R_below zb8 hb);have BK55:=Aside0.mk (hbox);have GW55:=zG hg zb0;have GE55:=GW55;replace HB:=Aside0.mk (below_step zb0 hb);clear hb hbox hg;obtain ⟨hcz30_0,hcz30_1,hfz30_0,hfz30_1⟩:=zq2 BK55.out)))
               go_ret3
               exact ⟨_,zb3,zb6,zb100⟩
              rw [if_neg c27] at H
              have c27b0:decide (40 < (wrap64 (x18_4 + 1)))=false:=decide_eq_false c27
              clear c27
              have H' := Aside0.mk H
              clear H
              go_wp2_with (first|(go_at_call 130;(with_reducible refine (tollbarref04_Parse.calls kj19 t60 t70 t71 true _ A25.out).mono ?_);rintro e w31 ⟨rfl,hb⟩;(try clear A25);replace HO_7:=Aside0.mk (Kd.R_below zb8 hb);replace HB:=Aside0.mk (below_step zb0 hb);(try clear hb))|((with_reducible refine gate_dst (N:=22) rfl ?_);refine box_event rfl (N:=22) rfl (cs:=#[.string (⟨#[]⟩:ByteArray),.string (⟨#[]⟩:ByteArray)]) (t:=36) zS ?_;intro gb55 hg w32 hbox hb;replace HO_7:=Aside0.mk (Kd.R_below zb8 hb);have BK55:=Aside0.mk (hbox);have GW55:=zG hg zb0;have GE55:=GW55;replace HB:=Aside0.mk (below_step zb0 hb);clear hb hbox hg;obtain ⟨hcz33_0,hcz33_1,hfz33_0,hfz33_1⟩:=zq2 BK55.out))
              repeat (go_quiet (first|(go_at_call 130;(with_reducible refine (tollbarref04_Parse.calls kj19 t60 t70 t71 true _ A25.out).mono ?_);rintro e w31 ⟨rfl,hb⟩;(try clear A25);replace HO_7:=Aside0.mk (Kd.R_below zb8 hb);replace HB:=Aside0.mk (below_step zb0 hb);(try clear hb))|((with_reducible refine gate_dst (N:=22) rfl ?_);refine box_event rfl (N:=22) rfl (cs:=#[.string (⟨#[]⟩:ByteArray),.string (⟨#[]⟩:ByteArray)]) (t:=36) zS ?_;intro gb55 hg w32 hbox hb;replace HO_7:=Aside0.mk (Kd.R_below zb8 hb);have BK55:=Aside0.mk (hbox);have GW55:=zG hg zb0;have GE55:=GW55;replace HB:=Aside0.mk (below_step zb0 hb);clear hb hbox hg;obtain ⟨hcz33_0,hcz33_1,hfz33_0,hfz33_1⟩:=zq2 BK55.out));try go_wp2_with (first|(go_at_call 130;(with_reducible refine (tollbarref04_Parse.calls kj19 t60 t70 t71 true _ A25.out).mono ?_);rintro e w31 ⟨rfl,hb⟩;(try clear A25);replace HO_7:=Aside0.mk (Kd.R_below zb8 hb);replace HB:=Aside0.mk (below_step zb0 hb);(try clear hb))|((with_reducible refine gate_dst (N:=22) rfl ?_);refine box_event rfl (N:=22) rfl (cs:=#[.string (⟨#[]⟩:ByteArray),.string (⟨#[]⟩:ByteArray)]) (t:=36) zS ?_;intro gb55 hg w32 hbox hb;replace HO_7:=Aside0.mk (Kd.R_below zb8 hb);have BK55:=Aside0.mk (hbox);have GW55:=zG hg zb0;have GE55:=GW55;replace HB:=Aside0.mk (below_step zb0 hb);clear hb hbox hg;obtain ⟨hcz33_0,hcz33_1,hfz33_0,hfz33_1⟩:=zq2 BK55.out)))
              go_roundg kj19
              case measure=>have:=HJ2.out;have:=HK2.out;have:=HJ9.out;have:=HK4.out;have:=HJ19.out;omega
              case rel=>exact ⟨(wrap64 (x9_4 + t67)),(wrap64 (x18_4 + 1)),zb4,zb4,H',⟨by have:=HJ2.out;have:=HK2.out;have:=HJ9.out;have:=HK4.out;have:=HJ19.out;omega⟩,⟨by (with_reducible repeat (first|apply Kd.R_alloc|apply Kd.R_drewN|apply Kd.R_drew));exact Kd.R_mono (Kd.R_far (p:=⟨gb55,1,none⟩) (Kd.R_far (p:=⟨gb55,0,none⟩) (Kd.R_types HO_7.out BK55.out (by decide)) (fun _ hk=>hk.2) (.string t70)) (fun _ hk=>hk.2) (.string t71)) (fun _ hk=>trivial)⟩,⟨zb100⟩⟩
           ·rw [if_neg c18] at H
            exact absurd H zb24
        rw [if_neg c16] at H
        have c16b0:=beq_eq_false_iff_ne.mpr c16
        have c16b1:=bne_iff_ne.mpr c16
        by_cases c37:t56 > (wrap64 (x1_2 - x8_2))
        ·rw [if_pos c37] at H
         have c37b0:decide ((wrap64 (x1_2 - x8_2)) < t56)=true:=decide_eq_true c37
         clear c37
         simp only [zi,zj] at H
         obtain ⟨rfl,rfl,rfl⟩:=H
         go_wp2_with (first|(go_at_call 134;(with_reducible refine (tollbarref06_size.calls kj9 t61 t56 true _ A14.out).mono ?_);rintro e w' ⟨rfl,⟨nd,rfl⟩⟩;(try clear A14);(try first|exact ⟨rfl,_,World.drewN_drewN _ _ _⟩|exact ⟨rfl,_,Eq.trans (World.drewN_drewN _ _ _) (congrArg (World.drewN _) (Nat.add_assoc _ _ _))⟩)))
         repeat (go_quiet (first|(go_at_call 134;(with_reducible refine (tollbarref06_size.calls kj9 t61 t56 true _ A14.out).mono ?_);rintro e w' ⟨rfl,⟨nd,rfl⟩⟩;(try clear A14);(try first|exact ⟨rfl,_,World.drewN_drewN _ _ _⟩|exact ⟨rfl,_,Eq.trans (World.drewN_drewN _ _ _) (congrArg (World.drewN _) (Nat.add_assoc _ _ _))⟩)));try go_wp2_with (first|(go_at_call 134;(with_reducible refine (tollbarref06_size.calls kj9 t61 t56 true _ A14.out).mono ?_);rintro e w' ⟨rfl,⟨nd,rfl⟩⟩;(try clear A14);(try first|exact ⟨rfl,_,World.drewN_drewN _ _ _⟩|exact ⟨rfl,_,Eq.trans (World.drewN_drewN _ _ _) (congrArg (World.drewN _) (Nat.add_assoc _ _ _))⟩))))
         go_ret3
         exact ⟨_,zb3,zb6,zb0⟩
        rw [if_neg c37] at H
        have c37b0:decide ((wrap64 (x1_2 - x8_2)) < t56)=false:=decide_eq_false c37
        clear c37
        have H' := Aside0.mk H
        clear H
        go_wp2_with (first|(go_at_call 134;(with_reducible refine (tollbarref06_size.calls kj9 t61 t56 true _ A14.out).mono ?_);rintro e w' ⟨rfl,⟨nd,rfl⟩⟩;(try clear A14);(try first|exact ⟨rfl,_,World.drewN_drewN _ _ _⟩|exact ⟨rfl,_,Eq.trans (World.drewN_drewN _ _ _) (congrArg (World.drewN _) (Nat.add_assoc _ _ _))⟩)))
        repeat (go_quiet (first|(go_at_call 134;(with_reducible refine (tollbarref06_size.calls kj9 t61 t56 true _ A14.out).mono ?_);rintro e w' ⟨rfl,⟨nd,rfl⟩⟩;(try clear A14);(try first|exact ⟨rfl,_,World.drewN_drewN _ _ _⟩|exact ⟨rfl,_,Eq.trans (World.drewN_drewN _ _ _) (congrArg (World.drewN _) (Nat.add_assoc _ _ _))⟩)));try go_wp2_with (first|(go_at_call 134;(with_reducible refine (tollbarref06_size.calls kj9 t61 t56 true _ A14.out).mono ?_);rintro e w' ⟨rfl,⟨nd,rfl⟩⟩;(try clear A14);(try first|exact ⟨rfl,_,World.drewN_drewN _ _ _⟩|exact ⟨rfl,_,Eq.trans (World.drewN_drewN _ _ _) (congrArg (World.drewN _) (Nat.add_assoc _ _ _))⟩))))
        go_loopg [7,9,15] kj9 (fun kq v7 v9 v15 w' => ∃ (x7_4:List Int) (x9_4:Int) (x15_4:Int),v9 = .int .i64 x9_4∧v15 = .int .i64 x15_4∧Aside0 (tollbarref06_Decode.l1 kq l0 x1_2 x7_4 (wrap64 (x8_2 + t56)) x9_4 t56 x15_4=some (r1,r2,r3))∧Aside0 (kq ≤ kj9)∧Aside0 (Kd.R (Kd.int .u8) 5 w' w.heap.size (fun _=>True) v7 x7_4)∧Aside0 (Below w.heap.size w w'))
        case atStart=>exact ⟨(x7_2),(wrap64 (x9_2 + t63)),(0),zb4,zb4,H',⟨Nat.le_refl _⟩,⟨zb8⟩,⟨zb0⟩⟩
        case round =>
         clear H'
         try clear c1
         try clear c2
         try clear p2
         try clear c3
         try clear c4
         try clear c4b0
         try clear p6
         try clear c7
         try clear c7b0
         try clear c7b1
         try clear c8
         try clear c8b0
         try clear c8b1
         try clear c12
         try clear c12b0
         try clear c12b1
         try clear c13
         try clear c15
         try clear c16
         try clear c16b0
         try clear c16b1
         try clear c17
         try clear c17b0
         try clear c17b1
         try clear c18
         try clear c18b0
         try clear c18b1
         try clear c22
         try clear c22b0
         try clear c22b1
         try clear c23
         try clear c24
         try clear c24b0
         try clear c24b1
         try clear c26
         try clear c27
         try clear c27b0
         try clear c37
         try clear c37b0
         try clear hcz30_0
         try clear hcz30_1
         try clear hcz33_0
         try clear hcz33_1
         try clear hcz36_0
         try clear hcz36_1
         try clear hfz30_0
         try clear hfz30_1
         try clear hfz33_0
         try clear hfz33_1
         try clear hfz36_0
         try clear hfz36_1
         try clear p2
         try clear p6
         obtain ⟨x7_4,x9_4,x15_4,rfl,rfl,HA,HK4,HO_7,HB⟩:=hrel
         cases gk with
         | zero=>exact absurd HA.out (by simp [tollbarref06_Decode.l1])
         | succ k4 =>
          have H:=HA.out
          clear HA
          simp only [tollbarref06_Decode.l1] at H
          by_cases c38:x15_4 < t56
          ·rw [if_pos c38] at H
           have c38b0:=decide_eq_true c38
           clear c38
           by_cases c39:x9_4=(l0.length:Int)
           ·rw [if_pos c39] at H
            have c39b0:=beq_iff_eq.mpr c39
            have c39b1:=bne_eq_false_iff_eq.mpr c39
            clear c39
            simp only [zi,zj] at H
            obtain ⟨rfl,rfl,rfl⟩:=H
            go_wp2
            repeat (go_quiet (fail);try go_wp2)
            go_ret3
            exact ⟨_,zb3,zb6,zb0⟩
           rw [if_neg c39] at H
           have c39b0:=beq_eq_false_iff_ne.mpr c39
           have c39b1:=bne_iff_ne.mpr c39
           by_cases c40:0 ≤ x9_4;rotate_left
           ·rw [if_neg c40] at H
            exact absurd H zb24
           rw [if_pos c40] at H
           have c40b0:=decide_eq_true c40
           clear c40
           by_cases c41:x9_4 < (l0.length:Int)
           ·rw [if_pos c41] at H
            have c41b0:=decide_eq_true c41
            clear c41
            by_cases c42:x7_4.length < 140737488355328;rotate_left
            ·rw [if_neg c42] at H
             exact absurd H zb24
            rw [if_pos c42] at H
            have LMc42:=Aside0.mk c42
            clear c42
            obtain ⟨y69,hy69⟩ : ∃ y_:List Int,y_=(x7_4 ++ [rd l0 x9_4]):=⟨_,rfl⟩
            replace H:(tollbarref06_Decode.l1 k4 l0 x1_2 y69 (wrap64 (x8_2 + t56)) (wrap64 (x9_4 + 1)) t56 (wrap64 (x15_4 + 1)))=some (r1,r2,r3):=by first|(rw [hy69];with_reducible exact H)|(have H2_:=(Option.bind_some _ _).symm.trans H;rw [hy69];with_reducible exact H2_)|(have H2_:=(Option.bind_some _ _).symm.trans H;with_reducible exact H2_)|with_reducible exact H|(rw [hy69];exact H)|exact H
            have Ny69:=Aside0.mk hy69
            clear hy69
            have H' := Aside0.mk H
            clear H
            have p62:0 ≤ (x9_4:Int):=of_decide_eq_true zb1
            have q62:x9_4 < (l0.length:Int):=of_decide_eq_true zb1
            obtain ⟨ad62,e62,hx62_0⟩:=Kd.at_int HR0.out x9_4 p62 q62
            cases e62
            replace hx62_0:=(HB.out.cell (World.block_lt_of_cell? w _ hx62_0)).trans hx62_0
            replace p62:=eq_true p62
            replace q62:=eq_true q62
            go_wp2_with (first|((with_reducible refine gate_builtin (b:=.append) (xs:=#[.tmp 71,.tmp 76]) rfl ?_);at_builtin;refine Kd.R_append (Kd.int .u8) (w0:=w) w.heap.size rfl (.tmp 71) (.tmp 76) 22 5 (.int .u8 0) 1 rfl Tryz.underlying22 info5 rfl zb78 zb10 u7 x7_4 (rd l0 x9_4) [.int .u8 (rd l0 x9_4)] (fun _=>True) (fun _=>False) rfl rfl ?aP (fun _ hk=>hk.elim) ?aF ?aO ?aB ?aS ?aL ?_;(case aP=>exact rfl);(case aB=>exact zb23);(case aF=>exact (fun _ _=>trivial));(case aO=>exact zb121);(case aS=>exact zb20);(case aL=>have:=LMc42.out;omega);intro v87 w43 ho hb hg hat;rw [← Ny69.out] at ho;replace HB:=Aside0.mk (hb);have HO79:=Aside0.mk (ho);clear ho hb hg hat))
            repeat (go_quiet (first|((with_reducible refine gate_builtin (b:=.append) (xs:=#[.tmp 71,.tmp 76]) rfl ?_);at_builtin;refine Kd.R_append (Kd.int .u8) (w0:=w) w.heap.size rfl (.tmp 71) (.tmp 76) 22 5 (.int .u8 0) 1 rfl Tryz.underlying22 info5 rfl zb78 zb10 u7 x7_4 (rd l0 x9_4) [.int .u8 (rd l0 x9_4)] (fun _=>True) (fun _=>False) rfl rfl ?aP (fun _ hk=>hk.elim) ?aF ?aO ?aB ?aS ?aL ?_;(case aP=>exact rfl);(case aB=>exact zb23);(case aF=>exact (fun _ _=>trivial));(case aO=>exact zb121);(case aS=>exact zb20);(case aL=>have:=LMc42.out;omega);intro v87 w43 ho hb hg hat;rw [← Ny69.out] at ho;replace HB:=Aside0.mk (hb);have HO79:=Aside0.mk (ho);clear ho hb hg hat));try go_wp2_with (first|((with_reducible refine gate_builtin (b:=.append) (xs:=#[.tmp 71,.tmp 76]) rfl ?_);at_builtin;refine Kd.R_append (Kd.int .u8) (w0:=w) w.heap.size rfl (.tmp 71) (.tmp 76) 22 5 (.int .u8 0) 1 rfl Tryz.underlying22 info5 rfl zb78 zb10 u7 x7_4 (rd l0 x9_4) [.int .u8 (rd l0 x9_4)] (fun _=>True) (fun _=>False) rfl rfl ?aP (fun _ hk=>hk.elim) ?aF ?aO ?aB ?aS ?aL ?_;(case aP=>exact rfl);(case aB=>exact zb23);(case aF=>exact (fun _ _=>trivial));(case aO=>exact zb121);(case aS=>exact zb20);(case aL=>have:=LMc42.out;omega);intro v87 w43 ho hb hg hat;rw [← Ny69.out] at ho;replace HB:=Aside0.mk (hb);have HO79:=Aside0.mk (ho);clear ho hb hg hat)))
            go_roundg k4
            case measure=>have:=HJ2.out;have:=HK2.out;have:=HJ9.out;have:=HK4.out;omega
            case rel=>exact ⟨(y69),(wrap64 (x9_4 + 1)),(wrap64 (x15_4 + 1)),zb4,zb4,H',⟨by have:=HJ2.out;have:=HK2.out;have:=HJ9.out;have:=HK4.out;omega⟩,⟨by (with_reducible repeat (first|apply Kd.R_alloc|apply Kd.R_drewN|apply Kd.R_drew));exact HO79.out⟩,⟨zb0⟩⟩
           ·rw [if_neg c41] at H
            exact absurd H zb24
          rw [if_neg c38] at H
          have c38b0:=decide_eq_false c38
          clear c38
          obtain ⟨y58,hy58⟩ : ∃ y_:List Int,y_=(([13,10]:List Int)):=⟨_,rfl⟩
          replace H:(tollbarref06_Decode.l2 k4 l0 x1_2 x7_4 (wrap64 (x8_2 + t56)) x9_4 y58 0)=some (r1,r2,r3):=by first|(rw [hy58];with_reducible exact H)|(have H2_:=(Option.bind_some _ _).symm.trans H;rw [hy58];with_reducible exact H2_)|(have H2_:=(Option.bind_some _ _).symm.trans H;with_reducible exact H2_)|with_reducible exact H|(rw [hy58];exact H)|exact H
          have Ny58:=Aside0.mk hy58
          clear hy58
          have H' := Aside0.mk H
          clear H
          go_wp2_with (first|((with_reducible refine gate_dst (N:=80) rfl ?_);refine Kd.R_lit (Kd.int .u8) _ 5 ?hg (N:=80) ?hd (xs:=([13,10]:List Int)) (inner:=[.int .u8 13,.int .u8 10]) (ok:=fun _=>True) (okp:=fun _=>True) ?hr ?hp (fun _ hk=>hk) trivial (Below.refl _ _) (Nat.le_refl _) zb24 ?_;(case hd=>rfl);(case hg=>rfl);(case hr=>first|(go_simp;done)|(go_simp;rfl));(case hp=>exact (Reps.one (show Kd.M (Kd.int .u8) _ _ _ 13 [.int .u8 13] from rfl) (Reps.one (show Kd.M (Kd.int .u8) _ _ _ 10 [.int .u8 10] from rfl) (Reps.none _ _))));intro v75 w44 ho45 hb hg_ hnew_;clear hg_ hnew_;(first|rw [← Ny58.out] at ho45|(simp only [Int.reduceToNat] at ho45;rw [← Ny58.out] at ho45));have HO80:=Aside0.mk (Kd.R_lower (Kd.R_new' ho45 (Kd.R_lt zb8)) (below_size zb0));replace HO_7:=Aside0.mk (Kd.R_elder' zb8 (Kd.R_base ho45) hb);replace HB:=Aside0.mk (below_step zb0 hb);clear hb ho45))
          repeat (go_quiet (first|((with_reducible refine gate_dst (N:=80) rfl ?_);refine Kd.R_lit (Kd.int .u8) _ 5 ?hg (N:=80) ?hd (xs:=([13,10]:List Int)) (inner:=[.int .u8 13,.int .u8 10]) (ok:=fun _=>True) (okp:=fun _=>True) ?hr ?hp (fun _ hk=>hk) trivial (Below.refl _ _) (Nat.le_refl _) zb24 ?_;(case hd=>rfl);(case hg=>rfl);(case hr=>first|(go_simp;done)|(go_simp;rfl));(case hp=>exact (Reps.one (show Kd.M (Kd.int .u8) _ _ _ 13 [.int .u8 13] from rfl) (Reps.one (show Kd.M (Kd.int .u8) _ _ _ 10 [.int .u8 10] from rfl) (Reps.none _ _))));intro v75 w44 ho45 hb hg_ hnew_;clear hg_ hnew_;(first|rw [← Ny58.out] at ho45|(simp only [Int.reduceToNat] at ho45;rw [← Ny58.out] at ho45));have HO80:=Aside0.mk (Kd.R_lower (Kd.R_new' ho45 (Kd.R_lt zb8)) (below_size zb0));replace HO_7:=Aside0.mk (Kd.R_elder' zb8 (Kd.R_base ho45) hb);replace HB:=Aside0.mk (below_step zb0 hb);clear hb ho45));try go_wp2_with (first|((with_reducible refine gate_dst (N:=80) rfl ?_);refine Kd.R_lit (Kd.int .u8) _ 5 ?hg (N:=80) ?hd (xs:=([13,10]:List Int)) (inner:=[.int .u8 13,.int .u8 10]) (ok:=fun _=>True) (okp:=fun _=>True) ?hr ?hp (fun _ hk=>hk) trivial (Below.refl _ _) (Nat.le_refl _) zb24 ?_;(case hd=>rfl);(case hg=>rfl);(case hr=>first|(go_simp;done)|(go_simp;rfl));(case hp=>exact (Reps.one (show Kd.M (Kd.int .u8) _ _ _ 13 [.int .u8 13] from rfl) (Reps.one (show Kd.M (Kd.int .u8) _ _ _ 10 [.int .u8 10] from rfl) (Reps.none _ _))));intro v75 w44 ho45 hb hg_ hnew_;clear hg_ hnew_;(first|rw [← Ny58.out] at ho45|(simp only [Int.reduceToNat] at ho45;rw [← Ny58.out] at ho45));have HO80:=Aside0.mk (Kd.R_lower (Kd.R_new' ho45 (Kd.R_lt zb8)) (below_size zb0));replace HO_7:=Aside0.mk (Kd.R_elder' zb8 (Kd.R_base ho45) hb);replace HB:=Aside0.mk (below_step zb0 hb);clear hb ho45)))
          go_loopg [9,17] k4 (fun kq v9 v17 w' => ∃ (x9_5:Int) (x17_5:Int),v9 = .int .i64 x9_5∧v17 = .int .i64 x17_5∧Aside0 (tollbarref06_Decode.l2 kq l0 x1_2 x7_4 (wrap64 (x8_2 + t56)) x9_5 y58 x17_5=some (r1,r2,r3))∧Aside0 (kq ≤ k4)∧Aside0 (Kd.R (Kd.int .u8) 5 w' w.heap.size (fun k_=>some k_ ≠ (v75:Value).ownBlock) u7 x7_4)∧Aside0 (Kd.R (Kd.int .u8) 5 w' w.heap.size (fun k_=>some k_ ≠ (u7:Value).ownBlock) v75 y58)∧Aside0 (Below w.heap.size w w'))
          case atStart=>exact ⟨(x9_4),(0),zb4,zb4,H',⟨Nat.le_refl _⟩,⟨zb128⟩,⟨by (with_reducible repeat (first|apply Kd.R_alloc|apply Kd.R_drewN|apply Kd.R_drew));exact Kd.R_mono HO80.out (fun _ hk=>hk.2)⟩,⟨zb0⟩⟩
          case round =>
           clear H'
           try clear c1
           try clear c2
           try clear p2
           try clear c3
           try clear c4
           try clear c4b0
           try clear p4
           try clear q4
           try clear hx4
           try clear p6
           try clear c7
           try clear c7b0
           try clear c7b1
           try clear c8
           try clear c8b0
           try clear c8b1
           try clear c12
           try clear c12b0
           try clear c12b1
           try clear c13
           try clear c15
           try clear c16
           try clear c16b0
           try clear c16b1
           try clear c17
           try clear c17b0
           try clear c17b1
           try clear c18
           try clear c18b0
           try clear c18b1
           try clear c22
           try clear c22b0
           try clear c22b1
           try clear c23
           try clear c24
           try clear c24b0
           try clear c24b1
           try clear c26
           try clear c27
           try clear c27b0
           try clear c37
           try clear c37b0
           try clear c38
           try clear c38b0
           try clear c39
           try clear c39b0
           try clear c39b1
           try clear c40
           try clear c40b0
           try clear c41
           try clear c41b0
           try clear c42
           try clear hcz30_0
           try clear hcz30_1
           try clear hcz33_0
           try clear hcz33_1
           try clear hcz36_0
           try clear hcz36_1
           try clear hfz30_0
           try clear hfz30_1
           try clear hfz33_0
           try clear hfz33_1
           try clear hfz36_0
           try clear hfz36_1
           try clear hx62_0
           try clear p2
           try clear p62
           try clear p6
           try clear q62
           obtain ⟨x9_5,x17_5,rfl,rfl,HA,HK5,HO_7,HO_16,HB⟩:=hrel
           cases gk with
           | zero=>exact absurd HA.out (by simp [tollbarref06_Decode.l2])
           | succ k5 =>
            have H:=HA.out
            clear HA
            simp only [tollbarref06_Decode.l2] at H
            by_cases c46:x17_5 < 2;rotate_left
            ·rw [if_neg c46] at H
             have c46b0:=decide_eq_false c46
             clear c46
             have H' := Aside0.mk H
             clear H
             go_wp2
             repeat (go_quiet (fail);try go_wp2)
             go_roundg k5
             case measure=>have:=HJ2.out;have:=HK2.out;have:=HJ9.out;have:=HK4.out;have:=HK5.out;omega
             case rel=>exact ⟨(x7_4),((wrap64 (x8_2 + t56))),(x9_5),zb4,zb4,H',⟨by have:=HJ2.out;have:=HK2.out;have:=HJ9.out;have:=HK4.out;have:=HK5.out;omega⟩,⟨by (with_reducible repeat (first|apply Kd.R_alloc|apply Kd.R_drewN|apply Kd.R_drew));exact Kd.R_mono HO_7.out (fun _ hk=>trivial)⟩,⟨zb0⟩⟩
            rw [if_pos c46] at H
            have c46b0:=decide_eq_true c46
            clear c46
            by_cases c47:x9_5=(l0.length:Int)
            ·rw [if_pos c47] at H
             have c47b0:=beq_iff_eq.mpr c47
             have c47b1:=bne_eq_false_iff_eq.mpr c47
             clear c47
             simp only [zi,zj] at H
             obtain ⟨rfl,rfl,rfl⟩:=H
             go_wp2
             repeat (go_quiet (fail);try go_wp2)
             go_ret3
             exact ⟨_,zb3,zb6,zb0⟩
            rw [if_neg c47] at H
            have c47b0:=beq_eq_false_iff_ne.mpr c47
            have c47b1:=bne_iff_ne.mpr c47
            by_cases c48:0 ≤ x9_5
            ·rw [if_pos c48] at H
             have c48b0:=decide_eq_true c48
             clear c48
             by_cases c49:x9_5 < (l0.length:Int)
             ·rw [if_pos c49] at H
              have c49b0:=decide_eq_true c49
              clear c49
              by_cases c50:0 ≤ x17_5
              ·rw [if_pos c50] at H
               have c50b0:=decide_eq_true c50
               clear c50
               by_cases c51:x17_5 < (y58.length:Int)
               ·rw [if_pos c51] at H
                have c51b0:=decide_eq_true c51
                clear c51
                by_cases c52:(rd l0 x9_5)=(rd y58 x17_5);rotate_left
                ·rw [if_neg c52] at H
                 have c52b0:=beq_eq_false_iff_ne.mpr c52
                 have c52b1:=bne_iff_ne.mpr c52
                 simp only [zi,zj] at H
                 obtain ⟨rfl,rfl,rfl⟩:=H
                 have p57:0 ≤ (x9_5:Int):=of_decide_eq_true zb1
                 have q57:x9_5 < (l0.length:Int):=of_decide_eq_true zb1
                 obtain ⟨ad57,e57,hx57_0⟩:=Kd.at_int HR0.out x9_5 p57 q57
                 cases e57
                 replace hx57_0:=(HB.out.cell (World.block_lt_of_cell? w _ hx57_0)).trans hx57_0
                 replace p57:=eq_true p57
                 replace q57:=eq_true q57
                 obtain ⟨Ao54,co54,eo54⟩:=Kd.R_slice HO_16.out
                 subst eo54
                 have p59:0 ≤ (x17_5:Int):=of_decide_eq_true zb1
                 have q59:x17_5 < (y58.length:Int):=of_decide_eq_true zb1
                 obtain ⟨ad59,e59,hx59_0⟩:=Kd.at_int (Kd.R_reads' HO_16.out).2.2 x17_5 p59 q59
                 cases e59
                 replace p59:=eq_true p59
                 replace q59:=eq_true q59
                 go_wp2
                 repeat (go_quiet (fail);try go_wp2)
                 go_ret3
                 exact ⟨_,zb3,zb6,zb0⟩
                rw [if_pos c52] at H
                have c52b0:=beq_iff_eq.mpr c52
                have c52b1:=bne_eq_false_iff_eq.mpr c52
                clear c52
                have H' := Aside0.mk H
                clear H
                have p57:0 ≤ (x9_5:Int):=of_decide_eq_true zb1
                have q57:x9_5 < (l0.length:Int):=of_decide_eq_true zb1
                obtain ⟨ad57,e57,hx57_0⟩:=Kd.at_int HR0.out x9_5 p57 q57
                cases e57
                replace hx57_0:=(HB.out.cell (World.block_lt_of_cell? w _ hx57_0)).trans hx57_0
                replace p57:=eq_true p57
                replace q57:=eq_true q57
                obtain ⟨Ao53,co53,eo53⟩:=Kd.R_slice HO_16.out
                subst eo53
                have p59:0 ≤ (x17_5:Int):=of_decide_eq_true zb1
                have q59:x17_5 < (y58.length:Int):=of_decide_eq_true zb1
                obtain ⟨ad59,e59,hx59_0⟩:=Kd.at_int (Kd.R_reads' HO_16.out).2.2 x17_5 p59 q59
                cases e59
                replace p59:=eq_true p59
                replace q59:=eq_true q59
                go_wp2
                repeat (go_quiet (fail);try go_wp2)
                go_roundg k5
                case measure=>have:=HJ2.out;have:=HK2.out;have:=HJ9.out;have:=HK4.out;have:=HK5.out;omega
                case rel=>exact ⟨(wrap64 (x9_5 + 1)),(wrap64 (x17_5 + 1)),zb4,zb4,H',⟨by have:=HJ2.out;have:=HK2.out;have:=HJ9.out;have:=HK4.out;have:=HK5.out;omega⟩,⟨zb8⟩,⟨by (with_reducible repeat (first|apply Kd.R_alloc|apply Kd.R_drewN|apply Kd.R_drew));exact HO_16.out⟩,⟨zb0⟩⟩
               ·rw [if_neg c51] at H
                exact absurd H zb24
              ·rw [if_neg c50] at H
               exact absurd H zb24
             ·rw [if_neg c49] at H
              exact absurd H zb24
            ·rw [if_neg c48] at H
             exact absurd H zb24
     ·rw [if_neg c8] at H
      exact absurd H zb24
def tollbarref08_Body.f (k:Nat) (l0:List Int) (a1:Int) (a2:Bool):Option (List Int × Int × Bool × Int):=if a2=true then ((tollbarref06_Decode.f k l0 4096).bind fun bt522=>(some (bt522.1,bt522.2.1,decide (bt522.2.1 > 0),bt522.2.2))) else (if (l0.length:Int) < a1 then (some (([]:List Int),0,false,0)) else (if 0 ≤ a1 then (if a1 ≤ (l0.length:Int) then ((tollbarref01_Join.f k (l0.take (a1:Int).toNat) (([]:List Int))).bind fun t531=>(some (t531,a1,true,0))) else (none)) else (none)))
theorem tollbarref08_Body.calls (k:Nat) (A0:Option Addr) (c0:Nat) (l0:List Int) (a1:Int) (a2:Bool) (r1:List Int) (r2:Int) (r3:Bool) (r4:Int) (w:World) (hr0:Kd.C (Kd.int .u8) w A0 l0.length l0) (hc0:l0.length ≤ c0) (h:tollbarref08_Body.f k l0 a1 a2=some (r1,r2,r3,r4)) :
 Calls Tryz.prog 47 #[.slice A0 l0.length c0,.int .i64 a1,.bool a2] w fun e w' => ∃ v0_:Value,e = .returned (.tuple #[v0_,.int .i64 r2,.bool r3,.int .i64 r4])∧Kd.R (Kd.int .u8) 5 w' w.heap.size (fun _=>True) v0_ r1∧Below w.heap.size w w' := by
 have HR0:=Aside0.mk hr0
 have HC0:=Aside0.mk hc0
 clear hr0 hc0
 have HB:=zB w
 unfold tollbarref08_Body.f at h
 have H:=h
 clear h
 by_cases c4:a2=true
 ·subst c4
  rw [if_pos rfl] at H
  replace H:=Option.bind_eq_some_iff.mp H
  obtain ⟨⟨t522,t523,t524⟩,A50,H⟩:=H
  try dsimp only at H
  have A5:=Aside0.mk A50
  clear A50
  simp only [zi,zj] at H
  obtain ⟨rfl,rfl,rfl,rfl⟩:=H
  go_enter Tryz.func47,Tryz.ntmps47
  go_wp2_with (first|((with_reducible refine gate_callee (f:=84) rfl ?_);refine goesL_ (some 16) rfl rfl Tryz.func84 zb7 rfl #[.slice A0 l0.length c0,.int .i64 4096] rfl zb2 ?_;(with_reducible refine (tollbarref06_Decode.calls k _ _ l0 4096 t522 t523 t524 _ ?side1 ?side2 A5.out).mono ?_);(case side1=>exact zb9);(case side2=>exact HC0.out);rintro e w6 ⟨v525,rfl,ho0,hb⟩;(try clear A5);refine ⟨_,rfl,?_⟩;have HO526:=Aside0.mk (Kd.R_lower ho0 (below_size zb0));replace HB:=Aside0.mk (below_step zb0 hb);try clear hb ho0))
  refine bodyPost_ret (results_list (rs:=[.tmp 6,.tmp 7,.tmp 8,.tmp 9]) rfl zb24 (.tmp (.tmp (.tmp (.tmp .nil))))) rfl ?_
  exact ⟨_,zb3,by (with_reducible repeat (first|apply Kd.R_alloc|apply Kd.R_drewN|apply Kd.R_drew));exact HO526.out,zb0⟩
 replace c4:=Bool.eq_false_iff.mpr c4
 subst c4
 rw [if_neg zf] at H
 by_cases c7:(l0.length:Int) < a1
 ·rw [if_pos c7] at H
  have c7b0:=decide_eq_true c7
  clear c7
  simp only [zi,zj] at H
  obtain ⟨rfl,rfl,rfl,rfl⟩:=H
  go_enter Tryz.func47,Tryz.ntmps47
  go_wp2
  refine bodyPost_ret (results_list (rs:=[.tmp 6,.tmp 7,.tmp 8,.tmp 9]) rfl zb24 (.tmp (.tmp (.tmp (.tmp .nil))))) rfl ?_
  exact ⟨_,zb3,zb6,zb0⟩
 rw [if_neg c7] at H
 have c7b0:=decide_eq_false c7
 clear c7
 by_cases c8:0 ≤ a1;rotate_left
 ·rw [if_neg c8] at H
  exact absurd H zb24
 rw [if_pos c8] at H
 have c8b0:=eq_true c8
 have c8b1:=decide_eq_true c8
 clear c8
 by_cases c9:a1 ≤ (l0.length:Int)
 ·rw [if_pos c9] at H
  have c9b0:=eq_true c9
  have c9b1:=decide_eq_true c9
  clear c9
  obtain ⟨y528,hy528⟩ : ∃ y_:List Int,y_=(([]:List Int)):=⟨_,rfl⟩
  replace H:((tollbarref01_Join.f k (l0.take (a1:Int).toNat) y528).bind fun t531=>(some (t531,a1,true,0)))=some (r1,r2,r3,r4):=by first|(rw [hy528];with_reducible exact H)|(have H2_:=(Option.bind_some _ _).symm.trans H;rw [hy528];with_reducible exact H2_)|(have H2_:=(Option.bind_some _ _).symm.trans H;with_reducible exact H2_)|with_reducible exact H|(rw [hy528];exact H)|exact H
  have Ny528:=Aside0.mk hy528
  clear hy528
  replace H:=Option.bind_eq_some_iff.mp H
  obtain ⟨t531,A100,H⟩:=H
  try dsimp only at H
  have A10:=Aside0.mk A100
  clear A100
  simp only [zi,zj] at H
  obtain ⟨rfl,rfl,rfl,rfl⟩:=H
  obtain ⟨i011,hi011,_,hsz11,_⟩:=info_parts info5
  obtain ⟨hcut11,hA11,hC11⟩:=print_take_of (P:=Tryz.prog) (Value.int .u8) 0 22 5 .i64 Tryz.underlying22 hi011 hsz11 A0 c0 l0 a1 (of_decide_eq_true zb1) (of_decide_eq_true zb1) HC0.out
  have HR527:=Aside0.mk (Kd.C_of_reads (h1:=fun _=>rfl) (hA11 _ (Kd.reads_of_C HR0.out)))
  have HC527:=Aside0.mk hC11
  clear hA11 hC11 hi011 hsz11
  go_enter Tryz.func47,Tryz.ntmps47
  go_wp2_with (first|((with_reducible refine gate_dst (N:=32) rfl ?_);refine Kd.R_lit (Kd.int .u8) _ 5 ?hg (N:=32) ?hd (xs:=([]:List Int)) (inner:=[]) (ok:=fun _=>True) (okp:=fun _=>True) ?hr ?hp (fun _ hk=>hk) trivial (Below.refl _ _) (Nat.le_refl _) zb24 ?_;(case hd=>rfl);(case hg=>rfl);(case hr=>first|(go_simp;done)|(go_simp;rfl));(case hp=>exact (Reps.none _ _));intro v529 w12 ho13 hb hg_ hnew_;clear hg_ hnew_;(first|rw [← Ny528.out] at ho13|(simp only [Int.reduceToNat] at ho13;rw [← Ny528.out] at ho13));have HO530:=Aside0.mk (Kd.R_lower ho13 (below_size zb0));replace HB:=Aside0.mk (below_step zb0 hb);clear hb ho13;obtain ⟨Ao14,co14,eo14⟩:=Kd.R_slice HO530.out;subst eo14)|((with_reducible refine gate_callee (f:=85) rfl ?_);refine goesL_ (some 33) rfl rfl Tryz.func85 zb7 rfl #[.slice A0 (l0.take (a1:Int).toNat).length c0,.slice Ao14 y528.length co14] rfl zb79 ?_;(with_reducible refine (tollbarref01_Join.calls k _ _ (l0.take (a1:Int).toNat) _ _ y528 t531 _ ?side1 ?side2 ?side3 ?side4 A10.out).mono ?_);(case side1=>repeat (first|exact (Kd.C_below HR527.out HB.out)|(with_reducible refine Kd.C_alloc ?_ _)|(with_reducible refine Kd.C_drewN ?_ _)|(with_reducible refine Kd.C_drew ?_)));(case side2=>exact HC527.out);(case side3=>repeat (first|exact (Kd.R_reads' HO530.out).2.2|(with_reducible refine Kd.C_alloc ?_ _)|(with_reducible refine Kd.C_drewN ?_ _)|(with_reducible refine Kd.C_drew ?_)));(case side4=>exact (Kd.R_reads' HO530.out).2.1);rintro e w15 ⟨v532,rfl,ho0,hb⟩;(try clear A10);refine ⟨_,rfl,?_⟩;have HO533:=Aside0.mk (Kd.R_lower (Kd.R_new' ho0 (Kd.R_lt (by (with_reducible repeat (first|apply Kd.R_alloc|apply Kd.R_drewN|apply Kd.R_drew));exact HO530.out))) (below_size zb0));replace HO530:=Aside0.mk (Kd.R_elder' (by (with_reducible repeat (first|apply Kd.R_alloc|apply Kd.R_drewN|apply Kd.R_drew));exact HO530.out) (Kd.R_base ho0) hb);replace HB:=Aside0.mk (below_step zb0 hb);try clear hb ho0))
  refine bodyPost_ret (results_list (rs:=[.tmp 6,.tmp 7,.tmp 8,.tmp 9]) rfl zb24 (.tmp (.tmp (.tmp (.tmp .nil))))) rfl ?_
  exact ⟨_,zb3,by (with_reducible repeat (first|apply Kd.R_alloc|apply Kd.R_drewN|apply Kd.R_drew));exact Kd.R_mono HO533.out (fun _ hk=>trivial),zb0⟩
 ·rw [if_neg c9] at H
  exact absurd H zb24
def tollbarref08_Request.f (k:Nat) (l0:List Int):Option (ByteArray × ByteArray × Int × List (S36) × List Int × Int × Int) :=
 (tollbarref08_opened.f k l0).bind fun o=>if o.2.2.2.2.2.1=0 then some (⟨#[]⟩,⟨#[]⟩,0,[],[],0,o.2.2.2.2.2.2.2.2) else (if 0 ≤ o.2.2.2.2.2.1 then (if o.2.2.2.2.2.1 ≤ (l0.length:Int) then ((tollbarref08_Body.f k (l0.drop o.2.2.2.2.2.1.toNat) o.2.2.2.2.2.2.1 o.2.2.2.2.2.2.2.1).bind fun z=>if z.2.2.2=2 then some (⟨#[]⟩,⟨#[]⟩,0,[],[],0,413) else (if z.2.2.2=0 then (if z.2.2.1=true then some (o.1,o.2.1,o.2.2.1,o.2.2.2.1,z.1,wrap64 (o.2.2.2.2.2.1 + z.2.1),0) else some (⟨#[]⟩,⟨#[]⟩,0,[],[],0,0)) else some (⟨#[]⟩,⟨#[]⟩,0,[],[],0,400))) else none) else none)
theorem rqR5 {α:Type} {dd:Kd α} {ty base G R:Nat} {W:World} {v:Value} {xs:List α} (h:dd.R ty W base (fun k=>k ≠ G∧k ≠ R) v xs) (a b c d e:Value):dd.R ty (((((W.setCell ⟨R,0,none⟩ a).setCell ⟨R,1,none⟩ b).setCell ⟨R,2,none⟩ c).setCell ⟨R,3,none⟩ d).setCell ⟨R,4,none⟩ e) base (fun k=>k ≠ G∧k ≠ R) v xs :=
 Kd.R_far (Kd.R_far (Kd.R_far (Kd.R_far (Kd.R_far h (fun _ hk=>hk.2) a) (fun _ hk=>hk.2) b) (fun _ hk=>hk.2) c) (fun _ hk=>hk.2) d) (fun _ hk=>hk.2) e
set_option maxHeartbeats 0 in
theorem tollbarref08_Request_leaf {p:Prop} (h:p:=by
 go_enter Tryz.func13,Tryz.ntmps13
 go_wp2_with (first
  | ((with_reducible refine gate_dst (N:=2) rfl ?_);refine box_event ?hg (N:=2) ?hd (cs:=#[.string (⟨#[]⟩:ByteArray),.string (⟨#[]⟩:ByteArray),.int .i64 0,.slice none 0 0,.slice none 0 0]) (t:=26) ?hr ?_;(case hd=>rfl);(case hg=>rfl);(case hr=>first|(go_simp;done)|(go_simp;rfl));intro R hR w5 hBR hb5;have BR:=Aside0.mk hBR;have LR:=Aside0.mk hb5;have ER:=Aside0.mk hR;clear hBR hb5 hR)
  | (go_at_call 46;refine (tollbarref08_opened.calls k A0 c0 l0 q1 q2 q3 q4 q5 _ _ _ _ w5 (Kd.C_below HC.out LR.out) HCC.out HO.out).mono ?_;rintro E w7 ⟨v3,v4,rfl,h3,h4,hb7⟩;obtain ⟨A3,c3,rfl⟩:=Kd.R_slice h3;obtain ⟨A4,c4,rfl⟩:=Kd.R_slice h4;have S7:=Aside0.mk (Kd.R_alloc (Kd.R_mono (Kd.R_bound h3) (fun q hq=>(⟨Nat.ne_of_lt hq.2.2.1,fun e=>by have z1:=hq.2.1;have z2:=blk_lt BR.out;omega⟩:q ≠ w7.heap.size∧q ≠ R))) (.cells #[.string q1,.string q2,.int .i64 q3,.slice A3 q4.length c3,.slice A4 q5.length c4] 26 (0,0)));have L7:=Aside0.mk (below_alloc (LR.out.trans (hbase LR.out.size hb7)) (.cells #[.string q1,.string q2,.int .i64 q3,.slice A3 q4.length c3,.slice A4 q5.length c4] 26 (0,0)));have LX:=Aside0.mk (LR.out.trans (hbase LR.out.size hb7)).size;have BR7:=Aside0.mk (blk_alloc (blk_below BR.out hb7) (.cells #[.string q1,.string q2,.int .i64 q3,.slice A3 q4.length c3,.slice A4 q5.length c4] 26 (0,0)));have RX:=Aside0.mk (Nat.ne_of_lt (blk_lt (blk_below BR.out hb7)));have BX7:=Aside0.mk (blk_new w7 (.cells #[.string q1,.string q2,.int .i64 q3,.slice A3 q4.length c3,.slice A4 q5.length c4] 26 (0,0)));have fR0:=blk_frozen BR7.out 0;have qR0:(w7.alloc (.cells #[.string q1,.string q2,.int .i64 q3,.slice A3 q4.length c3,.slice A4 q5.length c4] 26 (0,0))).cell? ⟨R,0,none⟩=some (.string (⟨#[]⟩:ByteArray)):=(blk_cell BR7.out 0).trans rfl;have fR1:=blk_frozen BR7.out 1;have qR1:(w7.alloc (.cells #[.string q1,.string q2,.int .i64 q3,.slice A3 q4.length c3,.slice A4 q5.length c4] 26 (0,0))).cell? ⟨R,1,none⟩=some (.string (⟨#[]⟩:ByteArray)):=(blk_cell BR7.out 1).trans rfl;have fR2:=blk_frozen BR7.out 2;have qR2:(w7.alloc (.cells #[.string q1,.string q2,.int .i64 q3,.slice A3 q4.length c3,.slice A4 q5.length c4] 26 (0,0))).cell? ⟨R,2,none⟩=some (.int .i64 0):=(blk_cell BR7.out 2).trans rfl;have fR3:=blk_frozen BR7.out 3;have qR3:(w7.alloc (.cells #[.string q1,.string q2,.int .i64 q3,.slice A3 q4.length c3,.slice A4 q5.length c4] 26 (0,0))).cell? ⟨R,3,none⟩=some (.slice none 0 0):=(blk_cell BR7.out 3).trans rfl;have fR4:=blk_frozen BR7.out 4;have qR4:(w7.alloc (.cells #[.string q1,.string q2,.int .i64 q3,.slice A3 q4.length c3,.slice A4 q5.length c4] 26 (0,0))).cell? ⟨R,4,none⟩=some (.slice none 0 0):=(blk_cell BR7.out 4).trans rfl;clear h3 h4 hb7)
  | (go_at_call 47;(try rw [← List.length_drop]);(with_reducible refine (CALL.out _ L7.out).mono ?_);rintro E w10 ⟨v10,rfl,h10,hb10⟩;obtain ⟨Ab,cb,rfl⟩:=Kd.R_slice h10;have SB10:=Aside0.mk (Kd.R_mono (Kd.R_bound h10) (fun q hq=>(⟨fun e=>by have z1:=hq.2.1;have z2:=blk_lt (BX7.out);omega,fun e=>by have z1:=hq.2.1;have z2:=blk_lt (BR7.out);omega⟩:q ≠ w7.heap.size∧q ≠ R)));have S10:=Aside0.mk (Kd.R_below S7.out hb10);have BX10:=Aside0.mk (blk_below BX7.out hb10);have BR10:=Aside0.mk (blk_below BR7.out hb10);have L10:=Aside0.mk (L7.out.trans (hbase (L7.out).size hb10));have fR0:=blk_frozen BR10.out 0;have qR0:w10.cell? ⟨R,0,none⟩=some (.string (⟨#[]⟩:ByteArray)):=(blk_cell BR10.out 0).trans rfl;have fR1:=blk_frozen BR10.out 1;have qR1:w10.cell? ⟨R,1,none⟩=some (.string (⟨#[]⟩:ByteArray)):=(blk_cell BR10.out 1).trans rfl;have fR2:=blk_frozen BR10.out 2;have qR2:w10.cell? ⟨R,2,none⟩=some (.int .i64 0):=(blk_cell BR10.out 2).trans rfl;have fR3:=blk_frozen BR10.out 3;have qR3:w10.cell? ⟨R,3,none⟩=some (.slice none 0 0):=(blk_cell BR10.out 3).trans rfl;have fR4:=blk_frozen BR10.out 4;have qR4:w10.cell? ⟨R,4,none⟩=some (.slice none 0 0):=(blk_cell BR10.out 4).trans rfl;have fX0:=blk_frozen BX10.out 0;have qX0:w10.cell? ⟨w7.heap.size,0,none⟩=some (.string q1):=(blk_cell BX10.out 0).trans rfl;have fX1:=blk_frozen BX10.out 1;have qX1:w10.cell? ⟨w7.heap.size,1,none⟩=some (.string q2):=(blk_cell BX10.out 1).trans rfl;have fX2:=blk_frozen BX10.out 2;have qX2:w10.cell? ⟨w7.heap.size,2,none⟩=some (.int .i64 q3):=(blk_cell BX10.out 2).trans rfl;have fX3:=blk_frozen BX10.out 3;have qX3:w10.cell? ⟨w7.heap.size,3,none⟩=some (.slice A3 q4.length c3):=(blk_cell BX10.out 3).trans rfl;have fX4:=blk_frozen BX10.out 4;have qX4:w10.cell? ⟨w7.heap.size,4,none⟩=some (.slice A4 q5.length c4):=(blk_cell BX10.out 4).trans rfl;have BX11:=Aside0.mk (blk_put BX10.out 4 (.slice Ab z1.length cb) rfl);have BR11:=Aside0.mk ((Below.heap_setCell w10 ⟨w7.heap.size,4,none⟩ (.slice Ab z1.length cb) R RX.out).trans BR10.out);have fR0:=blk_frozen BR11.out 0;have qR0:(w10.setCell ⟨w7.heap.size,4,none⟩ (.slice Ab z1.length cb)).cell? ⟨R,0,none⟩=some (.string (⟨#[]⟩:ByteArray)):=(blk_cell BR11.out 0).trans rfl;have fR1:=blk_frozen BR11.out 1;have qR1:(w10.setCell ⟨w7.heap.size,4,none⟩ (.slice Ab z1.length cb)).cell? ⟨R,1,none⟩=some (.string (⟨#[]⟩:ByteArray)):=(blk_cell BR11.out 1).trans rfl;have fR2:=blk_frozen BR11.out 2;have qR2:(w10.setCell ⟨w7.heap.size,4,none⟩ (.slice Ab z1.length cb)).cell? ⟨R,2,none⟩=some (.int .i64 0):=(blk_cell BR11.out 2).trans rfl;have fR3:=blk_frozen BR11.out 3;have qR3:(w10.setCell ⟨w7.heap.size,4,none⟩ (.slice Ab z1.length cb)).cell? ⟨R,3,none⟩=some (.slice none 0 0):=(blk_cell BR11.out 3).trans rfl;have fR4:=blk_frozen BR11.out 4;have qR4:(w10.setCell ⟨w7.heap.size,4,none⟩ (.slice Ab z1.length cb)).cell? ⟨R,4,none⟩=some (.slice none 0 0):=(blk_cell BR11.out 4).trans rfl;have fX0:=blk_frozen BX11.out 0;have qX0:(w10.setCell ⟨w7.heap.size,4,none⟩ (.slice Ab z1.length cb)).cell? ⟨w7.heap.size,0,none⟩=some (.string q1):=(blk_cell BX11.out 0).trans rfl;have fX1:=blk_frozen BX11.out 1;have qX1:(w10.setCell ⟨w7.heap.size,4,none⟩ (.slice Ab z1.length cb)).cell? ⟨w7.heap.size,1,none⟩=some (.string q2):=(blk_cell BX11.out 1).trans rfl;have fX2:=blk_frozen BX11.out 2;have qX2:(w10.setCell ⟨w7.heap.size,4,none⟩ (.slice Ab z1.length cb)).cell? ⟨w7.heap.size,2,none⟩=some (.int .i64 q3):=(blk_cell BX11.out 2).trans rfl;have fX3:=blk_frozen BX11.out 3;have qX3:(w10.setCell ⟨w7.heap.size,4,none⟩ (.slice Ab z1.length cb)).cell? ⟨w7.heap.size,3,none⟩=some (.slice A3 q4.length c3):=(blk_cell BX11.out 3).trans rfl;have fX4:=blk_frozen BX11.out 4;have qX4:(w10.setCell ⟨w7.heap.size,4,none⟩ (.slice Ab z1.length cb)).cell? ⟨w7.heap.size,4,none⟩=some (.slice Ab z1.length cb):=(blk_cell BX11.out 4).trans rfl;clear h10 hb10))
 first
  | (have _:=E0;refine bodyPost_ret (results_ctt rfl _ _ R 26 #[.string (⟨#[]⟩:ByteArray),.string (⟨#[]⟩:ByteArray),.int .i64 0,.slice none 0 0,.slice none 0 0] (0,0) _ rfl (opBlk5 BR7.out _ _ _ _ _) hu rfl (by kernel_rfl)) rfl ?_;exact ⟨_,_,rfl,Kd.R_nil _ _ _ _ _,Kd.R_nil _ _ _ _ _,opPut5 L7.out (Nat.le_of_eq ER.out.symm) _ _ _ _ _⟩)
  | (have _:=E1;refine bodyPost_ret (results_ctt rfl _ _ R 26 #[.string (⟨#[]⟩:ByteArray),.string (⟨#[]⟩:ByteArray),.int .i64 0,.slice none 0 0,.slice none 0 0] (0,0) _ rfl (opBlk5 BR10.out _ _ _ _ _) hu rfl (by kernel_rfl)) rfl ?_;exact ⟨_,_,rfl,Kd.R_nil _ _ _ _ _,Kd.R_nil _ _ _ _ _,opPut5 L10.out (Nat.le_of_eq ER.out.symm) _ _ _ _ _⟩)
  | (have _:=E2;refine bodyPost_ret (results_ctt rfl _ _ R 26 #[.string q1,.string q2,.int .i64 q3,.slice A3 q4.length c3,.slice Ab z1.length cb] (0,0) _ rfl (opBlk5 BR11.out _ _ _ _ _) hu rfl (by kernel_rfl)) rfl ?_;exact ⟨_,_,rfl,Kd.R_lower (Kd.R_mono (rqR5 (Kd.R_far (p:=⟨w7.heap.size,4,none⟩) S10.out (fun q hq=>hq.1) _) _ _ _ _ _) (fun _ _=>trivial)) LR.out.size,Kd.R_lower (Kd.R_mono (rqR5 (Kd.R_far (p:=⟨w7.heap.size,4,none⟩) SB10.out (fun q hq=>hq.1) _) _ _ _ _ _) (fun _ _=>trivial)) L7.out.size,opPut5 (L10.out.setCell (p:=⟨w7.heap.size,4,none⟩) LX.out _) (Nat.le_of_eq ER.out.symm) _ _ _ _ _⟩)):p:=h
theorem tollbarref08_Request.calls (k:Nat) (A0:Option Addr) (c0:Nat) (l0:List Int) (r1:ByteArray) (r2:ByteArray) (r3:Int) (r4:List (S36)) (r5:List Int) (r6:Int) (r7:Int) (w:World) (hr0:Kd.C (Kd.int .u8) w A0 l0.length l0) (hc0:l0.length ≤ c0) (h:tollbarref08_Request.f k l0=some (r1,r2,r3,r4,r5,r6,r7)) :
 Calls Tryz.prog 13 #[.slice A0 l0.length c0] w fun e w' => ∃ v3_ v4_:Value,e = .returned (.tuple #[.agg #[.string r1,.string r2,.int .i64 r3,v3_,v4_],.int .i64 r6,.int .i64 r7])∧Kd.R k36 36 w' w.heap.size (fun _=>True) v3_ r4∧Kd.R (Kd.int .u8) 5 w' w.heap.size (fun _=>True) v4_ r5∧Below w.heap.size w w' := by
 unfold tollbarref08_Request.f at h
 obtain ⟨⟨q1,q2,q3,q4,q5,n0,y1,y2,cd⟩,hO,h'⟩:=Option.bind_eq_some_iff.1 h
 clear h
 simp only at h'
 have hu:=Tryz.underlying26
 have HC:=Aside0.mk hr0
 have HCC:=Aside0.mk hc0
 have HO:=Aside0.mk hO
 clear hr0 hc0 hO
 by_cases b4:n0=0
 ·rw [if_pos b4] at h'
  have h:=h'
  clear h'
  simp only [zi,zj] at h
  obtain ⟨rfl,rfl,rfl,rfl,rfl,rfl,rfl⟩:=h
  subst b4
  have E0:=trivial;exact tollbarref08_Request_leaf
 rw [if_neg b4] at h'
 by_cases b6:0 ≤ n0;rotate_left
 ·rw [if_neg b6] at h'
  cases h'
 rw [if_pos b6] at h'
 by_cases b7:n0 ≤ (l0.length:Int)
 ·rw [if_pos b7] at h'
  have d4:(n0 == 0)=false:=beq_eq_false_iff_ne.2 b4
  clear b4
  obtain ⟨⟨z1,z2,z3,z4⟩,hz,h⟩:=Option.bind_eq_some_iff.1 h'
  clear h'
  try simp only at h
  obtain ⟨i1,hi1,_,hsz1,_⟩:=info_parts info5
  obtain ⟨A2,hsl2,hrd2,hcc2⟩:=print_drop_of (P:=Tryz.prog) (Value.int .u8) 0 22 5 .i64 Tryz.underlying22 hi1 hsz1 A0 c0 l0 n0 b6 b7 HCC.out
  have CALL:=Aside0.mk (fun (V:World) (hV:Below w.heap.size w V)=>tollbarref08_Body.calls k A2 _ (l0.drop n0.toNat) y1 y2 z1 z2 z3 z4 V (Kd.C_of_reads (h1:=fun _=>rfl) (hrd2 V (Kd.reads_of_C (Kd.C_below HC.out hV)))) hcc2 hz)
  clear hrd2 hcc2 hz b6 b7 hi1 hsz1
  by_cases b8:z4=2
  ·rw [if_pos b8] at h
   subst b8
   simp only [zi,zj] at h
   obtain ⟨rfl,rfl,rfl,rfl,rfl,rfl,rfl⟩:=h
   have E1:=trivial;exact tollbarref08_Request_leaf
  rw [if_neg b8] at h
  have d8:(z4 == 2)=false:=beq_eq_false_iff_ne.2 b8
  by_cases b9:z4=0;rotate_left
  ·rw [if_neg b9] at h
   simp only [zi,zj] at h
   obtain ⟨rfl,rfl,rfl,rfl,rfl,rfl,rfl⟩:=h
   have d9:(z4 != 0)=true:=bne_iff_ne.2 b9
   have da:(z4 == 0)=false:=beq_eq_false_iff_ne.2 b9
   clear b9 b8
   have E1:=trivial;exact tollbarref08_Request_leaf
  rw [if_pos b9] at h
  subst b9
  clear b8
  cases z3
  ·rw [if_neg zb24] at h
   simp only [zi,zj] at h
   obtain ⟨rfl,rfl,rfl,rfl,rfl,rfl,rfl⟩:=h
   have E1:=trivial;exact tollbarref08_Request_leaf
  ·rw [if_pos rfl] at h
   simp only [zi,zj] at h
   obtain ⟨rfl,rfl,rfl,rfl,rfl,rfl,rfl⟩:=h
   have E2:=trivial;exact tollbarref08_Request_leaf
 ·rw [if_neg b7] at h'
  cases h'
def tollbarref04_Same.l0:Nat → List (S36) → List (S36) → Int → Option (Bool)
 | 0,_,_,_=>none
 | k + 1,x0,x1,x5=>if x5 < (x0.length:Int) then (if 0 ≤ x5 then (if x5 < (x1.length:Int) then (if ((rd_T36 x0 x5).f0).toList=((rd_T36 x1 x5).f0).toList then (if ((rd_T36 x0 x5).f1).toList=((rd_T36 x1 x5).f1).toList then (tollbarref04_Same.l0 k x0 x1 (wrap64 (x5 + 1))) else (some false)) else (some false)) else (none)) else (none)) else (some true)
def tollbarref04_Same.f (k:Nat) (l0:List (S36)) (l1:List (S36)):Option (Bool):=if (l0.length:Int)=(l1.length:Int) then (tollbarref04_Same.l0 k l0 l1 0) else (some false)
theorem tollbarref04_Same.calls (k:Nat) (A0:Option Addr) (c0:Nat) (l0:List (S36)) (A1:Option Addr) (c1:Nat) (l1:List (S36)) (r:Bool) (w:World) (hr0:Kd.C k36 w A0 l0.length l0) (hc0:l0.length ≤ c0) (hr1:Kd.C k36 w A1 l1.length l1) (hc1:l1.length ≤ c1) (h:tollbarref04_Same.f k l0 l1=some r) :
 Calls Tryz.prog 26 #[.slice A0 l0.length c0,.slice A1 l1.length c1] w fun e w' => e = .returned (.bool r)∧Drawn0 w w' := by
 have HR0:=Aside0.mk hr0
 have HC0:=Aside0.mk hc0
 clear hr0 hc0
 have HR1:=Aside0.mk hr1
 have HC1:=Aside0.mk hc1
 clear hr1 hc1
 unfold tollbarref04_Same.f at h
 have H:=h
 clear h
 by_cases c3:(l0.length:Int)=(l1.length:Int);rotate_left
 ·rw [if_neg c3] at H
  have c3b0:=beq_eq_false_iff_ne.mpr c3
  have c3b1:=bne_iff_ne.mpr c3
  have c3b2:(l0.length == l1.length)=false:=by first|simpa using c3|(simp at c3 ⊢;omega)
  obtain rfl:=Option.some.inj H
  go_enter Tryz.func26,Tryz.ntmps26
  go_wp2
  repeat (go_quiet (fail);try go_wp2)
  go_ret
  exact ⟨zb4,zb5⟩
 rw [if_pos c3] at H
 have c3b0:=beq_iff_eq.mpr c3
 have c3b1:=bne_eq_false_iff_eq.mpr c3
 have c3b2:(l0.length == l1.length)=true:=by first|simpa using c3|(simp at c3 ⊢;omega)
 clear c3
 have H' := Aside0.mk H
 clear H
 go_enter Tryz.func26,Tryz.ntmps26
 go_wp2
 repeat (go_quiet (fail);try go_wp2)
 go_loopg [5] k (fun kq v5 w' => ∃ (x5_1:Int),v5 = .int .i64 x5_1∧Aside0 (tollbarref04_Same.l0 kq l0 l1 x5_1=some r)∧Aside0 (kq ≤ k)∧Drawn0 w w')
 case atStart=>exact ⟨(0),zb4,H',⟨Nat.le_refl _⟩,zb5⟩
 case round =>
  clear H'
  try clear c1
  try clear c2
  try clear p2
  try clear c3
  try clear c3b0
  try clear c3b1
  try clear c3b2
  obtain ⟨x5_1,rfl,HA,HK1,⟨m1,rfl⟩⟩:=hrel
  cases gk with
  | zero=>exact absurd HA.out (by simp [tollbarref04_Same.l0])
  | succ k1 =>
   have H:=HA.out
   clear HA
   simp only [tollbarref04_Same.l0] at H
   by_cases c4:x5_1 < (l0.length:Int)
   ·rw [if_pos c4] at H
    have c4b0:=decide_eq_true c4
    clear c4
    by_cases c5:0 ≤ x5_1
    ·rw [if_pos c5] at H
     have c5b0:=decide_eq_true c5
     clear c5
     by_cases c6:x5_1 < (l1.length:Int);rotate_left
     ·rw [if_neg c6] at H
      exact absurd H zb24
     rw [if_pos c6] at H
     have c6b0:=decide_eq_true c6
     clear c6
     by_cases c7:((rd_T36 l0 x5_1).f0).toList=((rd_T36 l1 x5_1).f0).toList;rotate_left
     ·rw [if_neg c7] at H
      have c7b0:=beq_eq_false_iff_ne.mpr c7
      have c7b1:=bne_iff_ne.mpr c7
      obtain rfl:=Option.some.inj H
      have p564:0 ≤ (x5_1:Int):=of_decide_eq_true zb1
      have q564:x5_1 < (l0.length:Int):=of_decide_eq_true zb1
      obtain ⟨ad564,e564,hx564_0,hx564_1⟩:=at_T36 HR0.out x5_1 p564 q564
      cases e564
      replace p564:=eq_true p564
      replace q564:=eq_true q564
      have p565:0 ≤ (x5_1:Int):=of_decide_eq_true zb1
      have q565:x5_1 < (l1.length:Int):=of_decide_eq_true zb1
      obtain ⟨ad565,e565,hx565_0,hx565_1⟩:=at_T36 HR1.out x5_1 p565 q565
      cases e565
      replace p565:=eq_true p565
      replace q565:=eq_true q565
      go_wp2
      repeat (go_quiet (fail);try go_wp2)
      go_ret
      exact ⟨zb4,zb5⟩
     rw [if_pos c7] at H
     have c7b0:=beq_iff_eq.mpr c7
     have c7b1:=bne_eq_false_iff_eq.mpr c7
     clear c7
     by_cases c8:((rd_T36 l0 x5_1).f1).toList=((rd_T36 l1 x5_1).f1).toList;rotate_left
     ·rw [if_neg c8] at H
      have c8b0:=beq_eq_false_iff_ne.mpr c8
      have c8b1:=bne_iff_ne.mpr c8
      obtain rfl:=Option.some.inj H
      have p564:0 ≤ (x5_1:Int):=of_decide_eq_true zb1
      have q564:x5_1 < (l0.length:Int):=of_decide_eq_true zb1
      obtain ⟨ad564,e564,hx564_0,hx564_1⟩:=at_T36 HR0.out x5_1 p564 q564
      cases e564
      replace p564:=eq_true p564
      replace q564:=eq_true q564
      have p565:0 ≤ (x5_1:Int):=of_decide_eq_true zb1
      have q565:x5_1 < (l1.length:Int):=of_decide_eq_true zb1
      obtain ⟨ad565,e565,hx565_0,hx565_1⟩:=at_T36 HR1.out x5_1 p565 q565
      cases e565
      replace p565:=eq_true p565
      replace q565:=eq_true q565
      have p566:0 ≤ (x5_1:Int):=of_decide_eq_true zb1
      have q566:x5_1 < (l0.length:Int):=of_decide_eq_true zb1
      obtain ⟨ad566,e566,hx566_0,hx566_1⟩:=at_T36 HR0.out x5_1 p566 q566
      obtain rfl:ad564=ad566:=(by injection e566)
      replace p566:=eq_true p566
      replace q566:=eq_true q566
      have p567:0 ≤ (x5_1:Int):=of_decide_eq_true zb1
      have q567:x5_1 < (l1.length:Int):=of_decide_eq_true zb1
      obtain ⟨ad567,e567,hx567_0,hx567_1⟩:=at_T36 HR1.out x5_1 p567 q567
      obtain rfl:ad565=ad567:=(by injection e567)
      replace p567:=eq_true p567
      replace q567:=eq_true q567
      go_wp2
      repeat (go_quiet (fail);try go_wp2)
      go_ret
      exact ⟨zb4,zb5⟩
     rw [if_pos c8] at H
     have c8b0:=beq_iff_eq.mpr c8
     have c8b1:=bne_eq_false_iff_eq.mpr c8
     clear c8
     have H' := Aside0.mk H
     clear H
     have p564:0 ≤ (x5_1:Int):=of_decide_eq_true zb1
     have q564:x5_1 < (l0.length:Int):=of_decide_eq_true zb1
     obtain ⟨ad564,e564,hx564_0,hx564_1⟩:=at_T36 HR0.out x5_1 p564 q564
     cases e564
     replace p564:=eq_true p564
     replace q564:=eq_true q564
     have p565:0 ≤ (x5_1:Int):=of_decide_eq_true zb1
     have q565:x5_1 < (l1.length:Int):=of_decide_eq_true zb1
     obtain ⟨ad565,e565,hx565_0,hx565_1⟩:=at_T36 HR1.out x5_1 p565 q565
     cases e565
     replace p565:=eq_true p565
     replace q565:=eq_true q565
     have p566:0 ≤ (x5_1:Int):=of_decide_eq_true zb1
     have q566:x5_1 < (l0.length:Int):=of_decide_eq_true zb1
     obtain ⟨ad566,e566,hx566_0,hx566_1⟩:=at_T36 HR0.out x5_1 p566 q566
     obtain rfl:ad564=ad566:=(by injection e566)
     replace p566:=eq_true p566
     replace q566:=eq_true q566
     have p567:0 ≤ (x5_1:Int):=of_decide_eq_true zb1
     have q567:x5_1 < (l1.length:Int):=of_decide_eq_true zb1
     obtain ⟨ad567,e567,hx567_0,hx567_1⟩:=at_T36 HR1.out x5_1 p567 q567
     obtain rfl:ad565=ad567:=(by injection e567)
     replace p567:=eq_true p567
     replace q567:=eq_true q567
     go_wp2
     repeat (go_quiet (fail);try go_wp2)
     go_roundg k1
     case measure=>have:=HK1.out;omega
     case rel=>exact ⟨(wrap64 (x5_1 + 1)),zb4,H',⟨zb80⟩,zb5⟩
    ·rw [if_neg c5] at H
     exact absurd H zb24
   ·rw [if_neg c4] at H
    have c4b0:=decide_eq_false c4
    clear c4
    obtain rfl:=Option.some.inj H
    go_wp2
    repeat (go_quiet (fail);try go_wp2)
    go_ret
    exact ⟨zb4,zb5⟩
def tollbarref08_SameReq.f (k:Nat) (a0_0:ByteArray) (a0_1:ByteArray) (a0_2:Int) (l0_3:List (S36)) (l0_4:List Int) (a1_0:ByteArray) (a1_1:ByteArray) (a1_2:Int) (l1_3:List (S36)) (l1_4:List Int):Option (Bool):=if a0_0.toList=a1_0.toList then (if a0_1.toList=a1_1.toList then (if a0_2=a1_2 then ((tollbarref04_Same.f k l0_3 l1_3).bind fun t570=>(if t570=true then ((tollbarref01_SameBytes.f k l0_4 l1_4).bind fun t571=>(some t571)) else (some false))) else (some false)) else (some false)) else (some false)
theorem tollbarref08_SameReq.calls (k:Nat) (a0_0:ByteArray) (a0_1:ByteArray) (a0_2:Int) (A0_3:Option Addr) (c0_3:Nat) (l0_3:List (S36)) (A0_4:Option Addr) (c0_4:Nat) (l0_4:List Int) (a1_0:ByteArray) (a1_1:ByteArray) (a1_2:Int) (A1_3:Option Addr) (c1_3:Nat) (l1_3:List (S36)) (A1_4:Option Addr) (c1_4:Nat) (l1_4:List Int) (r:Bool) (w:World) (hr0_3:Kd.C k36 w A0_3 l0_3.length l0_3) (hc0_3:l0_3.length ≤ c0_3) (hr0_4:Kd.C (Kd.int .u8) w A0_4 l0_4.length l0_4) (hc0_4:l0_4.length ≤ c0_4) (hr1_3:Kd.C k36 w A1_3 l1_3.length l1_3) (hc1_3:l1_3.length ≤ c1_3) (hr1_4:Kd.C (Kd.int .u8) w A1_4 l1_4.length l1_4) (hc1_4:l1_4.length ≤ c1_4) (h:tollbarref08_SameReq.f k a0_0 a0_1 a0_2 l0_3 l0_4 a1_0 a1_1 a1_2 l1_3 l1_4=some r) :
 Calls Tryz.prog 16 #[.agg #[.string a0_0,.string a0_1,.int .i64 a0_2,.slice A0_3 l0_3.length c0_3,.slice A0_4 l0_4.length c0_4],.agg #[.string a1_0,.string a1_1,.int .i64 a1_2,.slice A1_3 l1_3.length c1_3,.slice A1_4 l1_4.length c1_4]] w fun e w' => e = .returned (.bool r)∧Below w.heap.size w w' := by
 have hu26:=Tryz.underlying26
 have HR0_3:=Aside0.mk hr0_3
 have HC0_3:=Aside0.mk hc0_3
 clear hr0_3 hc0_3
 have HR0_4:=Aside0.mk hr0_4
 have HC0_4:=Aside0.mk hc0_4
 clear hr0_4 hc0_4
 have HR1_3:=Aside0.mk hr1_3
 have HC1_3:=Aside0.mk hc1_3
 clear hr1_3 hc1_3
 have HR1_4:=Aside0.mk hr1_4
 have HC1_4:=Aside0.mk hc1_4
 clear hr1_4 hc1_4
 have HB:=zB w
 unfold tollbarref08_SameReq.f at h
 have H:=h
 clear h
 by_cases c3:a0_0.toList=a1_0.toList;rotate_left
 ·rw [if_neg c3] at H
  have c3b0:=beq_eq_false_iff_ne.mpr c3
  have c3b1:=bne_iff_ne.mpr c3
  obtain rfl:=Option.some.inj H
  go_enter Tryz.func16,Tryz.ntmps16
  go_wp2_with (first|((with_reducible refine gate_dst (N:=2) rfl ?_);refine box_event rfl (N:=2) rfl (cs:=#[.string a0_0,.string a0_1,.int .i64 a0_2,.slice A0_3 l0_3.length c0_3,.slice A0_4 l0_4.length c0_4]) (t:=26) zS ?_;intro gb34 hg w29 hbox hb;have GW34:=zG hg zb0;have GE34:=GW34;have BK34:=Aside0.mk hbox;replace HB:=Aside0.mk (below_step zb0 hb);clear hb hbox hg)|((with_reducible refine gate_dst (N:=3) rfl ?_);refine box_event rfl (N:=3) rfl (cs:=#[.string a1_0,.string a1_1,.int .i64 a1_2,.slice A1_3 l1_3.length c1_3,.slice A1_4 l1_4.length c1_4]) (t:=26) zS ?_;intro gb35 hg w30 hbox hb;have BK35:=Aside0.mk (hbox);have GW35:=zG hg zb34;have GE35:=GW35;replace HB:=Aside0.mk (below_step zb34 hb);have NB34_569:=Aside0.mk ((by rw [hg];exact Nat.ne_of_lt (blk_lt (g:=gb34) (o:=.cells #[.string a0_0,.string a0_1,.int .i64 a0_2,.slice A0_3 l0_3.length c0_3,.slice A0_4 l0_4.length c0_4] 26 (0,0)) zb30):gb34 ≠ gb35));have NB35_568:=Aside0.mk ((by rw [hg];exact Nat.ne_of_gt (blk_lt (g:=gb34) (o:=.cells #[.string a0_0,.string a0_1,.int .i64 a0_2,.slice A0_3 l0_3.length c0_3,.slice A0_4 l0_4.length c0_4] 26 (0,0)) zb30):gb35 ≠ gb34));replace BK34:=Aside0.mk (blk_below (g:=gb34) (o:=.cells #[.string a0_0,.string a0_1,.int .i64 a0_2,.slice A0_3 l0_3.length c0_3,.slice A0_4 l0_4.length c0_4] 26 (0,0)) zb30 hb);clear hb hbox hg;have hnb31:=NB34_569.out;have hnc31:=NB35_568.out;obtain ⟨hcz32_0,hcz32_1,hcz32_2,hcz32_3,hcz32_4,hfz32_0,hfz32_1,hfz32_2,hfz32_3,hfz32_4⟩:=zq5 BK34.out;obtain ⟨hcz33_0,hcz33_1,hcz33_2,hcz33_3,hcz33_4,hfz33_0,hfz33_1,hfz33_2,hfz33_3,hfz33_4⟩:=zq5 BK35.out))
  go_ret
  exact ⟨zb3,zb43⟩
 rw [if_pos c3] at H
 have c3b0:=beq_iff_eq.mpr c3
 have c3b1:=bne_eq_false_iff_eq.mpr c3
 clear c3
 by_cases c4:a0_1.toList=a1_1.toList
 ·rw [if_pos c4] at H
  have c4b0:=beq_iff_eq.mpr c4
  have c4b1:=bne_eq_false_iff_eq.mpr c4
  clear c4
  by_cases c5:a0_2=a1_2;rotate_left
  ·rw [if_neg c5] at H
   have c5b0:=beq_eq_false_iff_ne.mpr c5
   have c5b1:=bne_iff_ne.mpr c5
   obtain rfl:=Option.some.inj H
   go_enter Tryz.func16,Tryz.ntmps16
   go_wp2_with (first|((with_reducible refine gate_dst (N:=2) rfl ?_);refine box_event rfl (N:=2) rfl (cs:=#[.string a0_0,.string a0_1,.int .i64 a0_2,.slice A0_3 l0_3.length c0_3,.slice A0_4 l0_4.length c0_4]) (t:=26) zS ?_;intro gb34 hg w19 hbox hb;have GW34:=zG hg zb0;have GE34:=GW34;have BK34:=Aside0.mk hbox;replace HB:=Aside0.mk (below_step zb0 hb);clear hb hbox hg)|((with_reducible refine gate_dst (N:=3) rfl ?_);refine box_event rfl (N:=3) rfl (cs:=#[.string a1_0,.string a1_1,.int .i64 a1_2,.slice A1_3 l1_3.length c1_3,.slice A1_4 l1_4.length c1_4]) (t:=26) zS ?_;intro gb35 hg w20 hbox hb;have BK35:=Aside0.mk (hbox);have GW35:=zG hg zb34;have GE35:=GW35;replace HB:=Aside0.mk (below_step zb34 hb);have NB34_569:=Aside0.mk ((by rw [hg];exact Nat.ne_of_lt (blk_lt (g:=gb34) (o:=.cells #[.string a0_0,.string a0_1,.int .i64 a0_2,.slice A0_3 l0_3.length c0_3,.slice A0_4 l0_4.length c0_4] 26 (0,0)) zb30):gb34 ≠ gb35));have NB35_568:=Aside0.mk ((by rw [hg];exact Nat.ne_of_gt (blk_lt (g:=gb34) (o:=.cells #[.string a0_0,.string a0_1,.int .i64 a0_2,.slice A0_3 l0_3.length c0_3,.slice A0_4 l0_4.length c0_4] 26 (0,0)) zb30):gb35 ≠ gb34));replace BK34:=Aside0.mk (blk_below (g:=gb34) (o:=.cells #[.string a0_0,.string a0_1,.int .i64 a0_2,.slice A0_3 l0_3.length c0_3,.slice A0_4 l0_4.length c0_4] 26 (0,0)) zb30 hb);clear hb hbox hg;have hnb21:=NB34_569.out;have hnc21:=NB35_568.out;obtain ⟨hcz22_0,hcz22_1,hcz22_2,hcz22_3,hcz22_4,hfz22_0,hfz22_1,hfz22_2,hfz22_3,hfz22_4⟩:=zq5 BK34.out;obtain ⟨hcz23_0,hcz23_1,hcz23_2,hcz23_3,hcz23_4,hfz23_0,hfz23_1,hfz23_2,hfz23_3,hfz23_4⟩:=zq5 BK35.out))
   go_ret
   exact ⟨zb3,zb43⟩
  rw [if_pos c5] at H
  have c5b0:=beq_iff_eq.mpr c5
  have c5b1:=bne_eq_false_iff_eq.mpr c5
  clear c5
  replace H:=Option.bind_eq_some_iff.mp H
  obtain ⟨t38,A60,H⟩:=H
  try dsimp only at H
  have A6:=Aside0.mk A60
  clear A60
  by_cases c7:t38=true
  ·subst c7
   rw [if_pos rfl] at H
   replace H:=Option.bind_eq_some_iff.mp H
   obtain ⟨t37,A80,H⟩:=H
   try dsimp only at H
   have A8:=Aside0.mk A80
   clear A80
   obtain rfl:=Option.some.inj H
   go_enter Tryz.func16,Tryz.ntmps16
   go_wp2_with (first|((with_reducible refine gate_dst (N:=2) rfl ?_);refine box_event rfl (N:=2) rfl (cs:=#[.string a0_0,.string a0_1,.int .i64 a0_2,.slice A0_3 l0_3.length c0_3,.slice A0_4 l0_4.length c0_4]) (t:=26) zS ?_;intro gb34 hg w9 hbox hb;have GW34:=zG hg zb0;have GE34:=GW34;have BK34:=Aside0.mk hbox;replace HB:=Aside0.mk (below_step zb0 hb);clear hb hbox hg)|((with_reducible refine gate_dst (N:=3) rfl ?_);refine box_event rfl (N:=3) rfl (cs:=#[.string a1_0,.string a1_1,.int .i64 a1_2,.slice A1_3 l1_3.length c1_3,.slice A1_4 l1_4.length c1_4]) (t:=26) zS ?_;intro gb35 hg w10 hbox hb;have BK35:=Aside0.mk (hbox);have GW35:=zG hg zb34;have GE35:=GW35;replace HB:=Aside0.mk (below_step zb34 hb);have NB34_569:=Aside0.mk ((by rw [hg];exact Nat.ne_of_lt (blk_lt (g:=gb34) (o:=.cells #[.string a0_0,.string a0_1,.int .i64 a0_2,.slice A0_3 l0_3.length c0_3,.slice A0_4 l0_4.length c0_4] 26 (0,0)) zb30):gb34 ≠ gb35));have NB35_568:=Aside0.mk ((by rw [hg];exact Nat.ne_of_gt (blk_lt (g:=gb34) (o:=.cells #[.string a0_0,.string a0_1,.int .i64 a0_2,.slice A0_3 l0_3.length c0_3,.slice A0_4 l0_4.length c0_4] 26 (0,0)) zb30):gb35 ≠ gb34));replace BK34:=Aside0.mk (blk_below (g:=gb34) (o:=.cells #[.string a0_0,.string a0_1,.int .i64 a0_2,.slice A0_3 l0_3.length c0_3,.slice A0_4 l0_4.length c0_4] 26 (0,0)) zb30 hb);clear hb hbox hg;have hnb11:=NB34_569.out;have hnc11:=NB35_568.out;obtain ⟨hcz12_0,hcz12_1,hcz12_2,hcz12_3,hcz12_4,hfz12_0,hfz12_1,hfz12_2,hfz12_3,hfz12_4⟩:=zq5 BK34.out;obtain ⟨hcz13_0,hcz13_1,hcz13_2,hcz13_3,hcz13_4,hfz13_0,hfz13_1,hfz13_2,hfz13_3,hfz13_4⟩:=zq5 BK35.out)|(go_at_call 26;(with_reducible refine (tollbarref04_Same.calls k _ _ l0_3 _ _ l1_3 true _ ?side1 ?side2 ?side3 ?side4 A6.out).mono ?_);(case side1=>exact zb42);(case side2=>exact HC0_3.out);(case side3=>exact zb113);(case side4=>exact HC1_3.out);rintro e w' ⟨rfl,⟨nd,rfl⟩⟩;(try clear A6))|(go_at_call 25;(with_reducible refine (tollbarref01_SameBytes.calls k _ _ l0_4 _ _ l1_4 t37 _ ?side1 ?side2 ?side3 ?side4 A8.out).mono ?_);(case side1=>repeat (first|exact (Kd.C_below HR0_4.out zb43)|(with_reducible refine Kd.C_alloc ?_ _)|(with_reducible refine Kd.C_drewN ?_ _)|(with_reducible refine Kd.C_drew ?_)));(case side2=>exact HC0_4.out);(case side3=>repeat (first|exact (Kd.C_below HR1_4.out zb43)|(with_reducible refine Kd.C_alloc ?_ _)|(with_reducible refine Kd.C_drewN ?_ _)|(with_reducible refine Kd.C_drew ?_)));(case side4=>exact HC1_4.out);rintro e w' ⟨rfl,⟨nd,rfl⟩⟩;(try clear A8)))
   go_ret
   exact ⟨zb3,zb43⟩
  ·replace c7:=Bool.eq_false_iff.mpr c7
   subst c7
   rw [if_neg zf] at H
   obtain rfl:=Option.some.inj H
   go_enter Tryz.func16,Tryz.ntmps16
   go_wp2_with (first|((with_reducible refine gate_dst (N:=2) rfl ?_);refine box_event rfl (N:=2) rfl (cs:=#[.string a0_0,.string a0_1,.int .i64 a0_2,.slice A0_3 l0_3.length c0_3,.slice A0_4 l0_4.length c0_4]) (t:=26) zS ?_;intro gb34 hg w14 hbox hb;have GW34:=zG hg zb0;have GE34:=GW34;have BK34:=Aside0.mk hbox;replace HB:=Aside0.mk (below_step zb0 hb);clear hb hbox hg)|((with_reducible refine gate_dst (N:=3) rfl ?_);refine box_event rfl (N:=3) rfl (cs:=#[.string a1_0,.string a1_1,.int .i64 a1_2,.slice A1_3 l1_3.length c1_3,.slice A1_4 l1_4.length c1_4]) (t:=26) zS ?_;intro gb35 hg w15 hbox hb;have BK35:=Aside0.mk (hbox);have GW35:=zG hg zb34;have GE35:=GW35;replace HB:=Aside0.mk (below_step zb34 hb);have NB34_569:=Aside0.mk ((by rw [hg];exact Nat.ne_of_lt (blk_lt (g:=gb34) (o:=.cells #[.string a0_0,.string a0_1,.int .i64 a0_2,.slice A0_3 l0_3.length c0_3,.slice A0_4 l0_4.length c0_4] 26 (0,0)) zb30):gb34 ≠ gb35));have NB35_568:=Aside0.mk ((by rw [hg];exact Nat.ne_of_gt (blk_lt (g:=gb34) (o:=.cells #[.string a0_0,.string a0_1,.int .i64 a0_2,.slice A0_3 l0_3.length c0_3,.slice A0_4 l0_4.length c0_4] 26 (0,0)) zb30):gb35 ≠ gb34));replace BK34:=Aside0.mk (blk_below (g:=gb34) (o:=.cells #[.string a0_0,.string a0_1,.int .i64 a0_2,.slice A0_3 l0_3.length c0_3,.slice A0_4 l0_4.length c0_4] 26 (0,0)) zb30 hb);clear hb hbox hg;have hnb16:=NB34_569.out;have hnc16:=NB35_568.out;obtain ⟨hcz17_0,hcz17_1,hcz17_2,hcz17_3,hcz17_4,hfz17_0,hfz17_1,hfz17_2,hfz17_3,hfz17_4⟩:=zq5 BK34.out;obtain ⟨hcz18_0,hcz18_1,hcz18_2,hcz18_3,hcz18_4,hfz18_0,hfz18_1,hfz18_2,hfz18_3,hfz18_4⟩:=zq5 BK35.out)|(go_at_call 26;(with_reducible refine (tollbarref04_Same.calls k _ _ l0_3 _ _ l1_3 false _ ?side1 ?side2 ?side3 ?side4 A6.out).mono ?_);(case side1=>exact zb42);(case side2=>exact HC0_3.out);(case side3=>exact zb113);(case side4=>exact HC1_3.out);rintro e w' ⟨rfl,⟨nd,rfl⟩⟩;(try clear A6)))
   go_ret
   exact ⟨zb3,zb43⟩
 ·rw [if_neg c4] at H
  have c4b0:=beq_eq_false_iff_ne.mpr c4
  have c4b1:=bne_iff_ne.mpr c4
  obtain rfl:=Option.some.inj H
  go_enter Tryz.func16,Tryz.ntmps16
  go_wp2_with (first|((with_reducible refine gate_dst (N:=2) rfl ?_);refine box_event rfl (N:=2) rfl (cs:=#[.string a0_0,.string a0_1,.int .i64 a0_2,.slice A0_3 l0_3.length c0_3,.slice A0_4 l0_4.length c0_4]) (t:=26) zS ?_;intro gb34 hg w24 hbox hb;have GW34:=zG hg zb0;have GE34:=GW34;have BK34:=Aside0.mk hbox;replace HB:=Aside0.mk (below_step zb0 hb);clear hb hbox hg)|((with_reducible refine gate_dst (N:=3) rfl ?_);refine box_event rfl (N:=3) rfl (cs:=#[.string a1_0,.string a1_1,.int .i64 a1_2,.slice A1_3 l1_3.length c1_3,.slice A1_4 l1_4.length c1_4]) (t:=26) zS ?_;intro gb35 hg w25 hbox hb;have BK35:=Aside0.mk (hbox);have GW35:=zG hg zb34;have GE35:=GW35;replace HB:=Aside0.mk (below_step zb34 hb);have NB34_569:=Aside0.mk ((by rw [hg];exact Nat.ne_of_lt (blk_lt (g:=gb34) (o:=.cells #[.string a0_0,.string a0_1,.int .i64 a0_2,.slice A0_3 l0_3.length c0_3,.slice A0_4 l0_4.length c0_4] 26 (0,0)) zb30):gb34 ≠ gb35));have NB35_568:=Aside0.mk ((by rw [hg];exact Nat.ne_of_gt (blk_lt (g:=gb34) (o:=.cells #[.string a0_0,.string a0_1,.int .i64 a0_2,.slice A0_3 l0_3.length c0_3,.slice A0_4 l0_4.length c0_4] 26 (0,0)) zb30):gb35 ≠ gb34));replace BK34:=Aside0.mk (blk_below (g:=gb34) (o:=.cells #[.string a0_0,.string a0_1,.int .i64 a0_2,.slice A0_3 l0_3.length c0_3,.slice A0_4 l0_4.length c0_4] 26 (0,0)) zb30 hb);clear hb hbox hg;have hnb26:=NB34_569.out;have hnc26:=NB35_568.out;obtain ⟨hcz27_0,hcz27_1,hcz27_2,hcz27_3,hcz27_4,hfz27_0,hfz27_1,hfz27_2,hfz27_3,hfz27_4⟩:=zq5 BK34.out;obtain ⟨hcz28_0,hcz28_1,hcz28_2,hcz28_3,hcz28_4,hfz28_0,hfz28_1,hfz28_2,hfz28_3,hfz28_4⟩:=zq5 BK35.out))
  go_ret
  exact ⟨zb3,zb43⟩
def tollbarref04_Has.l0:Nat → ByteArray → List ByteArray → Int → Option (Bool)
 | 0,_,_,_=>none
 | k + 1,x2,x7,x8=>if x8 < (x7.length:Int) then (if 0 ≤ x8 then ((tollbarref04_same.f k (rdOf ByteArray.empty x7 x8) x2).bind fun t576=>(if t576=true then (some true) else (tollbarref04_Has.l0 k x2 x7 (wrap64 (x8 + 1))))) else (none)) else (some false)
def tollbarref04_Has.f (k:Nat) (l0:List (S36)) (a1:ByteArray) (a2:ByteArray):Option (Bool):=(tollbarref04_List.f k l0 a1).bind fun t572=>(tollbarref04_Has.l0 k a2 t572 0)
theorem tollbarref04_Has.calls (k:Nat) (A0:Option Addr) (c0:Nat) (l0:List (S36)) (a1:ByteArray) (a2:ByteArray) (r:Bool) (w:World) (hr0:Kd.C k36 w A0 l0.length l0) (hc0:l0.length ≤ c0) (h:tollbarref04_Has.f k l0 a1 a2=some r) :
 Calls Tryz.prog 49 #[.slice A0 l0.length c0,.string a1,.string a2] w fun e w' => e = .returned (.bool r)∧Below w.heap.size w w' := by
 have HR0:=Aside0.mk hr0
 have HC0:=Aside0.mk hc0
 clear hr0 hc0
 have HB:=zB w
 unfold tollbarref04_Has.f at h
 have H:=h
 clear h
 replace H:=Option.bind_eq_some_iff.mp H
 obtain ⟨t572,A40,H⟩:=H
 try dsimp only at H
 have A4:=Aside0.mk A40
 clear A40
 have H' := Aside0.mk H
 clear H
 go_enter Tryz.func49,Tryz.ntmps49
 go_wp2_with (first|((with_reducible refine gate_callee (f:=31) rfl ?_);refine goesL_ (some 11) rfl rfl Tryz.func31 zb7 rfl #[.slice A0 l0.length c0,.string a1] rfl zb2 ?_;(with_reducible refine (tollbarref04_List.calls k _ _ l0 a1 t572 _ ?side1 ?side2 A4.out).mono ?_);(case side1=>exact zb9);(case side2=>exact HC0.out);rintro e w5 ⟨v573,rfl,ho0,hb⟩;(try clear A4);refine ⟨_,rfl,?_⟩;have HO574:=Aside0.mk (Kd.R_lower ho0 (below_size zb0));replace HB:=Aside0.mk (below_step zb0 hb);try clear hb ho0))
 go_loopg [8] k (fun kq v8 w' => ∃ (x8_1:Int),v8 = .int .i64 x8_1∧Aside0 (tollbarref04_Has.l0 kq a2 t572 x8_1=some r)∧Aside0 (kq ≤ k)∧Aside0 (Kd.R Kd.string 9 w' w.heap.size (fun _=>True) v573 t572)∧Aside0 (Below w.heap.size w w'))
 case atStart=>exact ⟨(0),zb4,H',⟨Nat.le_refl _⟩,⟨by (with_reducible repeat (first|apply Kd.R_alloc|apply Kd.R_drewN|apply Kd.R_drew));exact HO574.out⟩,⟨zb0⟩⟩
 case round =>
  clear H'
  try clear p2
  try clear c3
  try clear c4
  obtain ⟨x8_1,rfl,HA,HK1,HO_7,HB⟩:=hrel
  cases gk with
  | zero=>exact absurd HA.out (by simp [tollbarref04_Has.l0])
  | succ k1 =>
   have H:=HA.out
   clear HA
   simp only [tollbarref04_Has.l0] at H
   by_cases c6:x8_1 < (t572.length:Int);rotate_left
   ·rw [if_neg c6] at H
    have c6b0:=decide_eq_false c6
    clear c6
    obtain rfl:=Option.some.inj H
    obtain ⟨Ao14,co14,eo14⟩:=Kd.R_slice HO_7.out
    subst eo14
    go_wp2
    go_ret
    exact ⟨zb3,zb0⟩
   rw [if_pos c6] at H
   have c6b0:=decide_eq_true c6
   clear c6
   by_cases c7:0 ≤ x8_1
   ·rw [if_pos c7] at H
    have c7b0:=decide_eq_true c7
    clear c7
    replace H:=Option.bind_eq_some_iff.mp H
    obtain ⟨t576,A80,H⟩:=H
    try dsimp only at H
    have A8:=Aside0.mk A80
    clear A80
    by_cases c9:t576=true
    ·subst c9
     rw [if_pos rfl] at H
     obtain rfl:=Option.some.inj H
     obtain ⟨Ao10,co10,eo10⟩:=Kd.R_slice HO_7.out
     subst eo10
     have p575:0 ≤ (x8_1:Int):=of_decide_eq_true zb1
     have q575:x8_1 < (t572.length:Int):=of_decide_eq_true zb1
     obtain ⟨ad575,e575,hx575_0⟩:=Kd.at_string (Kd.R_reads' HO_7.out).2.2 x8_1 p575 q575
     cases e575
     replace p575:=eq_true p575
     replace q575:=eq_true q575
     go_wp2_with (first|((with_reducible refine gate_callee (f:=65) rfl ?_);refine goesL_ (some 23) rfl rfl Tryz.func65 zb7 rfl #[.string (rdOf ByteArray.empty t572 x8_1),.string a2] rfl zb2 ?_;(with_reducible refine (tollbarref04_same.calls k1 (rdOf ByteArray.empty t572 x8_1) a2 true _ A8.out).mono ?_);rintro e w11 ⟨rfl,hb⟩;(try clear A8);refine ⟨_,rfl,?_⟩;replace HO_7:=Aside0.mk (Kd.R_below zb8 hb);replace HB:=Aside0.mk (below_step zb0 hb);(try clear hb)))
     go_ret
     exact ⟨zb3,zb0⟩
    replace c9:=Bool.eq_false_iff.mpr c9
    subst c9
    rw [if_neg zf] at H
    have H' := Aside0.mk H
    clear H
    obtain ⟨Ao12,co12,eo12⟩:=Kd.R_slice HO_7.out
    subst eo12
    have p575:0 ≤ (x8_1:Int):=of_decide_eq_true zb1
    have q575:x8_1 < (t572.length:Int):=of_decide_eq_true zb1
    obtain ⟨ad575,e575,hx575_0⟩:=Kd.at_string (Kd.R_reads' HO_7.out).2.2 x8_1 p575 q575
    cases e575
    replace p575:=eq_true p575
    replace q575:=eq_true q575
    go_wp2_with (first|((with_reducible refine gate_callee (f:=65) rfl ?_);refine goesL_ (some 23) rfl rfl Tryz.func65 zb7 rfl #[.string (rdOf ByteArray.empty t572 x8_1),.string a2] rfl zb2 ?_;(with_reducible refine (tollbarref04_same.calls k1 (rdOf ByteArray.empty t572 x8_1) a2 false _ A8.out).mono ?_);rintro e w13 ⟨rfl,hb⟩;(try clear A8);refine ⟨_,rfl,?_⟩;replace HO_7:=Aside0.mk (Kd.R_below zb8 hb);replace HB:=Aside0.mk (below_step zb0 hb);(try clear hb)))
    go_roundg k1
    case measure=>have:=HK1.out;omega
    case rel=>exact ⟨(wrap64 (x8_1 + 1)),zb4,H',⟨zb80⟩,⟨zb8⟩,⟨zb0⟩⟩
   ·rw [if_neg c7] at H
    exact absurd H zb24
def tollbarref08_Waits.f (k:Nat) (l0:List Int):Option (Bool):=(tollbarref08_opened.f k l0).bind fun bt577=>(if bt577.2.2.2.2.2.1=0 then (some false) else (if bt577.2.2.1=0 then (some false) else ((tollbarref04_Has.f k bt577.2.2.2.1 (⟨#[101,120,112,101,99,116]⟩:ByteArray) (⟨#[49,48,48,45,99,111,110,116,105,110,117,101]⟩:ByteArray)).bind fun t591=>(if t591=true then (if 0 ≤ bt577.2.2.2.2.2.1 then (if bt577.2.2.2.2.2.1 ≤ (l0.length:Int) then ((tollbarref08_Body.f k (l0.drop (bt577.2.2.2.2.2.1:Int).toNat) bt577.2.2.2.2.2.2.1 bt577.2.2.2.2.2.2.2.1).bind fun bt593=>(if bt593.2.2.1=true then (some false) else (some (bt593.2.2.2 == 0)))) else (none)) else (none)) else (some false)))))
theorem tollbarref08_Waits.calls (k:Nat) (A0:Option Addr) (c0:Nat) (l0:List Int) (r:Bool) (w:World) (hr0:Kd.C (Kd.int .u8) w A0 l0.length l0) (hc0:l0.length ≤ c0) (h:tollbarref08_Waits.f k l0=some r) :
 Calls Tryz.prog 18 #[.slice A0 l0.length c0] w fun e w' => e = .returned (.bool r)∧Below w.heap.size w w' := by
 have hu26:=Tryz.underlying26
 have HR0:=Aside0.mk hr0
 have HC0:=Aside0.mk hc0
 clear hr0 hc0
 have HB:=zB w
 unfold tollbarref08_Waits.f at h
 have H:=h
 clear h
 replace H:=Option.bind_eq_some_iff.mp H
 obtain ⟨⟨t48,t52,t50,t51,t53,t49,t55,t56,t59⟩,A20,H⟩:=H
 try dsimp only at H
 have A2:=Aside0.mk A20
 clear A20
 by_cases c3:t49=0
 ·rw [if_pos c3] at H
  have c3b0:=beq_iff_eq.mpr c3
  have c3b1:=bne_eq_false_iff_eq.mpr c3
  clear c3
  obtain rfl:=Option.some.inj H
  go_enter Tryz.func18,Tryz.ntmps18
  go_wp2_with (first|((with_reducible refine gate_callee (f:=46) rfl ?_);refine goesL_ (some 14) rfl rfl Tryz.func46 zb7 rfl #[.slice A0 l0.length c0] rfl zb2 ?_;(with_reducible refine (tollbarref08_opened.calls k _ _ l0 t48 t52 t50 t51 t53 t49 t55 t56 t59 _ ?side1 ?side2 A2.out).mono ?_);(case side1=>exact zb9);(case side2=>exact HC0.out);rintro e w4 ⟨v60,v61,rfl,ho0,ho1,hb⟩;(try clear A2);refine ⟨_,rfl,?_⟩;have HO44:=Aside0.mk (Kd.R_lower ho0 (below_size zb0));have HO45:=Aside0.mk (Kd.R_lower ho1 (below_size zb0));replace HB:=Aside0.mk (below_step zb0 hb);try clear hb ho0 ho1)|((with_reducible refine gate_dst (N:=3) rfl ?_);refine box_event rfl (N:=3) rfl (cs:=#[.string (⟨#[]⟩:ByteArray),.string (⟨#[]⟩:ByteArray),.int .i64 0,.slice none 0 0,.slice none 0 0]) (t:=26) zS ?_;intro gb43 hg w5 hbox hb;replace HO44:=Aside0.mk (Kd.R_below zb67 hb);replace HO45:=Aside0.mk (Kd.R_below zb63 hb);have BK43:=Aside0.mk (hbox);have GW43:=zG hg zb0;have GE43:=GW43;replace HB:=Aside0.mk (below_step zb0 hb);clear hb hbox hg;obtain ⟨hcz6_0,hcz6_1,hcz6_2,hcz6_3,hcz6_4,hfz6_0,hfz6_1,hfz6_2,hfz6_3,hfz6_4⟩:=zq5 BK43.out;obtain ⟨Ao7,co7,eo7⟩:=Kd.R_slice HO44.out;subst eo7;obtain ⟨Ao8,co8,eo8⟩:=Kd.R_slice HO45.out;subst eo8))
  go_ret
  exact ⟨zb3,zb28⟩
 rw [if_neg c3] at H
 have c3b0:=beq_eq_false_iff_ne.mpr c3
 have c3b1:=bne_iff_ne.mpr c3
 by_cases c9:t50=0
 ·rw [if_pos c9] at H
  have c9b0:=beq_iff_eq.mpr c9
  have c9b1:=bne_eq_false_iff_eq.mpr c9
  clear c9
  obtain rfl:=Option.some.inj H
  go_enter Tryz.func18,Tryz.ntmps18
  go_wp2_with (first|((with_reducible refine gate_callee (f:=46) rfl ?_);refine goesL_ (some 14) rfl rfl Tryz.func46 zb7 rfl #[.slice A0 l0.length c0] rfl zb2 ?_;(with_reducible refine (tollbarref08_opened.calls k _ _ l0 t48 t52 t50 t51 t53 t49 t55 t56 t59 _ ?side1 ?side2 A2.out).mono ?_);(case side1=>exact zb9);(case side2=>exact HC0.out);rintro e w10 ⟨v60,v61,rfl,ho0,ho1,hb⟩;(try clear A2);refine ⟨_,rfl,?_⟩;have HO44:=Aside0.mk (Kd.R_lower ho0 (below_size zb0));have HO45:=Aside0.mk (Kd.R_lower ho1 (below_size zb0));replace HB:=Aside0.mk (below_step zb0 hb);try clear hb ho0 ho1)|((with_reducible refine gate_dst (N:=3) rfl ?_);refine box_event rfl (N:=3) rfl (cs:=#[.string (⟨#[]⟩:ByteArray),.string (⟨#[]⟩:ByteArray),.int .i64 0,.slice none 0 0,.slice none 0 0]) (t:=26) zS ?_;intro gb43 hg w11 hbox hb;replace HO44:=Aside0.mk (Kd.R_below zb67 hb);replace HO45:=Aside0.mk (Kd.R_below zb63 hb);have BK43:=Aside0.mk (hbox);have GW43:=zG hg zb0;have GE43:=GW43;replace HB:=Aside0.mk (below_step zb0 hb);clear hb hbox hg;obtain ⟨hcz12_0,hcz12_1,hcz12_2,hcz12_3,hcz12_4,hfz12_0,hfz12_1,hfz12_2,hfz12_3,hfz12_4⟩:=zq5 BK43.out;obtain ⟨Ao13,co13,eo13⟩:=Kd.R_slice HO44.out;subst eo13;obtain ⟨Ao14,co14,eo14⟩:=Kd.R_slice HO45.out;subst eo14))
  go_ret
  exact ⟨zb3,zb28⟩
 rw [if_neg c9] at H
 have c9b0:=beq_eq_false_iff_ne.mpr c9
 have c9b1:=bne_iff_ne.mpr c9
 replace H:=Option.bind_eq_some_iff.mp H
 obtain ⟨t58,A66,H⟩:=H
 try dsimp only at H
 have A15:=Aside0.mk A66
 clear A66
 by_cases c16:t58=true;rotate_left
 ·replace c16:=Bool.eq_false_iff.mpr c16
  subst c16
  rw [if_neg zf] at H
  obtain rfl:=Option.some.inj H
  go_enter Tryz.func18,Tryz.ntmps18
  go_wp2_with (first|((with_reducible refine gate_callee (f:=46) rfl ?_);refine goesL_ (some 14) rfl rfl Tryz.func46 zb7 rfl #[.slice A0 l0.length c0] rfl zb2 ?_;(with_reducible refine (tollbarref08_opened.calls k _ _ l0 t48 t52 t50 t51 t53 t49 t55 t56 t59 _ ?side1 ?side2 A2.out).mono ?_);(case side1=>exact zb9);(case side2=>exact HC0.out);rintro e w37 ⟨v60,v61,rfl,ho0,ho1,hb⟩;(try clear A2);refine ⟨_,rfl,?_⟩;have HO44:=Aside0.mk (Kd.R_lower ho0 (below_size zb0));have HO45:=Aside0.mk (Kd.R_lower ho1 (below_size zb0));replace HB:=Aside0.mk (below_step zb0 hb);try clear hb ho0 ho1)|((with_reducible refine gate_dst (N:=3) rfl ?_);refine box_event rfl (N:=3) rfl (cs:=#[.string (⟨#[]⟩:ByteArray),.string (⟨#[]⟩:ByteArray),.int .i64 0,.slice none 0 0,.slice none 0 0]) (t:=26) zS ?_;intro gb43 hg w38 hbox hb;replace HO44:=Aside0.mk (Kd.R_below zb67 hb);replace HO45:=Aside0.mk (Kd.R_below zb63 hb);have BK43:=Aside0.mk (hbox);have GW43:=zG hg zb0;have GE43:=GW43;replace HB:=Aside0.mk (below_step zb0 hb);clear hb hbox hg;obtain ⟨hcz39_0,hcz39_1,hcz39_2,hcz39_3,hcz39_4,hfz39_0,hfz39_1,hfz39_2,hfz39_3,hfz39_4⟩:=zq5 BK43.out;obtain ⟨Ao40,co40,eo40⟩:=Kd.R_slice HO44.out;subst eo40;obtain ⟨Ao41,co41,eo41⟩:=Kd.R_slice HO45.out;subst eo41)|(go_at_call 49;(with_reducible refine (tollbarref04_Has.calls k _ _ t51 (⟨#[101,120,112,101,99,116]⟩:ByteArray) (⟨#[49,48,48,45,99,111,110,116,105,110,117,101]⟩:ByteArray) false _ ?side1 ?side2 A15.out).mono ?_);(case side1=>refine (Kd.R_reads' (e:=36) (base:=w.heap.size) (ok:=fun k_=>True) (n:=t51.length) (c:=co40) ?_).2.2;exact zb46);(case side2=>exact (Kd.R_reads' HO44.out).2.1);rintro e w42 ⟨rfl,hb⟩;(try clear A15);replace HO44:=Aside0.mk (Kd.R_below zb46 hb);replace HO45:=Aside0.mk (Kd.R_below zb85 hb);replace BK43:=Aside0.mk (blk_below (g:=gb43) (o:=.cells #[.string t48,.string t52,.int .i64 t50,.slice Ao40 t51.length co40,.slice Ao41 t53.length co41] 26 (0,0)) zb51 hb);replace HB:=Aside0.mk (below_step zb28 hb);(try clear hb)))
  go_ret
  exact ⟨zb3,zb28⟩
 subst c16
 rw [if_pos rfl] at H
 by_cases c17:0 ≤ t49
 ·rw [if_pos c17] at H
  have c17b0:=eq_true c17
  have c17b1:=decide_eq_true c17
  clear c17
  by_cases c18:t49 ≤ (l0.length:Int)
  ·rw [if_pos c18] at H
   have c18b0:=eq_true c18
   have c18b1:=decide_eq_true c18
   clear c18
   replace H:=Option.bind_eq_some_iff.mp H
   obtain ⟨⟨t54,t68,t69,t62⟩,A67,H⟩:=H
   try dsimp only at H
   have A19:=Aside0.mk A67
   clear A67
   by_cases c20:t69=true
   ·subst c20
    rw [if_pos rfl] at H
    obtain rfl:=Option.some.inj H
    go_enter Tryz.func18,Tryz.ntmps18
    go_wp2_with (first|((with_reducible refine gate_callee (f:=46) rfl ?_);refine goesL_ (some 14) rfl rfl Tryz.func46 zb7 rfl #[.slice A0 l0.length c0] rfl zb2 ?_;(with_reducible refine (tollbarref08_opened.calls k _ _ l0 t48 t52 t50 t51 t53 t49 t55 t56 t59 _ ?side1 ?side2 A2.out).mono ?_);(case side1=>exact zb9);(case side2=>exact HC0.out);rintro e w21 ⟨v60,v61,rfl,ho0,ho1,hb⟩;(try clear A2);refine ⟨_,rfl,?_⟩;have HO44:=Aside0.mk (Kd.R_lower ho0 (below_size zb0));have HO45:=Aside0.mk (Kd.R_lower ho1 (below_size zb0));replace HB:=Aside0.mk (below_step zb0 hb);try clear hb ho0 ho1)|((with_reducible refine gate_dst (N:=3) rfl ?_);refine box_event rfl (N:=3) rfl (cs:=#[.string (⟨#[]⟩:ByteArray),.string (⟨#[]⟩:ByteArray),.int .i64 0,.slice none 0 0,.slice none 0 0]) (t:=26) zS ?_;intro gb43 hg w22 hbox hb;replace HO44:=Aside0.mk (Kd.R_below zb67 hb);replace HO45:=Aside0.mk (Kd.R_below zb63 hb);have BK43:=Aside0.mk (hbox);have GW43:=zG hg zb0;have GE43:=GW43;replace HB:=Aside0.mk (below_step zb0 hb);clear hb hbox hg;obtain ⟨hcz23_0,hcz23_1,hcz23_2,hcz23_3,hcz23_4,hfz23_0,hfz23_1,hfz23_2,hfz23_3,hfz23_4⟩:=zq5 BK43.out;obtain ⟨Ao24,co24,eo24⟩:=Kd.R_slice HO44.out;subst eo24;obtain ⟨Ao25,co25,eo25⟩:=Kd.R_slice HO45.out;subst eo25)|(go_at_call 49;(with_reducible refine (tollbarref04_Has.calls k _ _ t51 (⟨#[101,120,112,101,99,116]⟩:ByteArray) (⟨#[49,48,48,45,99,111,110,116,105,110,117,101]⟩:ByteArray) true _ ?side1 ?side2 A15.out).mono ?_);(case side1=>refine (Kd.R_reads' (e:=36) (base:=w.heap.size) (ok:=fun k_=>True) (n:=t51.length) (c:=co24) ?_).2.2;exact zb46);(case side2=>exact (Kd.R_reads' HO44.out).2.1);rintro e w26 ⟨rfl,hb⟩;(try clear A15);replace HO44:=Aside0.mk (Kd.R_below zb46 hb);replace HO45:=Aside0.mk (Kd.R_below zb85 hb);replace BK43:=Aside0.mk (blk_below (g:=gb43) (o:=.cells #[.string t48,.string t52,.int .i64 t50,.slice Ao24 t51.length co24,.slice Ao25 t53.length co25] 26 (0,0)) zb51 hb);replace HB:=Aside0.mk (below_step zb28 hb);(try clear hb);obtain ⟨i63,hi63,_,hsz27,_⟩:=info_parts info5;obtain ⟨A27,hcut27,hA27,hC27⟩:=print_drop_of (P:=Tryz.prog) (Value.int .u8) 0 22 5 .i64 Tryz.underlying22 hi63 hsz27 A0 c0 l0 t49 (of_decide_eq_true zb1) (of_decide_eq_true zb1) HC0.out;have HR57:=Aside0.mk (Kd.C_of_reads (h1:=fun _=>rfl) (hA27 _ (Kd.reads_of_C HR0.out)));have HC57:=Aside0.mk hC27;clear hA27 hC27 hi63 hsz27)|((with_reducible refine gate_callee (f:=47) rfl ?_);refine goesL_ (some 39) rfl rfl Tryz.func47 zb7 rfl #[.slice A27 (l0.drop (t49:Int).toNat).length (c0 - t49.toNat),.int .i64 t55,.bool t56] rfl zb96 ?_;(with_reducible refine (tollbarref08_Body.calls k _ _ (l0.drop (t49:Int).toNat) t55 t56 t54 t68 true t62 _ ?side1 ?side2 A19.out).mono ?_);(case side1=>exact zb116);(case side2=>exact HC57.out);rintro e w28 ⟨v70,rfl,ho0,hb⟩;(try clear A19);refine ⟨_,rfl,?_⟩;replace HO44:=Aside0.mk (Kd.R_below zb67 hb);have HO71:=Aside0.mk (Kd.R_lower (Kd.R_new' ho0 (Kd.R_lt zb63)) (below_size zb28));replace HO45:=Aside0.mk (Kd.R_elder' zb63 (Kd.R_base ho0) hb);replace BK43:=Aside0.mk (blk_below (g:=gb43) (o:=.cells #[.string t48,.string t52,.int .i64 t50,.slice Ao24 t51.length co24,.slice Ao25 t53.length co25] 26 (0,0)) (by (with_reducible repeat (first|refine blk_drewN ?_ _|refine blk_drew ?_|refine blk_alloc ?_ _));exact BK43.out) hb);replace HB:=Aside0.mk (below_step zb28 hb);try clear hb ho0))
    go_ret
    exact ⟨zb3,zb28⟩
   replace c20:=Bool.eq_false_iff.mpr c20
   subst c20
   rw [if_neg zf] at H
   obtain rfl:=Option.some.inj H
   go_enter Tryz.func18,Tryz.ntmps18
   go_wp2_with (first|((with_reducible refine gate_callee (f:=46) rfl ?_);refine goesL_ (some 14) rfl rfl Tryz.func46 zb7 rfl #[.slice A0 l0.length c0] rfl zb2 ?_;(with_reducible refine (tollbarref08_opened.calls k _ _ l0 t48 t52 t50 t51 t53 t49 t55 t56 t59 _ ?side1 ?side2 A2.out).mono ?_);(case side1=>exact zb9);(case side2=>exact HC0.out);rintro e w29 ⟨v60,v61,rfl,ho0,ho1,hb⟩;(try clear A2);refine ⟨_,rfl,?_⟩;have HO44:=Aside0.mk (Kd.R_lower ho0 (below_size zb0));have HO45:=Aside0.mk (Kd.R_lower ho1 (below_size zb0));replace HB:=Aside0.mk (below_step zb0 hb);try clear hb ho0 ho1)|((with_reducible refine gate_dst (N:=3) rfl ?_);refine box_event rfl (N:=3) rfl (cs:=#[.string (⟨#[]⟩:ByteArray),.string (⟨#[]⟩:ByteArray),.int .i64 0,.slice none 0 0,.slice none 0 0]) (t:=26) zS ?_;intro gb43 hg w30 hbox hb;replace HO44:=Aside0.mk (Kd.R_below zb67 hb);replace HO45:=Aside0.mk (Kd.R_below zb63 hb);have BK43:=Aside0.mk (hbox);have GW43:=zG hg zb0;have GE43:=GW43;replace HB:=Aside0.mk (below_step zb0 hb);clear hb hbox hg;obtain ⟨hcz31_0,hcz31_1,hcz31_2,hcz31_3,hcz31_4,hfz31_0,hfz31_1,hfz31_2,hfz31_3,hfz31_4⟩:=zq5 BK43.out;obtain ⟨Ao32,co32,eo32⟩:=Kd.R_slice HO44.out;subst eo32;obtain ⟨Ao33,co33,eo33⟩:=Kd.R_slice HO45.out;subst eo33)|(go_at_call 49;(with_reducible refine (tollbarref04_Has.calls k _ _ t51 (⟨#[101,120,112,101,99,116]⟩:ByteArray) (⟨#[49,48,48,45,99,111,110,116,105,110,117,101]⟩:ByteArray) true _ ?side1 ?side2 A15.out).mono ?_);(case side1=>refine (Kd.R_reads' (e:=36) (base:=w.heap.size) (ok:=fun k_=>True) (n:=t51.length) (c:=co32) ?_).2.2;exact zb46);(case side2=>exact (Kd.R_reads' HO44.out).2.1);rintro e w34 ⟨rfl,hb⟩;(try clear A15);replace HO44:=Aside0.mk (Kd.R_below zb46 hb);replace HO45:=Aside0.mk (Kd.R_below zb85 hb);replace BK43:=Aside0.mk (blk_below (g:=gb43) (o:=.cells #[.string t48,.string t52,.int .i64 t50,.slice Ao32 t51.length co32,.slice Ao33 t53.length co33] 26 (0,0)) zb51 hb);replace HB:=Aside0.mk (below_step zb28 hb);(try clear hb);obtain ⟨i65,hi65,_,hsz35,_⟩:=info_parts info5;obtain ⟨A35,hcut35,hA35,hC35⟩:=print_drop_of (P:=Tryz.prog) (Value.int .u8) 0 22 5 .i64 Tryz.underlying22 hi65 hsz35 A0 c0 l0 t49 (of_decide_eq_true zb1) (of_decide_eq_true zb1) HC0.out;have HR57:=Aside0.mk (Kd.C_of_reads (h1:=fun _=>rfl) (hA35 _ (Kd.reads_of_C HR0.out)));have HC57:=Aside0.mk hC35;clear hA35 hC35 hi65 hsz35)|((with_reducible refine gate_callee (f:=47) rfl ?_);refine goesL_ (some 39) rfl rfl Tryz.func47 zb7 rfl #[.slice A35 (l0.drop (t49:Int).toNat).length (c0 - t49.toNat),.int .i64 t55,.bool t56] rfl zb96 ?_;(with_reducible refine (tollbarref08_Body.calls k _ _ (l0.drop (t49:Int).toNat) t55 t56 t54 t68 false t62 _ ?side1 ?side2 A19.out).mono ?_);(case side1=>exact zb116);(case side2=>exact HC57.out);rintro e w36 ⟨v70,rfl,ho0,hb⟩;(try clear A19);refine ⟨_,rfl,?_⟩;replace HO44:=Aside0.mk (Kd.R_below zb67 hb);have HO71:=Aside0.mk (Kd.R_lower (Kd.R_new' ho0 (Kd.R_lt zb63)) (below_size zb28));replace HO45:=Aside0.mk (Kd.R_elder' zb63 (Kd.R_base ho0) hb);replace BK43:=Aside0.mk (blk_below (g:=gb43) (o:=.cells #[.string t48,.string t52,.int .i64 t50,.slice Ao32 t51.length co32,.slice Ao33 t53.length co33] 26 (0,0)) (by (with_reducible repeat (first|refine blk_drewN ?_ _|refine blk_drew ?_|refine blk_alloc ?_ _));exact BK43.out) hb);replace HB:=Aside0.mk (below_step zb28 hb);try clear hb ho0))
   go_ret
   exact ⟨zb3,zb28⟩
  ·rw [if_neg c18] at H
   exact absurd H zb24
 ·rw [if_neg c17] at H
  exact absurd H zb24
end Go.Proofs.YtagffbblalldiaaGreatDoor.P
