/- Each function below answers as its Lean twin says; plain lemmas; a row where its theorem stands. No further condition. (Laid by this repo's pack.py out of its texts and of the print's words.) -/
import Derived.Test.YtfjeinnemimjoaaGreatDoorZ0286bf23
import Derived.Test.YtfjeinnemimjoaaGreatDoorZ5929977a
namespace Go.Proofs.YtfjeinnemimjoaaGreatDoor.P
open Go.RowKit Go.Proofs.YtfjeinnemimjoaaGreatDoorW.PrintWords Go.Proofs.YtfjeinnemimjoaaGreatDoorW.PrintLast Go.Proofs.YtfjeinnemimjoaaGreatDoorW.PrintMore
attribute [local go_sem] max2_int min2_int max_two min_two max_three min_three max_four min_four
set_option linter.unusedVariables false
set_option linter.unusedSimpArgs false
mutual
def tollbarref05_Status.j0:Nat → ByteArray → Bool → Option (Int × ByteArray × Int × (List (S55)) × List Int × Bool)
 | 0,_,_=>none
 | k + 1,x0,x17=>if x17=true then (some (0,(⟨#[]⟩:ByteArray),0,([]:List (S55)),([]:List Int),false)) else (if 0 ≤ 8 then (if 8 ≤ (x0.size:Int) then ((tollbarref05_Version.f (x0.extract 0 8)).bind fun bt891=>(if bt891.2.2=true then (if bt891.1=1 then (tollbarref05_Status.j1 k x0 bt891.2.1 (decide (bt891.2.1 > 1))) else (tollbarref05_Status.j1 k x0 bt891.2.1 true)) else (tollbarref05_Status.j1 k x0 bt891.2.1 true))) else (none)) else (none))
def tollbarref05_Status.j1:Nat → ByteArray → Int → Bool → Option (Int × ByteArray × Int × (List (S55)) × List Int × Bool)
 | 0,_,_,_=>none
 | k + 1,x0,x5,x35=>if x35=true then (some (0,(⟨#[]⟩:ByteArray),0,([]:List (S55)),([]:List Int),false)) else (tollbarref05_Status.l0 k x0 x5 9)
def tollbarref05_Status.l0:Nat → ByteArray → Int → Int → Option (Int × ByteArray × Int × (List (S55)) × List Int × Bool)
 | 0,_,_,_=>none
 | k + 1,x0,x5,x7=>if x7 < 12 then (if 0 ≤ x7 then (if x7 < (x0.size:Int) then ((tollbarref02_Digit.f (bt x0 x7)).bind fun t894=>(if t894=true then (tollbarref05_Status.l0 k x0 x5 (wrap64 (x7 + 1))) else (some (0,(⟨#[]⟩:ByteArray),0,([]:List (S55)),([]:List Int),false)))) else (none)) else (none)) else (if 9 < (x0.size:Int) then (if 10 < (x0.size:Int) then (if 11 < (x0.size:Int) then (if (x0.size:Int) > 12 then (if 12 < (x0.size:Int) then (if (bt x0 12)=32 then (if 13 ≤ (x0.size:Int) then (if (((100 * (((bt x0 9) - 48) % 256)) + (10 * (((bt x0 10) - 48) % 256))) + (((bt x0 11) - 48) % 256)) < 100 then (some (0,(⟨#[]⟩:ByteArray),0,([]:List (S55)),([]:List Int),false)) else (if (((100 * (((bt x0 9) - 48) % 256)) + (10 * (((bt x0 10) - 48) % 256))) + (((bt x0 11) - 48) % 256)) > 599 then (some (0,(⟨#[]⟩:ByteArray),0,([]:List (S55)),([]:List Int),false)) else ((tollbarref02_Value.f k (x0.extract 13 x0.size)).bind fun t895=>(if t895=true then (if ((x0.extract 13 x0.size).size:Int) > 100 then (some (0,(⟨#[]⟩:ByteArray),0,([]:List (S55)),([]:List Int),false)) else (some (((100 * (((bt x0 9) - 48) % 256)) + (10 * (((bt x0 10) - 48) % 256))) + (((bt x0 11) - 48) % 256),x0.extract 13 x0.size,x5,([]:List (S55)),([]:List Int),true))) else (some (0,(⟨#[]⟩:ByteArray),0,([]:List (S55)),([]:List Int),false)))))) else (none)) else (some (0,(⟨#[]⟩:ByteArray),0,([]:List (S55)),([]:List Int),false))) else (none)) else (if (((100 * (((bt x0 9) - 48) % 256)) + (10 * (((bt x0 10) - 48) % 256))) + (((bt x0 11) - 48) % 256)) < 100 then (some (0,(⟨#[]⟩:ByteArray),0,([]:List (S55)),([]:List Int),false)) else (if (((100 * (((bt x0 9) - 48) % 256)) + (10 * (((bt x0 10) - 48) % 256))) + (((bt x0 11) - 48) % 256)) > 599 then (some (0,(⟨#[]⟩:ByteArray),0,([]:List (S55)),([]:List Int),false)) else ((tollbarref02_Value.f k (⟨#[]⟩:ByteArray)).bind fun t896=>(if t896=true then (if 0 > 100 then (some (0,(⟨#[]⟩:ByteArray),0,([]:List (S55)),([]:List Int),false)) else (some (((100 * (((bt x0 9) - 48) % 256)) + (10 * (((bt x0 10) - 48) % 256))) + (((bt x0 11) - 48) % 256),(⟨#[]⟩:ByteArray),x5,([]:List (S55)),([]:List Int),true))) else (some (0,(⟨#[]⟩:ByteArray),0,([]:List (S55)),([]:List Int),false))))))) else (none)) else (none)) else (none))
end
def tollbarref05_Status.f (k:Nat) (a0:ByteArray):Option (Int × ByteArray × Int × (List (S55)) × List Int × Bool):=if (a0.size:Int) < 12 then (tollbarref05_Status.j0 k a0 true) else (if 8 < (a0.size:Int) then (tollbarref05_Status.j0 k a0 ((bt a0 8) != 32)) else (none))
set_option maxHeartbeats 8000000 in
set_option maxRecDepth 100000 in
theorem tollbarref05_Status.calls (k:Nat) (a0:ByteArray) (r1:Int) (r2:ByteArray) (r3:Int) (r4:List (S55)) (r5:List Int) (r6:Bool) (w:World) (h:tollbarref05_Status.f k a0=some (r1,r2,r3,r4,r5,r6)) :
  Calls Tryz.prog 68 #[.string a0] w fun e w' => ∃ v3_ v4_:Value,e = .returned (.tuple #[.agg #[.int .i64 r1,.string r2,.int .i64 r3,v3_,v4_],.bool r6])∧Kd.R k55 55 w' w.heap.size (fun _=>True) v3_ r4∧Kd.R (Kd.int .u8) 5 w' w.heap.size (fun _=>True) v4_ r5∧Below w.heap.size w w' := by
 have hu25:=Tryz.underlying25
 have HB:=Aside0.mk (Below.refl w.heap.size w)
 have H:(if (a0.size:Int) < 12 then (tollbarref05_Status.j0 k a0 true) else (if 8 < (a0.size:Int) then (tollbarref05_Status.j0 k a0 ((bt a0 8) != 32)) else (none)))=some (r1,r2,r3,r4,r5,r6):=h
 clear h
 have HC2:=Aside0.mk H
 clear H
 go_enter Tryz.func68,Tryz.ntmps68
 go_upto_region 1 with (first|((with_reducible refine gate_dst (N:=2) rfl ?_);(try (refine gate_guard zb65 ?_;dsimp only));refine box_event ?hg (N:=2) ?hd (cs:=#[.int .i64 0,.string (⟨#[]⟩:ByteArray),.int .i64 0,.slice none 0 0,.slice none 0 0]) (t:=25) ?hr ?_;(case hd=>rfl);(case hg=>rfl);(case hr=>first|(go_simp;done)|(go_simp;rfl));intro gb53 hg w3 hbox hb;have GW53:=zG hg zb0;have GE53:=GW53;have BK53:=Aside0.mk hbox;replace HB:=Aside0.mk (below_step zb0 hb);clear hb hbox hg))
 repeat (go_quiet (first|((with_reducible refine gate_dst (N:=2) rfl ?_);(try (refine gate_guard zb65 ?_;dsimp only));refine box_event ?hg (N:=2) ?hd (cs:=#[.int .i64 0,.string (⟨#[]⟩:ByteArray),.int .i64 0,.slice none 0 0,.slice none 0 0]) (t:=25) ?hr ?_;(case hd=>rfl);(case hg=>rfl);(case hr=>first|(go_simp;done)|(go_simp;rfl));intro gb53 hg w3 hbox hb;have GW53:=zG hg zb0;have GE53:=GW53;have BK53:=Aside0.mk hbox;replace HB:=Aside0.mk (below_step zb0 hb);clear hb hbox hg));go_upto_region 1 with (first|((with_reducible refine gate_dst (N:=2) rfl ?_);(try (refine gate_guard zb65 ?_;dsimp only));refine box_event ?hg (N:=2) ?hd (cs:=#[.int .i64 0,.string (⟨#[]⟩:ByteArray),.int .i64 0,.slice none 0 0,.slice none 0 0]) (t:=25) ?hr ?_;(case hd=>rfl);(case hg=>rfl);(case hr=>first|(go_simp;done)|(go_simp;rfl));intro gb53 hg w3 hbox hb;have GW53:=zG hg zb0;have GE53:=GW53;have BK53:=Aside0.mk hbox;replace HB:=Aside0.mk (below_step zb0 hb);clear hb hbox hg)))
 (try simp only [Act.put,zqA,zqB,zqC])
 go_cut [17] (fun v17 wc => ∃ (kq:Nat) (x17_1:Bool),v17 = .bool x17_1∧Aside0 (tollbarref05_Status.j0 kq a0 x17_1=some (r1,r2,r3,r4,r5,r6))∧Aside0 (kq ≤ k)∧Aside0 (wc.heap[gb53]? = some (.cells #[.int .i64 0,.string (⟨#[]⟩:ByteArray),.int .i64 0,(.slice none 0 0),(.slice none 0 0)] 25 (0,0)))∧Aside0 (Below w.heap.size w wc))
 case first =>
  have H:=HC2.out
  clear HC2
  by_cases c4:(a0.size:Int) < 12
  ·rw [if_pos c4] at H
   have c4b0:decide ((a0.size:Int) < 12)=true:=decide_eq_true c4
   have c4b1:decide (a0.size < 12)=true:=decide_eq_true zb25
   clear c4
   (first|rw [c4b0]|(simp only [i64_w,i32_w];rw [c4b0])|rw [c4b1]|skip)
   have H' := Aside0.mk H
   clear H
   go_wp2
   repeat (go_quiet (fail);try go_wp2)
   go_meet
   case rel=>exact ⟨_,(true),zb4,H',⟨zb31⟩,⟨zb58⟩,⟨zb13⟩⟩
  rw [if_neg c4] at H
  have c4b0:decide ((a0.size:Int) < 12)=false:=decide_eq_false c4
  have c4b1:decide (a0.size < 12)=false:=decide_eq_false zb25
  clear c4
  (first|rw [c4b0]|(simp only [i64_w,i32_w];rw [c4b0])|rw [c4b1]|skip)
  by_cases c5:8 < (a0.size:Int);rotate_left
  ·rw [if_neg c5] at H
   exact absurd H zb27
  rw [if_pos c5] at H
  have c5b0:decide (8 < (a0.size:Int))=true:=decide_eq_true c5
  have c5b1:decide (8 < a0.size)=true:=decide_eq_true zb25
  clear c5
  have H' := Aside0.mk H
  clear H
  have p6:0 ≤ (8:Int):=zb25
  have q6:8 < a0.size:=(by have:(8:Int) < (a0.size:Int):=of_decide_eq_true (by first|(with_reducible assumption)|assumption);omega)
  have hx6 : ∀ h:8 < a0.size,((a0[8]'h).toNat:Int)=bt a0 8:=bt_at a0 8
  clear p6
  have qi6:(8 < (a0.size:Int))=True:=eq_true (of_decide_eq_true zb2)
  replace q6:=eq_true q6
  go_wp2
  repeat (go_quiet (fail);try go_wp2)
  go_meet
  case rel=>exact ⟨_,(((bt a0 8) != 32)),zb4,H',⟨zb31⟩,⟨zb58⟩,⟨zb13⟩⟩
 case rest =>
  clear HC2
  try clear p2
  try clear c4
  try clear c4b0
  try clear c4b1
  try clear c5
  try clear c5b0
  try clear c5b1
  try clear c6
  try clear p6
  try clear q6
  try clear hx6
  try clear qi6
  try clear p6
  try clear q6
  obtain ⟨kq,x17_1,rfl,HA,HJ1,BK53,HB⟩:=hcut
  cases kq with
  | zero=>exact absurd HA.out (by simp [tollbarref05_Status.j0])
  | succ kj1 =>
   have H:=HA.out
   clear HA
   simp only [tollbarref05_Status.j0] at H
   by_cases c7:x17_1=true
   ·subst c7
    rw [if_pos rfl] at H
    simp only [Option.some.injEq,Prod.mk.injEq] at H
    obtain ⟨rfl,rfl,rfl,rfl,rfl,rfl⟩:=H
    obtain ⟨hcz8_0,hcz8_1,hcz8_2,hcz8_3,hcz8_4,hfz8_0,hfz8_1,hfz8_2,hfz8_3,hfz8_4⟩:=zq5 BK53.out
    go_wp2
    repeat (go_quiet (fail);try go_wp2)
    refine bodyPost_ret (results_ct rfl _ _ gb53 25 #[.int .i64 0,.string (⟨#[]⟩:ByteArray),.int .i64 0,.slice none 0 0,.slice none 0 0] (0,0) _ rfl zb18 Tryz.underlying25 rfl zb9) rfl ?_
    exact ⟨_,_,zb3,zb7,zb7,zb13⟩
   replace c7:=Bool.eq_false_iff.mpr c7
   subst c7
   rw [if_neg (show ¬ (false=true) by decide)] at H
   by_cases c9:0 ≤ 8;rotate_left
   ·exact absurd c9 zb72
   rw [if_pos c9] at H
   have c9b0:=eq_true c9
   have c9b1:decide (0 ≤ 8)=true:=decide_eq_true c9
   clear c9
   by_cases c10:8 ≤ (a0.size:Int);rotate_left
   ·rw [if_neg c10] at H
    exact absurd H zb27
   rw [if_pos c10] at H
   have c10b0:=eq_true c10
   have c10b1:decide (8 ≤ (a0.size:Int))=true:=decide_eq_true c10
   clear c10
   replace H:=Option.bind_eq_some_iff.mp H
   obtain ⟨⟨t60,t59,t61⟩,A62,H⟩:=H
   try dsimp only at H
   have A11:=Aside0.mk A62
   clear A62
   have HC12:=Aside0.mk H
   clear H
   go_upto_region 4 with (first|(go_at_call 115;(with_reducible refine (tollbarref05_Version.calls (a0.extract 0 8) t60 t59 t61 _ A11.out).mono ?_);rintro e w' ⟨rfl,⟨nd,rfl⟩⟩;(try first|exact ⟨rfl,_,World.drewN_drewN _ _ _⟩|exact ⟨rfl,_,Eq.trans (World.drewN_drewN _ _ _) (congrArg (World.drewN _) (Nat.add_assoc _ _ _))⟩)))
   repeat (go_quiet (first|(go_at_call 115;(with_reducible refine (tollbarref05_Version.calls (a0.extract 0 8) t60 t59 t61 _ A11.out).mono ?_);rintro e w' ⟨rfl,⟨nd,rfl⟩⟩;(try first|exact ⟨rfl,_,World.drewN_drewN _ _ _⟩|exact ⟨rfl,_,Eq.trans (World.drewN_drewN _ _ _) (congrArg (World.drewN _) (Nat.add_assoc _ _ _))⟩)));go_upto_region 4 with (first|(go_at_call 115;(with_reducible refine (tollbarref05_Version.calls (a0.extract 0 8) t60 t59 t61 _ A11.out).mono ?_);rintro e w' ⟨rfl,⟨nd,rfl⟩⟩;(try first|exact ⟨rfl,_,World.drewN_drewN _ _ _⟩|exact ⟨rfl,_,Eq.trans (World.drewN_drewN _ _ _) (congrArg (World.drewN _) (Nat.add_assoc _ _ _))⟩))))
   (try simp only [Act.put,zqA,zqB,zqC])
   go_cut [35] (fun v35 wc => ∃ (kq:Nat) (x35_11:Bool),v35 = .bool x35_11∧Aside0 (tollbarref05_Status.j1 kq a0 t59 x35_11=some (r1,r2,r3,r4,r5,r6))∧Aside0 (kq ≤ kj1)∧Aside0 (wc.heap[gb53]? = some (.cells #[.int .i64 0,.string (⟨#[]⟩:ByteArray),.int .i64 0,(.slice none 0 0),(.slice none 0 0)] 25 (0,0)))∧Aside0 (Below w.heap.size w wc))
   case first =>
    have H:=HC12.out
    clear HC12
    by_cases c13:t61=true;rotate_left
    ·replace c13:=Bool.eq_false_iff.mpr c13
     subst c13
     rw [if_neg (show ¬ (false=true) by decide)] at H
     have H' := Aside0.mk H
     clear H
     go_wp2
     repeat (go_quiet (fail);try go_wp2)
     go_meet
     case rel=>exact ⟨_,(true),zb4,H',⟨by have:=HJ1.out;first|omega|exact Nat.le_refl _⟩,⟨zb58⟩,⟨zb13⟩⟩
    subst c13
    rw [if_pos rfl] at H
    by_cases c14:t60=1;rotate_left
    ·rw [if_neg c14] at H
     have c14b0:=beq_eq_false_iff_ne.mpr c14
     have c14b1:=bne_iff_ne.mpr c14
     (first|rw [c14b0]|(simp only [i64_w,i32_w];rw [c14b0])|rw [c14b1]|skip)
     have H' := Aside0.mk H
     clear H
     go_wp2
     repeat (go_quiet (fail);try go_wp2)
     go_meet
     case rel=>exact ⟨_,(true),zb4,H',⟨by have:=HJ1.out;first|omega|exact Nat.le_refl _⟩,⟨zb58⟩,⟨zb13⟩⟩
    rw [if_pos c14] at H
    have c14b0:=beq_iff_eq.mpr c14
    have c14b1:=bne_eq_false_iff_eq.mpr c14
    clear c14
    (first|rw [c14b0]|(simp only [i64_w,i32_w];rw [c14b0])|rw [c14b1]|skip)
    have H' := Aside0.mk H
    clear H
    go_wp2
    repeat (go_quiet (fail);try go_wp2)
    go_meet
    case rel=>exact ⟨_,(decide (t59 > 1)),zb4,H',⟨by have:=HJ1.out;first|omega|exact Nat.le_refl _⟩,⟨zb58⟩,⟨zb13⟩⟩
   case rest =>
    clear HC12
    try clear c1
    try clear p2
    try clear c4
    try clear c4b0
    try clear c4b1
    try clear c5
    try clear c5b0
    try clear c5b1
    try clear c6
    try clear p6
    try clear q6
    try clear hx6
    try clear qi6
    try clear c7
    try clear c9
    try clear c9b0
    try clear c9b1
    try clear c10
    try clear c10b0
    try clear c10b1
    try clear c13
    try clear c14
    try clear c14b0
    try clear c14b1
    try clear hcz8_0
    try clear hcz8_1
    try clear hcz8_2
    try clear hcz8_3
    try clear hcz8_4
    try clear hfz8_0
    try clear hfz8_1
    try clear hfz8_2
    try clear hfz8_3
    try clear hfz8_4
    try clear p2
    try clear p6
    try clear q6
    obtain ⟨kq,x35_11,rfl,HA,HJ11,BK53,HB⟩:=hcut
    cases kq with
    | zero=>exact absurd HA.out (by simp [tollbarref05_Status.j1])
    | succ kj11 =>
     have H:=HA.out
     clear HA
     simp only [tollbarref05_Status.j1] at H
     by_cases c15:x35_11=true
     ·subst c15
      rw [if_pos rfl] at H
      simp only [Option.some.injEq,Prod.mk.injEq] at H
      obtain ⟨rfl,rfl,rfl,rfl,rfl,rfl⟩:=H
      obtain ⟨hcz16_0,hcz16_1,hcz16_2,hcz16_3,hcz16_4,hfz16_0,hfz16_1,hfz16_2,hfz16_3,hfz16_4⟩:=zq5 BK53.out
      go_wp2
      repeat (go_quiet (fail);try go_wp2)
      refine bodyPost_ret (results_ct rfl _ _ gb53 25 #[.int .i64 0,.string (⟨#[]⟩:ByteArray),.int .i64 0,.slice none 0 0,.slice none 0 0] (0,0) _ rfl zb18 Tryz.underlying25 rfl zb9) rfl ?_
      exact ⟨_,_,zb3,zb7,zb7,zb13⟩
     replace c15:=Bool.eq_false_iff.mpr c15
     subst c15
     rw [if_neg (show ¬ (false=true) by decide)] at H
     have H' := Aside0.mk H
     clear H
     go_wp2
     repeat (go_quiet (fail);try go_wp2)
     go_loopg [7] kj11 (fun kq v7 w' => ∃ (x7_3:Int) (x58_3:Int) (x57_3:ByteArray) (x56_3:Int),v7 = .int .i64 x7_3∧Aside0 (tollbarref05_Status.l0 kq a0 t59 x7_3=some (r1,r2,r3,r4,r5,r6))∧Aside0 (kq ≤ kj11)∧Aside0 (w'.heap[gb53]? = some (.cells #[.int .i64 x58_3,.string x57_3,.int .i64 x56_3,(.slice none 0 0),(.slice none 0 0)] 25 (0,0)))∧Aside0 (Below w.heap.size w w'))
     case atStart=>exact ⟨(9),(0),((⟨#[]⟩:ByteArray)),(0),zb4,H',⟨Nat.le_refl _⟩,⟨zb58⟩,⟨zb13⟩⟩
     case round =>
      clear H'
      try clear c1
      try clear p2
      try clear c4
      try clear c4b0
      try clear c4b1
      try clear c5
      try clear c5b0
      try clear c5b1
      try clear c6
      try clear p6
      try clear q6
      try clear hx6
      try clear qi6
      try clear c7
      try clear c9
      try clear c9b0
      try clear c9b1
      try clear c10
      try clear c10b0
      try clear c10b1
      try clear c13
      try clear c14
      try clear c14b0
      try clear c14b1
      try clear c15
      try clear hcz16_0
      try clear hcz16_1
      try clear hcz16_2
      try clear hcz16_3
      try clear hcz16_4
      try clear hcz8_0
      try clear hcz8_1
      try clear hcz8_2
      try clear hcz8_3
      try clear hcz8_4
      try clear hfz16_0
      try clear hfz16_1
      try clear hfz16_2
      try clear hfz16_3
      try clear hfz16_4
      try clear hfz8_0
      try clear hfz8_1
      try clear hfz8_2
      try clear hfz8_3
      try clear hfz8_4
      try clear p2
      try clear p6
      try clear q6
      obtain ⟨x7_3,x58_3,x57_3,x56_3,rfl,HA,HK3,BK53,HB⟩:=hrel
      cases gk with
      | zero=>exact absurd HA.out (by simp [tollbarref05_Status.l0])
      | succ k3 =>
       have H:=HA.out
       clear HA
       simp only [tollbarref05_Status.l0] at H
       by_cases c17:x7_3 < 12
       ·rw [if_pos c17] at H
        have c17b0:decide (x7_3 < 12)=true:=decide_eq_true c17
        clear c17
        by_cases c18:0 ≤ x7_3;rotate_left
        ·rw [if_neg c18] at H
         exact absurd H zb27
        rw [if_pos c18] at H
        have c18b0:decide (0 ≤ x7_3)=true:=decide_eq_true c18
        clear c18
        by_cases c19:x7_3 < (a0.size:Int)
        ·rw [if_pos c19] at H
         have c19b0:decide (x7_3 < (a0.size:Int))=true:=decide_eq_true c19
         clear c19
         replace H:=Option.bind_eq_some_iff.mp H
         obtain ⟨t67,A63,H⟩:=H
         try dsimp only at H
         have A21:=Aside0.mk A63
         clear A63
         by_cases c22:t67=true
         ·subst c22
          rw [if_pos rfl] at H
          have H' := Aside0.mk H
          clear H
          have p20:0 ≤ (x7_3:Int):=of_decide_eq_true zb2
          have q20:x7_3 < (a0.size:Int):=of_decide_eq_true zb2
          have hx20:=bt_at a0 x7_3
          replace p20:=eq_true p20
          replace q20:=eq_true q20
          go_wp2_with (first|(go_at_call 105;(with_reducible refine (tollbarref02_Digit.calls (bt a0 x7_3) true _ A21.out).mono ?_);rintro e w' ⟨rfl,⟨nd,rfl⟩⟩;(try clear A21);(try first|exact ⟨rfl,_,World.drewN_drewN _ _ _⟩|exact ⟨rfl,_,Eq.trans (World.drewN_drewN _ _ _) (congrArg (World.drewN _) (Nat.add_assoc _ _ _))⟩)))
          repeat (go_quiet (first|(go_at_call 105;(with_reducible refine (tollbarref02_Digit.calls (bt a0 x7_3) true _ A21.out).mono ?_);rintro e w' ⟨rfl,⟨nd,rfl⟩⟩;(try clear A21);(try first|exact ⟨rfl,_,World.drewN_drewN _ _ _⟩|exact ⟨rfl,_,Eq.trans (World.drewN_drewN _ _ _) (congrArg (World.drewN _) (Nat.add_assoc _ _ _))⟩)));try go_wp2_with (first|(go_at_call 105;(with_reducible refine (tollbarref02_Digit.calls (bt a0 x7_3) true _ A21.out).mono ?_);rintro e w' ⟨rfl,⟨nd,rfl⟩⟩;(try clear A21);(try first|exact ⟨rfl,_,World.drewN_drewN _ _ _⟩|exact ⟨rfl,_,Eq.trans (World.drewN_drewN _ _ _) (congrArg (World.drewN _) (Nat.add_assoc _ _ _))⟩))))
          go_roundg k3
          case measure=>have:=HJ1.out;have:=HJ11.out;have:=HK3.out;omega
          case rel=>exact ⟨(wrap64 (x7_3 + 1)),(x58_3),(x57_3),(x56_3),zb4,H',⟨by have:=HJ1.out;have:=HJ11.out;have:=HK3.out;omega⟩,⟨zb58⟩,⟨zb13⟩⟩
         replace c22:=Bool.eq_false_iff.mpr c22
         subst c22
         rw [if_neg (show ¬ (false=true) by decide)] at H
         simp only [Option.some.injEq,Prod.mk.injEq] at H
         obtain ⟨rfl,rfl,rfl,rfl,rfl,rfl⟩:=H
         have p20:0 ≤ (x7_3:Int):=of_decide_eq_true zb2
         have q20:x7_3 < (a0.size:Int):=of_decide_eq_true zb2
         have hx20:=bt_at a0 x7_3
         replace p20:=eq_true p20
         replace q20:=eq_true q20
         go_wp2_with (first|(go_at_call 105;(with_reducible refine (tollbarref02_Digit.calls (bt a0 x7_3) false _ A21.out).mono ?_);rintro e w' ⟨rfl,⟨nd,rfl⟩⟩;(try clear A21);(try first|exact ⟨rfl,_,World.drewN_drewN _ _ _⟩|exact ⟨rfl,_,Eq.trans (World.drewN_drewN _ _ _) (congrArg (World.drewN _) (Nat.add_assoc _ _ _))⟩);have hcz23_0:wr.cell? ⟨gb53,0,none⟩=some (.int .i64 x58_3):=(blk_cell BK53.out 0).trans rfl;have hcz23_1:wr.cell? ⟨gb53,1,none⟩=some (.string x57_3):=(blk_cell BK53.out 1).trans rfl;have hcz23_2:wr.cell? ⟨gb53,2,none⟩=some (.int .i64 x56_3):=(blk_cell BK53.out 2).trans rfl;have hcz23_3:wr.cell? ⟨gb53,3,none⟩=some (.slice none 0 0):=(blk_cell BK53.out 3).trans rfl;have hcz23_4:wr.cell? ⟨gb53,4,none⟩=some (.slice none 0 0):=(blk_cell BK53.out 4).trans rfl;have hfz23_0:=blk_frozen BK53.out 0;have hfz23_1:=blk_frozen BK53.out 1;have hfz23_2:=blk_frozen BK53.out 2;have hfz23_3:=blk_frozen BK53.out 3;have hfz23_4:=blk_frozen BK53.out 4))
         repeat (go_quiet (first|(go_at_call 105;(with_reducible refine (tollbarref02_Digit.calls (bt a0 x7_3) false _ A21.out).mono ?_);rintro e w' ⟨rfl,⟨nd,rfl⟩⟩;(try clear A21);(try first|exact ⟨rfl,_,World.drewN_drewN _ _ _⟩|exact ⟨rfl,_,Eq.trans (World.drewN_drewN _ _ _) (congrArg (World.drewN _) (Nat.add_assoc _ _ _))⟩);have hcz23_0:wr.cell? ⟨gb53,0,none⟩=some (.int .i64 x58_3):=(blk_cell BK53.out 0).trans rfl;have hcz23_1:wr.cell? ⟨gb53,1,none⟩=some (.string x57_3):=(blk_cell BK53.out 1).trans rfl;have hcz23_2:wr.cell? ⟨gb53,2,none⟩=some (.int .i64 x56_3):=(blk_cell BK53.out 2).trans rfl;have hcz23_3:wr.cell? ⟨gb53,3,none⟩=some (.slice none 0 0):=(blk_cell BK53.out 3).trans rfl;have hcz23_4:wr.cell? ⟨gb53,4,none⟩=some (.slice none 0 0):=(blk_cell BK53.out 4).trans rfl;have hfz23_0:=blk_frozen BK53.out 0;have hfz23_1:=blk_frozen BK53.out 1;have hfz23_2:=blk_frozen BK53.out 2;have hfz23_3:=blk_frozen BK53.out 3;have hfz23_4:=blk_frozen BK53.out 4));try go_wp2_with (first|(go_at_call 105;(with_reducible refine (tollbarref02_Digit.calls (bt a0 x7_3) false _ A21.out).mono ?_);rintro e w' ⟨rfl,⟨nd,rfl⟩⟩;(try clear A21);(try first|exact ⟨rfl,_,World.drewN_drewN _ _ _⟩|exact ⟨rfl,_,Eq.trans (World.drewN_drewN _ _ _) (congrArg (World.drewN _) (Nat.add_assoc _ _ _))⟩);have hcz23_0:wr.cell? ⟨gb53,0,none⟩=some (.int .i64 x58_3):=(blk_cell BK53.out 0).trans rfl;have hcz23_1:wr.cell? ⟨gb53,1,none⟩=some (.string x57_3):=(blk_cell BK53.out 1).trans rfl;have hcz23_2:wr.cell? ⟨gb53,2,none⟩=some (.int .i64 x56_3):=(blk_cell BK53.out 2).trans rfl;have hcz23_3:wr.cell? ⟨gb53,3,none⟩=some (.slice none 0 0):=(blk_cell BK53.out 3).trans rfl;have hcz23_4:wr.cell? ⟨gb53,4,none⟩=some (.slice none 0 0):=(blk_cell BK53.out 4).trans rfl;have hfz23_0:=blk_frozen BK53.out 0;have hfz23_1:=blk_frozen BK53.out 1;have hfz23_2:=blk_frozen BK53.out 2;have hfz23_3:=blk_frozen BK53.out 3;have hfz23_4:=blk_frozen BK53.out 4)))
         refine bodyPost_ret (results_ct rfl _ _ gb53 25 #[.int .i64 0,.string (⟨#[]⟩:ByteArray),.int .i64 0,.slice none 0 0,.slice none 0 0] (0,0) _ rfl zb6 Tryz.underlying25 rfl zb9) rfl ?_
         exact ⟨_,_,zb3,zb7,zb7,zb13⟩
        ·rw [if_neg c19] at H
         exact absurd H zb27
       rw [if_neg c17] at H
       have c17b0:decide (x7_3 < 12)=false:=decide_eq_false c17
       clear c17
       by_cases c24:9 < (a0.size:Int)
       ·rw [if_pos c24] at H
        have c24b0:decide (9 < (a0.size:Int))=true:=decide_eq_true c24
        have c24b1:decide (9 < a0.size)=true:=decide_eq_true zb25
        clear c24
        by_cases c26:10 < (a0.size:Int);rotate_left
        ·rw [if_neg c26] at H
         exact absurd H zb27
        rw [if_pos c26] at H
        have c26b0:decide (10 < (a0.size:Int))=true:=decide_eq_true c26
        have c26b1:decide (10 < a0.size)=true:=decide_eq_true zb25
        clear c26
        by_cases c28:11 < (a0.size:Int)
        ·rw [if_pos c28] at H
         have c28b0:decide (11 < (a0.size:Int))=true:=decide_eq_true c28
         have c28b1:decide (11 < a0.size)=true:=decide_eq_true zb25
         clear c28
         by_cases c30:(a0.size:Int) > 12;rotate_left
         ·rw [if_neg c30] at H
          have c30b0:decide (12 < (a0.size:Int))=false:=decide_eq_false c30
          have c30b1:decide (12 < a0.size)=false:=decide_eq_false zb25
          clear c30
          by_cases c46:(((100 * (((bt a0 9) - 48) % 256)) + (10 * (((bt a0 10) - 48) % 256))) + (((bt a0 11) - 48) % 256)) < 100
          ·rw [if_pos c46] at H
           have c46b0:decide ((((100 * (((bt a0 9) - 48) % 256)) + (10 * (((bt a0 10) - 48) % 256))) + (((bt a0 11) - 48) % 256)) < 100)=true:=decide_eq_true c46
           clear c46
           simp only [Option.some.injEq,Prod.mk.injEq] at H
           obtain ⟨rfl,rfl,rfl,rfl,rfl,rfl⟩:=H
           have p25:0 ≤ (9:Int):=zb25
           have q25:9 < a0.size:=zb38
           have hx25 : ∀ h:9 < a0.size,((a0[9]'h).toNat:Int)=bt a0 9:=bt_at a0 9
           clear p25
           have qi25:(9 < (a0.size:Int))=True:=eq_true (of_decide_eq_true zb2)
           replace q25:=eq_true q25
           have p27:0 ≤ (10:Int):=zb25
           have q27:10 < a0.size:=zb36
           have hx27 : ∀ h:10 < a0.size,((a0[10]'h).toNat:Int)=bt a0 10:=bt_at a0 10
           clear p27
           have qi27:(10 < (a0.size:Int))=True:=eq_true (of_decide_eq_true zb2)
           replace q27:=eq_true q27
           have p29:0 ≤ (11:Int):=zb25
           have q29:11 < a0.size:=zb37
           have hx29 : ∀ h:11 < a0.size,((a0[11]'h).toNat:Int)=bt a0 11:=bt_at a0 11
           clear p29
           have qi29:(11 < (a0.size:Int))=True:=eq_true (of_decide_eq_true zb2)
           replace q29:=eq_true q29
           obtain ⟨hcz47_0,hcz47_1,hcz47_2,hcz47_3,hcz47_4,hfz47_0,hfz47_1,hfz47_2,hfz47_3,hfz47_4⟩:=zq5 BK53.out
           go_wp2
           repeat (go_quiet (fail);try go_wp2)
           refine bodyPost_ret (results_ct rfl _ _ gb53 25 #[.int .i64 0,.string (⟨#[]⟩:ByteArray),.int .i64 0,.slice none 0 0,.slice none 0 0] (0,0) _ rfl zb6 Tryz.underlying25 rfl zb9) rfl ?_
           exact ⟨_,_,zb3,zb7,zb7,zb13⟩
          rw [if_neg c46] at H
          have c46b0:decide ((((100 * (((bt a0 9) - 48) % 256)) + (10 * (((bt a0 10) - 48) % 256))) + (((bt a0 11) - 48) % 256)) < 100)=false:=decide_eq_false c46
          clear c46
          by_cases c48:(((100 * (((bt a0 9) - 48) % 256)) + (10 * (((bt a0 10) - 48) % 256))) + (((bt a0 11) - 48) % 256)) > 599
          ·rw [if_pos c48] at H
           have c48b0:decide (599 < (((100 * (((bt a0 9) - 48) % 256)) + (10 * (((bt a0 10) - 48) % 256))) + (((bt a0 11) - 48) % 256)))=true:=decide_eq_true c48
           clear c48
           simp only [Option.some.injEq,Prod.mk.injEq] at H
           obtain ⟨rfl,rfl,rfl,rfl,rfl,rfl⟩:=H
           have p25:0 ≤ (9:Int):=zb25
           have q25:9 < a0.size:=zb38
           have hx25 : ∀ h:9 < a0.size,((a0[9]'h).toNat:Int)=bt a0 9:=bt_at a0 9
           clear p25
           have qi25:(9 < (a0.size:Int))=True:=eq_true (of_decide_eq_true zb2)
           replace q25:=eq_true q25
           have p27:0 ≤ (10:Int):=zb25
           have q27:10 < a0.size:=zb36
           have hx27 : ∀ h:10 < a0.size,((a0[10]'h).toNat:Int)=bt a0 10:=bt_at a0 10
           clear p27
           have qi27:(10 < (a0.size:Int))=True:=eq_true (of_decide_eq_true zb2)
           replace q27:=eq_true q27
           have p29:0 ≤ (11:Int):=zb25
           have q29:11 < a0.size:=zb37
           have hx29 : ∀ h:11 < a0.size,((a0[11]'h).toNat:Int)=bt a0 11:=bt_at a0 11
           clear p29
           have qi29:(11 < (a0.size:Int))=True:=eq_true (of_decide_eq_true zb2)
           replace q29:=eq_true q29
           obtain ⟨hcz49_0,hcz49_1,hcz49_2,hcz49_3,hcz49_4,hfz49_0,hfz49_1,hfz49_2,hfz49_3,hfz49_4⟩:=zq5 BK53.out
           go_wp2
           repeat (go_quiet (fail);try go_wp2)
           refine bodyPost_ret (results_ct rfl _ _ gb53 25 #[.int .i64 0,.string (⟨#[]⟩:ByteArray),.int .i64 0,.slice none 0 0,.slice none 0 0] (0,0) _ rfl zb6 Tryz.underlying25 rfl zb9) rfl ?_
           exact ⟨_,_,zb3,zb7,zb7,zb13⟩
          rw [if_neg c48] at H
          have c48b0:decide (599 < (((100 * (((bt a0 9) - 48) % 256)) + (10 * (((bt a0 10) - 48) % 256))) + (((bt a0 11) - 48) % 256)))=false:=decide_eq_false c48
          clear c48
          replace H:=Option.bind_eq_some_iff.mp H
          obtain ⟨t70,A66,H⟩:=H
          try dsimp only at H
          have A50:=Aside0.mk A66
          clear A66
          by_cases c51:t70=true;rotate_left
          ·replace c51:=Bool.eq_false_iff.mpr c51
           subst c51
           rw [if_neg (show ¬ (false=true) by decide)] at H
           simp only [Option.some.injEq,Prod.mk.injEq] at H
           obtain ⟨rfl,rfl,rfl,rfl,rfl,rfl⟩:=H
           have p25:0 ≤ (9:Int):=zb25
           have q25:9 < a0.size:=zb38
           have hx25 : ∀ h:9 < a0.size,((a0[9]'h).toNat:Int)=bt a0 9:=bt_at a0 9
           clear p25
           have qi25:(9 < (a0.size:Int))=True:=eq_true (of_decide_eq_true zb2)
           replace q25:=eq_true q25
           have p27:0 ≤ (10:Int):=zb25
           have q27:10 < a0.size:=zb36
           have hx27 : ∀ h:10 < a0.size,((a0[10]'h).toNat:Int)=bt a0 10:=bt_at a0 10
           clear p27
           have qi27:(10 < (a0.size:Int))=True:=eq_true (of_decide_eq_true zb2)
           replace q27:=eq_true q27
           have p29:0 ≤ (11:Int):=zb25
           have q29:11 < a0.size:=zb37
           have hx29 : ∀ h:11 < a0.size,((a0[11]'h).toNat:Int)=bt a0 11:=bt_at a0 11
           clear p29
           have qi29:(11 < (a0.size:Int))=True:=eq_true (of_decide_eq_true zb2)
           replace q29:=eq_true q29
           go_wp2_with (first|(go_at_call 33;(with_reducible refine (tollbarref02_Value.calls k3 (⟨#[]⟩:ByteArray) false _ A50.out).mono ?_);rintro e w' ⟨rfl,⟨nd,rfl⟩⟩;(try clear A50);(try first|exact ⟨rfl,_,World.drewN_drewN _ _ _⟩|exact ⟨rfl,_,Eq.trans (World.drewN_drewN _ _ _) (congrArg (World.drewN _) (Nat.add_assoc _ _ _))⟩);have hcz55_0:wr.cell? ⟨gb53,0,none⟩=some (.int .i64 x58_3):=(blk_cell BK53.out 0).trans rfl;have hcz55_1:wr.cell? ⟨gb53,1,none⟩=some (.string x57_3):=(blk_cell BK53.out 1).trans rfl;have hcz55_2:wr.cell? ⟨gb53,2,none⟩=some (.int .i64 x56_3):=(blk_cell BK53.out 2).trans rfl;have hcz55_3:wr.cell? ⟨gb53,3,none⟩=some (.slice none 0 0):=(blk_cell BK53.out 3).trans rfl;have hcz55_4:wr.cell? ⟨gb53,4,none⟩=some (.slice none 0 0):=(blk_cell BK53.out 4).trans rfl;have hfz55_0:=blk_frozen BK53.out 0;have hfz55_1:=blk_frozen BK53.out 1;have hfz55_2:=blk_frozen BK53.out 2;have hfz55_3:=blk_frozen BK53.out 3;have hfz55_4:=blk_frozen BK53.out 4))
           repeat (go_quiet (first|(go_at_call 33;(with_reducible refine (tollbarref02_Value.calls k3 (⟨#[]⟩:ByteArray) false _ A50.out).mono ?_);rintro e w' ⟨rfl,⟨nd,rfl⟩⟩;(try clear A50);(try first|exact ⟨rfl,_,World.drewN_drewN _ _ _⟩|exact ⟨rfl,_,Eq.trans (World.drewN_drewN _ _ _) (congrArg (World.drewN _) (Nat.add_assoc _ _ _))⟩);have hcz55_0:wr.cell? ⟨gb53,0,none⟩=some (.int .i64 x58_3):=(blk_cell BK53.out 0).trans rfl;have hcz55_1:wr.cell? ⟨gb53,1,none⟩=some (.string x57_3):=(blk_cell BK53.out 1).trans rfl;have hcz55_2:wr.cell? ⟨gb53,2,none⟩=some (.int .i64 x56_3):=(blk_cell BK53.out 2).trans rfl;have hcz55_3:wr.cell? ⟨gb53,3,none⟩=some (.slice none 0 0):=(blk_cell BK53.out 3).trans rfl;have hcz55_4:wr.cell? ⟨gb53,4,none⟩=some (.slice none 0 0):=(blk_cell BK53.out 4).trans rfl;have hfz55_0:=blk_frozen BK53.out 0;have hfz55_1:=blk_frozen BK53.out 1;have hfz55_2:=blk_frozen BK53.out 2;have hfz55_3:=blk_frozen BK53.out 3;have hfz55_4:=blk_frozen BK53.out 4));try go_wp2_with (first|(go_at_call 33;(with_reducible refine (tollbarref02_Value.calls k3 (⟨#[]⟩:ByteArray) false _ A50.out).mono ?_);rintro e w' ⟨rfl,⟨nd,rfl⟩⟩;(try clear A50);(try first|exact ⟨rfl,_,World.drewN_drewN _ _ _⟩|exact ⟨rfl,_,Eq.trans (World.drewN_drewN _ _ _) (congrArg (World.drewN _) (Nat.add_assoc _ _ _))⟩);have hcz55_0:wr.cell? ⟨gb53,0,none⟩=some (.int .i64 x58_3):=(blk_cell BK53.out 0).trans rfl;have hcz55_1:wr.cell? ⟨gb53,1,none⟩=some (.string x57_3):=(blk_cell BK53.out 1).trans rfl;have hcz55_2:wr.cell? ⟨gb53,2,none⟩=some (.int .i64 x56_3):=(blk_cell BK53.out 2).trans rfl;have hcz55_3:wr.cell? ⟨gb53,3,none⟩=some (.slice none 0 0):=(blk_cell BK53.out 3).trans rfl;have hcz55_4:wr.cell? ⟨gb53,4,none⟩=some (.slice none 0 0):=(blk_cell BK53.out 4).trans rfl;have hfz55_0:=blk_frozen BK53.out 0;have hfz55_1:=blk_frozen BK53.out 1;have hfz55_2:=blk_frozen BK53.out 2;have hfz55_3:=blk_frozen BK53.out 3;have hfz55_4:=blk_frozen BK53.out 4)))
           refine bodyPost_ret (results_ct rfl _ _ gb53 25 #[.int .i64 0,.string (⟨#[]⟩:ByteArray),.int .i64 0,.slice none 0 0,.slice none 0 0] (0,0) _ rfl zb6 Tryz.underlying25 rfl zb9) rfl ?_
           exact ⟨_,_,zb3,zb7,zb7,zb13⟩
          subst c51
          rw [if_pos rfl] at H
          by_cases c52:0 > 100
          ·exact absurd c52 zb72
          rw [if_neg c52] at H
          have c52b0:decide (100 < 0)=false:=decide_eq_false c52
          clear c52
          simp only [Option.some.injEq,Prod.mk.injEq] at H
          obtain ⟨rfl,rfl,rfl,rfl,rfl,rfl⟩:=H
          have p25:0 ≤ (9:Int):=zb25
          have q25:9 < a0.size:=zb38
          have hx25 : ∀ h:9 < a0.size,((a0[9]'h).toNat:Int)=bt a0 9:=bt_at a0 9
          clear p25
          have qi25:(9 < (a0.size:Int))=True:=eq_true (of_decide_eq_true zb2)
          replace q25:=eq_true q25
          have p27:0 ≤ (10:Int):=zb25
          have q27:10 < a0.size:=zb36
          have hx27 : ∀ h:10 < a0.size,((a0[10]'h).toNat:Int)=bt a0 10:=bt_at a0 10
          clear p27
          have qi27:(10 < (a0.size:Int))=True:=eq_true (of_decide_eq_true zb2)
          replace q27:=eq_true q27
          have p29:0 ≤ (11:Int):=zb25
          have q29:11 < a0.size:=zb37
          have hx29 : ∀ h:11 < a0.size,((a0[11]'h).toNat:Int)=bt a0 11:=bt_at a0 11
          clear p29
          have qi29:(11 < (a0.size:Int))=True:=eq_true (of_decide_eq_true zb2)
          replace q29:=eq_true q29
          go_wp2_with (first|(go_at_call 33;(with_reducible refine (tollbarref02_Value.calls k3 (⟨#[]⟩:ByteArray) true _ A50.out).mono ?_);rintro e w' ⟨rfl,⟨nd,rfl⟩⟩;(try clear A50);(try first|exact ⟨rfl,_,World.drewN_drewN _ _ _⟩|exact ⟨rfl,_,Eq.trans (World.drewN_drewN _ _ _) (congrArg (World.drewN _) (Nat.add_assoc _ _ _))⟩);have hcz54_0:wr.cell? ⟨gb53,0,none⟩=some (.int .i64 x58_3):=(blk_cell BK53.out 0).trans rfl;have hcz54_1:wr.cell? ⟨gb53,1,none⟩=some (.string x57_3):=(blk_cell BK53.out 1).trans rfl;have hcz54_2:wr.cell? ⟨gb53,2,none⟩=some (.int .i64 x56_3):=(blk_cell BK53.out 2).trans rfl;have hcz54_3:wr.cell? ⟨gb53,3,none⟩=some (.slice none 0 0):=(blk_cell BK53.out 3).trans rfl;have hcz54_4:wr.cell? ⟨gb53,4,none⟩=some (.slice none 0 0):=(blk_cell BK53.out 4).trans rfl;have hfz54_0:=blk_frozen BK53.out 0;have hfz54_1:=blk_frozen BK53.out 1;have hfz54_2:=blk_frozen BK53.out 2;have hfz54_3:=blk_frozen BK53.out 3;have hfz54_4:=blk_frozen BK53.out 4))
          repeat (go_quiet (first|(go_at_call 33;(with_reducible refine (tollbarref02_Value.calls k3 (⟨#[]⟩:ByteArray) true _ A50.out).mono ?_);rintro e w' ⟨rfl,⟨nd,rfl⟩⟩;(try clear A50);(try first|exact ⟨rfl,_,World.drewN_drewN _ _ _⟩|exact ⟨rfl,_,Eq.trans (World.drewN_drewN _ _ _) (congrArg (World.drewN _) (Nat.add_assoc _ _ _))⟩);have hcz54_0:wr.cell? ⟨gb53,0,none⟩=some (.int .i64 x58_3):=(blk_cell BK53.out 0).trans rfl;have hcz54_1:wr.cell? ⟨gb53,1,none⟩=some (.string x57_3):=(blk_cell BK53.out 1).trans rfl;have hcz54_2:wr.cell? ⟨gb53,2,none⟩=some (.int .i64 x56_3):=(blk_cell BK53.out 2).trans rfl;have hcz54_3:wr.cell? ⟨gb53,3,none⟩=some (.slice none 0 0):=(blk_cell BK53.out 3).trans rfl;have hcz54_4:wr.cell? ⟨gb53,4,none⟩=some (.slice none 0 0):=(blk_cell BK53.out 4).trans rfl;have hfz54_0:=blk_frozen BK53.out 0;have hfz54_1:=blk_frozen BK53.out 1;have hfz54_2:=blk_frozen BK53.out 2;have hfz54_3:=blk_frozen BK53.out 3;have hfz54_4:=blk_frozen BK53.out 4));try go_wp2_with (first|(go_at_call 33;(with_reducible refine (tollbarref02_Value.calls k3 (⟨#[]⟩:ByteArray) true _ A50.out).mono ?_);rintro e w' ⟨rfl,⟨nd,rfl⟩⟩;(try clear A50);(try first|exact ⟨rfl,_,World.drewN_drewN _ _ _⟩|exact ⟨rfl,_,Eq.trans (World.drewN_drewN _ _ _) (congrArg (World.drewN _) (Nat.add_assoc _ _ _))⟩);have hcz54_0:wr.cell? ⟨gb53,0,none⟩=some (.int .i64 x58_3):=(blk_cell BK53.out 0).trans rfl;have hcz54_1:wr.cell? ⟨gb53,1,none⟩=some (.string x57_3):=(blk_cell BK53.out 1).trans rfl;have hcz54_2:wr.cell? ⟨gb53,2,none⟩=some (.int .i64 x56_3):=(blk_cell BK53.out 2).trans rfl;have hcz54_3:wr.cell? ⟨gb53,3,none⟩=some (.slice none 0 0):=(blk_cell BK53.out 3).trans rfl;have hcz54_4:wr.cell? ⟨gb53,4,none⟩=some (.slice none 0 0):=(blk_cell BK53.out 4).trans rfl;have hfz54_0:=blk_frozen BK53.out 0;have hfz54_1:=blk_frozen BK53.out 1;have hfz54_2:=blk_frozen BK53.out 2;have hfz54_3:=blk_frozen BK53.out 3;have hfz54_4:=blk_frozen BK53.out 4)))
          refine bodyPost_ret (results_ct rfl _ _ gb53 25 #[.int .i64 (((100 * (((bt a0 9) - 48) % 256)) + (10 * (((bt a0 10) - 48) % 256))) + (((bt a0 11) - 48) % 256)),.string (⟨#[]⟩:ByteArray),.int .i64 t59,.slice none 0 0,.slice none 0 0] (0,0) _ rfl (by (with_reducible repeat (first|refine blk_drewN ?_ _|refine blk_drew ?_|refine blk_alloc ?_ _));refine blk_put (cs:=#[.int .i64 (((100 * (((bt a0 9) - 48) % 256)) + (10 * (((bt a0 10) - 48) % 256))) + (((bt a0 11) - 48) % 256)),.string (⟨#[]⟩:ByteArray),.int .i64 t59,.slice none 0 0,.slice none 0 0]) ?_ 4 _ rfl;(with_reducible repeat (first|refine blk_drewN ?_ _|refine blk_drew ?_|refine blk_alloc ?_ _));refine blk_put (cs:=#[.int .i64 (((100 * (((bt a0 9) - 48) % 256)) + (10 * (((bt a0 10) - 48) % 256))) + (((bt a0 11) - 48) % 256)),.string (⟨#[]⟩:ByteArray),.int .i64 t59,.slice none 0 0,.slice none 0 0]) ?_ 3 _ rfl;(with_reducible repeat (first|refine blk_drewN ?_ _|refine blk_drew ?_|refine blk_alloc ?_ _));refine blk_put (cs:=#[.int .i64 (((100 * (((bt a0 9) - 48) % 256)) + (10 * (((bt a0 10) - 48) % 256))) + (((bt a0 11) - 48) % 256)),.string (⟨#[]⟩:ByteArray),.int .i64 x56_3,.slice none 0 0,.slice none 0 0]) ?_ 2 _ rfl;(with_reducible repeat (first|refine blk_drewN ?_ _|refine blk_drew ?_|refine blk_alloc ?_ _));refine blk_put (cs:=#[.int .i64 (((100 * (((bt a0 9) - 48) % 256)) + (10 * (((bt a0 10) - 48) % 256))) + (((bt a0 11) - 48) % 256)),.string x57_3,.int .i64 x56_3,.slice none 0 0,.slice none 0 0]) ?_ 1 _ rfl;(with_reducible repeat (first|refine blk_drewN ?_ _|refine blk_drew ?_|refine blk_alloc ?_ _));refine blk_put (cs:=#[.int .i64 x58_3,.string x57_3,.int .i64 x56_3,.slice none 0 0,.slice none 0 0]) ?_ 0 _ rfl;(with_reducible repeat (first|refine blk_drewN ?_ _|refine blk_drew ?_|refine blk_alloc ?_ _));exact BK53.out) Tryz.underlying25 rfl zb9) rfl ?_
          exact ⟨_,_,zb3,zb7,zb7,zb13⟩
         rw [if_pos c30] at H
         have c30b0:decide (12 < (a0.size:Int))=true:=decide_eq_true c30
         have c30b1:decide (12 < a0.size)=true:=decide_eq_true zb25
         clear c30
         by_cases c31:12 < (a0.size:Int)
         ·rw [if_pos c31] at H
          have c31b0:decide (12 < (a0.size:Int))=true:=decide_eq_true c31
          have c31b1:decide (12 < a0.size)=true:=decide_eq_true zb25
          clear c31
          by_cases c33:(bt a0 12)=32
          ·rw [if_pos c33] at H
           have c33b0:=beq_iff_eq.mpr c33
           have c33b1:=bne_eq_false_iff_eq.mpr c33
           clear c33
           by_cases c34:13 ≤ (a0.size:Int)
           ·rw [if_pos c34] at H
            have c34b0:=eq_true c34
            have c34b1:decide (13 ≤ (a0.size:Int))=true:=decide_eq_true c34
            clear c34
            by_cases c35:(((100 * (((bt a0 9) - 48) % 256)) + (10 * (((bt a0 10) - 48) % 256))) + (((bt a0 11) - 48) % 256)) < 100
            ·rw [if_pos c35] at H
             have c35b0:decide ((((100 * (((bt a0 9) - 48) % 256)) + (10 * (((bt a0 10) - 48) % 256))) + (((bt a0 11) - 48) % 256)) < 100)=true:=decide_eq_true c35
             clear c35
             simp only [Option.some.injEq,Prod.mk.injEq] at H
             obtain ⟨rfl,rfl,rfl,rfl,rfl,rfl⟩:=H
             have p25:0 ≤ (9:Int):=zb25
             have q25:9 < a0.size:=zb38
             have hx25 : ∀ h:9 < a0.size,((a0[9]'h).toNat:Int)=bt a0 9:=bt_at a0 9
             clear p25
             have qi25:(9 < (a0.size:Int))=True:=eq_true (of_decide_eq_true zb2)
             replace q25:=eq_true q25
             have p27:0 ≤ (10:Int):=zb25
             have q27:10 < a0.size:=zb36
             have hx27 : ∀ h:10 < a0.size,((a0[10]'h).toNat:Int)=bt a0 10:=bt_at a0 10
             clear p27
             have qi27:(10 < (a0.size:Int))=True:=eq_true (of_decide_eq_true zb2)
             replace q27:=eq_true q27
             have p29:0 ≤ (11:Int):=zb25
             have q29:11 < a0.size:=zb37
             have hx29 : ∀ h:11 < a0.size,((a0[11]'h).toNat:Int)=bt a0 11:=bt_at a0 11
             clear p29
             have qi29:(11 < (a0.size:Int))=True:=eq_true (of_decide_eq_true zb2)
             replace q29:=eq_true q29
             have p32:0 ≤ (12:Int):=zb25
             have q32:12 < a0.size:=zb69
             have hx32 : ∀ h:12 < a0.size,((a0[12]'h).toNat:Int)=bt a0 12:=bt_at a0 12
             clear p32
             have qi32:(12 < (a0.size:Int))=True:=eq_true (of_decide_eq_true zb2)
             replace q32:=eq_true q32
             obtain ⟨hcz36_0,hcz36_1,hcz36_2,hcz36_3,hcz36_4,hfz36_0,hfz36_1,hfz36_2,hfz36_3,hfz36_4⟩:=zq5 BK53.out
             go_wp2
             repeat (go_quiet (fail);try go_wp2)
             refine bodyPost_ret (results_ct rfl _ _ gb53 25 #[.int .i64 0,.string (⟨#[]⟩:ByteArray),.int .i64 0,.slice none 0 0,.slice none 0 0] (0,0) _ rfl zb6 Tryz.underlying25 rfl zb9) rfl ?_
             exact ⟨_,_,zb3,zb7,zb7,zb13⟩
            rw [if_neg c35] at H
            have c35b0:decide ((((100 * (((bt a0 9) - 48) % 256)) + (10 * (((bt a0 10) - 48) % 256))) + (((bt a0 11) - 48) % 256)) < 100)=false:=decide_eq_false c35
            clear c35
            by_cases c37:(((100 * (((bt a0 9) - 48) % 256)) + (10 * (((bt a0 10) - 48) % 256))) + (((bt a0 11) - 48) % 256)) > 599
            ·rw [if_pos c37] at H
             have c37b0:decide (599 < (((100 * (((bt a0 9) - 48) % 256)) + (10 * (((bt a0 10) - 48) % 256))) + (((bt a0 11) - 48) % 256)))=true:=decide_eq_true c37
             clear c37
             simp only [Option.some.injEq,Prod.mk.injEq] at H
             obtain ⟨rfl,rfl,rfl,rfl,rfl,rfl⟩:=H
             have p25:0 ≤ (9:Int):=zb25
             have q25:9 < a0.size:=zb38
             have hx25 : ∀ h:9 < a0.size,((a0[9]'h).toNat:Int)=bt a0 9:=bt_at a0 9
             clear p25
             have qi25:(9 < (a0.size:Int))=True:=eq_true (of_decide_eq_true zb2)
             replace q25:=eq_true q25
             have p27:0 ≤ (10:Int):=zb25
             have q27:10 < a0.size:=zb36
             have hx27 : ∀ h:10 < a0.size,((a0[10]'h).toNat:Int)=bt a0 10:=bt_at a0 10
             clear p27
             have qi27:(10 < (a0.size:Int))=True:=eq_true (of_decide_eq_true zb2)
             replace q27:=eq_true q27
             have p29:0 ≤ (11:Int):=zb25
             have q29:11 < a0.size:=zb37
             have hx29 : ∀ h:11 < a0.size,((a0[11]'h).toNat:Int)=bt a0 11:=bt_at a0 11
             clear p29
             have qi29:(11 < (a0.size:Int))=True:=eq_true (of_decide_eq_true zb2)
             replace q29:=eq_true q29
             have p32:0 ≤ (12:Int):=zb25
             have q32:12 < a0.size:=zb69
             have hx32 : ∀ h:12 < a0.size,((a0[12]'h).toNat:Int)=bt a0 12:=bt_at a0 12
             clear p32
             have qi32:(12 < (a0.size:Int))=True:=eq_true (of_decide_eq_true zb2)
             replace q32:=eq_true q32
             obtain ⟨hcz38_0,hcz38_1,hcz38_2,hcz38_3,hcz38_4,hfz38_0,hfz38_1,hfz38_2,hfz38_3,hfz38_4⟩:=zq5 BK53.out
             go_wp2
             repeat (go_quiet (fail);try go_wp2)
             refine bodyPost_ret (results_ct rfl _ _ gb53 25 #[.int .i64 0,.string (⟨#[]⟩:ByteArray),.int .i64 0,.slice none 0 0,.slice none 0 0] (0,0) _ rfl zb6 Tryz.underlying25 rfl zb9) rfl ?_
             exact ⟨_,_,zb3,zb7,zb7,zb13⟩
            rw [if_neg c37] at H
            have c37b0:decide (599 < (((100 * (((bt a0 9) - 48) % 256)) + (10 * (((bt a0 10) - 48) % 256))) + (((bt a0 11) - 48) % 256)))=false:=decide_eq_false c37
            clear c37
            replace H:=Option.bind_eq_some_iff.mp H
            obtain ⟨t69,A65,H⟩:=H
            try dsimp only at H
            have A39:=Aside0.mk A65
            clear A65
            by_cases c40:t69=true
            ·subst c40
             rw [if_pos rfl] at H
             by_cases c41:((a0.extract 13 a0.size).size:Int) > 100
             ·rw [if_pos c41] at H
              have c41b0:decide (100 < ((a0.extract 13 a0.size).size:Int))=true:=decide_eq_true c41
              have c41b9:decide (100 < ((a0.size - 13:Nat):Int))=true:=by rw [← c41b0,ByteArray.size_extract,Nat.min_self]
              have c41b1:decide (100 < (a0.extract 13 a0.size).size)=true:=decide_eq_true zb25
              clear c41
              simp only [Option.some.injEq,Prod.mk.injEq] at H
              obtain ⟨rfl,rfl,rfl,rfl,rfl,rfl⟩:=H
              have p25:0 ≤ (9:Int):=zb25
              have q25:9 < a0.size:=zb38
              have hx25 : ∀ h:9 < a0.size,((a0[9]'h).toNat:Int)=bt a0 9:=bt_at a0 9
              clear p25
              have qi25:(9 < (a0.size:Int))=True:=eq_true (of_decide_eq_true zb2)
              replace q25:=eq_true q25
              have p27:0 ≤ (10:Int):=zb25
              have q27:10 < a0.size:=zb36
              have hx27 : ∀ h:10 < a0.size,((a0[10]'h).toNat:Int)=bt a0 10:=bt_at a0 10
              clear p27
              have qi27:(10 < (a0.size:Int))=True:=eq_true (of_decide_eq_true zb2)
              replace q27:=eq_true q27
              have p29:0 ≤ (11:Int):=zb25
              have q29:11 < a0.size:=zb37
              have hx29 : ∀ h:11 < a0.size,((a0[11]'h).toNat:Int)=bt a0 11:=bt_at a0 11
              clear p29
              have qi29:(11 < (a0.size:Int))=True:=eq_true (of_decide_eq_true zb2)
              replace q29:=eq_true q29
              have p32:0 ≤ (12:Int):=zb25
              have q32:12 < a0.size:=zb69
              have hx32 : ∀ h:12 < a0.size,((a0[12]'h).toNat:Int)=bt a0 12:=bt_at a0 12
              clear p32
              have qi32:(12 < (a0.size:Int))=True:=eq_true (of_decide_eq_true zb2)
              replace q32:=eq_true q32
              go_wp2_with (first|(go_at_call 33;(with_reducible refine (tollbarref02_Value.calls k3 (a0.extract 13 a0.size) true _ A39.out).mono ?_);rintro e w' ⟨rfl,⟨nd,rfl⟩⟩;(try clear A39);(try first|exact ⟨rfl,_,World.drewN_drewN _ _ _⟩|exact ⟨rfl,_,Eq.trans (World.drewN_drewN _ _ _) (congrArg (World.drewN _) (Nat.add_assoc _ _ _))⟩);have hcz42_0:wr.cell? ⟨gb53,0,none⟩=some (.int .i64 x58_3):=(blk_cell BK53.out 0).trans rfl;have hcz42_1:wr.cell? ⟨gb53,1,none⟩=some (.string x57_3):=(blk_cell BK53.out 1).trans rfl;have hcz42_2:wr.cell? ⟨gb53,2,none⟩=some (.int .i64 x56_3):=(blk_cell BK53.out 2).trans rfl;have hcz42_3:wr.cell? ⟨gb53,3,none⟩=some (.slice none 0 0):=(blk_cell BK53.out 3).trans rfl;have hcz42_4:wr.cell? ⟨gb53,4,none⟩=some (.slice none 0 0):=(blk_cell BK53.out 4).trans rfl;have hfz42_0:=blk_frozen BK53.out 0;have hfz42_1:=blk_frozen BK53.out 1;have hfz42_2:=blk_frozen BK53.out 2;have hfz42_3:=blk_frozen BK53.out 3;have hfz42_4:=blk_frozen BK53.out 4))
              repeat (go_quiet (first|(go_at_call 33;(with_reducible refine (tollbarref02_Value.calls k3 (a0.extract 13 a0.size) true _ A39.out).mono ?_);rintro e w' ⟨rfl,⟨nd,rfl⟩⟩;(try clear A39);(try first|exact ⟨rfl,_,World.drewN_drewN _ _ _⟩|exact ⟨rfl,_,Eq.trans (World.drewN_drewN _ _ _) (congrArg (World.drewN _) (Nat.add_assoc _ _ _))⟩);have hcz42_0:wr.cell? ⟨gb53,0,none⟩=some (.int .i64 x58_3):=(blk_cell BK53.out 0).trans rfl;have hcz42_1:wr.cell? ⟨gb53,1,none⟩=some (.string x57_3):=(blk_cell BK53.out 1).trans rfl;have hcz42_2:wr.cell? ⟨gb53,2,none⟩=some (.int .i64 x56_3):=(blk_cell BK53.out 2).trans rfl;have hcz42_3:wr.cell? ⟨gb53,3,none⟩=some (.slice none 0 0):=(blk_cell BK53.out 3).trans rfl;have hcz42_4:wr.cell? ⟨gb53,4,none⟩=some (.slice none 0 0):=(blk_cell BK53.out 4).trans rfl;have hfz42_0:=blk_frozen BK53.out 0;have hfz42_1:=blk_frozen BK53.out 1;have hfz42_2:=blk_frozen BK53.out 2;have hfz42_3:=blk_frozen BK53.out 3;have hfz42_4:=blk_frozen BK53.out 4));try go_wp2_with (first|(go_at_call 33;(with_reducible refine (tollbarref02_Value.calls k3 (a0.extract 13 a0.size) true _ A39.out).mono ?_);rintro e w' ⟨rfl,⟨nd,rfl⟩⟩;(try clear A39);(try first|exact ⟨rfl,_,World.drewN_drewN _ _ _⟩|exact ⟨rfl,_,Eq.trans (World.drewN_drewN _ _ _) (congrArg (World.drewN _) (Nat.add_assoc _ _ _))⟩);have hcz42_0:wr.cell? ⟨gb53,0,none⟩=some (.int .i64 x58_3):=(blk_cell BK53.out 0).trans rfl;have hcz42_1:wr.cell? ⟨gb53,1,none⟩=some (.string x57_3):=(blk_cell BK53.out 1).trans rfl;have hcz42_2:wr.cell? ⟨gb53,2,none⟩=some (.int .i64 x56_3):=(blk_cell BK53.out 2).trans rfl;have hcz42_3:wr.cell? ⟨gb53,3,none⟩=some (.slice none 0 0):=(blk_cell BK53.out 3).trans rfl;have hcz42_4:wr.cell? ⟨gb53,4,none⟩=some (.slice none 0 0):=(blk_cell BK53.out 4).trans rfl;have hfz42_0:=blk_frozen BK53.out 0;have hfz42_1:=blk_frozen BK53.out 1;have hfz42_2:=blk_frozen BK53.out 2;have hfz42_3:=blk_frozen BK53.out 3;have hfz42_4:=blk_frozen BK53.out 4)))
              refine bodyPost_ret (results_ct rfl _ _ gb53 25 #[.int .i64 0,.string (⟨#[]⟩:ByteArray),.int .i64 0,.slice none 0 0,.slice none 0 0] (0,0) _ rfl zb6 Tryz.underlying25 rfl zb9) rfl ?_
              exact ⟨_,_,zb3,zb7,zb7,zb13⟩
             ·rw [if_neg c41] at H
              have c41b0:decide (100 < ((a0.extract 13 a0.size).size:Int))=false:=decide_eq_false c41
              have c41b9:decide (100 < ((a0.size - 13:Nat):Int))=false:=by rw [← c41b0,ByteArray.size_extract,Nat.min_self]
              have c41b1:decide (100 < (a0.extract 13 a0.size).size)=false:=decide_eq_false zb25
              clear c41
              simp only [Option.some.injEq,Prod.mk.injEq] at H
              obtain ⟨rfl,rfl,rfl,rfl,rfl,rfl⟩:=H
              have p25:0 ≤ (9:Int):=zb25
              have q25:9 < a0.size:=zb38
              have hx25 : ∀ h:9 < a0.size,((a0[9]'h).toNat:Int)=bt a0 9:=bt_at a0 9
              clear p25
              have qi25:(9 < (a0.size:Int))=True:=eq_true (of_decide_eq_true zb2)
              replace q25:=eq_true q25
              have p27:0 ≤ (10:Int):=zb25
              have q27:10 < a0.size:=zb36
              have hx27 : ∀ h:10 < a0.size,((a0[10]'h).toNat:Int)=bt a0 10:=bt_at a0 10
              clear p27
              have qi27:(10 < (a0.size:Int))=True:=eq_true (of_decide_eq_true zb2)
              replace q27:=eq_true q27
              have p29:0 ≤ (11:Int):=zb25
              have q29:11 < a0.size:=zb37
              have hx29 : ∀ h:11 < a0.size,((a0[11]'h).toNat:Int)=bt a0 11:=bt_at a0 11
              clear p29
              have qi29:(11 < (a0.size:Int))=True:=eq_true (of_decide_eq_true zb2)
              replace q29:=eq_true q29
              have p32:0 ≤ (12:Int):=zb25
              have q32:12 < a0.size:=zb69
              have hx32 : ∀ h:12 < a0.size,((a0[12]'h).toNat:Int)=bt a0 12:=bt_at a0 12
              clear p32
              have qi32:(12 < (a0.size:Int))=True:=eq_true (of_decide_eq_true zb2)
              replace q32:=eq_true q32
              go_wp2_with (first|(go_at_call 33;(with_reducible refine (tollbarref02_Value.calls k3 (a0.extract 13 a0.size) true _ A39.out).mono ?_);rintro e w' ⟨rfl,⟨nd,rfl⟩⟩;(try clear A39);(try first|exact ⟨rfl,_,World.drewN_drewN _ _ _⟩|exact ⟨rfl,_,Eq.trans (World.drewN_drewN _ _ _) (congrArg (World.drewN _) (Nat.add_assoc _ _ _))⟩);have hcz43_0:wr.cell? ⟨gb53,0,none⟩=some (.int .i64 x58_3):=(blk_cell BK53.out 0).trans rfl;have hcz43_1:wr.cell? ⟨gb53,1,none⟩=some (.string x57_3):=(blk_cell BK53.out 1).trans rfl;have hcz43_2:wr.cell? ⟨gb53,2,none⟩=some (.int .i64 x56_3):=(blk_cell BK53.out 2).trans rfl;have hcz43_3:wr.cell? ⟨gb53,3,none⟩=some (.slice none 0 0):=(blk_cell BK53.out 3).trans rfl;have hcz43_4:wr.cell? ⟨gb53,4,none⟩=some (.slice none 0 0):=(blk_cell BK53.out 4).trans rfl;have hfz43_0:=blk_frozen BK53.out 0;have hfz43_1:=blk_frozen BK53.out 1;have hfz43_2:=blk_frozen BK53.out 2;have hfz43_3:=blk_frozen BK53.out 3;have hfz43_4:=blk_frozen BK53.out 4))
              repeat (go_quiet (first|(go_at_call 33;(with_reducible refine (tollbarref02_Value.calls k3 (a0.extract 13 a0.size) true _ A39.out).mono ?_);rintro e w' ⟨rfl,⟨nd,rfl⟩⟩;(try clear A39);(try first|exact ⟨rfl,_,World.drewN_drewN _ _ _⟩|exact ⟨rfl,_,Eq.trans (World.drewN_drewN _ _ _) (congrArg (World.drewN _) (Nat.add_assoc _ _ _))⟩);have hcz43_0:wr.cell? ⟨gb53,0,none⟩=some (.int .i64 x58_3):=(blk_cell BK53.out 0).trans rfl;have hcz43_1:wr.cell? ⟨gb53,1,none⟩=some (.string x57_3):=(blk_cell BK53.out 1).trans rfl;have hcz43_2:wr.cell? ⟨gb53,2,none⟩=some (.int .i64 x56_3):=(blk_cell BK53.out 2).trans rfl;have hcz43_3:wr.cell? ⟨gb53,3,none⟩=some (.slice none 0 0):=(blk_cell BK53.out 3).trans rfl;have hcz43_4:wr.cell? ⟨gb53,4,none⟩=some (.slice none 0 0):=(blk_cell BK53.out 4).trans rfl;have hfz43_0:=blk_frozen BK53.out 0;have hfz43_1:=blk_frozen BK53.out 1;have hfz43_2:=blk_frozen BK53.out 2;have hfz43_3:=blk_frozen BK53.out 3;have hfz43_4:=blk_frozen BK53.out 4));try go_wp2_with (first|(go_at_call 33;(with_reducible refine (tollbarref02_Value.calls k3 (a0.extract 13 a0.size) true _ A39.out).mono ?_);rintro e w' ⟨rfl,⟨nd,rfl⟩⟩;(try clear A39);(try first|exact ⟨rfl,_,World.drewN_drewN _ _ _⟩|exact ⟨rfl,_,Eq.trans (World.drewN_drewN _ _ _) (congrArg (World.drewN _) (Nat.add_assoc _ _ _))⟩);have hcz43_0:wr.cell? ⟨gb53,0,none⟩=some (.int .i64 x58_3):=(blk_cell BK53.out 0).trans rfl;have hcz43_1:wr.cell? ⟨gb53,1,none⟩=some (.string x57_3):=(blk_cell BK53.out 1).trans rfl;have hcz43_2:wr.cell? ⟨gb53,2,none⟩=some (.int .i64 x56_3):=(blk_cell BK53.out 2).trans rfl;have hcz43_3:wr.cell? ⟨gb53,3,none⟩=some (.slice none 0 0):=(blk_cell BK53.out 3).trans rfl;have hcz43_4:wr.cell? ⟨gb53,4,none⟩=some (.slice none 0 0):=(blk_cell BK53.out 4).trans rfl;have hfz43_0:=blk_frozen BK53.out 0;have hfz43_1:=blk_frozen BK53.out 1;have hfz43_2:=blk_frozen BK53.out 2;have hfz43_3:=blk_frozen BK53.out 3;have hfz43_4:=blk_frozen BK53.out 4)))
              refine bodyPost_ret (results_ct rfl _ _ gb53 25 #[.int .i64 (((100 * (((bt a0 9) - 48) % 256)) + (10 * (((bt a0 10) - 48) % 256))) + (((bt a0 11) - 48) % 256)),.string (a0.extract 13 a0.size),.int .i64 t59,.slice none 0 0,.slice none 0 0] (0,0) _ rfl (by (with_reducible repeat (first|refine blk_drewN ?_ _|refine blk_drew ?_|refine blk_alloc ?_ _));refine blk_put (cs:=#[.int .i64 (((100 * (((bt a0 9) - 48) % 256)) + (10 * (((bt a0 10) - 48) % 256))) + (((bt a0 11) - 48) % 256)),.string (a0.extract 13 a0.size),.int .i64 t59,.slice none 0 0,.slice none 0 0]) ?_ 4 _ rfl;(with_reducible repeat (first|refine blk_drewN ?_ _|refine blk_drew ?_|refine blk_alloc ?_ _));refine blk_put (cs:=#[.int .i64 (((100 * (((bt a0 9) - 48) % 256)) + (10 * (((bt a0 10) - 48) % 256))) + (((bt a0 11) - 48) % 256)),.string (a0.extract 13 a0.size),.int .i64 t59,.slice none 0 0,.slice none 0 0]) ?_ 3 _ rfl;(with_reducible repeat (first|refine blk_drewN ?_ _|refine blk_drew ?_|refine blk_alloc ?_ _));refine blk_put (cs:=#[.int .i64 (((100 * (((bt a0 9) - 48) % 256)) + (10 * (((bt a0 10) - 48) % 256))) + (((bt a0 11) - 48) % 256)),.string (a0.extract 13 a0.size),.int .i64 x56_3,.slice none 0 0,.slice none 0 0]) ?_ 2 _ rfl;(with_reducible repeat (first|refine blk_drewN ?_ _|refine blk_drew ?_|refine blk_alloc ?_ _));refine blk_put (cs:=#[.int .i64 (((100 * (((bt a0 9) - 48) % 256)) + (10 * (((bt a0 10) - 48) % 256))) + (((bt a0 11) - 48) % 256)),.string x57_3,.int .i64 x56_3,.slice none 0 0,.slice none 0 0]) ?_ 1 _ rfl;(with_reducible repeat (first|refine blk_drewN ?_ _|refine blk_drew ?_|refine blk_alloc ?_ _));refine blk_put (cs:=#[.int .i64 x58_3,.string x57_3,.int .i64 x56_3,.slice none 0 0,.slice none 0 0]) ?_ 0 _ rfl;(with_reducible repeat (first|refine blk_drewN ?_ _|refine blk_drew ?_|refine blk_alloc ?_ _));exact BK53.out) Tryz.underlying25 rfl zb9) rfl ?_
              exact ⟨_,_,zb3,zb7,zb7,zb13⟩
            ·replace c40:=Bool.eq_false_iff.mpr c40
             subst c40
             rw [if_neg (show ¬ (false=true) by decide)] at H
             simp only [Option.some.injEq,Prod.mk.injEq] at H
             obtain ⟨rfl,rfl,rfl,rfl,rfl,rfl⟩:=H
             have p25:0 ≤ (9:Int):=zb25
             have q25:9 < a0.size:=zb38
             have hx25 : ∀ h:9 < a0.size,((a0[9]'h).toNat:Int)=bt a0 9:=bt_at a0 9
             clear p25
             have qi25:(9 < (a0.size:Int))=True:=eq_true (of_decide_eq_true zb2)
             replace q25:=eq_true q25
             have p27:0 ≤ (10:Int):=zb25
             have q27:10 < a0.size:=zb36
             have hx27 : ∀ h:10 < a0.size,((a0[10]'h).toNat:Int)=bt a0 10:=bt_at a0 10
             clear p27
             have qi27:(10 < (a0.size:Int))=True:=eq_true (of_decide_eq_true zb2)
             replace q27:=eq_true q27
             have p29:0 ≤ (11:Int):=zb25
             have q29:11 < a0.size:=zb37
             have hx29 : ∀ h:11 < a0.size,((a0[11]'h).toNat:Int)=bt a0 11:=bt_at a0 11
             clear p29
             have qi29:(11 < (a0.size:Int))=True:=eq_true (of_decide_eq_true zb2)
             replace q29:=eq_true q29
             have p32:0 ≤ (12:Int):=zb25
             have q32:12 < a0.size:=zb69
             have hx32 : ∀ h:12 < a0.size,((a0[12]'h).toNat:Int)=bt a0 12:=bt_at a0 12
             clear p32
             have qi32:(12 < (a0.size:Int))=True:=eq_true (of_decide_eq_true zb2)
             replace q32:=eq_true q32
             go_wp2_with (first|(go_at_call 33;(with_reducible refine (tollbarref02_Value.calls k3 (a0.extract 13 a0.size) false _ A39.out).mono ?_);rintro e w' ⟨rfl,⟨nd,rfl⟩⟩;(try clear A39);(try first|exact ⟨rfl,_,World.drewN_drewN _ _ _⟩|exact ⟨rfl,_,Eq.trans (World.drewN_drewN _ _ _) (congrArg (World.drewN _) (Nat.add_assoc _ _ _))⟩);have hcz44_0:wr.cell? ⟨gb53,0,none⟩=some (.int .i64 x58_3):=(blk_cell BK53.out 0).trans rfl;have hcz44_1:wr.cell? ⟨gb53,1,none⟩=some (.string x57_3):=(blk_cell BK53.out 1).trans rfl;have hcz44_2:wr.cell? ⟨gb53,2,none⟩=some (.int .i64 x56_3):=(blk_cell BK53.out 2).trans rfl;have hcz44_3:wr.cell? ⟨gb53,3,none⟩=some (.slice none 0 0):=(blk_cell BK53.out 3).trans rfl;have hcz44_4:wr.cell? ⟨gb53,4,none⟩=some (.slice none 0 0):=(blk_cell BK53.out 4).trans rfl;have hfz44_0:=blk_frozen BK53.out 0;have hfz44_1:=blk_frozen BK53.out 1;have hfz44_2:=blk_frozen BK53.out 2;have hfz44_3:=blk_frozen BK53.out 3;have hfz44_4:=blk_frozen BK53.out 4))
             repeat (go_quiet (first|(go_at_call 33;(with_reducible refine (tollbarref02_Value.calls k3 (a0.extract 13 a0.size) false _ A39.out).mono ?_);rintro e w' ⟨rfl,⟨nd,rfl⟩⟩;(try clear A39);(try first|exact ⟨rfl,_,World.drewN_drewN _ _ _⟩|exact ⟨rfl,_,Eq.trans (World.drewN_drewN _ _ _) (congrArg (World.drewN _) (Nat.add_assoc _ _ _))⟩);have hcz44_0:wr.cell? ⟨gb53,0,none⟩=some (.int .i64 x58_3):=(blk_cell BK53.out 0).trans rfl;have hcz44_1:wr.cell? ⟨gb53,1,none⟩=some (.string x57_3):=(blk_cell BK53.out 1).trans rfl;have hcz44_2:wr.cell? ⟨gb53,2,none⟩=some (.int .i64 x56_3):=(blk_cell BK53.out 2).trans rfl;have hcz44_3:wr.cell? ⟨gb53,3,none⟩=some (.slice none 0 0):=(blk_cell BK53.out 3).trans rfl;have hcz44_4:wr.cell? ⟨gb53,4,none⟩=some (.slice none 0 0):=(blk_cell BK53.out 4).trans rfl;have hfz44_0:=blk_frozen BK53.out 0;have hfz44_1:=blk_frozen BK53.out 1;have hfz44_2:=blk_frozen BK53.out 2;have hfz44_3:=blk_frozen BK53.out 3;have hfz44_4:=blk_frozen BK53.out 4));try go_wp2_with (first|(go_at_call 33;(with_reducible refine (tollbarref02_Value.calls k3 (a0.extract 13 a0.size) false _ A39.out).mono ?_);rintro e w' ⟨rfl,⟨nd,rfl⟩⟩;(try clear A39);(try first|exact ⟨rfl,_,World.drewN_drewN _ _ _⟩|exact ⟨rfl,_,Eq.trans (World.drewN_drewN _ _ _) (congrArg (World.drewN _) (Nat.add_assoc _ _ _))⟩);have hcz44_0:wr.cell? ⟨gb53,0,none⟩=some (.int .i64 x58_3):=(blk_cell BK53.out 0).trans rfl;have hcz44_1:wr.cell? ⟨gb53,1,none⟩=some (.string x57_3):=(blk_cell BK53.out 1).trans rfl;have hcz44_2:wr.cell? ⟨gb53,2,none⟩=some (.int .i64 x56_3):=(blk_cell BK53.out 2).trans rfl;have hcz44_3:wr.cell? ⟨gb53,3,none⟩=some (.slice none 0 0):=(blk_cell BK53.out 3).trans rfl;have hcz44_4:wr.cell? ⟨gb53,4,none⟩=some (.slice none 0 0):=(blk_cell BK53.out 4).trans rfl;have hfz44_0:=blk_frozen BK53.out 0;have hfz44_1:=blk_frozen BK53.out 1;have hfz44_2:=blk_frozen BK53.out 2;have hfz44_3:=blk_frozen BK53.out 3;have hfz44_4:=blk_frozen BK53.out 4)))
             refine bodyPost_ret (results_ct rfl _ _ gb53 25 #[.int .i64 0,.string (⟨#[]⟩:ByteArray),.int .i64 0,.slice none 0 0,.slice none 0 0] (0,0) _ rfl zb6 Tryz.underlying25 rfl zb9) rfl ?_
             exact ⟨_,_,zb3,zb7,zb7,zb13⟩
           ·rw [if_neg c34] at H
            exact absurd H zb27
          ·rw [if_neg c33] at H
           have c33b0:=beq_eq_false_iff_ne.mpr c33
           have c33b1:=bne_iff_ne.mpr c33
           simp only [Option.some.injEq,Prod.mk.injEq] at H
           obtain ⟨rfl,rfl,rfl,rfl,rfl,rfl⟩:=H
           have p25:0 ≤ (9:Int):=zb25
           have q25:9 < a0.size:=zb38
           have hx25 : ∀ h:9 < a0.size,((a0[9]'h).toNat:Int)=bt a0 9:=bt_at a0 9
           clear p25
           have qi25:(9 < (a0.size:Int))=True:=eq_true (of_decide_eq_true zb2)
           replace q25:=eq_true q25
           have p27:0 ≤ (10:Int):=zb25
           have q27:10 < a0.size:=zb36
           have hx27 : ∀ h:10 < a0.size,((a0[10]'h).toNat:Int)=bt a0 10:=bt_at a0 10
           clear p27
           have qi27:(10 < (a0.size:Int))=True:=eq_true (of_decide_eq_true zb2)
           replace q27:=eq_true q27
           have p29:0 ≤ (11:Int):=zb25
           have q29:11 < a0.size:=zb37
           have hx29 : ∀ h:11 < a0.size,((a0[11]'h).toNat:Int)=bt a0 11:=bt_at a0 11
           clear p29
           have qi29:(11 < (a0.size:Int))=True:=eq_true (of_decide_eq_true zb2)
           replace q29:=eq_true q29
           have p32:0 ≤ (12:Int):=zb25
           have q32:12 < a0.size:=zb69
           have hx32 : ∀ h:12 < a0.size,((a0[12]'h).toNat:Int)=bt a0 12:=bt_at a0 12
           clear p32
           have qi32:(12 < (a0.size:Int))=True:=eq_true (of_decide_eq_true zb2)
           replace q32:=eq_true q32
           obtain ⟨hcz45_0,hcz45_1,hcz45_2,hcz45_3,hcz45_4,hfz45_0,hfz45_1,hfz45_2,hfz45_3,hfz45_4⟩:=zq5 BK53.out
           go_wp2
           repeat (go_quiet (fail);try go_wp2)
           refine bodyPost_ret (results_ct rfl _ _ gb53 25 #[.int .i64 0,.string (⟨#[]⟩:ByteArray),.int .i64 0,.slice none 0 0,.slice none 0 0] (0,0) _ rfl zb6 Tryz.underlying25 rfl zb9) rfl ?_
           exact ⟨_,_,zb3,zb7,zb7,zb13⟩
         ·rw [if_neg c31] at H
          exact absurd H zb27
        ·rw [if_neg c28] at H
         exact absurd H zb27
       ·rw [if_neg c24] at H
        exact absurd H zb27
def tollbarref02_Fold.l0:Nat → ByteArray → List Int → Int → Option (ByteArray)
 | 0,_,_,_=>none
 | k + 1,x0,x3,x4=>if x4 < (x0.size:Int) then (if 0 ≤ x4 then (if (bt x0 x4) ≥ 65 then (if (bt x0 x4) ≤ 90 then (if x3.length < 140737488355328 then (tollbarref02_Fold.l0 k x0 (x3 ++ [((bt x0 x4) + 32) % 256]) (wrap64 (x4 + 1))) else (none)) else (if x3.length < 140737488355328 then (tollbarref02_Fold.l0 k x0 (x3 ++ [bt x0 x4]) (wrap64 (x4 + 1))) else (none))) else (if x3.length < 140737488355328 then (tollbarref02_Fold.l0 k x0 (x3 ++ [bt x0 x4]) (wrap64 (x4 + 1))) else (none))) else (none)) else (some (strOfNums x3))
def tollbarref02_Fold.f (k:Nat) (a0:ByteArray):Option (ByteArray):=tollbarref02_Fold.l0 k a0 (([]:List Int)) 0
set_option maxHeartbeats 8000000 in
set_option maxRecDepth 100000 in
theorem tollbarref02_Fold.calls (k:Nat) (a0:ByteArray) (r:ByteArray) (w:World) (h:tollbarref02_Fold.f k a0=some r) :
  Calls Tryz.prog 106 #[.string a0] w fun e w' => e = .returned (.string r)∧Below w.heap.size w w' := by
 have HB:=Aside0.mk (Below.refl w.heap.size w)
 have H:(tollbarref02_Fold.l0 k a0 (([]:List Int)) 0)=some r:=h
 clear h
 obtain ⟨y346,hy346⟩ : ∃ y_:List Int,y_=(([]:List Int)):=⟨_,rfl⟩
 replace H:(tollbarref02_Fold.l0 k a0 y346 0)=some r:=by first|(rw [hy346];with_reducible exact H)|(have H2_:=(Option.bind_some _ _).symm.trans H;rw [hy346];with_reducible exact H2_)|(have H2_:=(Option.bind_some _ _).symm.trans H;with_reducible exact H2_)|with_reducible exact H|(rw [hy346];exact H)|exact H
 have Ny346:=Aside0.mk hy346
 clear hy346
 have H' := Aside0.mk H
 clear H
 go_enter Tryz.func106,Tryz.ntmps106
 go_wp2_with (first|((with_reducible refine gate_dst (N:=6) rfl ?_);refine Kd.R_lit (Kd.int .u8) _ 5 ?hg (N:=6) ?hd (xs:=([]:List Int)) (inner:=[]) (ok:=fun _=>True) (okp:=fun _=>True) ?hr ?hp (fun _ hk=>hk) trivial (Below.refl _ _) (Nat.le_refl _) zb27 ?_;(case hd=>rfl);(case hg=>rfl);(case hr=>first|(go_simp;done)|(go_simp;rfl));(case hp=>exact (Reps.none _ _));intro v347 w2 ho3 hb hg_ hnew_;clear hg_ hnew_;(first|rw [← Ny346.out] at ho3|(simp only [Int.reduceToNat] at ho3;rw [← Ny346.out] at ho3));have n0_:=Aside0.mk (Kd.R_lower ho3 (below_size zb0));have n1_:=Aside0.mk (below_step zb0 hb);clear HB;have HO348:=n0_;have HB:=n1_;clear n0_ n1_;clear hb ho3))
 go_loopg [3,4] k (fun kq v3 v4 w' => ∃ (x3_1:List Int) (x4_1:Int),v4 = .int .i64 x4_1∧Aside0 (tollbarref02_Fold.l0 kq a0 x3_1 x4_1=some r)∧Aside0 (kq ≤ k)∧Aside0 (Kd.R (Kd.int .u8) 5 w' w.heap.size (fun _=>True) v3 x3_1)∧Aside0 (Below w.heap.size w w'))
 case atStart=>exact ⟨(y346),(0),zb4,H',⟨Nat.le_refl _⟩,⟨by (with_reducible repeat (first|apply Kd.R_alloc|apply Kd.R_drewN|apply Kd.R_drew));exact HO348.out⟩,⟨zb0⟩⟩
 case round =>
  clear H'
  try clear c1
  try clear p2
  obtain ⟨x3_1,x4_1,rfl,HA,HK1,HO_3,HB⟩:=hrel
  cases gk with
  | zero=>exact absurd HA.out (by simp [tollbarref02_Fold.l0])
  | succ k1 =>
   have H:=HA.out
   clear HA
   simp only [tollbarref02_Fold.l0] at H
   by_cases c4:x4_1 < (a0.size:Int);rotate_left
   ·rw [if_neg c4] at H
    have c4b0:decide (x4_1 < (a0.size:Int))=false:=decide_eq_false c4
    clear c4
    obtain rfl:=Option.some.inj H
    have hcv15:=own_string (P:=Tryz.prog) Tryz.underlying23 Tryz.underlying5 Tryz.underlying9 (Kd.own_of_R HO_3.out)
    go_wp2
    go_ret
    exact ⟨zb3,zb0⟩
   rw [if_pos c4] at H
   have c4b0:decide (x4_1 < (a0.size:Int))=true:=decide_eq_true c4
   clear c4
   by_cases c5:0 ≤ x4_1
   ·rw [if_pos c5] at H
    have c5b0:decide (0 ≤ x4_1)=true:=decide_eq_true c5
    clear c5
    by_cases c7:(bt a0 x4_1) ≥ 65;rotate_left
    ·rw [if_neg c7] at H
     have c7b0:decide (65 ≤ (bt a0 x4_1))=false:=decide_eq_false c7
     clear c7
     by_cases c13:x3_1.length < 140737488355328;rotate_left
     ·rw [if_neg c13] at H
      exact absurd H zb27
     rw [if_pos c13] at H
     have LMc13:=Aside0.mk c13
     clear c13
     obtain ⟨y355,hy355⟩ : ∃ y_:List Int,y_=(x3_1 ++ [bt a0 x4_1]):=⟨_,rfl⟩
     replace H:(tollbarref02_Fold.l0 k1 a0 y355 (wrap64 (x4_1 + 1)))=some r:=by first|(rw [hy355];with_reducible exact H)|(have H2_:=(Option.bind_some _ _).symm.trans H;rw [hy355];with_reducible exact H2_)|(have H2_:=(Option.bind_some _ _).symm.trans H;with_reducible exact H2_)|with_reducible exact H|(rw [hy355];exact H)|exact H
     have Ny355:=Aside0.mk hy355
     clear hy355
     have H' := Aside0.mk H
     clear H
     have p6:0 ≤ (x4_1:Int):=of_decide_eq_true zb2
     have q6:x4_1 < (a0.size:Int):=of_decide_eq_true zb2
     have hx6:=bt_at a0 x4_1
     replace p6:=eq_true p6
     replace q6:=eq_true q6
     go_wp2_with (first|((with_reducible refine gate_builtin (b:=.append) (xs:=#[.tmp 24,.tmp 26]) rfl ?_);at_builtin;refine Kd.R_append (Kd.int .u8) (w0:=w) w.heap.size rfl (.tmp 24) (.tmp 26) 23 5 (.int .u8 0) 1 rfl Tryz.underlying23 info5 rfl zb72 zb25 u3 x3_1 (bt a0 x4_1) [.int .u8 (bt a0 x4_1)] (fun _=>True) (fun _=>False) rfl rfl ?aP (fun _ hk=>hk.elim) ?aF ?aO ?aB ?aS ?aL ?_;(case aP=>exact rfl);(case aB=>exact zb0);(case aF=>exact (fun _ _=>trivial));(case aO=>exact zb33);(case aS=>exact (below_size zb0));(case aL=>have:=LMc13.out;omega);intro v356 w14 ho hb hg hat;rw [← Ny355.out] at ho;have n0_:=Aside0.mk (hb);have n1_:=Aside0.mk (ho);clear HB;clear HO_3;have HB:=n0_;have HO357:=n1_;clear n0_ n1_;clear ho hb hg hat))
     go_roundg k1
     case measure=>have:=HK1.out;omega
     case rel=>exact ⟨(y355),(wrap64 (x4_1 + 1)),zb4,H',⟨zb74⟩,⟨by (with_reducible repeat (first|apply Kd.R_alloc|apply Kd.R_drewN|apply Kd.R_drew));exact HO357.out⟩,⟨zb0⟩⟩
    rw [if_pos c7] at H
    have c7b0:decide (65 ≤ (bt a0 x4_1))=true:=decide_eq_true c7
    clear c7
    by_cases c8:(bt a0 x4_1) ≤ 90
    ·rw [if_pos c8] at H
     have c8b0:decide ((bt a0 x4_1) ≤ 90)=true:=decide_eq_true c8
     clear c8
     by_cases c9:x3_1.length < 140737488355328;rotate_left
     ·rw [if_neg c9] at H
      exact absurd H zb27
     rw [if_pos c9] at H
     have LMc9:=Aside0.mk c9
     clear c9
     obtain ⟨y349,hy349⟩ : ∃ y_:List Int,y_=(x3_1 ++ [((bt a0 x4_1) + 32) % 256]):=⟨_,rfl⟩
     replace H:(tollbarref02_Fold.l0 k1 a0 y349 (wrap64 (x4_1 + 1)))=some r:=by first|(rw [hy349];with_reducible exact H)|(have H2_:=(Option.bind_some _ _).symm.trans H;rw [hy349];with_reducible exact H2_)|(have H2_:=(Option.bind_some _ _).symm.trans H;with_reducible exact H2_)|with_reducible exact H|(rw [hy349];exact H)|exact H
     have Ny349:=Aside0.mk hy349
     clear hy349
     have H' := Aside0.mk H
     clear H
     have p6:0 ≤ (x4_1:Int):=of_decide_eq_true zb2
     have q6:x4_1 < (a0.size:Int):=of_decide_eq_true zb2
     have hx6:=bt_at a0 x4_1
     replace p6:=eq_true p6
     replace q6:=eq_true q6
     go_wp2_with (first|((with_reducible refine gate_builtin (b:=.append) (xs:=#[.tmp 24,.tmp 26]) rfl ?_);at_builtin;refine Kd.R_append (Kd.int .u8) (w0:=w) w.heap.size rfl (.tmp 24) (.tmp 26) 23 5 (.int .u8 0) 1 rfl Tryz.underlying23 info5 rfl zb72 zb25 u3 x3_1 (((bt a0 x4_1) + 32) % 256) [.int .u8 (((bt a0 x4_1) + 32) % 256)] (fun _=>True) (fun _=>False) rfl rfl ?aP (fun _ hk=>hk.elim) ?aF ?aO ?aB ?aS ?aL ?_;(case aP=>exact rfl);(case aB=>exact zb0);(case aF=>exact (fun _ _=>trivial));(case aO=>exact zb33);(case aS=>exact (below_size zb0));(case aL=>have:=LMc9.out;omega);intro v350 w10 ho hb hg hat;rw [← Ny349.out] at ho;have n0_:=Aside0.mk (hb);have n1_:=Aside0.mk (ho);clear HB;clear HO_3;have HB:=n0_;have HO351:=n1_;clear n0_ n1_;clear ho hb hg hat))
     go_roundg k1
     case measure=>have:=HK1.out;omega
     case rel=>exact ⟨(y349),(wrap64 (x4_1 + 1)),zb4,H',⟨zb74⟩,⟨by (with_reducible repeat (first|apply Kd.R_alloc|apply Kd.R_drewN|apply Kd.R_drew));exact HO351.out⟩,⟨zb0⟩⟩
    ·rw [if_neg c8] at H
     have c8b0:decide ((bt a0 x4_1) ≤ 90)=false:=decide_eq_false c8
     clear c8
     by_cases c11:x3_1.length < 140737488355328
     ·rw [if_pos c11] at H
      have LMc11:=Aside0.mk c11
      clear c11
      obtain ⟨y352,hy352⟩ : ∃ y_:List Int,y_=(x3_1 ++ [bt a0 x4_1]):=⟨_,rfl⟩
      replace H:(tollbarref02_Fold.l0 k1 a0 y352 (wrap64 (x4_1 + 1)))=some r:=by first|(rw [hy352];with_reducible exact H)|(have H2_:=(Option.bind_some _ _).symm.trans H;rw [hy352];with_reducible exact H2_)|(have H2_:=(Option.bind_some _ _).symm.trans H;with_reducible exact H2_)|with_reducible exact H|(rw [hy352];exact H)|exact H
      have Ny352:=Aside0.mk hy352
      clear hy352
      have H' := Aside0.mk H
      clear H
      have p6:0 ≤ (x4_1:Int):=of_decide_eq_true zb2
      have q6:x4_1 < (a0.size:Int):=of_decide_eq_true zb2
      have hx6:=bt_at a0 x4_1
      replace p6:=eq_true p6
      replace q6:=eq_true q6
      go_wp2_with (first|((with_reducible refine gate_builtin (b:=.append) (xs:=#[.tmp 24,.tmp 26]) rfl ?_);at_builtin;refine Kd.R_append (Kd.int .u8) (w0:=w) w.heap.size rfl (.tmp 24) (.tmp 26) 23 5 (.int .u8 0) 1 rfl Tryz.underlying23 info5 rfl zb72 zb25 u3 x3_1 (bt a0 x4_1) [.int .u8 (bt a0 x4_1)] (fun _=>True) (fun _=>False) rfl rfl ?aP (fun _ hk=>hk.elim) ?aF ?aO ?aB ?aS ?aL ?_;(case aP=>exact rfl);(case aB=>exact zb0);(case aF=>exact (fun _ _=>trivial));(case aO=>exact zb33);(case aS=>exact (below_size zb0));(case aL=>have:=LMc11.out;omega);intro v353 w12 ho hb hg hat;rw [← Ny352.out] at ho;have n0_:=Aside0.mk (hb);have n1_:=Aside0.mk (ho);clear HB;clear HO_3;have HB:=n0_;have HO354:=n1_;clear n0_ n1_;clear ho hb hg hat))
      go_roundg k1
      case measure=>have:=HK1.out;omega
      case rel=>exact ⟨(y352),(wrap64 (x4_1 + 1)),zb4,H',⟨zb74⟩,⟨by (with_reducible repeat (first|apply Kd.R_alloc|apply Kd.R_drewN|apply Kd.R_drew));exact HO354.out⟩,⟨zb0⟩⟩
     ·rw [if_neg c11] at H
      exact absurd H zb27
   ·rw [if_neg c5] at H
    exact absurd H zb27
def tollbarref02_blank.f (a0:Int):Option (Bool):=if a0=32 then (some true) else (some (a0 == 9))
set_option maxHeartbeats 8000000 in
set_option maxRecDepth 100000 in
theorem tollbarref02_blank.calls (a0:Int) (r:Bool) (w:World) (h:tollbarref02_blank.f a0=some r) :
  Calls Tryz.prog 70 #[.int .u8 a0] w fun e w' => e = .returned (.bool r)∧Drawn0 w w' := by
 have H:(if a0=32 then (some true) else (some (a0 == 9)))=some r:=h
 clear h
 by_cases c2:a0=32;rotate_left
 ·rw [if_neg c2] at H
  have c2b0:=beq_eq_false_iff_ne.mpr c2
  have c2b1:=bne_iff_ne.mpr c2
  obtain rfl:=Option.some.inj H
  go_enter Tryz.func70,Tryz.ntmps70
  go_wp2
  go_ret
  exact ⟨zb4,zb8⟩
 rw [if_pos c2] at H
 have c2b0:=beq_iff_eq.mpr c2
 have c2b1:=bne_eq_false_iff_eq.mpr c2
 clear c2
 obtain rfl:=Option.some.inj H
 go_enter Tryz.func70,Tryz.ntmps70
 go_wp2
 go_ret
 exact ⟨zb4,zb8⟩
mutual
def tollbarref02_Trim.j1:Nat → ByteArray → Option (ByteArray)
 | 0,_=>none
 | k + 1,x0=>tollbarref02_Trim.l1 k x0
def tollbarref02_Trim.l1:Nat → ByteArray → Option (ByteArray)
 | 0,_=>none
 | k + 1,x0=>if (x0.size:Int) > 0 then (if 0 ≤ (wrap64 ((x0.size:Int) - 1)) then (if (wrap64 ((x0.size:Int) - 1)) < (x0.size:Int) then ((tollbarref02_blank.f (bt x0 (wrap64 ((x0.size:Int) - 1)))).bind fun t370=>(if t370=true then (if (wrap64 ((x0.size:Int) - 1)) ≤ (x0.size:Int) then (tollbarref02_Trim.l1 k (x0.extract 0 ((wrap64 ((x0.size:Int) - 1)):Int).toNat)) else (none)) else (some x0))) else (none)) else (none)) else (some x0)
def tollbarref02_Trim.l0:Nat → ByteArray → Option (ByteArray)
 | 0,_=>none
 | k + 1,x0=>if (x0.size:Int) > 0 then (if 0 < (x0.size:Int) then ((tollbarref02_blank.f (bt x0 0)).bind fun t369=>(if t369=true then (if 1 ≤ (x0.size:Int) then (tollbarref02_Trim.l0 k (x0.extract 1 x0.size)) else (none)) else (tollbarref02_Trim.j1 k x0))) else (none)) else (tollbarref02_Trim.j1 k x0)
end
def tollbarref02_Trim.f (k:Nat) (a0:ByteArray):Option (ByteArray):=tollbarref02_Trim.l0 k a0
set_option maxHeartbeats 8000000 in
set_option maxRecDepth 100000 in
theorem tollbarref02_Trim.calls (k:Nat) (a0:ByteArray) (r:ByteArray) (w:World) (h:tollbarref02_Trim.f k a0=some r) :
  Calls Tryz.prog 32 #[.string a0] w fun e w' => e = .returned (.string r)∧Drawn0 w w' := by
 have H:(tollbarref02_Trim.l0 k a0)=some r:=h
 clear h
 have HC2:=Aside0.mk H
 clear H
 go_enter Tryz.func32,Tryz.ntmps32
 go_upto_block 0 with (fail)
 go_cut [0] (fun v0 wc => ∃ (kq:Nat) (x0_1:ByteArray),v0 = .string x0_1∧Aside0 (tollbarref02_Trim.j1 kq x0_1=some r)∧Aside0 (kq ≤ k)∧Drawn0 w wc)
 case first =>
  have H:=HC2.out
  clear HC2
  have H' := Aside0.mk H
  clear H
  go_wp2
  go_loopg [0] k (fun kq v0 w' => ∃ (x0_1:ByteArray),v0 = .string x0_1∧Aside0 (tollbarref02_Trim.l0 kq x0_1=some r)∧Aside0 (kq ≤ k)∧Drawn0 w w')
  case atStart=>exact ⟨(a0),zb4,H',⟨Nat.le_refl _⟩,zb8⟩
  case round =>
   clear H'
   try clear p2
   obtain ⟨x0_1,rfl,HA,HK1,⟨m1,rfl⟩⟩:=hrel
   cases gk with
   | zero=>exact absurd HA.out (by simp [tollbarref02_Trim.l0])
   | succ k1 =>
    have H:=HA.out
    clear HA
    simp only [tollbarref02_Trim.l0] at H
    by_cases c3:(x0_1.size:Int) > 0;rotate_left
    ·rw [if_neg c3] at H
     have c3b0:decide (0 < (x0_1.size:Int))=false:=decide_eq_false c3
     have c3b1:decide (0 < x0_1.size)=false:=decide_eq_false zb25
     clear c3
     (first|rw [c3b0]|(simp only [i64_w,i32_w];rw [c3b0])|rw [c3b1]|skip)
     have H' := Aside0.mk H
     clear H
     go_wp2
     go_meet
     case rel=>exact ⟨_,(x0_1),zb4,H',⟨zb66⟩,zb8⟩
    rw [if_pos c3] at H
    have c3b0:decide (0 < (x0_1.size:Int))=true:=decide_eq_true c3
    have c3b1:decide (0 < x0_1.size)=true:=decide_eq_true zb25
    clear c3
    (first|rw [c3b0]|(simp only [i64_w,i32_w];rw [c3b0])|rw [c3b1]|skip)
    by_cases c4:0 < (x0_1.size:Int)
    ·rw [if_pos c4] at H
     have c4b0:decide (0 < (x0_1.size:Int))=true:=decide_eq_true c4
     have c4b1:decide (0 < x0_1.size)=true:=decide_eq_true zb25
     clear c4
     replace H:=Option.bind_eq_some_iff.mp H
     obtain ⟨t369,A60,H⟩:=H
     try dsimp only at H
     have A6:=Aside0.mk A60
     clear A60
     by_cases c7:t369=true;rotate_left
     ·replace c7:=Bool.eq_false_iff.mpr c7
      subst c7
      rw [if_neg (show ¬ (false=true) by decide)] at H
      have H' := Aside0.mk H
      clear H
      have p5:0 ≤ (0:Int):=zb25
      have q5:0 < x0_1.size:=(by have:(0:Int) < (x0_1.size:Int):=of_decide_eq_true (by first|(with_reducible assumption)|assumption);omega)
      have hx5 : ∀ h:0 < x0_1.size,((x0_1[0]'h).toNat:Int)=bt x0_1 0:=bt_at x0_1 0
      clear p5
      have qi5:(0 < (x0_1.size:Int))=True:=eq_true (of_decide_eq_true zb2)
      replace q5:=eq_true q5
      go_wp2_with (first|(go_at_call 70;(with_reducible refine (tollbarref02_blank.calls (bt x0_1 0) false _ A6.out).mono ?_);rintro e w' ⟨rfl,⟨nd,rfl⟩⟩;(try clear A6)))
      go_meet
      case rel=>exact ⟨_,(x0_1),zb4,H',⟨zb66⟩,zb8⟩
     subst c7
     rw [if_pos rfl] at H
     by_cases c8:1 ≤ (x0_1.size:Int)
     ·rw [if_pos c8] at H
      have c8b0:=eq_true c8
      have c8b1:decide (1 ≤ (x0_1.size:Int))=true:=decide_eq_true c8
      clear c8
      have H' := Aside0.mk H
      clear H
      have p5:0 ≤ (0:Int):=zb25
      have q5:0 < x0_1.size:=(by have:(0:Int) < (x0_1.size:Int):=of_decide_eq_true (by first|(with_reducible assumption)|assumption);omega)
      have hx5 : ∀ h:0 < x0_1.size,((x0_1[0]'h).toNat:Int)=bt x0_1 0:=bt_at x0_1 0
      clear p5
      have qi5:(0 < (x0_1.size:Int))=True:=eq_true (of_decide_eq_true zb2)
      replace q5:=eq_true q5
      go_wp2_with (first|(go_at_call 70;(with_reducible refine (tollbarref02_blank.calls (bt x0_1 0) true _ A6.out).mono ?_);rintro e w' ⟨rfl,⟨nd,rfl⟩⟩;(try clear A6)))
      go_roundg k1
      case measure=>have:=HK1.out;omega
      case rel=>exact ⟨(x0_1.extract 1 x0_1.size),zb4,H',⟨zb74⟩,zb8⟩
     ·rw [if_neg c8] at H
      exact absurd H zb27
    ·rw [if_neg c4] at H
     exact absurd H zb27
 case rest =>
  clear HC2
  try clear p2
  try clear c3
  try clear c3b0
  try clear c3b1
  try clear c4
  try clear c4b0
  try clear c4b1
  try clear p5
  try clear q5
  try clear hx5
  try clear qi5
  try clear c7
  try clear c8
  try clear c8b0
  try clear c8b1
  try clear p2
  try clear p5
  try clear q5
  obtain ⟨kq,x0_1,rfl,HA,HJ1,⟨mc1,rfl⟩⟩:=hcut
  cases kq with
  | zero=>exact absurd HA.out (by simp [tollbarref02_Trim.j1])
  | succ kj1 =>
   have H:=HA.out
   clear HA
   simp only [tollbarref02_Trim.j1] at H
   have H' := Aside0.mk H
   clear H
   go_wp2
   go_loopg [0] kj1 (fun kq v0 w' => ∃ (x0_2:ByteArray),v0 = .string x0_2∧Aside0 (tollbarref02_Trim.l1 kq x0_2=some r)∧Aside0 (kq ≤ kj1)∧Drawn0 w w')
   case atStart=>exact ⟨(x0_1),zb4,H',⟨Nat.le_refl _⟩,zb8⟩
   case round =>
    clear H'
    try clear c1
    try clear p2
    try clear c3
    try clear c3b0
    try clear c3b1
    try clear c4
    try clear c4b0
    try clear c4b1
    try clear p5
    try clear q5
    try clear hx5
    try clear qi5
    try clear c7
    try clear c8
    try clear c8b0
    try clear c8b1
    try clear p2
    try clear p5
    try clear q5
    obtain ⟨x0_2,rfl,HA,HK2,⟨m2,rfl⟩⟩:=hrel
    cases gk with
    | zero=>exact absurd HA.out (by simp [tollbarref02_Trim.l1])
    | succ k2 =>
     have H:=HA.out
     clear HA
     simp only [tollbarref02_Trim.l1] at H
     by_cases c9:(x0_2.size:Int) > 0;rotate_left
     ·rw [if_neg c9] at H
      have c9b0:decide (0 < (x0_2.size:Int))=false:=decide_eq_false c9
      have c9b1:decide (0 < x0_2.size)=false:=decide_eq_false zb25
      clear c9
      obtain rfl:=Option.some.inj H
      go_wp2
      go_ret
      exact ⟨zb4,zb8⟩
     rw [if_pos c9] at H
     have c9b0:decide (0 < (x0_2.size:Int))=true:=decide_eq_true c9
     have c9b1:decide (0 < x0_2.size)=true:=decide_eq_true zb25
     clear c9
     obtain ⟨ji10,hji10⟩ : ∃ j_:Int,(wrap64 ((x0_2.size:Int) - 1))=j_:=⟨_,rfl⟩
     replace H:(if 0 ≤ (ji10) then (if (ji10) < (x0_2.size:Int) then ((tollbarref02_blank.f (bt x0_2 (ji10))).bind fun t370=>(if t370=true then (if (ji10) ≤ (x0_2.size:Int) then (tollbarref02_Trim.l1 k2 (x0_2.extract 0 ((ji10):Int).toNat)) else (none)) else (some x0_2))) else (none)) else (none))=some r:=by first|(rw [hji10] at H;exact H)|(simp only [hji10] at H ⊢;exact H)
     have hji10w:(IntKind.i64.wrap ((x0_2.size:Int) - 1))=ji10:=(i64_w _).trans hji10
     by_cases c11:0 ≤ (ji10)
     ·rw [if_pos c11] at H
      have c11b0:decide (0 ≤ (ji10))=true:=decide_eq_true c11
      clear c11
      by_cases c12:(ji10) < (x0_2.size:Int)
      ·rw [if_pos c12] at H
       have c12b0:decide ((ji10) < (x0_2.size:Int))=true:=decide_eq_true c12
       clear c12
       replace H:=Option.bind_eq_some_iff.mp H
       obtain ⟨t370,A140,H⟩:=H
       try dsimp only at H
       have A14:=Aside0.mk A140
       clear A140
       by_cases c15:t370=true;rotate_left
       ·replace c15:=Bool.eq_false_iff.mpr c15
        subst c15
        rw [if_neg (show ¬ (false=true) by decide)] at H
        obtain rfl:=Option.some.inj H
        have p13:0 ≤ ((ji10):Int):=of_decide_eq_true zb2
        have q13:(ji10) < (x0_2.size:Int):=of_decide_eq_true zb2
        have hx13:=bt_at x0_2 (ji10)
        replace p13:=eq_true p13
        replace q13:=eq_true q13
        go_wp2_with (first|(go_at_call 70;(with_reducible refine (tollbarref02_blank.calls (bt x0_2 (ji10)) false _ A14.out).mono ?_);rintro e w' ⟨rfl,⟨nd,rfl⟩⟩;(try clear A14)))
        go_ret
        exact ⟨zb98,zb8⟩
       subst c15
       rw [if_pos rfl] at H
       have c16b0:=eq_true (of_decide_eq_true zb2:0 ≤ (ji10))
       by_cases c17:(ji10) ≤ (x0_2.size:Int)
       ·rw [if_pos c17] at H
        have c17b0:=eq_true c17
        have c17b1:decide ((ji10) ≤ (x0_2.size:Int))=true:=decide_eq_true c17
        clear c17
        have H' := Aside0.mk H
        clear H
        have p13:0 ≤ ((ji10):Int):=of_decide_eq_true zb2
        have q13:(ji10) < (x0_2.size:Int):=of_decide_eq_true zb2
        have hx13:=bt_at x0_2 (ji10)
        replace p13:=eq_true p13
        replace q13:=eq_true q13
        go_wp2_with (first|(go_at_call 70;(with_reducible refine (tollbarref02_blank.calls (bt x0_2 (ji10)) true _ A14.out).mono ?_);rintro e w' ⟨rfl,⟨nd,rfl⟩⟩;(try clear A14)))
        go_roundg k2
        case measure=>have:=HJ1.out;have:=HK2.out;omega
        case rel=>exact ⟨(x0_2.extract 0 ((ji10):Int).toNat),zb98,H',⟨by have:=HJ1.out;have:=HK2.out;omega⟩,zb8⟩
       ·rw [if_neg c17] at H
        exact absurd H zb27
      ·rw [if_neg c12] at H
       exact absurd H zb27
     ·rw [if_neg c11] at H
      exact absurd H zb27
mutual
def tollbarref02_Split.l0:Nat → ByteArray → List ByteArray → Int → Int → Option (List ByteArray)
 | 0,_,_,_,_=>none
 | k + 1,x0,x3,x4,x5=>if x5 ≤ (x0.size:Int) then (if x5=(x0.size:Int) then (tollbarref02_Split.j1 k x0 x3 x4 x5 true) else (if 0 ≤ x5 then (if x5 < (x0.size:Int) then (tollbarref02_Split.j1 k x0 x3 x4 x5 ((bt x0 x5) == 44)) else (none)) else (none))) else (some x3)
def tollbarref02_Split.j1:Nat → ByteArray → List ByteArray → Int → Int → Bool → Option (List ByteArray)
 | 0,_,_,_,_,_=>none
 | k + 1,x0,x3,x4,x5,x23=>if x23=true then (if 0 ≤ x4 then (if x4 ≤ x5 then (if x5 ≤ (x0.size:Int) then ((tollbarref02_Trim.f k (x0.extract (x4:Int).toNat (x5:Int).toNat)).bind fun t374=>(if t374.toList=([]:List UInt8) then (tollbarref02_Split.l0 k x0 x3 (wrap64 (x5 + 1)) (wrap64 (x5 + 1))) else (if x3.length < 8796093022208 then (tollbarref02_Split.l0 k x0 (x3 ++ [t374]) (wrap64 (x5 + 1)) (wrap64 (x5 + 1))) else (none)))) else (none)) else (none)) else (none)) else (tollbarref02_Split.l0 k x0 x3 x4 (wrap64 (x5 + 1)))
end
def tollbarref02_Split.f (k:Nat) (a0:ByteArray):Option (List ByteArray):=tollbarref02_Split.l0 k a0 (([]:List ByteArray)) 0 0
set_option maxHeartbeats 8000000 in
set_option maxRecDepth 100000 in
theorem tollbarref02_Split.calls (k:Nat) (a0:ByteArray) (r:List ByteArray) (w:World) (h:tollbarref02_Split.f k a0=some r) :
  Calls Tryz.prog 148 #[.string a0] w fun e w' => ∃ v0_:Value,e = .returned (v0_)∧Kd.R Kd.string 9 w' w.heap.size (fun _=>True) v0_ r∧Below w.heap.size w w' := by
 have HB:=Aside0.mk (Below.refl w.heap.size w)
 have H:(tollbarref02_Split.l0 k a0 (([]:List ByteArray)) 0 0)=some r:=h
 clear h
 obtain ⟨y371,hy371⟩ : ∃ y_:List ByteArray,y_=(([]:List ByteArray)):=⟨_,rfl⟩
 replace H:(tollbarref02_Split.l0 k a0 y371 0 0)=some r:=by first|(rw [hy371];with_reducible exact H)|(have H2_:=(Option.bind_some _ _).symm.trans H;rw [hy371];with_reducible exact H2_)|(have H2_:=(Option.bind_some _ _).symm.trans H;with_reducible exact H2_)|with_reducible exact H|(rw [hy371];exact H)|exact H
 have Ny371:=Aside0.mk hy371
 clear hy371
 have H' := Aside0.mk H
 clear H
 go_enter Tryz.func148,Tryz.ntmps148
 go_wp2_with (first|((with_reducible refine gate_dst (N:=7) rfl ?_);refine Kd.R_lit Kd.string _ 9 ?hg (N:=7) ?hd (xs:=([]:List ByteArray)) (inner:=[]) (ok:=fun _=>True) (okp:=fun _=>True) ?hr ?hp (fun _ hk=>hk) trivial (Below.refl _ _) (Nat.le_refl _) zb27 ?_;(case hd=>rfl);(case hg=>rfl);(case hr=>first|(go_simp;done)|(go_simp;rfl));(case hp=>exact (Reps.none _ _));intro v372 w2 ho3 hb hg_ hnew_;clear hg_ hnew_;(first|rw [← Ny371.out] at ho3|(simp only [Int.reduceToNat] at ho3;rw [← Ny371.out] at ho3));have n0_:=Aside0.mk (Kd.R_lower ho3 (below_size zb0));have n1_:=Aside0.mk (below_step zb0 hb);clear HB;have HO373:=n0_;have HB:=n1_;clear n0_ n1_;clear hb ho3))
 go_loopg [3,4,5] k (fun kq v3 v4 v5 w' => ∃ (x3_1:List ByteArray) (x4_1:Int) (x5_1:Int),v4 = .int .i64 x4_1∧v5 = .int .i64 x5_1∧Aside0 (tollbarref02_Split.l0 kq a0 x3_1 x4_1 x5_1=some r)∧Aside0 (kq ≤ k)∧Aside0 (Kd.R Kd.string 9 w' w.heap.size (fun _=>True) v3 x3_1)∧Aside0 (Below w.heap.size w w'))
 case atStart=>exact ⟨(y371),(0),(0),zb4,zb4,H',⟨Nat.le_refl _⟩,⟨by (with_reducible repeat (first|apply Kd.R_alloc|apply Kd.R_drewN|apply Kd.R_drew));exact HO373.out⟩,⟨zb0⟩⟩
 case round =>
  clear H'
  try clear c1
  try clear p2
  obtain ⟨x3_1,x4_1,x5_1,rfl,rfl,HA,HK1,HO_3,HB⟩:=hrel
  cases gk with
  | zero=>exact absurd HA.out (by simp [tollbarref02_Split.l0])
  | succ k1 =>
   have H:=HA.out
   clear HA
   simp only [tollbarref02_Split.l0] at H
   by_cases c4:x5_1 ≤ (a0.size:Int);rotate_left
   ·rw [if_neg c4] at H
    have c4b0:decide (x5_1 ≤ (a0.size:Int))=false:=decide_eq_false c4
    clear c4
    obtain rfl:=Option.some.inj H
    go_wp2
    go_ret
    exact ⟨_,zb3,zb33,zb0⟩
   rw [if_pos c4] at H
   have c4b0:decide (x5_1 ≤ (a0.size:Int))=true:=decide_eq_true c4
   clear c4
   have HC5:=Aside0.mk H
   clear H
   go_upto_region 6 with (fail)
   go_cut [23] (fun v23 wc => ∃ (kq:Nat) (x23_4:Bool),v23 = .bool x23_4∧Aside0 (tollbarref02_Split.j1 kq a0 x3_1 x4_1 x5_1 x23_4=some r)∧Aside0 (kq ≤ k1)∧Aside0 (Kd.R Kd.string 9 wc w.heap.size (fun _=>True) u3 x3_1)∧Aside0 (Below w.heap.size w wc))
   case first =>
    have H:=HC5.out
    clear HC5
    by_cases c6:x5_1=(a0.size:Int)
    ·rw [if_pos c6] at H
     have c6b0:=beq_iff_eq.mpr c6
     have c6b1:=bne_eq_false_iff_eq.mpr c6
     clear c6
     (first|rw [c6b0]|(simp only [i64_w,i32_w];rw [c6b0])|rw [c6b1]|skip)
     have H' := Aside0.mk H
     clear H
     go_wp2
     go_meet
     case rel=>exact ⟨_,(true),zb4,H',⟨zb66⟩,⟨zb33⟩,⟨zb0⟩⟩
    rw [if_neg c6] at H
    have c6b0:=beq_eq_false_iff_ne.mpr c6
    have c6b1:=bne_iff_ne.mpr c6
    (first|rw [c6b0]|(simp only [i64_w,i32_w];rw [c6b0])|rw [c6b1]|skip)
    by_cases c7:0 ≤ x5_1;rotate_left
    ·rw [if_neg c7] at H
     exact absurd H zb27
    rw [if_pos c7] at H
    have c7b0:decide (0 ≤ x5_1)=true:=decide_eq_true c7
    clear c7
    by_cases c8:x5_1 < (a0.size:Int)
    ·rw [if_pos c8] at H
     have c8b0:decide (x5_1 < (a0.size:Int))=true:=decide_eq_true c8
     clear c8
     have H' := Aside0.mk H
     clear H
     have p9:0 ≤ (x5_1:Int):=of_decide_eq_true zb2
     have q9:x5_1 < (a0.size:Int):=of_decide_eq_true zb2
     have hx9:=bt_at a0 x5_1
     replace p9:=eq_true p9
     replace q9:=eq_true q9
     go_wp2
     go_meet
     case rel=>exact ⟨_,(((bt a0 x5_1) == 44)),zb4,H',⟨zb66⟩,⟨zb33⟩,⟨zb0⟩⟩
    ·rw [if_neg c8] at H
     exact absurd H zb27
   case rest =>
    clear HC5
    try clear c1
    try clear p2
    try clear c4
    try clear c4b0
    try clear c6
    try clear c6b0
    try clear c6b1
    try clear c7
    try clear c7b0
    try clear c8
    try clear c8b0
    try clear p9
    try clear q9
    try clear hx9
    try clear p2
    try clear p9
    try clear q9
    obtain ⟨kq,x23_4,rfl,HA,HJ4,HO_3,HB⟩:=hcut
    cases kq with
    | zero=>exact absurd HA.out (by simp [tollbarref02_Split.j1])
    | succ kj4 =>
     have H:=HA.out
     clear HA
     simp only [tollbarref02_Split.j1] at H
     by_cases c10:x23_4=true;rotate_left
     ·replace c10:=Bool.eq_false_iff.mpr c10
      subst c10
      rw [if_neg (show ¬ (false=true) by decide)] at H
      have H' := Aside0.mk H
      clear H
      go_wp2
      go_roundg kj4
      case measure=>have:=HK1.out;have:=HJ4.out;omega
      case rel=>exact ⟨(x3_1),(x4_1),(wrap64 (x5_1 + 1)),zb4,zb4,H',⟨by have:=HK1.out;have:=HJ4.out;omega⟩,⟨zb33⟩,⟨zb0⟩⟩
     subst c10
     rw [if_pos rfl] at H
     by_cases c11:0 ≤ x4_1
     ·rw [if_pos c11] at H
      have c11b0:=eq_true c11
      have c11b1:decide (0 ≤ x4_1)=true:=decide_eq_true c11
      clear c11
      by_cases c12:x4_1 ≤ x5_1
      ·rw [if_pos c12] at H
       have c12b0:=eq_true c12
       have c12b1:decide (x4_1 ≤ x5_1)=true:=decide_eq_true c12
       clear c12
       by_cases c13:x5_1 ≤ (a0.size:Int)
       ·rw [if_pos c13] at H
        have c13b0:=eq_true c13
        have c13b1:decide (x5_1 ≤ (a0.size:Int))=true:=decide_eq_true c13
        clear c13
        replace H:=Option.bind_eq_some_iff.mp H
        obtain ⟨t374,A140,H⟩:=H
        try dsimp only at H
        have A14:=Aside0.mk A140
        clear A140
        by_cases c15:t374.toList=([]:List UInt8)
        ·rw [if_pos c15] at H
         have c15b0:=beq_iff_eq.mpr c15
         have c15b1:=bne_eq_false_iff_eq.mpr c15
         clear c15
         have H' := Aside0.mk H
         clear H
         go_wp2_with (first|((with_reducible refine gate_callee (f:=32) rfl ?_);refine goesL_ (some 28) rfl rfl Tryz.func32 zb9 rfl #[.string (a0.extract (x4_1:Int).toNat (x5_1:Int).toNat)] rfl zb1 ?_;(with_reducible refine (tollbarref02_Trim.calls kj4 (a0.extract (x4_1:Int).toNat (x5_1:Int).toNat) t374 _ A14.out).mono ?_);rintro e w' ⟨rfl,⟨nd,rfl⟩⟩;(try clear A14);refine ⟨_,rfl,?_⟩))
         go_roundg kj4
         case measure=>have:=HK1.out;have:=HJ4.out;omega
         case rel=>exact ⟨(x3_1),(wrap64 (x5_1 + 1)),(wrap64 (x5_1 + 1)),zb4,zb4,H',⟨by have:=HK1.out;have:=HJ4.out;omega⟩,⟨zb33⟩,⟨zb0⟩⟩
        rw [if_neg c15] at H
        have c15b0:=beq_eq_false_iff_ne.mpr c15
        have c15b1:=bne_iff_ne.mpr c15
        by_cases c16:x3_1.length < 8796093022208
        ·rw [if_pos c16] at H
         have LMc16:=Aside0.mk c16
         clear c16
         obtain ⟨y375,hy375⟩ : ∃ y_:List ByteArray,y_=(x3_1 ++ [t374]):=⟨_,rfl⟩
         replace H:(tollbarref02_Split.l0 kj4 a0 y375 (wrap64 (x5_1 + 1)) (wrap64 (x5_1 + 1)))=some r:=by first|(rw [hy375];with_reducible exact H)|(have H2_:=(Option.bind_some _ _).symm.trans H;rw [hy375];with_reducible exact H2_)|(have H2_:=(Option.bind_some _ _).symm.trans H;with_reducible exact H2_)|with_reducible exact H|(rw [hy375];exact H)|exact H
         have Ny375:=Aside0.mk hy375
         clear hy375
         have H' := Aside0.mk H
         clear H
         go_wp2_with (first|((with_reducible refine gate_callee (f:=32) rfl ?_);refine goesL_ (some 28) rfl rfl Tryz.func32 zb9 rfl #[.string (a0.extract (x4_1:Int).toNat (x5_1:Int).toNat)] rfl zb1 ?_;(with_reducible refine (tollbarref02_Trim.calls kj4 (a0.extract (x4_1:Int).toNat (x5_1:Int).toNat) t374 _ A14.out).mono ?_);rintro e w' ⟨rfl,⟨nd,rfl⟩⟩;(try clear A14);refine ⟨_,rfl,?_⟩)|((with_reducible refine gate_builtin (b:=.append) (xs:=#[.tmp 31,.tmp 33]) rfl ?_);at_builtin;refine Kd.R_append Kd.string (w0:=w) w.heap.size rfl (.tmp 31) (.tmp 33) 44 9 (.string ⟨#[]⟩) 16 rfl Tryz.underlying44 info9 rfl zb72 zb25 u3 x3_1 t374 [.string t374] (fun _=>True) (fun _=>False) rfl rfl ?aP (fun _ hk=>hk.elim) ?aF ?aO ?aB ?aS ?aL ?_;(case aP=>exact rfl);(case aB=>exact zb0);(case aF=>exact (fun _ _=>trivial));(case aO=>exact zb33);(case aS=>exact (below_size zb0));(case aL=>have:=LMc16.out;omega);intro v376 w17 ho hb hg hat;rw [← Ny375.out] at ho;have n0_:=Aside0.mk (hb);have n1_:=Aside0.mk (ho);clear HB;clear HO_3;have HB:=n0_;have HO377:=n1_;clear n0_ n1_;clear ho hb hg hat))
         go_roundg kj4
         case measure=>have:=HK1.out;have:=HJ4.out;omega
         case rel=>exact ⟨(y375),(wrap64 (x5_1 + 1)),(wrap64 (x5_1 + 1)),zb4,zb4,H',⟨by have:=HK1.out;have:=HJ4.out;omega⟩,⟨by (with_reducible repeat (first|apply Kd.R_alloc|apply Kd.R_drewN|apply Kd.R_drew));exact HO377.out⟩,⟨zb0⟩⟩
        ·rw [if_neg c16] at H
         exact absurd H zb27
       ·rw [if_neg c13] at H
        exact absurd H zb27
      ·rw [if_neg c12] at H
       exact absurd H zb27
     ·rw [if_neg c11] at H
      exact absurd H zb27
def tollbarref04_same.f (k:Nat) (a0:ByteArray) (a1:ByteArray):Option (Bool):=(tollbarref02_Fold.f k a0).bind fun t358=>((tollbarref02_Fold.f k a1).bind fun t359=>(some (t358.toList == t359.toList)))
set_option maxHeartbeats 8000000 in
set_option maxRecDepth 100000 in
theorem tollbarref04_same.calls (k:Nat) (a0:ByteArray) (a1:ByteArray) (r:Bool) (w:World) (h:tollbarref04_same.f k a0 a1=some r) :
  Calls Tryz.prog 104 #[.string a0,.string a1] w fun e w' => e = .returned (.bool r)∧Below w.heap.size w w' := by
 have HB:=Aside0.mk (Below.refl w.heap.size w)
 have H:((tollbarref02_Fold.f k a0).bind fun t358=>((tollbarref02_Fold.f k a1).bind fun t359=>(some (t358.toList == t359.toList))))=some r:=h
 clear h
 replace H:=Option.bind_eq_some_iff.mp H
 obtain ⟨t358,A30,H⟩:=H
 try dsimp only at H
 have A3:=Aside0.mk A30
 clear A30
 replace H:=Option.bind_eq_some_iff.mp H
 obtain ⟨t359,A40,H⟩:=H
 try dsimp only at H
 have A4:=Aside0.mk A40
 clear A40
 obtain rfl:=Option.some.inj H
 go_enter Tryz.func104,Tryz.ntmps104
 go_wp2_with (first|((with_reducible refine gate_callee (f:=106) rfl ?_);refine goesL_ (some 6) rfl rfl Tryz.func106 zb9 rfl #[.string a0] rfl zb1 ?_;(with_reducible refine (tollbarref02_Fold.calls k a0 t358 _ A3.out).mono ?_);rintro e w5 ⟨rfl,hb⟩;(try clear A3);refine ⟨_,rfl,?_⟩;have n0_:=Aside0.mk (below_step zb0 hb);clear HB;have HB:=n0_;clear n0_;(try clear hb);(try clear hb2);(try clear hk);(try clear hi))|((with_reducible refine gate_callee (f:=106) rfl ?_);refine goesL_ (some 8) rfl rfl Tryz.func106 zb9 rfl #[.string a1] rfl zb1 ?_;(with_reducible refine (tollbarref02_Fold.calls k a1 t359 _ A4.out).mono ?_);rintro e w6 ⟨rfl,hb⟩;(try clear A4);refine ⟨_,rfl,?_⟩;have n0_:=Aside0.mk (below_step zb0 hb);clear HB;have HB:=n0_;clear n0_;(try clear hb);(try clear hb2);(try clear hk);(try clear hi)))
 go_ret
 exact ⟨zb3,zb0⟩
def tollbarref04_Get.l0:Nat → List (S55) → ByteArray → List ByteArray → Int → Option (List ByteArray)
 | 0,_,_,_,_=>none
 | k + 1,x0,x1,x5,x6=>if x6 < (x0.length:Int) then (if 0 ≤ x6 then ((tollbarref04_same.f k ((rd_T55 x0 x6).f0) x1).bind fun t364=>(if t364=true then (if x5.length < 8796093022208 then (tollbarref04_Get.l0 k x0 x1 (x5 ++ [(rd_T55 x0 x6).f1]) (wrap64 (x6 + 1))) else (none)) else (tollbarref04_Get.l0 k x0 x1 x5 (wrap64 (x6 + 1))))) else (none)) else (some x5)
def tollbarref04_Get.f (k:Nat) (l0:List (S55)) (a1:ByteArray):Option (List ByteArray):=tollbarref04_Get.l0 k l0 a1 (([]:List ByteArray)) 0
set_option maxHeartbeats 8000000 in
set_option maxRecDepth 100000 in
theorem tollbarref04_Get.calls (k:Nat) (A0:Option Addr) (c0:Nat) (l0:List (S55)) (a1:ByteArray) (r:List ByteArray) (w:World) (hr0:Kd.C k55 w A0 l0.length l0) (hc0:l0.length ≤ c0) (h:tollbarref04_Get.f k l0 a1=some r) :
  Calls Tryz.prog 61 #[.slice A0 l0.length c0,.string a1] w fun e w' => ∃ v0_:Value,e = .returned (v0_)∧Kd.R Kd.string 9 w' w.heap.size (fun _=>True) v0_ r∧Below w.heap.size w w' := by
 have HR0:=Aside0.mk hr0
 have HC0:=Aside0.mk hc0
 clear hr0 hc0
 have HB:=Aside0.mk (Below.refl w.heap.size w)
 have H:(tollbarref04_Get.l0 k l0 a1 (([]:List ByteArray)) 0)=some r:=h
 clear h
 obtain ⟨y360,hy360⟩ : ∃ y_:List ByteArray,y_=(([]:List ByteArray)):=⟨_,rfl⟩
 replace H:(tollbarref04_Get.l0 k l0 a1 y360 0)=some r:=by first|(rw [hy360];with_reducible exact H)|(have H2_:=(Option.bind_some _ _).symm.trans H;rw [hy360];with_reducible exact H2_)|(have H2_:=(Option.bind_some _ _).symm.trans H;with_reducible exact H2_)|with_reducible exact H|(rw [hy360];exact H)|exact H
 have Ny360:=Aside0.mk hy360
 clear hy360
 have H' := Aside0.mk H
 clear H
 go_enter Tryz.func61,Tryz.ntmps61
 go_wp2_with (first|((with_reducible refine gate_dst (N:=7) rfl ?_);refine Kd.R_lit Kd.string _ 9 ?hg (N:=7) ?hd (xs:=([]:List ByteArray)) (inner:=[]) (ok:=fun _=>True) (okp:=fun _=>True) ?hr ?hp (fun _ hk=>hk) trivial (Below.refl _ _) (Nat.le_refl _) zb27 ?_;(case hd=>rfl);(case hg=>rfl);(case hr=>first|(go_simp;done)|(go_simp;rfl));(case hp=>exact (Reps.none _ _));intro v361 w3 ho4 hb hg_ hnew_;clear hg_ hnew_;(first|rw [← Ny360.out] at ho4|(simp only [Int.reduceToNat] at ho4;rw [← Ny360.out] at ho4));have n0_:=Aside0.mk (Kd.R_lower ho4 (below_size zb0));have n1_:=Aside0.mk (below_step zb0 hb);clear HB;have HO362:=n0_;have HB:=n1_;clear n0_ n1_;clear hb ho4))
 go_loopg [5,6] k (fun kq v5 v6 w' => ∃ (x5_1:List ByteArray) (x6_1:Int),v6 = .int .i64 x6_1∧Aside0 (tollbarref04_Get.l0 kq l0 a1 x5_1 x6_1=some r)∧Aside0 (kq ≤ k)∧Aside0 (Kd.R Kd.string 9 w' w.heap.size (fun _=>True) v5 x5_1)∧Aside0 (Below w.heap.size w w'))
 case atStart=>exact ⟨(y360),(0),zb4,H',⟨Nat.le_refl _⟩,⟨by (with_reducible repeat (first|apply Kd.R_alloc|apply Kd.R_drewN|apply Kd.R_drew));exact HO362.out⟩,⟨zb0⟩⟩
 case round =>
  clear H'
  try clear p2
  obtain ⟨x5_1,x6_1,rfl,HA,HK1,HO_5,HB⟩:=hrel
  cases gk with
  | zero=>exact absurd HA.out (by simp [tollbarref04_Get.l0])
  | succ k1 =>
   have H:=HA.out
   clear HA
   simp only [tollbarref04_Get.l0] at H
   by_cases c5:x6_1 < (l0.length:Int);rotate_left
   ·rw [if_neg c5] at H
    have c5b0:decide (x6_1 < (l0.length:Int))=false:=decide_eq_false c5
    clear c5
    obtain rfl:=Option.some.inj H
    go_wp2
    go_ret
    exact ⟨_,zb3,zb14,zb0⟩
   rw [if_pos c5] at H
   have c5b0:decide (x6_1 < (l0.length:Int))=true:=decide_eq_true c5
   clear c5
   by_cases c6:0 ≤ x6_1
   ·rw [if_pos c6] at H
    have c6b0:decide (0 ≤ x6_1)=true:=decide_eq_true c6
    clear c6
    replace H:=Option.bind_eq_some_iff.mp H
    obtain ⟨t364,A70,H⟩:=H
    try dsimp only at H
    have A7:=Aside0.mk A70
    clear A70
    by_cases c8:t364=true;rotate_left
    ·replace c8:=Bool.eq_false_iff.mpr c8
     subst c8
     rw [if_neg (show ¬ (false=true) by decide)] at H
     have H' := Aside0.mk H
     clear H
     have p363:0 ≤ (x6_1:Int):=of_decide_eq_true zb2
     have q363:x6_1 < (l0.length:Int):=of_decide_eq_true zb2
     obtain ⟨ad363,e363,hx363_0,hx363_1⟩:=at_T55 HR0.out x6_1 p363 q363
     cases e363
     replace hx363_0:=(HB.out.cell (World.block_lt_of_cell? w _ hx363_0)).trans hx363_0
     replace hx363_1:=(HB.out.cell (World.block_lt_of_cell? w _ hx363_1)).trans hx363_1
     replace p363:=eq_true p363
     replace q363:=eq_true q363
     go_wp2_with (first|((with_reducible refine gate_callee (f:=104) rfl ?_);refine goesL_ (some 20) rfl rfl Tryz.func104 zb9 rfl #[.string ((rd_T55 l0 x6_1).f0),.string a1] rfl zb1 ?_;(with_reducible refine (tollbarref04_same.calls k1 ((rd_T55 l0 x6_1).f0) a1 false _ A7.out).mono ?_);rintro e w12 ⟨rfl,hb⟩;(try clear A7);refine ⟨_,rfl,?_⟩;have n0_:=Aside0.mk (Kd.R_below zb14 hb);have n1_:=Aside0.mk (below_step zb0 hb);clear HO_5;clear HB;have HO_5:=n0_;have HB:=n1_;clear n0_ n1_;(try clear hb);(try clear hb2);(try clear hk);(try clear hi)))
     go_roundg k1
     case measure=>have:=HK1.out;omega
     case rel=>exact ⟨(x5_1),(wrap64 (x6_1 + 1)),zb4,H',⟨zb74⟩,⟨zb14⟩,⟨zb0⟩⟩
    subst c8
    rw [if_pos rfl] at H
    by_cases c9:x5_1.length < 8796093022208
    ·rw [if_pos c9] at H
     have LMc9:=Aside0.mk c9
     clear c9
     obtain ⟨y366,hy366⟩ : ∃ y_:List ByteArray,y_=(x5_1 ++ [(rd_T55 l0 x6_1).f1]):=⟨_,rfl⟩
     replace H:(tollbarref04_Get.l0 k1 l0 a1 y366 (wrap64 (x6_1 + 1)))=some r:=by first|(rw [hy366];with_reducible exact H)|(have H2_:=(Option.bind_some _ _).symm.trans H;rw [hy366];with_reducible exact H2_)|(have H2_:=(Option.bind_some _ _).symm.trans H;with_reducible exact H2_)|with_reducible exact H|(rw [hy366];exact H)|exact H
     have Ny366:=Aside0.mk hy366
     clear hy366
     have H' := Aside0.mk H
     clear H
     have p363:0 ≤ (x6_1:Int):=of_decide_eq_true zb2
     have q363:x6_1 < (l0.length:Int):=of_decide_eq_true zb2
     obtain ⟨ad363,e363,hx363_0,hx363_1⟩:=at_T55 HR0.out x6_1 p363 q363
     cases e363
     replace hx363_0:=(HB.out.cell (World.block_lt_of_cell? w _ hx363_0)).trans hx363_0
     replace hx363_1:=(HB.out.cell (World.block_lt_of_cell? w _ hx363_1)).trans hx363_1
     replace p363:=eq_true p363
     replace q363:=eq_true q363
     go_wp2_with (first|((with_reducible refine gate_callee (f:=104) rfl ?_);refine goesL_ (some 20) rfl rfl Tryz.func104 zb9 rfl #[.string ((rd_T55 l0 x6_1).f0),.string a1] rfl zb1 ?_;(with_reducible refine (tollbarref04_same.calls k1 ((rd_T55 l0 x6_1).f0) a1 true _ A7.out).mono ?_);rintro e w10 ⟨rfl,hb⟩;(try clear A7);refine ⟨_,rfl,?_⟩;have n0_:=Aside0.mk (Kd.R_below zb14 hb);have n1_:=Aside0.mk (below_step zb0 hb);clear HO_5;clear HB;have HO_5:=n0_;have HB:=n1_;clear n0_ n1_;(try clear hb);(try clear hb2);(try clear hk);(try clear hi);have p365:0 ≤ (x6_1:Int):=of_decide_eq_true zb2;have q365:x6_1 < (l0.length:Int):=of_decide_eq_true zb2;obtain ⟨ad365,e365,hx365_0,hx365_1⟩:=at_T55 HR0.out x6_1 p365 q365;obtain rfl:ad363=ad365:=(by injection e365);replace hx365_0:=(HB.out.cell (World.block_lt_of_cell? w _ hx365_0)).trans hx365_0;replace hx365_1:=(HB.out.cell (World.block_lt_of_cell? w _ hx365_1)).trans hx365_1;replace p365:=eq_true p365;replace q365:=eq_true q365)|((with_reducible refine gate_builtin (b:=.append) (xs:=#[.tmp 21,.tmp 27]) rfl ?_);at_builtin;refine Kd.R_append Kd.string (w0:=w) w.heap.size rfl (.tmp 21) (.tmp 27) 44 9 (.string ⟨#[]⟩) 16 rfl Tryz.underlying44 info9 rfl zb72 zb25 u5 x5_1 ((rd_T55 l0 x6_1).f1) [.string ((rd_T55 l0 x6_1).f1)] (fun _=>True) (fun _=>False) rfl rfl ?aP (fun _ hk=>hk.elim) ?aF ?aO ?aB ?aS ?aL ?_;(case aP=>exact rfl);(case aB=>exact zb0);(case aF=>exact (fun _ _=>trivial));(case aO=>exact zb14);(case aS=>exact (below_size zb0));(case aL=>have:=LMc9.out;omega);intro v367 w11 ho hb hg hat;rw [← Ny366.out] at ho;have n0_:=Aside0.mk (hb);have n1_:=Aside0.mk (ho);clear HB;clear HO_5;have HB:=n0_;have HO368:=n1_;clear n0_ n1_;clear ho hb hg hat))
     go_roundg k1
     case measure=>have:=HK1.out;omega
     case rel=>exact ⟨(y366),(wrap64 (x6_1 + 1)),zb4,H',⟨zb74⟩,⟨by (with_reducible repeat (first|apply Kd.R_alloc|apply Kd.R_drewN|apply Kd.R_drew));exact HO368.out⟩,⟨zb0⟩⟩
    ·rw [if_neg c9] at H
     exact absurd H zb27
   ·rw [if_neg c6] at H
    exact absurd H zb27
mutual
def tollbarref04_List.l0:Nat → List ByteArray → List ByteArray → Int → Option (List ByteArray)
 | 0,_,_,_=>none
 | k + 1,x5,x6,x7=>if x7 < (x6.length:Int) then (if 0 ≤ x7 then ((tollbarref02_Split.f k (rdOf ByteArray.empty x6 x7)).bind fun t385=>(tollbarref04_List.l1 k x5 x6 x7 t385 0)) else (none)) else (some x5)
def tollbarref04_List.l1:Nat → List ByteArray → List ByteArray → Int → List ByteArray → Int → Option (List ByteArray)
 | 0,_,_,_,_,_=>none
 | k + 1,x5,x6,x7,x8,x9=>if x9 < (x8.length:Int) then (if 0 ≤ x9 then (if x5.length < 8796093022208 then (tollbarref04_List.l1 k (x5 ++ [rdOf ByteArray.empty x8 x9]) x6 x7 x8 (wrap64 (x9 + 1))) else (none)) else (none)) else (tollbarref04_List.l0 k x5 x6 (wrap64 (x7 + 1)))
end
def tollbarref04_List.f (k:Nat) (l0:List (S55)) (a1:ByteArray):Option (List ByteArray):=(tollbarref04_Get.f k l0 a1).bind fun t381=>(tollbarref04_List.l0 k (([]:List ByteArray)) t381 0)
set_option maxHeartbeats 8000000 in
set_option maxRecDepth 100000 in
theorem tollbarref04_List.calls (k:Nat) (A0:Option Addr) (c0:Nat) (l0:List (S55)) (a1:ByteArray) (r:List ByteArray) (w:World) (hr0:Kd.C k55 w A0 l0.length l0) (hc0:l0.length ≤ c0) (h:tollbarref04_List.f k l0 a1=some r) :
  Calls Tryz.prog 103 #[.slice A0 l0.length c0,.string a1] w fun e w' => ∃ v0_:Value,e = .returned (v0_)∧Kd.R Kd.string 9 w' w.heap.size (fun _=>True) v0_ r∧Below w.heap.size w w' := by
 have HR0:=Aside0.mk hr0
 have HC0:=Aside0.mk hc0
 clear hr0 hc0
 have HB:=Aside0.mk (Below.refl w.heap.size w)
 have H:((tollbarref04_Get.f k l0 a1).bind fun t381=>(tollbarref04_List.l0 k (([]:List ByteArray)) t381 0))=some r:=h
 clear h
 obtain ⟨y378,hy378⟩ : ∃ y_:List ByteArray,y_=(([]:List ByteArray)):=⟨_,rfl⟩
 replace H:((tollbarref04_Get.f k l0 a1).bind fun t381=>(tollbarref04_List.l0 k y378 t381 0))=some r:=by first|(rw [hy378];with_reducible exact H)|(have H2_:=(Option.bind_some _ _).symm.trans H;rw [hy378];with_reducible exact H2_)|(have H2_:=(Option.bind_some _ _).symm.trans H;with_reducible exact H2_)|with_reducible exact H|(rw [hy378];exact H)|exact H
 have Ny378:=Aside0.mk hy378
 clear hy378
 replace H:=Option.bind_eq_some_iff.mp H
 obtain ⟨t381,A30,H⟩:=H
 try dsimp only at H
 have A3:=Aside0.mk A30
 clear A30
 have H' := Aside0.mk H
 clear H
 go_enter Tryz.func103,Tryz.ntmps103
 go_wp2_with (first|((with_reducible refine gate_dst (N:=10) rfl ?_);refine Kd.R_lit Kd.string _ 9 ?hg (N:=10) ?hd (xs:=([]:List ByteArray)) (inner:=[]) (ok:=fun _=>True) (okp:=fun _=>True) ?hr ?hp (fun _ hk=>hk) trivial (Below.refl _ _) (Nat.le_refl _) zb27 ?_;(case hd=>rfl);(case hg=>rfl);(case hr=>first|(go_simp;done)|(go_simp;rfl));(case hp=>exact (Reps.none _ _));intro v379 w4 ho5 hb hg_ hnew_;clear hg_ hnew_;(first|rw [← Ny378.out] at ho5|(simp only [Int.reduceToNat] at ho5;rw [← Ny378.out] at ho5));have n0_:=Aside0.mk (Kd.R_lower ho5 (below_size zb0));have n1_:=Aside0.mk (below_step zb0 hb);clear HB;have HO380:=n0_;have HB:=n1_;clear n0_ n1_;clear hb ho5)|((with_reducible refine gate_callee (f:=61) rfl ?_);refine goesL_ (some 13) rfl rfl Tryz.func61 zb9 rfl #[.slice A0 l0.length c0,.string a1] rfl zb1 ?_;(with_reducible refine (tollbarref04_Get.calls k _ _ l0 a1 t381 _ ?side1 ?side2 A3.out).mono ?_);(case side1=>repeat (first|exact (Kd.C_below HR0.out HB.out)|(with_reducible refine Kd.C_alloc ?_ _)|(with_reducible refine Kd.C_drewN ?_ _)|(with_reducible refine Kd.C_drew ?_)));(case side2=>exact HC0.out);rintro e w6 ⟨v382,rfl,ho0,hb⟩;(try clear A3);refine ⟨_,rfl,?_⟩;have n0_:=Aside0.mk (Kd.R_elder' (by (with_reducible repeat (first|apply Kd.R_alloc|apply Kd.R_drewN|apply Kd.R_drew));exact HO380.out) (Kd.R_base ho0) hb);have n1_:=Aside0.mk (Kd.R_lower (Kd.R_new' ho0 (Kd.R_lt (by (with_reducible repeat (first|apply Kd.R_alloc|apply Kd.R_drewN|apply Kd.R_drew));exact HO380.out))) (below_size zb0));have n2_:=Aside0.mk (below_step zb0 hb);clear HO380;clear HB;have HO380:=n0_;have HO383:=n1_;have HB:=n2_;clear n0_ n1_ n2_;(try clear hb);(try clear hb2);(try clear hk);(try clear hi);(try clear ho0)))
 go_loopg [5,7] k (fun kq v5 v7 w' => ∃ (x5_1:List ByteArray) (x7_1:Int),v7 = .int .i64 x7_1∧Aside0 (tollbarref04_List.l0 kq x5_1 t381 x7_1=some r)∧Aside0 (kq ≤ k)∧Aside0 (Kd.R Kd.string 9 w' w.heap.size (fun k_=>some k_ ≠ (v382:Value).ownBlock) v5 x5_1)∧Aside0 (Kd.R Kd.string 9 w' w.heap.size (fun k_=>some k_ ≠ (v5:Value).ownBlock) v382 t381)∧Aside0 (Below w.heap.size w w'))
 case atStart=>exact ⟨(y378),(0),zb4,H',⟨Nat.le_refl _⟩,⟨by (with_reducible repeat (first|apply Kd.R_alloc|apply Kd.R_drewN|apply Kd.R_drew));exact Kd.R_mono HO380.out (fun _ hk=>hk.2)⟩,⟨by (with_reducible repeat (first|apply Kd.R_alloc|apply Kd.R_drewN|apply Kd.R_drew));exact Kd.R_mono HO383.out (fun _ hk=>hk.2)⟩,⟨zb0⟩⟩
 case round =>
  clear H'
  try clear c1
  try clear p2
  try clear c6
  obtain ⟨x5_1,x7_1,rfl,HA,HK1,HO_5,HO_6,HB⟩:=hrel
  cases gk with
  | zero=>exact absurd HA.out (by simp [tollbarref04_List.l0])
  | succ k1 =>
   have H:=HA.out
   clear HA
   simp only [tollbarref04_List.l0] at H
   by_cases c7:x7_1 < (t381.length:Int);rotate_left
   ·rw [if_neg c7] at H
    have c7b0:decide (x7_1 < (t381.length:Int))=false:=decide_eq_false c7
    clear c7
    obtain rfl:=Option.some.inj H
    obtain ⟨Ao18,co18,eo18⟩:=Kd.R_slice HO_6.out
    subst eo18
    go_wp2
    go_ret
    exact ⟨_,zb3,zb97,zb0⟩
   rw [if_pos c7] at H
   have c7b0:decide (x7_1 < (t381.length:Int))=true:=decide_eq_true c7
   clear c7
   by_cases c8:0 ≤ x7_1
   ·rw [if_pos c8] at H
    have c8b0:decide (0 ≤ x7_1)=true:=decide_eq_true c8
    clear c8
    replace H:=Option.bind_eq_some_iff.mp H
    obtain ⟨t385,A90,H⟩:=H
    try dsimp only at H
    have A9:=Aside0.mk A90
    clear A90
    have H' := Aside0.mk H
    clear H
    obtain ⟨Ao10,co10,eo10⟩:=Kd.R_slice HO_6.out
    subst eo10
    have p384:0 ≤ (x7_1:Int):=of_decide_eq_true zb2
    have q384:x7_1 < (t381.length:Int):=of_decide_eq_true zb2
    obtain ⟨ad384,e384,hx384_0⟩:=Kd.at_string (Kd.R_reads' HO_6.out).2.2 x7_1 p384 q384
    cases e384
    replace p384:=eq_true p384
    replace q384:=eq_true q384
    go_wp2_with (first|((with_reducible refine gate_callee (f:=148) rfl ?_);refine goesL_ (some 24) rfl rfl Tryz.func148 zb9 rfl #[.string (rdOf ByteArray.empty t381 x7_1)] rfl zb1 ?_;(with_reducible refine (tollbarref02_Split.calls k1 (rdOf ByteArray.empty t381 x7_1) t385 _ A9.out).mono ?_);rintro e w11 ⟨v386,rfl,ho0,hb⟩;(try clear A9);refine ⟨_,rfl,?_⟩;have n0_:=Aside0.mk (Kd.R_elder' zb14 (Kd.R_base ho0) hb);have n1_:=Aside0.mk (Kd.R_elder' zb82 (Kd.R_base ho0) hb);have n2_:=Aside0.mk (Kd.R_lower (Kd.R_new' (Kd.R_new' ho0 (Kd.R_lt zb14)) (Kd.R_lt zb82)) (below_size zb0));have n3_:=Aside0.mk (below_step zb0 hb);clear HO_5;clear HO_6;clear HB;have HO_5:=n0_;have HO_6:=n1_;have HO387:=n2_;have HB:=n3_;clear n0_ n1_ n2_ n3_;(try clear hb);(try clear hb2);(try clear hk);(try clear hi);(try clear ho0)))
    go_loopg [5,9] k1 (fun kq v5 v9 w' => ∃ (x5_2:List ByteArray) (x9_2:Int),v9 = .int .i64 x9_2∧Aside0 (tollbarref04_List.l1 kq x5_2 t381 x7_1 t385 x9_2=some r)∧Aside0 (kq ≤ k1)∧Aside0 (Kd.R Kd.string 9 w' w.heap.size (fun k_=>some k_ ≠ ((.slice (some ad384) t381.length co10):Value).ownBlock∧some k_ ≠ (v386:Value).ownBlock) v5 x5_2)∧Aside0 (Kd.R Kd.string 9 w' w.heap.size (fun k_=>some k_ ≠ (v5:Value).ownBlock∧some k_ ≠ (v386:Value).ownBlock) (.slice (some ad384) t381.length co10) t381)∧Aside0 (Kd.R Kd.string 9 w' w.heap.size (fun k_=>some k_ ≠ (v5:Value).ownBlock∧some k_ ≠ ((.slice (some ad384) t381.length co10):Value).ownBlock) v386 t385)∧Aside0 (Below w.heap.size w w'))
    case atStart=>exact ⟨(x5_1),(0),zb4,H',⟨Nat.le_refl _⟩,⟨zb14⟩,⟨zb82⟩,⟨by (with_reducible repeat (first|apply Kd.R_alloc|apply Kd.R_drewN|apply Kd.R_drew));exact Kd.R_mono HO387.out (fun _ hk=>⟨hk.1.2,hk.2⟩)⟩,⟨zb0⟩⟩
    case round =>
     clear H'
     try clear c1
     try clear p2
     try clear p3
     try clear q3
     try clear hx3
     try clear c6
     try clear c7
     try clear c7b0
     try clear c8
     try clear c8b0
     try clear c10
     try clear hx384_0
     try clear p2
     try clear p384
     try clear q384
     obtain ⟨x5_2,x9_2,rfl,HA,HK2,HO_5,HO_6,HO_8,HB⟩:=hrel
     cases gk with
     | zero=>exact absurd HA.out (by simp [tollbarref04_List.l1])
     | succ k2 =>
      have H:=HA.out
      clear HA
      simp only [tollbarref04_List.l1] at H
      by_cases c12:x9_2 < (t385.length:Int);rotate_left
      ·rw [if_neg c12] at H
       have c12b0:decide (x9_2 < (t385.length:Int))=false:=decide_eq_false c12
       clear c12
       have H' := Aside0.mk H
       clear H
       obtain ⟨Ao17,co17,eo17⟩:=Kd.R_slice HO_8.out
       subst eo17
       go_wp2
       go_roundg k2
       case measure=>have:=HK1.out;have:=HK2.out;omega
       case rel=>exact ⟨(x5_2),(wrap64 (x7_1 + 1)),zb4,H',⟨by have:=HK1.out;have:=HK2.out;omega⟩,⟨by (with_reducible repeat (first|apply Kd.R_alloc|apply Kd.R_drewN|apply Kd.R_drew));exact Kd.R_mono HO_5.out (fun _ hk=>hk.1)⟩,⟨by (with_reducible repeat (first|apply Kd.R_alloc|apply Kd.R_drewN|apply Kd.R_drew));exact Kd.R_mono HO_6.out (fun _ hk=>hk.1)⟩,⟨zb0⟩⟩
      rw [if_pos c12] at H
      have c12b0:decide (x9_2 < (t385.length:Int))=true:=decide_eq_true c12
      clear c12
      by_cases c13:0 ≤ x9_2
      ·rw [if_pos c13] at H
       have c13b0:decide (0 ≤ x9_2)=true:=decide_eq_true c13
       clear c13
       by_cases c14:x5_2.length < 8796093022208
       ·rw [if_pos c14] at H
        have LMc14:=Aside0.mk c14
        clear c14
        obtain ⟨y389,hy389⟩ : ∃ y_:List ByteArray,y_=(x5_2 ++ [rdOf ByteArray.empty t385 x9_2]):=⟨_,rfl⟩
        replace H:(tollbarref04_List.l1 k2 y389 t381 x7_1 t385 (wrap64 (x9_2 + 1)))=some r:=by first|(rw [hy389];with_reducible exact H)|(have H2_:=(Option.bind_some _ _).symm.trans H;rw [hy389];with_reducible exact H2_)|(have H2_:=(Option.bind_some _ _).symm.trans H;with_reducible exact H2_)|with_reducible exact H|(rw [hy389];exact H)|exact H
        have Ny389:=Aside0.mk hy389
        clear hy389
        have H' := Aside0.mk H
        clear H
        obtain ⟨Ao15,co15,eo15⟩:=Kd.R_slice HO_8.out
        subst eo15
        have p388:0 ≤ (x9_2:Int):=of_decide_eq_true zb2
        have q388:x9_2 < (t385.length:Int):=of_decide_eq_true zb2
        obtain ⟨ad388,e388,hx388_0⟩:=Kd.at_string (Kd.R_reads' HO_8.out).2.2 x9_2 p388 q388
        cases e388
        replace p388:=eq_true p388
        replace q388:=eq_true q388
        go_wp2_with (first|((with_reducible refine gate_builtin (b:=.append) (xs:=#[.tmp 31,.tmp 36]) rfl ?_);at_builtin;refine Kd.R_append Kd.string (w0:=w) w.heap.size rfl (.tmp 31) (.tmp 36) 44 9 (.string ⟨#[]⟩) 16 rfl Tryz.underlying44 info9 rfl zb72 zb25 u5 x5_2 (rdOf ByteArray.empty t385 x9_2) [.string (rdOf ByteArray.empty t385 x9_2)] (fun k_=>some k_ ≠ (.slice (some ad384) t381.length co10:Value).ownBlock∧some k_ ≠ (.slice (some ad388) t385.length co15:Value).ownBlock) (fun _=>False) rfl rfl ?aP (fun _ hk=>hk.elim) ?aF ?aO ?aB ?aS ?aL ?_;(case aP=>exact rfl);(case aB=>exact zb0);(case aF=>exact (fun k_ hk=>⟨Kd.fresh' (Kd.R_lt zb82) k_ hk,Kd.fresh' (Kd.R_lt (by (with_reducible repeat (first|apply Kd.R_alloc|apply Kd.R_drewN|apply Kd.R_drew));exact HO_8.out)) k_ hk⟩));(case aO=>exact zb14);(case aS=>exact (below_size zb0));(case aL=>have:=LMc14.out;omega);intro v390 w16 ho hb hg hat;rw [← Ny389.out] at ho;have n0_:=Aside0.mk (Kd.R_after (ok:=(fun k_=>some k_ ≠ (.slice (some ad388) t385.length co15:Value).ownBlock)) zb95 hg hat);have n1_:=Aside0.mk (Kd.R_after (ok:=(fun k_=>some k_ ≠ (.slice (some ad384) t381.length co10:Value).ownBlock)) zb96 hg hat);have n2_:=Aside0.mk (hb);have n3_:=Aside0.mk (ho);clear HO_6;clear HO_8;clear HB;clear HO_5;have HO_6:=n0_;have HO_8:=n1_;have HB:=n2_;have HO391:=n3_;clear n0_ n1_ n2_ n3_;clear ho hb hg hat))
        go_roundg k2
        case measure=>have:=HK1.out;have:=HK2.out;omega
        case rel=>exact ⟨(y389),(wrap64 (x9_2 + 1)),zb4,H',⟨by have:=HK1.out;have:=HK2.out;omega⟩,⟨by (with_reducible repeat (first|apply Kd.R_alloc|apply Kd.R_drewN|apply Kd.R_drew));exact HO391.out⟩,⟨zb95⟩,⟨zb96⟩,⟨zb0⟩⟩
       ·rw [if_neg c14] at H
        exact absurd H zb27
      ·rw [if_neg c13] at H
       exact absurd H zb27
   ·rw [if_neg c8] at H
    exact absurd H zb27
def tollbarref07_Coded.f (k:Nat) (l0:List (S55)):Option (Bool):=(tollbarref04_List.f k l0 (⟨#[116,114,97,110,115,102,101,114,45,101,110,99,111,100,105,110,103]⟩:ByteArray)).bind fun t426=>(if (t426.length:Int)=1 then (if 0 < (t426.length:Int) then ((tollbarref02_Fold.f k (rdOf ByteArray.empty t426 0)).bind fun t430=>(some (t430.toList == ([99,104,117,110,107,101,100]:List UInt8)))) else (none)) else (some false))
set_option maxHeartbeats 8000000 in
set_option maxRecDepth 100000 in
theorem tollbarref07_Coded.calls (k:Nat) (A0:Option Addr) (c0:Nat) (l0:List (S55)) (r:Bool) (w:World) (hr0:Kd.C k55 w A0 l0.length l0) (hc0:l0.length ≤ c0) (h:tollbarref07_Coded.f k l0=some r) :
  Calls Tryz.prog 90 #[.slice A0 l0.length c0] w fun e w' => e = .returned (.bool r)∧Below w.heap.size w w' := by
 have HR0:=Aside0.mk hr0
 have HC0:=Aside0.mk hc0
 clear hr0 hc0
 have HB:=Aside0.mk (Below.refl w.heap.size w)
 have H:((tollbarref04_List.f k l0 (⟨#[116,114,97,110,115,102,101,114,45,101,110,99,111,100,105,110,103]⟩:ByteArray)).bind fun t426=>(if (t426.length:Int)=1 then (if 0 < (t426.length:Int) then ((tollbarref02_Fold.f k (rdOf ByteArray.empty t426 0)).bind fun t430=>(some (t430.toList == ([99,104,117,110,107,101,100]:List UInt8)))) else (none)) else (some false)))=some r:=h
 clear h
 replace H:=Option.bind_eq_some_iff.mp H
 obtain ⟨t426,A20,H⟩:=H
 try dsimp only at H
 have A2:=Aside0.mk A20
 clear A20
 by_cases c3:(t426.length:Int)=1;rotate_left
 ·rw [if_neg c3] at H
  have c3b0:=beq_eq_false_iff_ne.mpr c3
  have c3b1:=bne_iff_ne.mpr c3
  obtain rfl:=Option.some.inj H
  go_enter Tryz.func90,Tryz.ntmps90
  go_wp2_with (first|((with_reducible refine gate_callee (f:=103) rfl ?_);refine goesL_ (some 5) rfl rfl Tryz.func103 zb9 rfl #[.slice A0 l0.length c0,.string (⟨#[116,114,97,110,115,102,101,114,45,101,110,99,111,100,105,110,103]⟩:ByteArray)] rfl zb1 ?_;(with_reducible refine (tollbarref04_List.calls k _ _ l0 (⟨#[116,114,97,110,115,102,101,114,45,101,110,99,111,100,105,110,103]⟩:ByteArray) t426 _ ?side1 ?side2 A2.out).mono ?_);(case side1=>repeat (first|exact HR0.out|(with_reducible refine Kd.C_alloc ?_ _)|(with_reducible refine Kd.C_drewN ?_ _)|(with_reducible refine Kd.C_drew ?_)));(case side2=>exact HC0.out);rintro e w9 ⟨v427,rfl,ho0,hb⟩;(try clear A2);refine ⟨_,rfl,?_⟩;have n0_:=Aside0.mk (Kd.R_lower ho0 (below_size zb0));have n1_:=Aside0.mk (below_step zb0 hb);clear HB;have HO428:=n0_;have HB:=n1_;clear n0_ n1_;(try clear hb);(try clear hb2);(try clear hk);(try clear hi);(try clear ho0);obtain ⟨Ao10,co10,eo10⟩:=Kd.R_slice HO428.out;subst eo10))
  go_ret
  exact ⟨zb3,zb0⟩
 rw [if_pos c3] at H
 have c3b0:=beq_iff_eq.mpr c3
 have c3b1:=bne_eq_false_iff_eq.mpr c3
 clear c3
 by_cases c4:0 < (t426.length:Int)
 ·rw [if_pos c4] at H
  have c4b0:decide (0 < (t426.length:Int))=true:=decide_eq_true c4
  have c4b1:decide (0 < t426.length)=true:=decide_eq_true zb25
  clear c4
  replace H:=Option.bind_eq_some_iff.mp H
  obtain ⟨t430,A50,H⟩:=H
  try dsimp only at H
  have A5:=Aside0.mk A50
  clear A50
  obtain rfl:=Option.some.inj H
  go_enter Tryz.func90,Tryz.ntmps90
  go_wp2_with (first|((with_reducible refine gate_callee (f:=103) rfl ?_);refine goesL_ (some 5) rfl rfl Tryz.func103 zb9 rfl #[.slice A0 l0.length c0,.string (⟨#[116,114,97,110,115,102,101,114,45,101,110,99,111,100,105,110,103]⟩:ByteArray)] rfl zb1 ?_;(with_reducible refine (tollbarref04_List.calls k _ _ l0 (⟨#[116,114,97,110,115,102,101,114,45,101,110,99,111,100,105,110,103]⟩:ByteArray) t426 _ ?side1 ?side2 A2.out).mono ?_);(case side1=>repeat (first|exact HR0.out|(with_reducible refine Kd.C_alloc ?_ _)|(with_reducible refine Kd.C_drewN ?_ _)|(with_reducible refine Kd.C_drew ?_)));(case side2=>exact HC0.out);rintro e w6 ⟨v427,rfl,ho0,hb⟩;(try clear A2);refine ⟨_,rfl,?_⟩;have n0_:=Aside0.mk (Kd.R_lower ho0 (below_size zb0));have n1_:=Aside0.mk (below_step zb0 hb);clear HB;have HO428:=n0_;have HB:=n1_;clear n0_ n1_;(try clear hb);(try clear hb2);(try clear hk);(try clear hi);(try clear ho0);obtain ⟨Ao7,co7,eo7⟩:=Kd.R_slice HO428.out;subst eo7;have p429:0 ≤ (0:Int):=zb25;have q429:0 < (t426.length:Int):=of_decide_eq_true zb2;obtain ⟨ad429,e429,hx429_0⟩:=Kd.at_string (Kd.R_reads' HO428.out).2.2 0 p429 q429;cases e429;have qi429:(0 < t426.length)=True:=eq_true zb25;(try rw [show ((0:Int)).toNat=0 from rfl] at hx429_0);(try rw [Addr.add_zero'] at hx429_0);replace p429:=eq_true p429;replace q429:=eq_true q429)|(go_at_call 106;(with_reducible refine (tollbarref02_Fold.calls k (rdOf ByteArray.empty t426 0) t430 _ A5.out).mono ?_);rintro e w8 ⟨rfl,hb⟩;(try clear A5);have n0_:=Aside0.mk (Kd.R_below (by (with_reducible repeat (first|apply Kd.R_alloc|apply Kd.R_drewN|apply Kd.R_drew));exact HO428.out) hb);have n1_:=Aside0.mk (below_step zb0 hb);clear HO428;clear HB;have HO428:=n0_;have HB:=n1_;clear n0_ n1_;(try clear hb);(try clear hb2);(try clear hk);(try clear hi)))
  go_ret
  exact ⟨zb3,zb0⟩
 ·rw [if_neg c4] at H
  exact absurd H zb27
mutual
def tollbarref02_Decimal.j0:Nat → ByteArray → Bool → Option (Int × Bool)
 | 0,_,_=>none
 | k + 1,x0,x13=>if x13=true then (some (0,false)) else (tollbarref02_Decimal.l0 k x0 0 0)
def tollbarref02_Decimal.l0:Nat → ByteArray → Int → Int → Option (Int × Bool)
 | 0,_,_,_=>none
 | k + 1,x0,x4,x5=>if x5 < (x0.size:Int) then (if 0 ≤ x5 then ((tollbarref02_Digit.f (bt x0 x5)).bind fun t416=>(if t416=true then (tollbarref02_Decimal.l0 k x0 (wrap64 ((wrap64 (x4 * 10)) + (((bt x0 x5) - 48) % 256))) (wrap64 (x5 + 1))) else (some (0,false)))) else (none)) else (some (x4,true))
end
def tollbarref02_Decimal.f (k:Nat) (a0:ByteArray):Option (Int × Bool):=if (a0.size:Int) < 1 then (tollbarref02_Decimal.j0 k a0 true) else (tollbarref02_Decimal.j0 k a0 (decide ((a0.size:Int) > 18)))
set_option maxHeartbeats 8000000 in
set_option maxRecDepth 100000 in
theorem tollbarref02_Decimal.calls (k:Nat) (a0:ByteArray) (r1:Int) (r2:Bool) (w:World) (h:tollbarref02_Decimal.f k a0=some (r1,r2)) :
  Calls Tryz.prog 134 #[.string a0] w fun e w' => e = .returned (.tuple #[.int .i64 r1,.bool r2])∧Drawn0 w w' := by
 have H:(if (a0.size:Int) < 1 then (tollbarref02_Decimal.j0 k a0 true) else (tollbarref02_Decimal.j0 k a0 (decide ((a0.size:Int) > 18))))=some (r1,r2):=h
 clear h
 have HC2:=Aside0.mk H
 clear H
 go_enter Tryz.func134,Tryz.ntmps134
 go_upto_region 1 with (fail)
 go_cut [13] (fun v13 wc => ∃ (kq:Nat) (x13_1:Bool),v13 = .bool x13_1∧Aside0 (tollbarref02_Decimal.j0 kq a0 x13_1=some (r1,r2))∧Aside0 (kq ≤ k)∧Drawn0 w wc)
 case first =>
  have H:=HC2.out
  clear HC2
  by_cases c3:(a0.size:Int) < 1
  ·rw [if_pos c3] at H
   have c3b0:decide ((a0.size:Int) < 1)=true:=decide_eq_true c3
   have c3b1:decide (a0.size < 1)=true:=decide_eq_true zb25
   clear c3
   (first|rw [c3b0]|(simp only [i64_w,i32_w];rw [c3b0])|rw [c3b1]|skip)
   have H' := Aside0.mk H
   clear H
   go_wp2
   go_meet
   case rel=>exact ⟨_,(true),zb4,H',⟨zb31⟩,zb8⟩
  rw [if_neg c3] at H
  have c3b0:decide ((a0.size:Int) < 1)=false:=decide_eq_false c3
  have c3b1:decide (a0.size < 1)=false:=decide_eq_false zb25
  clear c3
  (first|rw [c3b0]|(simp only [i64_w,i32_w];rw [c3b0])|rw [c3b1]|skip)
  have H' := Aside0.mk H
  clear H
  go_wp2
  go_meet
  case rel=>exact ⟨_,(decide ((a0.size:Int) > 18)),zb4,H',⟨zb31⟩,zb8⟩
 case rest =>
  clear HC2
  try clear c1
  try clear p2
  try clear c3
  try clear c3b0
  try clear c3b1
  obtain ⟨kq,x13_1,rfl,HA,HJ1,⟨mc1,rfl⟩⟩:=hcut
  cases kq with
  | zero=>exact absurd HA.out (by simp [tollbarref02_Decimal.j0])
  | succ kj1 =>
   have H:=HA.out
   clear HA
   simp only [tollbarref02_Decimal.j0] at H
   by_cases c4:x13_1=true
   ·subst c4
    rw [if_pos rfl] at H
    simp only [Option.some.injEq,Prod.mk.injEq] at H
    obtain ⟨rfl,rfl⟩:=H
    go_wp2
    go_ret2
    exact ⟨zb4,zb8⟩
   replace c4:=Bool.eq_false_iff.mpr c4
   subst c4
   rw [if_neg (show ¬ (false=true) by decide)] at H
   have H' := Aside0.mk H
   clear H
   go_wp2
   go_loopg [4,5] kj1 (fun kq v4 v5 w' => ∃ (x4_2:Int) (x5_2:Int),v4 = .int .i64 x4_2∧v5 = .int .i64 x5_2∧Aside0 (tollbarref02_Decimal.l0 kq a0 x4_2 x5_2=some (r1,r2))∧Aside0 (kq ≤ kj1)∧Drawn0 w w')
   case atStart=>exact ⟨(0),(0),zb4,zb4,H',⟨Nat.le_refl _⟩,zb8⟩
   case round =>
    clear H'
    try clear c1
    try clear p2
    try clear c3
    try clear c3b0
    try clear c3b1
    try clear c4
    try clear p2
    obtain ⟨x4_2,x5_2,rfl,rfl,HA,HK2,⟨m2,rfl⟩⟩:=hrel
    cases gk with
    | zero=>exact absurd HA.out (by simp [tollbarref02_Decimal.l0])
    | succ k2 =>
     have H:=HA.out
     clear HA
     simp only [tollbarref02_Decimal.l0] at H
     by_cases c5:x5_2 < (a0.size:Int);rotate_left
     ·rw [if_neg c5] at H
      have c5b0:decide (x5_2 < (a0.size:Int))=false:=decide_eq_false c5
      clear c5
      simp only [Option.some.injEq,Prod.mk.injEq] at H
      obtain ⟨rfl,rfl⟩:=H
      go_wp2
      go_ret2
      exact ⟨zb4,zb8⟩
     rw [if_pos c5] at H
     have c5b0:decide (x5_2 < (a0.size:Int))=true:=decide_eq_true c5
     clear c5
     by_cases c6:0 ≤ x5_2
     ·rw [if_pos c6] at H
      have c6b0:decide (0 ≤ x5_2)=true:=decide_eq_true c6
      clear c6
      replace H:=Option.bind_eq_some_iff.mp H
      obtain ⟨t416,A80,H⟩:=H
      try dsimp only at H
      have A8:=Aside0.mk A80
      clear A80
      by_cases c9:t416=true
      ·subst c9
       rw [if_pos rfl] at H
       have H' := Aside0.mk H
       clear H
       have p7:0 ≤ (x5_2:Int):=of_decide_eq_true zb2
       have q7:x5_2 < (a0.size:Int):=of_decide_eq_true zb2
       have hx7:=bt_at a0 x5_2
       replace p7:=eq_true p7
       replace q7:=eq_true q7
       go_wp2_with (first|((with_reducible refine gate_callee (f:=105) rfl ?_);refine goesL_ (some 23) rfl rfl Tryz.func105 zb9 rfl #[.int .u8 (bt a0 x5_2)] rfl zb1 ?_;(with_reducible refine (tollbarref02_Digit.calls (bt a0 x5_2) true _ A8.out).mono ?_);rintro e w' ⟨rfl,⟨nd,rfl⟩⟩;(try clear A8);refine ⟨_,rfl,?_⟩;have p10:0 ≤ (x5_2:Int):=of_decide_eq_true zb2;have q10:x5_2 < (a0.size:Int):=of_decide_eq_true zb2;have hx10:=bt_at a0 x5_2;replace p10:=eq_true p10;replace q10:=eq_true q10))
       go_roundg k2
       case measure=>have:=HJ1.out;have:=HK2.out;omega
       case rel=>exact ⟨(wrap64 ((wrap64 (x4_2 * 10)) + (((bt a0 x5_2) - 48) % 256))),(wrap64 (x5_2 + 1)),zb4,zb4,H',⟨by have:=HJ1.out;have:=HK2.out;omega⟩,zb8⟩
      replace c9:=Bool.eq_false_iff.mpr c9
      subst c9
      rw [if_neg (show ¬ (false=true) by decide)] at H
      simp only [Option.some.injEq,Prod.mk.injEq] at H
      obtain ⟨rfl,rfl⟩:=H
      have p7:0 ≤ (x5_2:Int):=of_decide_eq_true zb2
      have q7:x5_2 < (a0.size:Int):=of_decide_eq_true zb2
      have hx7:=bt_at a0 x5_2
      replace p7:=eq_true p7
      replace q7:=eq_true q7
      go_wp2_with (first|((with_reducible refine gate_callee (f:=105) rfl ?_);refine goesL_ (some 23) rfl rfl Tryz.func105 zb9 rfl #[.int .u8 (bt a0 x5_2)] rfl zb1 ?_;(with_reducible refine (tollbarref02_Digit.calls (bt a0 x5_2) false _ A8.out).mono ?_);rintro e w' ⟨rfl,⟨nd,rfl⟩⟩;(try clear A8);refine ⟨_,rfl,?_⟩))
      go_ret2
      exact ⟨zb4,zb8⟩
     ·rw [if_neg c6] at H
      exact absurd H zb27
def tollbarref07_Length.l0:Nat → List ByteArray → Int → Bool → Int → Option (Int × Bool)
 | 0,_,_,_,_=>none
 | k + 1,x4,x5,x6,x7=>if x7 < (x4.length:Int) then (if 0 ≤ x7 then ((tollbarref02_Decimal.f k (rdOf ByteArray.empty x4 x7)).bind fun bt424=>(if bt424.2=true then (if bt424.1=x5 then (tollbarref07_Length.l0 k x4 x5 x6 (wrap64 (x7 + 1))) else (some (0,false))) else (some (0,false)))) else (none)) else (some (x5,x6))
def tollbarref07_Length.f (k:Nat) (l0:List (S55)):Option (Int × Bool):=(tollbarref04_List.f k l0 (⟨#[99,111,110,116,101,110,116,45,108,101,110,103,116,104]⟩:ByteArray)).bind fun t417=>(if (t417.length:Int)=0 then (some (0,false)) else (if 0 < (t417.length:Int) then ((tollbarref02_Decimal.f k (rdOf ByteArray.empty t417 0)).bind fun bt421=>(tollbarref07_Length.l0 k t417 bt421.1 bt421.2 0)) else (none)))
set_option maxHeartbeats 8000000 in
set_option maxRecDepth 100000 in
theorem tollbarref07_Length.calls (k:Nat) (A0:Option Addr) (c0:Nat) (l0:List (S55)) (r1:Int) (r2:Bool) (w:World) (hr0:Kd.C k55 w A0 l0.length l0) (hc0:l0.length ≤ c0) (h:tollbarref07_Length.f k l0=some (r1,r2)) :
  Calls Tryz.prog 89 #[.slice A0 l0.length c0] w fun e w' => e = .returned (.tuple #[.int .i64 r1,.bool r2])∧Below w.heap.size w w' := by
 have HR0:=Aside0.mk hr0
 have HC0:=Aside0.mk hc0
 clear hr0 hc0
 have HB:=Aside0.mk (Below.refl w.heap.size w)
 have H:((tollbarref04_List.f k l0 (⟨#[99,111,110,116,101,110,116,45,108,101,110,103,116,104]⟩:ByteArray)).bind fun t417=>(if (t417.length:Int)=0 then (some (0,false)) else (if 0 < (t417.length:Int) then ((tollbarref02_Decimal.f k (rdOf ByteArray.empty t417 0)).bind fun bt421=>(tollbarref07_Length.l0 k t417 bt421.1 bt421.2 0)) else (none))))=some (r1,r2):=h
 clear h
 replace H:=Option.bind_eq_some_iff.mp H
 obtain ⟨t417,A20,H⟩:=H
 try dsimp only at H
 have A2:=Aside0.mk A20
 clear A20
 by_cases c3:(t417.length:Int)=0
 ·rw [if_pos c3] at H
  have c3b0:=beq_iff_eq.mpr c3
  have c3b1:=bne_eq_false_iff_eq.mpr c3
  clear c3
  simp only [Option.some.injEq,Prod.mk.injEq] at H
  obtain ⟨rfl,rfl⟩:=H
  go_enter Tryz.func89,Tryz.ntmps89
  go_wp2_with (first|((with_reducible refine gate_callee (f:=103) rfl ?_);refine goesL_ (some 11) rfl rfl Tryz.func103 zb9 rfl #[.slice A0 l0.length c0,.string (⟨#[99,111,110,116,101,110,116,45,108,101,110,103,116,104]⟩:ByteArray)] rfl zb1 ?_;(with_reducible refine (tollbarref04_List.calls k _ _ l0 (⟨#[99,111,110,116,101,110,116,45,108,101,110,103,116,104]⟩:ByteArray) t417 _ ?side1 ?side2 A2.out).mono ?_);(case side1=>repeat (first|exact HR0.out|(with_reducible refine Kd.C_alloc ?_ _)|(with_reducible refine Kd.C_drewN ?_ _)|(with_reducible refine Kd.C_drew ?_)));(case side2=>exact HC0.out);rintro e w4 ⟨v418,rfl,ho0,hb⟩;(try clear A2);refine ⟨_,rfl,?_⟩;have n0_:=Aside0.mk (Kd.R_lower ho0 (below_size zb0));have n1_:=Aside0.mk (below_step zb0 hb);clear HB;have HO419:=n0_;have HB:=n1_;clear n0_ n1_;(try clear hb);(try clear hb2);(try clear hk);(try clear hi);(try clear ho0);obtain ⟨Ao5,co5,eo5⟩:=Kd.R_slice HO419.out;subst eo5))
  go_ret2
  exact ⟨zb3,zb0⟩
 rw [if_neg c3] at H
 have c3b0:=beq_eq_false_iff_ne.mpr c3
 have c3b1:=bne_iff_ne.mpr c3
 have c3b2 : ¬ (t417=[]):=fun h_=>c3 (by rw [h_];rfl)
 by_cases c6:0 < (t417.length:Int);rotate_left
 ·rw [if_neg c6] at H
  exact absurd H zb27
 rw [if_pos c6] at H
 have c6b0:decide (0 < (t417.length:Int))=true:=decide_eq_true c6
 have c6b1:decide (0 < t417.length)=true:=decide_eq_true zb25
 clear c6
 replace H:=Option.bind_eq_some_iff.mp H
 obtain ⟨⟨t421,t422⟩,A70,H⟩:=H
 try dsimp only at H
 have A7:=Aside0.mk A70
 clear A70
 have H' := Aside0.mk H
 clear H
 go_enter Tryz.func89,Tryz.ntmps89
 go_wp2_with (first|((with_reducible refine gate_callee (f:=103) rfl ?_);refine goesL_ (some 11) rfl rfl Tryz.func103 zb9 rfl #[.slice A0 l0.length c0,.string (⟨#[99,111,110,116,101,110,116,45,108,101,110,103,116,104]⟩:ByteArray)] rfl zb1 ?_;(with_reducible refine (tollbarref04_List.calls k _ _ l0 (⟨#[99,111,110,116,101,110,116,45,108,101,110,103,116,104]⟩:ByteArray) t417 _ ?side1 ?side2 A2.out).mono ?_);(case side1=>repeat (first|exact HR0.out|(with_reducible refine Kd.C_alloc ?_ _)|(with_reducible refine Kd.C_drewN ?_ _)|(with_reducible refine Kd.C_drew ?_)));(case side2=>exact HC0.out);rintro e w8 ⟨v418,rfl,ho0,hb⟩;(try clear A2);refine ⟨_,rfl,?_⟩;have n0_:=Aside0.mk (Kd.R_lower ho0 (below_size zb0));have n1_:=Aside0.mk (below_step zb0 hb);clear HB;have HO419:=n0_;have HB:=n1_;clear n0_ n1_;(try clear hb);(try clear hb2);(try clear hk);(try clear hi);(try clear ho0);obtain ⟨Ao9,co9,eo9⟩:=Kd.R_slice HO419.out;subst eo9;have p420:0 ≤ (0:Int):=zb25;have q420:0 < (t417.length:Int):=of_decide_eq_true zb2;obtain ⟨ad420,e420,hx420_0⟩:=Kd.at_string (Kd.R_reads' HO419.out).2.2 0 p420 q420;cases e420;have qi420:(0 < t417.length)=True:=eq_true zb25;(try rw [show ((0:Int)).toNat=0 from rfl] at hx420_0);(try rw [Addr.add_zero'] at hx420_0);replace p420:=eq_true p420;replace q420:=eq_true q420)|((with_reducible refine gate_callee (f:=134) rfl ?_);refine goesL_ (some 19) rfl rfl Tryz.func134 zb9 rfl #[.string (rdOf ByteArray.empty t417 0)] rfl zb1 ?_;(with_reducible refine (tollbarref02_Decimal.calls k (rdOf ByteArray.empty t417 0) t421 t422 _ A7.out).mono ?_);rintro e w' ⟨rfl,⟨nd,rfl⟩⟩;(try clear A7);refine ⟨_,rfl,?_⟩))
 go_loopg [7] k (fun kq v7 w' => ∃ (x7_1:Int),v7 = .int .i64 x7_1∧Aside0 (tollbarref07_Length.l0 kq t417 t421 t422 x7_1=some (r1,r2))∧Aside0 (kq ≤ k)∧Aside0 (Kd.R Kd.string 9 w' w.heap.size (fun _=>True) (.slice (some ad420) t417.length co9) t417)∧Aside0 (Below w.heap.size w w'))
 case atStart=>exact ⟨(0),zb4,H',⟨Nat.le_refl _⟩,⟨by (with_reducible repeat (first|apply Kd.R_alloc|apply Kd.R_drewN|apply Kd.R_drew));exact HO419.out⟩,⟨zb0⟩⟩
 case round =>
  clear H'
  try clear c1
  try clear p2
  try clear c3
  try clear c3b0
  try clear c3b1
  try clear c3b2
  try clear p4
  try clear q4
  try clear hx4
  try clear qi4
  try clear c6
  try clear c6b0
  try clear c6b1
  try clear c8
  try clear hx420_0
  try clear p420
  try clear q420
  obtain ⟨x7_1,rfl,HA,HK1,HO_4,HB⟩:=hrel
  cases gk with
  | zero=>exact absurd HA.out (by simp [tollbarref07_Length.l0])
  | succ k1 =>
   have H:=HA.out
   clear HA
   simp only [tollbarref07_Length.l0] at H
   by_cases c10:x7_1 < (t417.length:Int);rotate_left
   ·rw [if_neg c10] at H
    have c10b0:decide (x7_1 < (t417.length:Int))=false:=decide_eq_false c10
    clear c10
    simp only [Option.some.injEq,Prod.mk.injEq] at H
    obtain ⟨rfl,rfl⟩:=H
    go_wp2
    go_ret2
    exact ⟨zb3,zb0⟩
   rw [if_pos c10] at H
   have c10b0:decide (x7_1 < (t417.length:Int))=true:=decide_eq_true c10
   clear c10
   by_cases c11:0 ≤ x7_1
   ·rw [if_pos c11] at H
    have c11b0:decide (0 ≤ x7_1)=true:=decide_eq_true c11
    clear c11
    replace H:=Option.bind_eq_some_iff.mp H
    obtain ⟨⟨t424,t425⟩,A120,H⟩:=H
    try dsimp only at H
    have A12:=Aside0.mk A120
    clear A120
    by_cases c13:t425=true;rotate_left
    ·replace c13:=Bool.eq_false_iff.mpr c13
     subst c13
     rw [if_neg (show ¬ (false=true) by decide)] at H
     simp only [Option.some.injEq,Prod.mk.injEq] at H
     obtain ⟨rfl,rfl⟩:=H
     have p423:0 ≤ (x7_1:Int):=of_decide_eq_true zb2
     have q423:x7_1 < (t417.length:Int):=of_decide_eq_true zb2
     obtain ⟨ad423,e423,hx423_0⟩:=Kd.at_string (Kd.R_reads' HO_4.out).2.2 x7_1 p423 q423
     obtain rfl:ad420=ad423:=(by injection e423)
     replace p423:=eq_true p423
     replace q423:=eq_true q423
     go_wp2_with (first|((with_reducible refine gate_callee (f:=134) rfl ?_);refine goesL_ (some 33) rfl rfl Tryz.func134 zb9 rfl #[.string (rdOf ByteArray.empty t417 x7_1)] rfl zb1 ?_;(with_reducible refine (tollbarref02_Decimal.calls k1 (rdOf ByteArray.empty t417 x7_1) t424 false _ A12.out).mono ?_);rintro e w' ⟨rfl,⟨nd,rfl⟩⟩;(try clear A12);refine ⟨_,rfl,?_⟩))
     go_ret2
     exact ⟨zb3,zb0⟩
    subst c13
    rw [if_pos rfl] at H
    by_cases c14:t424=t421
    ·rw [if_pos c14] at H
     have c14b0:=beq_iff_eq.mpr c14
     have c14b1:=bne_eq_false_iff_eq.mpr c14
     clear c14
     have H' := Aside0.mk H
     clear H
     have p423:0 ≤ (x7_1:Int):=of_decide_eq_true zb2
     have q423:x7_1 < (t417.length:Int):=of_decide_eq_true zb2
     obtain ⟨ad423,e423,hx423_0⟩:=Kd.at_string (Kd.R_reads' HO_4.out).2.2 x7_1 p423 q423
     obtain rfl:ad420=ad423:=(by injection e423)
     replace p423:=eq_true p423
     replace q423:=eq_true q423
     go_wp2_with (first|((with_reducible refine gate_callee (f:=134) rfl ?_);refine goesL_ (some 33) rfl rfl Tryz.func134 zb9 rfl #[.string (rdOf ByteArray.empty t417 x7_1)] rfl zb1 ?_;(with_reducible refine (tollbarref02_Decimal.calls k1 (rdOf ByteArray.empty t417 x7_1) t424 true _ A12.out).mono ?_);rintro e w' ⟨rfl,⟨nd,rfl⟩⟩;(try clear A12);refine ⟨_,rfl,?_⟩))
     go_roundg k1
     case measure=>have:=HK1.out;omega
     case rel=>exact ⟨(wrap64 (x7_1 + 1)),zb4,H',⟨zb74⟩,⟨zb57⟩,⟨zb0⟩⟩
    ·rw [if_neg c14] at H
     have c14b0:=beq_eq_false_iff_ne.mpr c14
     have c14b1:=bne_iff_ne.mpr c14
     simp only [Option.some.injEq,Prod.mk.injEq] at H
     obtain ⟨rfl,rfl⟩:=H
     have p423:0 ≤ (x7_1:Int):=of_decide_eq_true zb2
     have q423:x7_1 < (t417.length:Int):=of_decide_eq_true zb2
     obtain ⟨ad423,e423,hx423_0⟩:=Kd.at_string (Kd.R_reads' HO_4.out).2.2 x7_1 p423 q423
     obtain rfl:ad420=ad423:=(by injection e423)
     replace p423:=eq_true p423
     replace q423:=eq_true q423
     go_wp2_with (first|((with_reducible refine gate_callee (f:=134) rfl ?_);refine goesL_ (some 33) rfl rfl Tryz.func134 zb9 rfl #[.string (rdOf ByteArray.empty t417 x7_1)] rfl zb1 ?_;(with_reducible refine (tollbarref02_Decimal.calls k1 (rdOf ByteArray.empty t417 x7_1) t424 true _ A12.out).mono ?_);rintro e w' ⟨rfl,⟨nd,rfl⟩⟩;(try clear A12);refine ⟨_,rfl,?_⟩))
     go_ret2
     exact ⟨zb3,zb0⟩
   ·rw [if_neg c11] at H
    exact absurd H zb27
def tollbarref07_There.f (k:Nat) (l0:List (S55)) (a1:ByteArray):Option (Bool):=(tollbarref04_Get.f k l0 a1).bind fun t413=>(some (decide ((t413.length:Int) > 0)))
set_option maxHeartbeats 8000000 in
set_option maxRecDepth 100000 in
theorem tollbarref07_There.calls (k:Nat) (A0:Option Addr) (c0:Nat) (l0:List (S55)) (a1:ByteArray) (r:Bool) (w:World) (hr0:Kd.C k55 w A0 l0.length l0) (hc0:l0.length ≤ c0) (h:tollbarref07_There.f k l0 a1=some r) :
  Calls Tryz.prog 88 #[.slice A0 l0.length c0,.string a1] w fun e w' => e = .returned (.bool r)∧Below w.heap.size w w' := by
 have HR0:=Aside0.mk hr0
 have HC0:=Aside0.mk hc0
 clear hr0 hc0
 have HB:=Aside0.mk (Below.refl w.heap.size w)
 have H:((tollbarref04_Get.f k l0 a1).bind fun t413=>(some (decide ((t413.length:Int) > 0))))=some r:=h
 clear h
 replace H:=Option.bind_eq_some_iff.mp H
 obtain ⟨t413,A30,H⟩:=H
 try dsimp only at H
 have A3:=Aside0.mk A30
 clear A30
 obtain rfl:=Option.some.inj H
 go_enter Tryz.func88,Tryz.ntmps88
 go_wp2_with (first|((with_reducible refine gate_callee (f:=61) rfl ?_);refine goesL_ (some 7) rfl rfl Tryz.func61 zb9 rfl #[.slice A0 l0.length c0,.string a1] rfl zb1 ?_;(with_reducible refine (tollbarref04_Get.calls k _ _ l0 a1 t413 _ ?side1 ?side2 A3.out).mono ?_);(case side1=>repeat (first|exact HR0.out|(with_reducible refine Kd.C_alloc ?_ _)|(with_reducible refine Kd.C_drewN ?_ _)|(with_reducible refine Kd.C_drew ?_)));(case side2=>exact HC0.out);rintro e w4 ⟨v414,rfl,ho0,hb⟩;(try clear A3);refine ⟨_,rfl,?_⟩;have n0_:=Aside0.mk (Kd.R_lower ho0 (below_size zb0));have n1_:=Aside0.mk (below_step zb0 hb);clear HB;have HO415:=n0_;have HB:=n1_;clear n0_ n1_;(try clear hb);(try clear hb2);(try clear hk);(try clear hi);(try clear ho0);obtain ⟨Ao5,co5,eo5⟩:=Kd.R_slice HO415.out;subst eo5))
 go_ret
 exact ⟨zb3,zb0⟩
mutual
def tollbarref07_Response.j0:Nat → Bool → Int → ByteArray → Int → List (S55) → List Int → Option (Int × Int × Bool)
 | 0,_,_,_,_,_,_=>none
 | k + 1,x27,x432000,x432001,x432002,x432003,x432004=>if x27=true then (some (0,0,true)) else ((tollbarref07_There.f k x432003 (⟨#[99,111,110,116,101,110,116,45,108,101,110,103,116,104]⟩:ByteArray)).bind fun t432=>((tollbarref07_There.f k x432003 (⟨#[116,114,97,110,115,102,101,114,45,101,110,99,111,100,105,110,103]⟩:ByteArray)).bind fun t433=>((tollbarref07_Length.f k x432003).bind fun bt434=>(if t432=true then (tollbarref07_Response.j1 k t432 t433 bt434.1 bt434.2 t433 x432000 x432001 x432002 x432003 x432004) else (tollbarref07_Response.j1 k t432 t433 bt434.1 bt434.2 false x432000 x432001 x432002 x432003 x432004)))))
def tollbarref07_Response.j1:Nat → Bool → Bool → Int → Bool → Bool → Int → ByteArray → Int → List (S55) → List Int → Option (Int × Int × Bool)
 | 0,_,_,_,_,_,_,_,_,_,_=>none
 | k + 1,x7,x8,x9,x10,x40,x432000,x432001,x432002,x432003,x432004=>if x40=true then (tollbarref07_Response.j2 k x7 x8 x9 x40) else (if x8=true then (if x432002=0 then (tollbarref07_Response.j2 k x7 x8 x9 true) else ((tollbarref07_Coded.f k x432003).bind fun t436=>(if t436=true then (if x7=true then (if x10=true then (tollbarref07_Response.j2 k x7 x8 x9 (decide (x9 > 4096))) else (tollbarref07_Response.j2 k x7 x8 x9 true)) else (tollbarref07_Response.j2 k x7 x8 x9 false)) else (tollbarref07_Response.j2 k x7 x8 x9 (!t436))))) else (if x7=true then (if x10=true then (tollbarref07_Response.j2 k x7 x8 x9 (decide (x9 > 4096))) else (tollbarref07_Response.j2 k x7 x8 x9 true)) else (tollbarref07_Response.j2 k x7 x8 x9 false)))
def tollbarref07_Response.j2:Nat → Bool → Bool → Int → Bool → Option (Int × Int × Bool)
 | 0,_,_,_,_=>none
 | k + 1,x7,x8,x9,x40=>if x40=true then (some (0,0,false)) else (if x8=true then (some (2,0,true)) else (if x7=true then (some (1,x9,true)) else (some (3,0,true))))
end
def tollbarref07_Response.f (k:Nat) (a0:ByteArray) (a1_0:Int) (a1_1:ByteArray) (a1_2:Int) (l1_3:List (S55)) (l1_4:List Int):Option (Int × Int × Bool):=if a0.toList=([72,69,65,68]:List UInt8) then (tollbarref07_Response.j0 k true a1_0 a1_1 a1_2 l1_3 l1_4) else (if a1_0 < 200 then (tollbarref07_Response.j0 k true a1_0 a1_1 a1_2 l1_3 l1_4) else (if a1_0=204 then (tollbarref07_Response.j0 k true a1_0 a1_1 a1_2 l1_3 l1_4) else (tollbarref07_Response.j0 k (a1_0 == 304) a1_0 a1_1 a1_2 l1_3 l1_4)))
def tollbarref07_Response.T3:Bool × List (List Nat × List Nat):=(true,[([],[]),([0],[0]),([1],[1]),([],[]),([3],[3]),([4,2],[4]),([2,5,0,1,2],[2]),([5,6,0,1,2,3,4,5,6],[5])])
def tollbarref07_Response.B3:List Nat:=[0,1,3,0,8,31,63,127]
theorem tollbarref07_Response.tab3:rtab .any (opsOf Tryz.f49 3)=tollbarref07_Response.T3:=by kernel_rfl
theorem tollbarref07_Response.bits3:waitsOk tollbarref07_Response.T3.2 tollbarref07_Response.B3=true:=by kernel_rfl
set_option maxHeartbeats 8000000 in
set_option maxRecDepth 100000 in
theorem tollbarref07_Response.calls (k:Nat) (a0:ByteArray) (a1_0:Int) (a1_1:ByteArray) (a1_2:Int) (A1_3:Option Addr) (c1_3:Nat) (l1_3:List (S55)) (A1_4:Option Addr) (c1_4:Nat) (l1_4:List Int) (r1:Int) (r2:Int) (r3:Bool) (w:World) (hr1_3:Kd.C k55 w A1_3 l1_3.length l1_3) (hc1_3:l1_3.length ≤ c1_3) (hr1_4:Kd.C (Kd.int .u8) w A1_4 l1_4.length l1_4) (hc1_4:l1_4.length ≤ c1_4) (h:tollbarref07_Response.f k a0 a1_0 a1_1 a1_2 l1_3 l1_4=some (r1,r2,r3)) :
  Calls Tryz.prog 49 #[.string a0,.agg #[.int .i64 a1_0,.string a1_1,.int .i64 a1_2,.slice A1_3 l1_3.length c1_3,.slice A1_4 l1_4.length c1_4]] w fun e w' => e = .returned (.tuple #[.int .i64 r1,.int .i64 r2,.bool r3])∧Below w.heap.size w w' := by
 have hu25:=Tryz.underlying25
 have HR1_3:=Aside0.mk hr1_3
 have HC1_3:=Aside0.mk hc1_3
 clear hr1_3 hc1_3
 have HR1_4:=Aside0.mk hr1_4
 have HC1_4:=Aside0.mk hc1_4
 clear hr1_4 hc1_4
 have HB:=Aside0.mk (Below.refl w.heap.size w)
 have H:(if a0.toList=([72,69,65,68]:List UInt8) then (tollbarref07_Response.j0 k true a1_0 a1_1 a1_2 l1_3 l1_4) else (if a1_0 < 200 then (tollbarref07_Response.j0 k true a1_0 a1_1 a1_2 l1_3 l1_4) else (if a1_0=204 then (tollbarref07_Response.j0 k true a1_0 a1_1 a1_2 l1_3 l1_4) else (tollbarref07_Response.j0 k (a1_0 == 304) a1_0 a1_1 a1_2 l1_3 l1_4))))=some (r1,r2,r3):=h
 clear h
 have HC3:=Aside0.mk H
 clear H
 go_enter Tryz.func49,Tryz.ntmps49
 go_upto_region 1 with (first|((with_reducible refine gate_dst (N:=3) rfl ?_);refine box_event ?hg (N:=3) ?hd (cs:=#[.int .i64 a1_0,.string a1_1,.int .i64 a1_2,.slice A1_3 l1_3.length c1_3,.slice A1_4 l1_4.length c1_4]) (t:=25) ?hr ?_;(case hd=>rfl);(case hg=>rfl);(case hr=>first|(go_simp;done)|(go_simp;rfl));intro gb44 hg w4 hbox hb;have GW44:=zG hg zb0;have GE44:=GW44;have BK44:=Aside0.mk hbox;replace HB:=Aside0.mk (below_step zb0 hb);clear hb hbox hg))
 (try simp only [Act.put,zqA,zqB,zqC])
 go_cut [27] (fun v27 wc => ∃ (kq:Nat) (x27_2:Bool),v27 = .bool x27_2∧Aside0 (tollbarref07_Response.j0 kq x27_2 a1_0 a1_1 a1_2 l1_3 l1_4=some (r1,r2,r3))∧Aside0 (kq ≤ k)∧Aside0 (wc.heap[gb44]? = some (.cells #[.int .i64 a1_0,.string a1_1,.int .i64 a1_2,(.slice A1_3 l1_3.length c1_3),(.slice A1_4 l1_4.length c1_4)] 25 (0,0)))∧Aside0 (Below w.heap.size w wc))
 case first =>
  have H:=HC3.out
  clear HC3
  by_cases c5:a0.toList=([72,69,65,68]:List UInt8)
  ·rw [if_pos c5] at H
   have c5b0:=beq_iff_eq.mpr c5
   have c5b1:=bne_eq_false_iff_eq.mpr c5
   clear c5
   (first|rw [c5b0]|(simp only [i64_w,i32_w];rw [c5b0])|rw [c5b1]|skip)
   have H' := Aside0.mk H
   clear H
   go_wp2
   go_meet
   case rel=>exact ⟨_,(true),zb4,H',⟨zb31⟩,⟨zb16⟩,⟨zb10⟩⟩
  rw [if_neg c5] at H
  have c5b0:=beq_eq_false_iff_ne.mpr c5
  have c5b1:=bne_iff_ne.mpr c5
  (first|rw [c5b0]|(simp only [i64_w,i32_w];rw [c5b0])|rw [c5b1]|skip)
  by_cases c6:a1_0 < 200
  ·rw [if_pos c6] at H
   have c6b0:decide (a1_0 < 200)=true:=decide_eq_true c6
   clear c6
   have H' := Aside0.mk H
   clear H
   obtain ⟨hcz7_0,hcz7_1,hcz7_2,hcz7_3,hcz7_4,hfz7_0,hfz7_1,hfz7_2,hfz7_3,hfz7_4⟩:=zq5 BK44.out
   go_wp2
   go_meet
   case rel=>exact ⟨_,(true),zb4,H',⟨zb31⟩,⟨zb16⟩,⟨zb10⟩⟩
  rw [if_neg c6] at H
  have c6b0:decide (a1_0 < 200)=false:=decide_eq_false c6
  clear c6
  by_cases c8:a1_0=204;rotate_left
  ·rw [if_neg c8] at H
   have c8b0:=beq_eq_false_iff_ne.mpr c8
   have c8b1:=bne_iff_ne.mpr c8
   have H' := Aside0.mk H
   clear H
   obtain ⟨hcz10_0,hcz10_1,hcz10_2,hcz10_3,hcz10_4,hfz10_0,hfz10_1,hfz10_2,hfz10_3,hfz10_4⟩:=zq5 BK44.out
   go_wp2
   go_meet
   case rel=>exact ⟨_,((a1_0 == 304)),zb4,H',⟨zb31⟩,⟨zb16⟩,⟨zb10⟩⟩
  rw [if_pos c8] at H
  have c8b0:=beq_iff_eq.mpr c8
  have c8b1:=bne_eq_false_iff_eq.mpr c8
  clear c8
  have H' := Aside0.mk H
  clear H
  obtain ⟨hcz9_0,hcz9_1,hcz9_2,hcz9_3,hcz9_4,hfz9_0,hfz9_1,hfz9_2,hfz9_3,hfz9_4⟩:=zq5 BK44.out
  go_wp2
  go_meet
  case rel=>exact ⟨_,(true),zb4,H',⟨zb31⟩,⟨zb16⟩,⟨zb10⟩⟩
 case rest =>
  clear HC3
  try clear c1
  try clear p2
  try clear c4
  try clear c5
  try clear c5b0
  try clear c5b1
  try clear c6
  try clear c6b0
  try clear c8
  try clear c8b0
  try clear c8b1
  try clear hcz10_0
  try clear hcz10_1
  try clear hcz10_2
  try clear hcz10_3
  try clear hcz10_4
  try clear hcz7_0
  try clear hcz7_1
  try clear hcz7_2
  try clear hcz7_3
  try clear hcz7_4
  try clear hcz9_0
  try clear hcz9_1
  try clear hcz9_2
  try clear hcz9_3
  try clear hcz9_4
  try clear hfz10_0
  try clear hfz10_1
  try clear hfz10_2
  try clear hfz10_3
  try clear hfz10_4
  try clear hfz7_0
  try clear hfz7_1
  try clear hfz7_2
  try clear hfz7_3
  try clear hfz7_4
  try clear hfz9_0
  try clear hfz9_1
  try clear hfz9_2
  try clear hfz9_3
  try clear hfz9_4
  obtain ⟨kq,x27_2,rfl,HA,HJ2,BK44,HB⟩:=hcut
  cases kq with
  | zero=>exact absurd HA.out (by simp [tollbarref07_Response.j0])
  | succ kj2 =>
   have H:=HA.out
   clear HA
   simp only [tollbarref07_Response.j0] at H
   by_cases c11:x27_2=true
   ·subst c11
    rw [if_pos rfl] at H
    simp only [Option.some.injEq,Prod.mk.injEq] at H
    obtain ⟨rfl,rfl,rfl⟩:=H
    go_wp2
    go_ret3
    exact ⟨zb3,zb10⟩
   replace c11:=Bool.eq_false_iff.mpr c11
   subst c11
   rw [if_neg (show ¬ (false=true) by decide)] at H
   replace H:=Option.bind_eq_some_iff.mp H
   obtain ⟨t46,A51,H⟩:=H
   try dsimp only at H
   have A12:=Aside0.mk A51
   clear A51
   replace H:=Option.bind_eq_some_iff.mp H
   obtain ⟨t47,A52,H⟩:=H
   try dsimp only at H
   have A13:=Aside0.mk A52
   clear A52
   replace H:=Option.bind_eq_some_iff.mp H
   obtain ⟨⟨t45,t48⟩,A53,H⟩:=H
   try dsimp only at H
   have A14:=Aside0.mk A53
   clear A53
   have HC15:=Aside0.mk H
   clear H
   try go_wp2
   replace BK44:=Aside0.mk (blk_drew BK44.out)
   replace HB:=Aside0.mk (below_drew1 HB.out)
   refine start_ (n:=8) (S:=fun w' => w'.cell? ⟨gb44,0,none⟩=some (.int .i64 a1_0)∧w'.cell? ⟨gb44,1,none⟩=some (.string a1_1)∧w'.cell? ⟨gb44,2,none⟩=some (.int .i64 a1_2)∧w'.cell? ⟨gb44,3,none⟩=some (.slice A1_3 l1_3.length c1_3)∧w'.cell? ⟨gb44,4,none⟩=some (.slice A1_4 l1_4.length c1_4)) (ds:=[]) (zl 8 0) zb9 rfl rfl ⟨(blk_cell BK44.out 0).trans rfl,(blk_cell BK44.out 1).trans rfl,(blk_cell BK44.out 2).trans rfl,(blk_cell BK44.out 3).trans rfl,(blk_cell BK44.out 4).trans rfl⟩ (fun hHeld=>?_);refine with_tabW tollbarref07_Response.tab3 tollbarref07_Response.bits3 (fun HT_ HW_=>?_)
   generalize wc.drew=w16 at BK44 HB hHeld ⊢
   refine zpu 0 (N:=some 28) (zl 8 1) HT_.out rfl rfl ?_
   refine zpu 3 (N:=some 31) (zl 8 9) HT_.out rfl rfl ?_
   refine take_ (i:=1) (N:=some 29) (v:=?_) (a' := ?_) (zl 8 11) rfl rfl (take_ofW HT_.out HW_.out zb9) (fun _ _ _ h=>h) (Or.inl ⟨zb65,?_⟩) hHeld ?_ ?_
   rotate_left
   ·rintro w' ⟨s0,s1,s2,s3,s4⟩;go_simp;with_reducible rfl
   rotate_left
   ·simp only [Act.put,zqA,zqB,zqC,i64_w,i32_w];rfl
   refine take_ (i:=4) (N:=some 32) (v:=?_) (a' := ?_) (zl 8 27) rfl rfl (take_ofW HT_.out HW_.out zb9) (fun _ _ _ h=>h) (Or.inl ⟨zb65,?_⟩) hHeld ?_ ?_
   rotate_left
   ·rintro w' ⟨s0,s1,s2,s3,s4⟩;go_simp;with_reducible rfl
   rotate_left
   ·simp only [Act.put,zqA,zqB,zqC,i64_w,i32_w];rfl
   refine one_ (i:=2) (N:=some 30) (zl 8 31) rfl rfl (one_of HT_.out zb9) zb72 (fun K hK=>?_)
   refine goes_ Tryz.func88 zb9 rfl #[.slice A1_3 l1_3.length c1_3,.string (⟨#[99,111,110,116,101,110,116,45,108,101,110,103,116,104]⟩:ByteArray)] zb65 rfl rfl zb1 ?_
   with_reducible refine (tollbarref07_There.calls kj2 _ _ l1_3 (⟨#[99,111,110,116,101,110,116,45,108,101,110,103,116,104]⟩:ByteArray) t46 _ ?side1 ?side2 A12.out).mono ?_
   (case side1=>repeat (first|exact (Kd.C_below HR1_3.out HB.out)|(with_reducible refine Kd.C_alloc ?_ _)|(with_reducible refine Kd.C_drewN ?_ _)|(with_reducible refine Kd.C_drew ?_)))
   (case side2=>exact HC1_3.out)
   rintro e w17 ⟨rfl,hb⟩
   refine ⟨_,rfl,?_⟩
   replace BK44:=Aside0.mk (blk_below (g:=gb44) (o:=.cells #[.int .i64 a1_0,.string a1_1,.int .i64 a1_2,.slice A1_3 l1_3.length c1_3,.slice A1_4 l1_4.length c1_4] 25 (0,0)) zb16 hb)
   replace HB:=Aside0.mk (below_step zb10 hb)
   (try clear hb)
   (try clear hb2)
   (try clear hk)
   (try clear hi)
   refine hK.out _ _ ⟨(blk_cell BK44.out 0).trans rfl,(blk_cell BK44.out 1).trans rfl,(blk_cell BK44.out 2).trans rfl,(blk_cell BK44.out 3).trans rfl,(blk_cell BK44.out 4).trans rfl⟩ (fun hHeld=>?_)
   clear hK K
   refine norm_ (a' := ?_) ?_ ?_
   rotate_left
   ·show Act.put _ (some 30) _=_
    simp only [Act.put,zqA,zqB,zqC,i64_w,i32_w]
    rfl
   refine one_ (i:=5) (N:=some 33) (zl 8 63) rfl rfl (one_of HT_.out zb9) zb72 (fun K hK=>?_)
   refine goes_ Tryz.func88 zb9 rfl #[.slice A1_3 l1_3.length c1_3,.string (⟨#[116,114,97,110,115,102,101,114,45,101,110,99,111,100,105,110,103]⟩:ByteArray)] zb65 rfl rfl zb1 ?_
   with_reducible refine (tollbarref07_There.calls kj2 _ _ l1_3 (⟨#[116,114,97,110,115,102,101,114,45,101,110,99,111,100,105,110,103]⟩:ByteArray) t47 _ ?side1 ?side2 A13.out).mono ?_
   (case side1=>repeat (first|exact (Kd.C_below HR1_3.out HB.out)|(with_reducible refine Kd.C_alloc ?_ _)|(with_reducible refine Kd.C_drewN ?_ _)|(with_reducible refine Kd.C_drew ?_)))
   (case side2=>exact HC1_3.out)
   rintro e w18 ⟨rfl,hb⟩
   refine ⟨_,rfl,?_⟩
   replace BK44:=Aside0.mk (blk_below (g:=gb44) (o:=.cells #[.int .i64 a1_0,.string a1_1,.int .i64 a1_2,.slice A1_3 l1_3.length c1_3,.slice A1_4 l1_4.length c1_4] 25 (0,0)) zb16 hb)
   replace HB:=Aside0.mk (below_step zb10 hb)
   (try clear hb)
   (try clear hb2)
   (try clear hk)
   (try clear hi)
   refine hK.out _ _ ⟨(blk_cell BK44.out 0).trans rfl,(blk_cell BK44.out 1).trans rfl,(blk_cell BK44.out 2).trans rfl,(blk_cell BK44.out 3).trans rfl,(blk_cell BK44.out 4).trans rfl⟩ (fun hHeld=>?_)
   clear hK K
   refine norm_ (a' := ?_) ?_ ?_
   rotate_left
   ·show Act.put _ (some 33) _=_
    simp only [Act.put,zqA,zqB,zqC,i64_w,i32_w]
    rfl
   refine zpu 6 (N:=some 7) (zl 8 127) HT_.out rfl rfl ?_
   refine zpu 7 (N:=some 8) (zl 8 255) HT_.out rfl rfl ?_
   refine done_ (done_of HT_.out zb9) ?_
   obtain ⟨hcz19_0,hcz19_1,hcz19_2,hcz19_3,hcz19_4,hfz19_0,hfz19_1,hfz19_2,hfz19_3,hfz19_4⟩:=zq5 BK44.out
   go_upto_region 5 with (first|((with_reducible refine gate_callee (f:=89) rfl ?_);refine goesL_ (some 37) rfl rfl Tryz.func89 zb9 rfl #[.slice A1_3 l1_3.length c1_3] rfl zb1 ?_;(with_reducible refine (tollbarref07_Length.calls kj2 _ _ l1_3 t45 t48 _ ?side1 ?side2 A14.out).mono ?_);(case side1=>repeat (first|exact (Kd.C_below HR1_3.out HB.out)|(with_reducible refine Kd.C_alloc ?_ _)|(with_reducible refine Kd.C_drewN ?_ _)|(with_reducible refine Kd.C_drew ?_)));(case side2=>exact HC1_3.out);rintro e w20 ⟨rfl,hb⟩;refine ⟨_,rfl,?_⟩;have n0_:=Aside0.mk (blk_below (g:=gb44) (o:=.cells #[.int .i64 a1_0,.string a1_1,.int .i64 a1_2,.slice A1_3 l1_3.length c1_3,.slice A1_4 l1_4.length c1_4] 25 (0,0)) zb16 hb);have n1_:=Aside0.mk (below_step zb10 hb);clear BK44;clear HB;have BK44:=n0_;have HB:=n1_;clear n0_ n1_;(try clear hb);(try clear hb2);(try clear hk);(try clear hi)))
   (try simp only [Act.put,zqA,zqB,zqC])
   go_cut [40] (fun v40 wc => ∃ (kq:Nat) (x40_14:Bool),v40 = .bool x40_14∧Aside0 (tollbarref07_Response.j1 kq t46 t47 t45 t48 x40_14 a1_0 a1_1 a1_2 l1_3 l1_4=some (r1,r2,r3))∧Aside0 (kq ≤ kj2)∧Aside0 (wc.heap[gb44]? = some (.cells #[.int .i64 a1_0,.string a1_1,.int .i64 a1_2,(.slice A1_3 l1_3.length c1_3),(.slice A1_4 l1_4.length c1_4)] 25 (0,0)))∧Aside0 (Below w.heap.size w wc))
   case first =>
    have H:=HC15.out
    clear HC15
    by_cases c21:t46=true
    ·subst c21
     rw [if_pos rfl] at H
     have H' := Aside0.mk H
     clear H
     go_wp2
     go_meet
     case rel=>exact ⟨_,(t47),zb4,H',⟨by have:=HJ2.out;first|omega|exact Nat.le_refl _⟩,⟨zb16⟩,⟨zb10⟩⟩
    replace c21:=Bool.eq_false_iff.mpr c21
    subst c21
    rw [if_neg (show ¬ (false=true) by decide)] at H
    have H' := Aside0.mk H
    clear H
    go_wp2
    go_meet
    case rel=>exact ⟨_,(false),zb4,H',⟨by have:=HJ2.out;first|omega|exact Nat.le_refl _⟩,⟨zb16⟩,⟨zb10⟩⟩
   case rest =>
    clear HC15
    try clear c1
    try clear c2
    try clear p2
    try clear c4
    try clear c5
    try clear c5b0
    try clear c5b1
    try clear c6
    try clear c6b0
    try clear c8
    try clear c8b0
    try clear c8b1
    try clear c11
    try clear c21
    try clear hcz10_0
    try clear hcz10_1
    try clear hcz10_2
    try clear hcz10_3
    try clear hcz10_4
    try clear hcz19_0
    try clear hcz19_1
    try clear hcz19_2
    try clear hcz19_3
    try clear hcz19_4
    try clear hcz7_0
    try clear hcz7_1
    try clear hcz7_2
    try clear hcz7_3
    try clear hcz7_4
    try clear hcz9_0
    try clear hcz9_1
    try clear hcz9_2
    try clear hcz9_3
    try clear hcz9_4
    try clear hfz10_0
    try clear hfz10_1
    try clear hfz10_2
    try clear hfz10_3
    try clear hfz10_4
    try clear hfz19_0
    try clear hfz19_1
    try clear hfz19_2
    try clear hfz19_3
    try clear hfz19_4
    try clear hfz7_0
    try clear hfz7_1
    try clear hfz7_2
    try clear hfz7_3
    try clear hfz7_4
    try clear hfz9_0
    try clear hfz9_1
    try clear hfz9_2
    try clear hfz9_3
    try clear hfz9_4
    try clear p2
    obtain ⟨kq,x40_14,rfl,HA,HJ14,BK44,HB⟩:=hcut
    cases kq with
    | zero=>exact absurd HA.out (by simp [tollbarref07_Response.j1])
    | succ kj14 =>
     have H:=HA.out
     clear HA
     simp only [tollbarref07_Response.j1] at H
     have HC22:=Aside0.mk H
     clear H
     go_upto_if 40 with (fail)
     go_cut [40] (fun v40 wc => ∃ (kq:Nat) (x40_21:Bool),v40 = .bool x40_21∧Aside0 (tollbarref07_Response.j2 kq t46 t47 t45 x40_21=some (r1,r2,r3))∧Aside0 (kq ≤ kj14)∧Aside0 (wc.heap[gb44]? = some (.cells #[.int .i64 a1_0,.string a1_1,.int .i64 a1_2,(.slice A1_3 l1_3.length c1_3),(.slice A1_4 l1_4.length c1_4)] 25 (0,0)))∧Aside0 (Below w.heap.size w wc))
     case first =>
      have H:=HC22.out
      clear HC22
      by_cases c23:x40_14=true
      ·subst c23
       rw [if_pos rfl] at H
       have H' := Aside0.mk H
       clear H
       go_wp2
       go_meet
       case rel=>exact ⟨_,(true),zb4,H',⟨zb73⟩,⟨zb16⟩,⟨zb10⟩⟩
      replace c23:=Bool.eq_false_iff.mpr c23
      subst c23
      rw [if_neg (show ¬ (false=true) by decide)] at H
      by_cases c24:t47=true;rotate_left
      ·replace c24:=Bool.eq_false_iff.mpr c24
       subst c24
       rw [if_neg (show ¬ (false=true) by decide)] at H
       by_cases c39:t46=true;rotate_left
       ·replace c39:=Bool.eq_false_iff.mpr c39
        subst c39
        rw [if_neg (show ¬ (false=true) by decide)] at H
        have H' := Aside0.mk H
        clear H
        go_wp2
        go_meet
        case rel=>exact ⟨_,(false),zb4,H',⟨zb73⟩,⟨zb16⟩,⟨zb10⟩⟩
       subst c39
       rw [if_pos rfl] at H
       by_cases c40:t48=true
       ·subst c40
        rw [if_pos rfl] at H
        have H' := Aside0.mk H
        clear H
        go_wp2
        go_meet
        case rel=>exact ⟨_,(decide (t45 > 4096)),zb4,H',⟨zb73⟩,⟨zb16⟩,⟨zb10⟩⟩
       replace c40:=Bool.eq_false_iff.mpr c40
       subst c40
       rw [if_neg (show ¬ (false=true) by decide)] at H
       have H' := Aside0.mk H
       clear H
       go_wp2
       go_meet
       case rel=>exact ⟨_,(true),zb4,H',⟨zb73⟩,⟨zb16⟩,⟨zb10⟩⟩
      subst c24
      rw [if_pos rfl] at H
      by_cases c25:a1_2=0
      ·rw [if_pos c25] at H
       have c25b0:=beq_iff_eq.mpr c25
       have c25b1:=bne_eq_false_iff_eq.mpr c25
       clear c25
       (first|rw [c25b0]|(simp only [i64_w,i32_w];rw [c25b0])|rw [c25b1]|skip)
       have H' := Aside0.mk H
       clear H
       obtain ⟨hcz26_0,hcz26_1,hcz26_2,hcz26_3,hcz26_4,hfz26_0,hfz26_1,hfz26_2,hfz26_3,hfz26_4⟩:=zq5 BK44.out
       go_wp2
       go_meet
       case rel=>exact ⟨_,(true),zb4,H',⟨zb73⟩,⟨zb16⟩,⟨zb10⟩⟩
      rw [if_neg c25] at H
      have c25b0:=beq_eq_false_iff_ne.mpr c25
      have c25b1:=bne_iff_ne.mpr c25
      (first|rw [c25b0]|(simp only [i64_w,i32_w];rw [c25b0])|rw [c25b1]|skip)
      replace H:=Option.bind_eq_some_iff.mp H
      obtain ⟨t50,A54,H⟩:=H
      try dsimp only at H
      have A27:=Aside0.mk A54
      clear A54
      by_cases c28:t50=true
      ·subst c28
       rw [if_pos rfl] at H
       by_cases c29:t46=true
       ·subst c29
        rw [if_pos rfl] at H
        by_cases c30:t48=true
        ·subst c30
         rw [if_pos rfl] at H
         have H' := Aside0.mk H
         clear H
         obtain ⟨hcz31_0,hcz31_1,hcz31_2,hcz31_3,hcz31_4,hfz31_0,hfz31_1,hfz31_2,hfz31_3,hfz31_4⟩:=zq5 BK44.out
         go_wp2_with (first|(go_at_call 90;(with_reducible refine (tollbarref07_Coded.calls kj14 _ _ l1_3 true _ ?side1 ?side2 A27.out).mono ?_);(case side1=>repeat (first|exact (Kd.C_below HR1_3.out HB.out)|(with_reducible refine Kd.C_alloc ?_ _)|(with_reducible refine Kd.C_drewN ?_ _)|(with_reducible refine Kd.C_drew ?_)));(case side2=>exact HC1_3.out);rintro e w32 ⟨rfl,hb⟩;(try clear A27);have n0_:=Aside0.mk (blk_below (g:=gb44) (o:=.cells #[.int .i64 a1_0,.string a1_1,.int .i64 a1_2,.slice A1_3 l1_3.length c1_3,.slice A1_4 l1_4.length c1_4] 25 (0,0)) zb16 hb);have n1_:=Aside0.mk (below_step zb10 hb);clear BK44;clear HB;have BK44:=n0_;have HB:=n1_;clear n0_ n1_;(try clear hb);(try clear hb2);(try clear hk);(try clear hi)))
         go_meet
         case rel=>exact ⟨_,(decide (t45 > 4096)),zb4,H',⟨zb73⟩,⟨zb16⟩,⟨zb10⟩⟩
        ·replace c30:=Bool.eq_false_iff.mpr c30
         subst c30
         rw [if_neg (show ¬ (false=true) by decide)] at H
         have H' := Aside0.mk H
         clear H
         obtain ⟨hcz33_0,hcz33_1,hcz33_2,hcz33_3,hcz33_4,hfz33_0,hfz33_1,hfz33_2,hfz33_3,hfz33_4⟩:=zq5 BK44.out
         go_wp2_with (first|(go_at_call 90;(with_reducible refine (tollbarref07_Coded.calls kj14 _ _ l1_3 true _ ?side1 ?side2 A27.out).mono ?_);(case side1=>repeat (first|exact (Kd.C_below HR1_3.out HB.out)|(with_reducible refine Kd.C_alloc ?_ _)|(with_reducible refine Kd.C_drewN ?_ _)|(with_reducible refine Kd.C_drew ?_)));(case side2=>exact HC1_3.out);rintro e w34 ⟨rfl,hb⟩;(try clear A27);have n0_:=Aside0.mk (blk_below (g:=gb44) (o:=.cells #[.int .i64 a1_0,.string a1_1,.int .i64 a1_2,.slice A1_3 l1_3.length c1_3,.slice A1_4 l1_4.length c1_4] 25 (0,0)) zb16 hb);have n1_:=Aside0.mk (below_step zb10 hb);clear BK44;clear HB;have BK44:=n0_;have HB:=n1_;clear n0_ n1_;(try clear hb);(try clear hb2);(try clear hk);(try clear hi)))
         go_meet
         case rel=>exact ⟨_,(true),zb4,H',⟨zb73⟩,⟨zb16⟩,⟨zb10⟩⟩
       ·replace c29:=Bool.eq_false_iff.mpr c29
        subst c29
        rw [if_neg (show ¬ (false=true) by decide)] at H
        have H' := Aside0.mk H
        clear H
        obtain ⟨hcz35_0,hcz35_1,hcz35_2,hcz35_3,hcz35_4,hfz35_0,hfz35_1,hfz35_2,hfz35_3,hfz35_4⟩:=zq5 BK44.out
        go_wp2_with (first|(go_at_call 90;(with_reducible refine (tollbarref07_Coded.calls kj14 _ _ l1_3 true _ ?side1 ?side2 A27.out).mono ?_);(case side1=>repeat (first|exact (Kd.C_below HR1_3.out HB.out)|(with_reducible refine Kd.C_alloc ?_ _)|(with_reducible refine Kd.C_drewN ?_ _)|(with_reducible refine Kd.C_drew ?_)));(case side2=>exact HC1_3.out);rintro e w36 ⟨rfl,hb⟩;(try clear A27);have n0_:=Aside0.mk (blk_below (g:=gb44) (o:=.cells #[.int .i64 a1_0,.string a1_1,.int .i64 a1_2,.slice A1_3 l1_3.length c1_3,.slice A1_4 l1_4.length c1_4] 25 (0,0)) zb16 hb);have n1_:=Aside0.mk (below_step zb10 hb);clear BK44;clear HB;have BK44:=n0_;have HB:=n1_;clear n0_ n1_;(try clear hb);(try clear hb2);(try clear hk);(try clear hi)))
        go_meet
        case rel=>exact ⟨_,(false),zb4,H',⟨zb73⟩,⟨zb16⟩,⟨zb10⟩⟩
      ·replace c28:=Bool.eq_false_iff.mpr c28
       subst c28
       rw [if_neg (show ¬ (false=true) by decide)] at H
       have H' := Aside0.mk H
       clear H
       obtain ⟨hcz37_0,hcz37_1,hcz37_2,hcz37_3,hcz37_4,hfz37_0,hfz37_1,hfz37_2,hfz37_3,hfz37_4⟩:=zq5 BK44.out
       go_wp2_with (first|(go_at_call 90;(with_reducible refine (tollbarref07_Coded.calls kj14 _ _ l1_3 false _ ?side1 ?side2 A27.out).mono ?_);(case side1=>repeat (first|exact (Kd.C_below HR1_3.out HB.out)|(with_reducible refine Kd.C_alloc ?_ _)|(with_reducible refine Kd.C_drewN ?_ _)|(with_reducible refine Kd.C_drew ?_)));(case side2=>exact HC1_3.out);rintro e w38 ⟨rfl,hb⟩;(try clear A27);have n0_:=Aside0.mk (blk_below (g:=gb44) (o:=.cells #[.int .i64 a1_0,.string a1_1,.int .i64 a1_2,.slice A1_3 l1_3.length c1_3,.slice A1_4 l1_4.length c1_4] 25 (0,0)) zb16 hb);have n1_:=Aside0.mk (below_step zb10 hb);clear BK44;clear HB;have BK44:=n0_;have HB:=n1_;clear n0_ n1_;(try clear hb);(try clear hb2);(try clear hk);(try clear hi)))
       go_meet
       case rel=>exact ⟨_,(!false),zb4,H',⟨zb73⟩,⟨zb16⟩,⟨zb10⟩⟩
     case rest =>
      clear HC22
      try clear c1
      try clear c2
      try clear p2
      try clear c3
      try clear c4
      try clear c5
      try clear c5b0
      try clear c5b1
      try clear c6
      try clear c6b0
      try clear c8
      try clear c8b0
      try clear c8b1
      try clear c11
      try clear c21
      try clear c23
      try clear c24
      try clear c25
      try clear c25b0
      try clear c25b1
      try clear c28
      try clear c29
      try clear c30
      try clear c39
      try clear c40
      try clear hcz10_0
      try clear hcz10_1
      try clear hcz10_2
      try clear hcz10_3
      try clear hcz10_4
      try clear hcz19_0
      try clear hcz19_1
      try clear hcz19_2
      try clear hcz19_3
      try clear hcz19_4
      try clear hcz26_0
      try clear hcz26_1
      try clear hcz26_2
      try clear hcz26_3
      try clear hcz26_4
      try clear hcz31_0
      try clear hcz31_1
      try clear hcz31_2
      try clear hcz31_3
      try clear hcz31_4
      try clear hcz33_0
      try clear hcz33_1
      try clear hcz33_2
      try clear hcz33_3
      try clear hcz33_4
      try clear hcz35_0
      try clear hcz35_1
      try clear hcz35_2
      try clear hcz35_3
      try clear hcz35_4
      try clear hcz37_0
      try clear hcz37_1
      try clear hcz37_2
      try clear hcz37_3
      try clear hcz37_4
      try clear hcz7_0
      try clear hcz7_1
      try clear hcz7_2
      try clear hcz7_3
      try clear hcz7_4
      try clear hcz9_0
      try clear hcz9_1
      try clear hcz9_2
      try clear hcz9_3
      try clear hcz9_4
      try clear hfz10_0
      try clear hfz10_1
      try clear hfz10_2
      try clear hfz10_3
      try clear hfz10_4
      try clear hfz19_0
      try clear hfz19_1
      try clear hfz19_2
      try clear hfz19_3
      try clear hfz19_4
      try clear hfz26_0
      try clear hfz26_1
      try clear hfz26_2
      try clear hfz26_3
      try clear hfz26_4
      try clear hfz31_0
      try clear hfz31_1
      try clear hfz31_2
      try clear hfz31_3
      try clear hfz31_4
      try clear hfz33_0
      try clear hfz33_1
      try clear hfz33_2
      try clear hfz33_3
      try clear hfz33_4
      try clear hfz35_0
      try clear hfz35_1
      try clear hfz35_2
      try clear hfz35_3
      try clear hfz35_4
      try clear hfz37_0
      try clear hfz37_1
      try clear hfz37_2
      try clear hfz37_3
      try clear hfz37_4
      try clear hfz7_0
      try clear hfz7_1
      try clear hfz7_2
      try clear hfz7_3
      try clear hfz7_4
      try clear hfz9_0
      try clear hfz9_1
      try clear hfz9_2
      try clear hfz9_3
      try clear hfz9_4
      try clear p2
      obtain ⟨kq,x40_21,rfl,HA,HJ21,BK44,HB⟩:=hcut
      cases kq with
      | zero=>exact absurd HA.out (by simp [tollbarref07_Response.j2])
      | succ kj21 =>
       have H:=HA.out
       clear HA
       simp only [tollbarref07_Response.j2] at H
       by_cases c41:x40_21=true
       ·subst c41
        rw [if_pos rfl] at H
        simp only [Option.some.injEq,Prod.mk.injEq] at H
        obtain ⟨rfl,rfl,rfl⟩:=H
        go_wp2
        go_ret3
        exact ⟨zb3,zb10⟩
       replace c41:=Bool.eq_false_iff.mpr c41
       subst c41
       rw [if_neg (show ¬ (false=true) by decide)] at H
       by_cases c42:t47=true
       ·subst c42
        rw [if_pos rfl] at H
        simp only [Option.some.injEq,Prod.mk.injEq] at H
        obtain ⟨rfl,rfl,rfl⟩:=H
        go_wp2
        go_ret3
        exact ⟨zb3,zb10⟩
       replace c42:=Bool.eq_false_iff.mpr c42
       subst c42
       rw [if_neg (show ¬ (false=true) by decide)] at H
       by_cases c43:t46=true
       ·subst c43
        rw [if_pos rfl] at H
        simp only [Option.some.injEq,Prod.mk.injEq] at H
        obtain ⟨rfl,rfl,rfl⟩:=H
        go_wp2
        go_ret3
        exact ⟨zb3,zb10⟩
       replace c43:=Bool.eq_false_iff.mpr c43
       subst c43
       rw [if_neg (show ¬ (false=true) by decide)] at H
       simp only [Option.some.injEq,Prod.mk.injEq] at H
       obtain ⟨rfl,rfl,rfl⟩:=H
       go_wp2
       go_ret3
       exact ⟨zb3,zb10⟩
def tollbarref02_Letter.f (a0:Int):Option (Bool):=if a0 ≥ 97 then (if a0 ≤ 122 then (some true) else (if a0 ≥ 65 then (some (decide (a0 ≤ 90))) else (some false))) else (if a0 ≥ 65 then (some (decide (a0 ≤ 90))) else (some false))
set_option maxHeartbeats 8000000 in
set_option maxRecDepth 100000 in
theorem tollbarref02_Letter.calls (a0:Int) (r:Bool) (w:World) (h:tollbarref02_Letter.f a0=some r) :
  Calls Tryz.prog 186 #[.int .u8 a0] w fun e w' => e = .returned (.bool r)∧Drawn0 w w' := by
 have H:(if a0 ≥ 97 then (if a0 ≤ 122 then (some true) else (if a0 ≥ 65 then (some (decide (a0 ≤ 90))) else (some false))) else (if a0 ≥ 65 then (some (decide (a0 ≤ 90))) else (some false)))=some r:=h
 clear h
 by_cases c2:a0 ≥ 97;rotate_left
 ·rw [if_neg c2] at H
  have c2b0:decide (97 ≤ a0)=false:=decide_eq_false c2
  clear c2
  by_cases c5:a0 ≥ 65
  ·rw [if_pos c5] at H
   have c5b0:decide (65 ≤ a0)=true:=decide_eq_true c5
   clear c5
   obtain rfl:=Option.some.inj H
   go_enter Tryz.func186,Tryz.ntmps186
   go_wp2
   go_ret
   exact ⟨zb4,zb8⟩
  rw [if_neg c5] at H
  have c5b0:decide (65 ≤ a0)=false:=decide_eq_false c5
  clear c5
  obtain rfl:=Option.some.inj H
  go_enter Tryz.func186,Tryz.ntmps186
  go_wp2
  go_ret
  exact ⟨zb4,zb8⟩
 rw [if_pos c2] at H
 have c2b0:decide (97 ≤ a0)=true:=decide_eq_true c2
 clear c2
 by_cases c3:a0 ≤ 122
 ·rw [if_pos c3] at H
  have c3b0:decide (a0 ≤ 122)=true:=decide_eq_true c3
  clear c3
  obtain rfl:=Option.some.inj H
  go_enter Tryz.func186,Tryz.ntmps186
  go_wp2
  go_ret
  exact ⟨zb4,zb8⟩
 ·rw [if_neg c3] at H
  have c3b0:decide (a0 ≤ 122)=false:=decide_eq_false c3
  clear c3
  by_cases c4:a0 ≥ 65
  ·rw [if_pos c4] at H
   have c4b0:decide (65 ≤ a0)=true:=decide_eq_true c4
   clear c4
   obtain rfl:=Option.some.inj H
   go_enter Tryz.func186,Tryz.ntmps186
   go_wp2
   go_ret
   exact ⟨zb4,zb8⟩
  ·rw [if_neg c4] at H
   have c4b0:decide (65 ≤ a0)=false:=decide_eq_false c4
   clear c4
   obtain rfl:=Option.some.inj H
   go_enter Tryz.func186,Tryz.ntmps186
   go_wp2
   go_ret
   exact ⟨zb4,zb8⟩
def tollbarref02_tokenByte.j0:Nat → Int → Bool → Option (Bool)
 | 0,_,_=>none
 | k + 1,x0,x4=>if x4=true then (some true) else ((tollbarref02_Letter.f x0).bind fun t655=>(if t655=true then (some true) else ((tollbarref02_Digit.f x0).bind fun t656=>(some t656))))
def tollbarref02_tokenByte.f (k:Nat) (a0:Int):Option (Bool):=if a0=33 then (tollbarref02_tokenByte.j0 k a0 (a0 == 33)) else (if a0=35 then (tollbarref02_tokenByte.j0 k a0 (a0 == 35)) else (if a0=36 then (tollbarref02_tokenByte.j0 k a0 (a0 == 36)) else (if a0=37 then (tollbarref02_tokenByte.j0 k a0 (a0 == 37)) else (if a0=38 then (tollbarref02_tokenByte.j0 k a0 (a0 == 38)) else (if a0=39 then (tollbarref02_tokenByte.j0 k a0 (a0 == 39)) else (if a0=42 then (tollbarref02_tokenByte.j0 k a0 (a0 == 42)) else (if a0=43 then (tollbarref02_tokenByte.j0 k a0 (a0 == 43)) else (if a0=45 then (tollbarref02_tokenByte.j0 k a0 (a0 == 45)) else (if a0=46 then (tollbarref02_tokenByte.j0 k a0 (a0 == 46)) else (if a0=94 then (tollbarref02_tokenByte.j0 k a0 (a0 == 94)) else (if a0=95 then (tollbarref02_tokenByte.j0 k a0 (a0 == 95)) else (if a0=96 then (tollbarref02_tokenByte.j0 k a0 (a0 == 96)) else (if a0=124 then (tollbarref02_tokenByte.j0 k a0 (a0 == 124)) else (tollbarref02_tokenByte.j0 k a0 (a0 == 126)))))))))))))))
theorem tollbarref02_tokenByte.mono_l : ∀ k,(∀ y0 y1,LeO (tollbarref02_tokenByte.j0 k y0 y1) (tollbarref02_tokenByte.j0 (k + 1) y0 y1))
 | 0=>fun _ _ r h=>by simp [tollbarref02_tokenByte.j0] at h
 | k + 1=>by
  have ih0:=tollbarref02_tokenByte.mono_l k
  ·intro y0 y1
   unfold tollbarref02_tokenByte.j0
   repeat' first
   | (with_reducible exact ih0 _ _)
   | (with_reducible exact LeO.refl _)
   | (with_reducible exact LeO.none _)
   | (with_reducible refine LeO.ite ?_ ?_)
   | (with_reducible refine LeO.bind ?_ (fun _=>?_))
   | exact ih0 _ _
   | exact LeO.none _
   | refine LeO.ite ?_ ?_
   | refine LeO.bind ?_ (fun _=>?_)
theorem tollbarref02_tokenByte.mono : ∀ a0 k,LeO (tollbarref02_tokenByte.f k a0) (tollbarref02_tokenByte.f (k + 1) a0):=by
 intro a0 k
 have ih0:=tollbarref02_tokenByte.mono_l k
 unfold tollbarref02_tokenByte.f
 repeat' first
   | (with_reducible exact ih0 _ _)
   | (with_reducible exact LeO.refl _)
   | (with_reducible exact LeO.none _)
   | (with_reducible refine LeO.ite ?_ ?_)
   | (with_reducible refine LeO.bind ?_ (fun _=>?_))
   | exact ih0 _ _
   | exact LeO.none _
   | refine LeO.ite ?_ ?_
   | refine LeO.bind ?_ (fun _=>?_)
set_option maxHeartbeats 8000000 in
set_option maxRecDepth 100000 in
theorem tollbarref02_tokenByte.calls (k:Nat) (a0:Int) (r:Bool) (w:World) (h:tollbarref02_tokenByte.f k a0=some r) :
  Calls Tryz.prog 171 #[.int .u8 a0] w fun e w' => e = .returned (.bool r)∧Drawn0 w w' := by
 have H:(if a0=33 then (tollbarref02_tokenByte.j0 k a0 (a0 == 33)) else (if a0=35 then (tollbarref02_tokenByte.j0 k a0 (a0 == 35)) else (if a0=36 then (tollbarref02_tokenByte.j0 k a0 (a0 == 36)) else (if a0=37 then (tollbarref02_tokenByte.j0 k a0 (a0 == 37)) else (if a0=38 then (tollbarref02_tokenByte.j0 k a0 (a0 == 38)) else (if a0=39 then (tollbarref02_tokenByte.j0 k a0 (a0 == 39)) else (if a0=42 then (tollbarref02_tokenByte.j0 k a0 (a0 == 42)) else (if a0=43 then (tollbarref02_tokenByte.j0 k a0 (a0 == 43)) else (if a0=45 then (tollbarref02_tokenByte.j0 k a0 (a0 == 45)) else (if a0=46 then (tollbarref02_tokenByte.j0 k a0 (a0 == 46)) else (if a0=94 then (tollbarref02_tokenByte.j0 k a0 (a0 == 94)) else (if a0=95 then (tollbarref02_tokenByte.j0 k a0 (a0 == 95)) else (if a0=96 then (tollbarref02_tokenByte.j0 k a0 (a0 == 96)) else (if a0=124 then (tollbarref02_tokenByte.j0 k a0 (a0 == 124)) else (tollbarref02_tokenByte.j0 k a0 (a0 == 126))))))))))))))))=some r:=h
 clear h
 have HC2:=Aside0.mk H
 clear H
 go_enter Tryz.func171,Tryz.ntmps171
 go_upto_if 4 with (fail)
 go_cut [4] (fun v4 wc => ∃ (kq:Nat) (x4_1:Bool),v4 = .bool x4_1∧Aside0 (tollbarref02_tokenByte.j0 kq a0 x4_1=some r)∧Aside0 (kq ≤ k)∧Drawn0 w wc)
 case first =>
  have H:=HC2.out
  clear HC2
  by_cases c3:a0=33
  ·rw [if_pos c3] at H
   have c3b0:=beq_iff_eq.mpr c3
   have c3b1:=bne_eq_false_iff_eq.mpr c3
   clear c3
   (first|rw [c3b0]|(simp only [i64_w,i32_w];rw [c3b0])|rw [c3b1]|skip)
   have H' := Aside0.mk H
   clear H
   go_wp2
   go_meet
   case rel=>exact ⟨_,((a0 == 33)),zb4,H',⟨zb31⟩,zb8⟩
  rw [if_neg c3] at H
  have c3b0:=beq_eq_false_iff_ne.mpr c3
  have c3b1:=bne_iff_ne.mpr c3
  (first|rw [c3b0]|(simp only [i64_w,i32_w];rw [c3b0])|rw [c3b1]|skip)
  by_cases c4:a0=35
  ·rw [if_pos c4] at H
   have c4b0:=beq_iff_eq.mpr c4
   have c4b1:=bne_eq_false_iff_eq.mpr c4
   clear c4
   have H' := Aside0.mk H
   clear H
   go_wp2
   go_meet
   case rel=>exact ⟨_,((a0 == 35)),zb4,H',⟨zb31⟩,zb8⟩
  rw [if_neg c4] at H
  have c4b0:=beq_eq_false_iff_ne.mpr c4
  have c4b1:=bne_iff_ne.mpr c4
  by_cases c5:a0=36
  ·rw [if_pos c5] at H
   have c5b0:=beq_iff_eq.mpr c5
   have c5b1:=bne_eq_false_iff_eq.mpr c5
   clear c5
   have H' := Aside0.mk H
   clear H
   go_wp2
   go_meet
   case rel=>exact ⟨_,((a0 == 36)),zb4,H',⟨zb31⟩,zb8⟩
  rw [if_neg c5] at H
  have c5b0:=beq_eq_false_iff_ne.mpr c5
  have c5b1:=bne_iff_ne.mpr c5
  by_cases c6:a0=37
  ·rw [if_pos c6] at H
   have c6b0:=beq_iff_eq.mpr c6
   have c6b1:=bne_eq_false_iff_eq.mpr c6
   clear c6
   have H' := Aside0.mk H
   clear H
   go_wp2
   go_meet
   case rel=>exact ⟨_,((a0 == 37)),zb4,H',⟨zb31⟩,zb8⟩
  rw [if_neg c6] at H
  have c6b0:=beq_eq_false_iff_ne.mpr c6
  have c6b1:=bne_iff_ne.mpr c6
  by_cases c7:a0=38
  ·rw [if_pos c7] at H
   have c7b0:=beq_iff_eq.mpr c7
   have c7b1:=bne_eq_false_iff_eq.mpr c7
   clear c7
   have H' := Aside0.mk H
   clear H
   go_wp2
   go_meet
   case rel=>exact ⟨_,((a0 == 38)),zb4,H',⟨zb31⟩,zb8⟩
  rw [if_neg c7] at H
  have c7b0:=beq_eq_false_iff_ne.mpr c7
  have c7b1:=bne_iff_ne.mpr c7
  by_cases c8:a0=39
  ·rw [if_pos c8] at H
   have c8b0:=beq_iff_eq.mpr c8
   have c8b1:=bne_eq_false_iff_eq.mpr c8
   clear c8
   have H' := Aside0.mk H
   clear H
   go_wp2
   go_meet
   case rel=>exact ⟨_,((a0 == 39)),zb4,H',⟨zb31⟩,zb8⟩
  rw [if_neg c8] at H
  have c8b0:=beq_eq_false_iff_ne.mpr c8
  have c8b1:=bne_iff_ne.mpr c8
  by_cases c9:a0=42
  ·rw [if_pos c9] at H
   have c9b0:=beq_iff_eq.mpr c9
   have c9b1:=bne_eq_false_iff_eq.mpr c9
   clear c9
   have H' := Aside0.mk H
   clear H
   go_wp2
   go_meet
   case rel=>exact ⟨_,((a0 == 42)),zb4,H',⟨zb31⟩,zb8⟩
  rw [if_neg c9] at H
  have c9b0:=beq_eq_false_iff_ne.mpr c9
  have c9b1:=bne_iff_ne.mpr c9
  by_cases c10:a0=43
  ·rw [if_pos c10] at H
   have c10b0:=beq_iff_eq.mpr c10
   have c10b1:=bne_eq_false_iff_eq.mpr c10
   clear c10
   have H' := Aside0.mk H
   clear H
   go_wp2
   go_meet
   case rel=>exact ⟨_,((a0 == 43)),zb4,H',⟨zb31⟩,zb8⟩
  rw [if_neg c10] at H
  have c10b0:=beq_eq_false_iff_ne.mpr c10
  have c10b1:=bne_iff_ne.mpr c10
  by_cases c11:a0=45
  ·rw [if_pos c11] at H
   have c11b0:=beq_iff_eq.mpr c11
   have c11b1:=bne_eq_false_iff_eq.mpr c11
   clear c11
   have H' := Aside0.mk H
   clear H
   go_wp2
   go_meet
   case rel=>exact ⟨_,((a0 == 45)),zb4,H',⟨zb31⟩,zb8⟩
  rw [if_neg c11] at H
  have c11b0:=beq_eq_false_iff_ne.mpr c11
  have c11b1:=bne_iff_ne.mpr c11
  by_cases c12:a0=46
  ·rw [if_pos c12] at H
   have c12b0:=beq_iff_eq.mpr c12
   have c12b1:=bne_eq_false_iff_eq.mpr c12
   clear c12
   have H' := Aside0.mk H
   clear H
   go_wp2
   go_meet
   case rel=>exact ⟨_,((a0 == 46)),zb4,H',⟨zb31⟩,zb8⟩
  rw [if_neg c12] at H
  have c12b0:=beq_eq_false_iff_ne.mpr c12
  have c12b1:=bne_iff_ne.mpr c12
  by_cases c13:a0=94
  ·rw [if_pos c13] at H
   have c13b0:=beq_iff_eq.mpr c13
   have c13b1:=bne_eq_false_iff_eq.mpr c13
   clear c13
   have H' := Aside0.mk H
   clear H
   go_wp2
   go_meet
   case rel=>exact ⟨_,((a0 == 94)),zb4,H',⟨zb31⟩,zb8⟩
  rw [if_neg c13] at H
  have c13b0:=beq_eq_false_iff_ne.mpr c13
  have c13b1:=bne_iff_ne.mpr c13
  by_cases c14:a0=95
  ·rw [if_pos c14] at H
   have c14b0:=beq_iff_eq.mpr c14
   have c14b1:=bne_eq_false_iff_eq.mpr c14
   clear c14
   have H' := Aside0.mk H
   clear H
   go_wp2
   go_meet
   case rel=>exact ⟨_,((a0 == 95)),zb4,H',⟨zb31⟩,zb8⟩
  rw [if_neg c14] at H
  have c14b0:=beq_eq_false_iff_ne.mpr c14
  have c14b1:=bne_iff_ne.mpr c14
  by_cases c15:a0=96
  ·rw [if_pos c15] at H
   have c15b0:=beq_iff_eq.mpr c15
   have c15b1:=bne_eq_false_iff_eq.mpr c15
   clear c15
   have H' := Aside0.mk H
   clear H
   go_wp2
   go_meet
   case rel=>exact ⟨_,((a0 == 96)),zb4,H',⟨zb31⟩,zb8⟩
  rw [if_neg c15] at H
  have c15b0:=beq_eq_false_iff_ne.mpr c15
  have c15b1:=bne_iff_ne.mpr c15
  by_cases c16:a0=124;rotate_left
  ·rw [if_neg c16] at H
   have c16b0:=beq_eq_false_iff_ne.mpr c16
   have c16b1:=bne_iff_ne.mpr c16
   have H' := Aside0.mk H
   clear H
   go_wp2
   go_meet
   case rel=>exact ⟨_,((a0 == 126)),zb4,H',⟨zb31⟩,zb8⟩
  rw [if_pos c16] at H
  have c16b0:=beq_iff_eq.mpr c16
  have c16b1:=bne_eq_false_iff_eq.mpr c16
  clear c16
  have H' := Aside0.mk H
  clear H
  go_wp2
  go_meet
  case rel=>exact ⟨_,((a0 == 124)),zb4,H',⟨zb31⟩,zb8⟩
 case rest =>
  clear HC2
  try clear c1
  try clear p2
  try clear c3
  try clear c3b0
  try clear c3b1
  try clear c4
  try clear c4b0
  try clear c4b1
  try clear c5
  try clear c5b0
  try clear c5b1
  try clear c6
  try clear c6b0
  try clear c6b1
  try clear c7
  try clear c7b0
  try clear c7b1
  try clear c8
  try clear c8b0
  try clear c8b1
  try clear c9
  try clear c9b0
  try clear c9b1
  try clear c10
  try clear c10b0
  try clear c10b1
  try clear c11
  try clear c11b0
  try clear c11b1
  try clear c12
  try clear c12b0
  try clear c12b1
  try clear c13
  try clear c13b0
  try clear c13b1
  try clear c14
  try clear c14b0
  try clear c14b1
  try clear c15
  try clear c15b0
  try clear c15b1
  try clear c16
  try clear c16b0
  try clear c16b1
  obtain ⟨kq,x4_1,rfl,HA,HJ1,⟨mc1,rfl⟩⟩:=hcut
  cases kq with
  | zero=>exact absurd HA.out (by simp [tollbarref02_tokenByte.j0])
  | succ kj1 =>
   have H:=HA.out
   clear HA
   simp only [tollbarref02_tokenByte.j0] at H
   by_cases c17:x4_1=true
   ·subst c17
    rw [if_pos rfl] at H
    obtain rfl:=Option.some.inj H
    go_wp2
    go_ret
    exact ⟨zb4,zb8⟩
   replace c17:=Bool.eq_false_iff.mpr c17
   subst c17
   rw [if_neg (show ¬ (false=true) by decide)] at H
   replace H:=Option.bind_eq_some_iff.mp H
   obtain ⟨t655,A180,H⟩:=H
   try dsimp only at H
   have A18:=Aside0.mk A180
   clear A180
   by_cases c19:t655=true
   ·subst c19
    rw [if_pos rfl] at H
    obtain rfl:=Option.some.inj H
    go_wp2_with (first|((with_reducible refine gate_callee (f:=186) rfl ?_);refine goesL_ (some 21) rfl rfl Tryz.func186 zb9 rfl #[.int .u8 a0] rfl zb1 ?_;(with_reducible refine (tollbarref02_Letter.calls a0 true _ A18.out).mono ?_);rintro e w' ⟨rfl,⟨nd,rfl⟩⟩;(try clear A18);refine ⟨_,rfl,?_⟩))
    go_ret
    exact ⟨zb4,zb8⟩
   replace c19:=Bool.eq_false_iff.mpr c19
   subst c19
   rw [if_neg (show ¬ (false=true) by decide)] at H
   replace H:=Option.bind_eq_some_iff.mp H
   obtain ⟨t656,A200,H⟩:=H
   try dsimp only at H
   have A20:=Aside0.mk A200
   clear A200
   obtain rfl:=Option.some.inj H
   go_wp2_with (first|((with_reducible refine gate_callee (f:=186) rfl ?_);refine goesL_ (some 21) rfl rfl Tryz.func186 zb9 rfl #[.int .u8 a0] rfl zb1 ?_;(with_reducible refine (tollbarref02_Letter.calls a0 false _ A18.out).mono ?_);rintro e w' ⟨rfl,⟨nd,rfl⟩⟩;(try clear A18);refine ⟨_,rfl,?_⟩)|(go_at_call 105;(with_reducible refine (tollbarref02_Digit.calls a0 t656 _ A20.out).mono ?_);rintro e w' ⟨rfl,⟨nd,rfl⟩⟩;(try clear A20)))
   go_ret
   exact ⟨zb4,zb8⟩
def tollbarref02_Token.l0:Nat → ByteArray → Int → Option (Bool)
 | 0,_,_=>none
 | k + 1,x0,x3=>if x3 < (x0.size:Int) then (if 0 ≤ x3 then ((tollbarref02_tokenByte.f k (bt x0 x3)).bind fun t657=>(if t657=true then (tollbarref02_Token.l0 k x0 (wrap64 (x3 + 1))) else (some false))) else (none)) else (some (decide ((x0.size:Int) > 0)))
def tollbarref02_Token.f (k:Nat) (a0:ByteArray):Option (Bool):=tollbarref02_Token.l0 k a0 0
set_option maxHeartbeats 8000000 in
set_option maxRecDepth 100000 in
theorem tollbarref02_Token.calls (k:Nat) (a0:ByteArray) (r:Bool) (w:World) (h:tollbarref02_Token.f k a0=some r) :
  Calls Tryz.prog 143 #[.string a0] w fun e w' => e = .returned (.bool r)∧Drawn0 w w' := by
 have H:(tollbarref02_Token.l0 k a0 0)=some r:=h
 clear h
 have H' := Aside0.mk H
 clear H
 go_enter Tryz.func143,Tryz.ntmps143
 go_wp2
 go_loopg [3] k (fun kq v3 w' => ∃ (x3_1:Int),v3 = .int .i64 x3_1∧Aside0 (tollbarref02_Token.l0 kq a0 x3_1=some r)∧Aside0 (kq ≤ k)∧Drawn0 w w')
 case atStart=>exact ⟨(0),zb4,H',⟨Nat.le_refl _⟩,zb8⟩
 case round =>
  clear H'
  try clear c1
  obtain ⟨x3_1,rfl,HA,HK1,⟨m1,rfl⟩⟩:=hrel
  cases gk with
  | zero=>exact absurd HA.out (by simp [tollbarref02_Token.l0])
  | succ k1 =>
   have H:=HA.out
   clear HA
   simp only [tollbarref02_Token.l0] at H
   by_cases c2:x3_1 < (a0.size:Int);rotate_left
   ·rw [if_neg c2] at H
    have c2b0:decide (x3_1 < (a0.size:Int))=false:=decide_eq_false c2
    clear c2
    obtain rfl:=Option.some.inj H
    go_wp2
    go_ret
    exact ⟨zb4,zb8⟩
   rw [if_pos c2] at H
   have c2b0:decide (x3_1 < (a0.size:Int))=true:=decide_eq_true c2
   clear c2
   by_cases c3:0 ≤ x3_1
   ·rw [if_pos c3] at H
    have c3b0:decide (0 ≤ x3_1)=true:=decide_eq_true c3
    clear c3
    replace H:=Option.bind_eq_some_iff.mp H
    obtain ⟨t657,A50,H⟩:=H
    try dsimp only at H
    have A5:=Aside0.mk A50
    clear A50
    by_cases c6:t657=true;rotate_left
    ·replace c6:=Bool.eq_false_iff.mpr c6
     subst c6
     rw [if_neg (show ¬ (false=true) by decide)] at H
     obtain rfl:=Option.some.inj H
     have p4:0 ≤ (x3_1:Int):=of_decide_eq_true zb2
     have q4:x3_1 < (a0.size:Int):=of_decide_eq_true zb2
     have hx4:=bt_at a0 x3_1
     replace p4:=eq_true p4
     replace q4:=eq_true q4
     go_wp2_with (first|((with_reducible refine gate_callee (f:=171) rfl ?_);refine goesL_ (some 13) rfl rfl Tryz.func171 zb9 rfl #[.int .u8 (bt a0 x3_1)] rfl zb1 ?_;(with_reducible refine (tollbarref02_tokenByte.calls k1 (bt a0 x3_1) false _ A5.out).mono ?_);rintro e w' ⟨rfl,⟨nd,rfl⟩⟩;(try clear A5);refine ⟨_,rfl,?_⟩))
     go_ret
     exact ⟨zb4,zb8⟩
    subst c6
    rw [if_pos rfl] at H
    have H' := Aside0.mk H
    clear H
    have p4:0 ≤ (x3_1:Int):=of_decide_eq_true zb2
    have q4:x3_1 < (a0.size:Int):=of_decide_eq_true zb2
    have hx4:=bt_at a0 x3_1
    replace p4:=eq_true p4
    replace q4:=eq_true q4
    go_wp2_with (first|((with_reducible refine gate_callee (f:=171) rfl ?_);refine goesL_ (some 13) rfl rfl Tryz.func171 zb9 rfl #[.int .u8 (bt a0 x3_1)] rfl zb1 ?_;(with_reducible refine (tollbarref02_tokenByte.calls k1 (bt a0 x3_1) true _ A5.out).mono ?_);rintro e w' ⟨rfl,⟨nd,rfl⟩⟩;(try clear A5);refine ⟨_,rfl,?_⟩))
    go_roundg k1
    case measure=>have:=HK1.out;omega
    case rel=>exact ⟨(wrap64 (x3_1 + 1)),zb4,H',⟨zb74⟩,zb8⟩
   ·rw [if_neg c3] at H
    exact absurd H zb27
def tollbarref04_One.f (k:Nat) (a0_0:ByteArray) (a0_1:ByteArray):Option (Bool):=(tollbarref02_Token.f k a0_0).bind fun t659=>(if t659=true then (if (a0_0.size:Int) ≤ 100 then ((tollbarref02_Value.f k a0_1).bind fun t660=>(if t660=true then ((tollbarref02_Trim.f k a0_1).bind fun t661=>(if t661.toList=a0_1.toList then (some (decide ((a0_1.size:Int) ≤ 1000))) else (some false))) else (some false))) else (some false)) else (some false))
set_option maxHeartbeats 8000000 in
set_option maxRecDepth 100000 in
theorem tollbarref04_One.calls (k:Nat) (a0_0:ByteArray) (a0_1:ByteArray) (r:Bool) (w:World) (h:tollbarref04_One.f k a0_0 a0_1=some r) :
  Calls Tryz.prog 156 #[.agg #[.string a0_0,.string a0_1]] w fun e w' => e = .returned (.bool r)∧Below w.heap.size w w' := by
 have hu55:=Tryz.underlying55
 have HB:=Aside0.mk (Below.refl w.heap.size w)
 have H:((tollbarref02_Token.f k a0_0).bind fun t23=>(if t23=true then (if (a0_0.size:Int) ≤ 100 then ((tollbarref02_Value.f k a0_1).bind fun t22=>(if t22=true then ((tollbarref02_Trim.f k a0_1).bind fun t21=>(if t21.toList=a0_1.toList then (some (decide ((a0_1.size:Int) ≤ 1000))) else (some false))) else (some false))) else (some false)) else (some false)))=some r:=h
 clear h
 replace H:=Option.bind_eq_some_iff.mp H
 obtain ⟨t23,A20,H⟩:=H
 try dsimp only at H
 have A2:=Aside0.mk A20
 clear A20
 by_cases c3:t23=true;rotate_left
 ·replace c3:=Bool.eq_false_iff.mpr c3
  subst c3
  rw [if_neg (show ¬ (false=true) by decide)] at H
  obtain rfl:=Option.some.inj H
  go_enter Tryz.func156,Tryz.ntmps156
  go_wp2_with (first|((with_reducible refine gate_dst (N:=1) rfl ?_);(try (refine gate_guard zb65 ?_;dsimp only));refine box_event ?hg (N:=1) ?hd (cs:=#[.string a0_0,.string a0_1]) (t:=55) ?hr ?_;(case hd=>rfl);(case hg=>rfl);(case hr=>first|(go_simp;done)|(go_simp;rfl));intro gb19 hg w17 hbox hb;have GW19:=zG hg zb0;have GE19:=GW19;have BK19:=Aside0.mk hbox;replace HB:=Aside0.mk (below_step zb0 hb);clear hb hbox hg;have hcz18_0:w17.cell? ⟨gb19,0,none⟩=some (.string a0_0):=(blk_cell BK19.out 0).trans rfl;have hcz18_1:w17.cell? ⟨gb19,1,none⟩=some (.string a0_1):=(blk_cell BK19.out 1).trans rfl;have hfz18_0:=blk_frozen BK19.out 0;have hfz18_1:=blk_frozen BK19.out 1)|(go_at_call 143;(with_reducible refine (tollbarref02_Token.calls k a0_0 false _ A2.out).mono ?_);rintro e w' ⟨rfl,⟨nd,rfl⟩⟩;(try clear A2);(try first|exact ⟨rfl,_,World.drewN_drewN _ _ _⟩|exact ⟨rfl,_,Eq.trans (World.drewN_drewN _ _ _) (congrArg (World.drewN _) (Nat.add_assoc _ _ _))⟩)))
  repeat (go_quiet (first|((with_reducible refine gate_dst (N:=1) rfl ?_);(try (refine gate_guard zb65 ?_;dsimp only));refine box_event ?hg (N:=1) ?hd (cs:=#[.string a0_0,.string a0_1]) (t:=55) ?hr ?_;(case hd=>rfl);(case hg=>rfl);(case hr=>first|(go_simp;done)|(go_simp;rfl));intro gb19 hg w17 hbox hb;have GW19:=zG hg zb0;have GE19:=GW19;have BK19:=Aside0.mk hbox;replace HB:=Aside0.mk (below_step zb0 hb);clear hb hbox hg;have hcz18_0:w17.cell? ⟨gb19,0,none⟩=some (.string a0_0):=(blk_cell BK19.out 0).trans rfl;have hcz18_1:w17.cell? ⟨gb19,1,none⟩=some (.string a0_1):=(blk_cell BK19.out 1).trans rfl;have hfz18_0:=blk_frozen BK19.out 0;have hfz18_1:=blk_frozen BK19.out 1)|(go_at_call 143;(with_reducible refine (tollbarref02_Token.calls k a0_0 false _ A2.out).mono ?_);rintro e w' ⟨rfl,⟨nd,rfl⟩⟩;(try clear A2);(try first|exact ⟨rfl,_,World.drewN_drewN _ _ _⟩|exact ⟨rfl,_,Eq.trans (World.drewN_drewN _ _ _) (congrArg (World.drewN _) (Nat.add_assoc _ _ _))⟩)));try go_wp2_with (first|((with_reducible refine gate_dst (N:=1) rfl ?_);(try (refine gate_guard zb65 ?_;dsimp only));refine box_event ?hg (N:=1) ?hd (cs:=#[.string a0_0,.string a0_1]) (t:=55) ?hr ?_;(case hd=>rfl);(case hg=>rfl);(case hr=>first|(go_simp;done)|(go_simp;rfl));intro gb19 hg w17 hbox hb;have GW19:=zG hg zb0;have GE19:=GW19;have BK19:=Aside0.mk hbox;replace HB:=Aside0.mk (below_step zb0 hb);clear hb hbox hg;have hcz18_0:w17.cell? ⟨gb19,0,none⟩=some (.string a0_0):=(blk_cell BK19.out 0).trans rfl;have hcz18_1:w17.cell? ⟨gb19,1,none⟩=some (.string a0_1):=(blk_cell BK19.out 1).trans rfl;have hfz18_0:=blk_frozen BK19.out 0;have hfz18_1:=blk_frozen BK19.out 1)|(go_at_call 143;(with_reducible refine (tollbarref02_Token.calls k a0_0 false _ A2.out).mono ?_);rintro e w' ⟨rfl,⟨nd,rfl⟩⟩;(try clear A2);(try first|exact ⟨rfl,_,World.drewN_drewN _ _ _⟩|exact ⟨rfl,_,Eq.trans (World.drewN_drewN _ _ _) (congrArg (World.drewN _) (Nat.add_assoc _ _ _))⟩))))
  go_ret
  exact ⟨zb3,zb60⟩
 subst c3
 rw [if_pos rfl] at H
 by_cases c4:(a0_0.size:Int) ≤ 100;rotate_left
 ·rw [if_neg c4] at H
  have c4b0:decide ((a0_0.size:Int) ≤ 100)=false:=decide_eq_false c4
  have c4b1:decide (a0_0.size ≤ 100)=false:=decide_eq_false zb25
  clear c4
  obtain rfl:=Option.some.inj H
  go_enter Tryz.func156,Tryz.ntmps156
  go_wp2_with (first|((with_reducible refine gate_dst (N:=1) rfl ?_);(try (refine gate_guard zb65 ?_;dsimp only));refine box_event ?hg (N:=1) ?hd (cs:=#[.string a0_0,.string a0_1]) (t:=55) ?hr ?_;(case hd=>rfl);(case hg=>rfl);(case hr=>first|(go_simp;done)|(go_simp;rfl));intro gb19 hg w15 hbox hb;have GW19:=zG hg zb0;have GE19:=GW19;have BK19:=Aside0.mk hbox;replace HB:=Aside0.mk (below_step zb0 hb);clear hb hbox hg;have hcz16_0:w15.cell? ⟨gb19,0,none⟩=some (.string a0_0):=(blk_cell BK19.out 0).trans rfl;have hcz16_1:w15.cell? ⟨gb19,1,none⟩=some (.string a0_1):=(blk_cell BK19.out 1).trans rfl;have hfz16_0:=blk_frozen BK19.out 0;have hfz16_1:=blk_frozen BK19.out 1)|(go_at_call 143;(with_reducible refine (tollbarref02_Token.calls k a0_0 true _ A2.out).mono ?_);rintro e w' ⟨rfl,⟨nd,rfl⟩⟩;(try clear A2);(try first|exact ⟨rfl,_,World.drewN_drewN _ _ _⟩|exact ⟨rfl,_,Eq.trans (World.drewN_drewN _ _ _) (congrArg (World.drewN _) (Nat.add_assoc _ _ _))⟩)))
  repeat (go_quiet (first|((with_reducible refine gate_dst (N:=1) rfl ?_);(try (refine gate_guard zb65 ?_;dsimp only));refine box_event ?hg (N:=1) ?hd (cs:=#[.string a0_0,.string a0_1]) (t:=55) ?hr ?_;(case hd=>rfl);(case hg=>rfl);(case hr=>first|(go_simp;done)|(go_simp;rfl));intro gb19 hg w15 hbox hb;have GW19:=zG hg zb0;have GE19:=GW19;have BK19:=Aside0.mk hbox;replace HB:=Aside0.mk (below_step zb0 hb);clear hb hbox hg;have hcz16_0:w15.cell? ⟨gb19,0,none⟩=some (.string a0_0):=(blk_cell BK19.out 0).trans rfl;have hcz16_1:w15.cell? ⟨gb19,1,none⟩=some (.string a0_1):=(blk_cell BK19.out 1).trans rfl;have hfz16_0:=blk_frozen BK19.out 0;have hfz16_1:=blk_frozen BK19.out 1)|(go_at_call 143;(with_reducible refine (tollbarref02_Token.calls k a0_0 true _ A2.out).mono ?_);rintro e w' ⟨rfl,⟨nd,rfl⟩⟩;(try clear A2);(try first|exact ⟨rfl,_,World.drewN_drewN _ _ _⟩|exact ⟨rfl,_,Eq.trans (World.drewN_drewN _ _ _) (congrArg (World.drewN _) (Nat.add_assoc _ _ _))⟩)));try go_wp2_with (first|((with_reducible refine gate_dst (N:=1) rfl ?_);(try (refine gate_guard zb65 ?_;dsimp only));refine box_event ?hg (N:=1) ?hd (cs:=#[.string a0_0,.string a0_1]) (t:=55) ?hr ?_;(case hd=>rfl);(case hg=>rfl);(case hr=>first|(go_simp;done)|(go_simp;rfl));intro gb19 hg w15 hbox hb;have GW19:=zG hg zb0;have GE19:=GW19;have BK19:=Aside0.mk hbox;replace HB:=Aside0.mk (below_step zb0 hb);clear hb hbox hg;have hcz16_0:w15.cell? ⟨gb19,0,none⟩=some (.string a0_0):=(blk_cell BK19.out 0).trans rfl;have hcz16_1:w15.cell? ⟨gb19,1,none⟩=some (.string a0_1):=(blk_cell BK19.out 1).trans rfl;have hfz16_0:=blk_frozen BK19.out 0;have hfz16_1:=blk_frozen BK19.out 1)|(go_at_call 143;(with_reducible refine (tollbarref02_Token.calls k a0_0 true _ A2.out).mono ?_);rintro e w' ⟨rfl,⟨nd,rfl⟩⟩;(try clear A2);(try first|exact ⟨rfl,_,World.drewN_drewN _ _ _⟩|exact ⟨rfl,_,Eq.trans (World.drewN_drewN _ _ _) (congrArg (World.drewN _) (Nat.add_assoc _ _ _))⟩))))
  go_ret
  exact ⟨zb3,zb60⟩
 rw [if_pos c4] at H
 have c4b0:decide ((a0_0.size:Int) ≤ 100)=true:=decide_eq_true c4
 have c4b1:decide (a0_0.size ≤ 100)=true:=decide_eq_true zb25
 clear c4
 replace H:=Option.bind_eq_some_iff.mp H
 obtain ⟨t22,A50,H⟩:=H
 try dsimp only at H
 have A5:=Aside0.mk A50
 clear A50
 by_cases c6:t22=true
 ·subst c6
  rw [if_pos rfl] at H
  replace H:=Option.bind_eq_some_iff.mp H
  obtain ⟨t21,A70,H⟩:=H
  try dsimp only at H
  have A7:=Aside0.mk A70
  clear A70
  by_cases c8:t21.toList=a0_1.toList;rotate_left
  ·rw [if_neg c8] at H
   have c8b0:=beq_eq_false_iff_ne.mpr c8
   have c8b1:=bne_iff_ne.mpr c8
   obtain rfl:=Option.some.inj H
   go_enter Tryz.func156,Tryz.ntmps156
   go_wp2_with (first|((with_reducible refine gate_dst (N:=1) rfl ?_);(try (refine gate_guard zb65 ?_;dsimp only));refine box_event ?hg (N:=1) ?hd (cs:=#[.string a0_0,.string a0_1]) (t:=55) ?hr ?_;(case hd=>rfl);(case hg=>rfl);(case hr=>first|(go_simp;done)|(go_simp;rfl));intro gb19 hg w11 hbox hb;have GW19:=zG hg zb0;have GE19:=GW19;have BK19:=Aside0.mk hbox;replace HB:=Aside0.mk (below_step zb0 hb);clear hb hbox hg;have hcz12_0:w11.cell? ⟨gb19,0,none⟩=some (.string a0_0):=(blk_cell BK19.out 0).trans rfl;have hcz12_1:w11.cell? ⟨gb19,1,none⟩=some (.string a0_1):=(blk_cell BK19.out 1).trans rfl;have hfz12_0:=blk_frozen BK19.out 0;have hfz12_1:=blk_frozen BK19.out 1)|(go_at_call 143;(with_reducible refine (tollbarref02_Token.calls k a0_0 true _ A2.out).mono ?_);rintro e w' ⟨rfl,⟨nd,rfl⟩⟩;(try clear A2);(try first|exact ⟨rfl,_,World.drewN_drewN _ _ _⟩|exact ⟨rfl,_,Eq.trans (World.drewN_drewN _ _ _) (congrArg (World.drewN _) (Nat.add_assoc _ _ _))⟩))|(go_at_call 33;(with_reducible refine (tollbarref02_Value.calls k a0_1 true _ A5.out).mono ?_);rintro e w' ⟨rfl,⟨nd,rfl⟩⟩;(try clear A5);(try first|exact ⟨rfl,_,World.drewN_drewN _ _ _⟩|exact ⟨rfl,_,Eq.trans (World.drewN_drewN _ _ _) (congrArg (World.drewN _) (Nat.add_assoc _ _ _))⟩))|(go_at_call 32;(with_reducible refine (tollbarref02_Trim.calls k a0_1 t21 _ A7.out).mono ?_);rintro e w' ⟨rfl,⟨nd,rfl⟩⟩;(try clear A7);(try first|exact ⟨rfl,_,World.drewN_drewN _ _ _⟩|exact ⟨rfl,_,Eq.trans (World.drewN_drewN _ _ _) (congrArg (World.drewN _) (Nat.add_assoc _ _ _))⟩)))
   repeat (go_quiet (first|((with_reducible refine gate_dst (N:=1) rfl ?_);(try (refine gate_guard zb65 ?_;dsimp only));refine box_event ?hg (N:=1) ?hd (cs:=#[.string a0_0,.string a0_1]) (t:=55) ?hr ?_;(case hd=>rfl);(case hg=>rfl);(case hr=>first|(go_simp;done)|(go_simp;rfl));intro gb19 hg w11 hbox hb;have GW19:=zG hg zb0;have GE19:=GW19;have BK19:=Aside0.mk hbox;replace HB:=Aside0.mk (below_step zb0 hb);clear hb hbox hg;have hcz12_0:w11.cell? ⟨gb19,0,none⟩=some (.string a0_0):=(blk_cell BK19.out 0).trans rfl;have hcz12_1:w11.cell? ⟨gb19,1,none⟩=some (.string a0_1):=(blk_cell BK19.out 1).trans rfl;have hfz12_0:=blk_frozen BK19.out 0;have hfz12_1:=blk_frozen BK19.out 1)|(go_at_call 143;(with_reducible refine (tollbarref02_Token.calls k a0_0 true _ A2.out).mono ?_);rintro e w' ⟨rfl,⟨nd,rfl⟩⟩;(try clear A2);(try first|exact ⟨rfl,_,World.drewN_drewN _ _ _⟩|exact ⟨rfl,_,Eq.trans (World.drewN_drewN _ _ _) (congrArg (World.drewN _) (Nat.add_assoc _ _ _))⟩))|(go_at_call 33;(with_reducible refine (tollbarref02_Value.calls k a0_1 true _ A5.out).mono ?_);rintro e w' ⟨rfl,⟨nd,rfl⟩⟩;(try clear A5);(try first|exact ⟨rfl,_,World.drewN_drewN _ _ _⟩|exact ⟨rfl,_,Eq.trans (World.drewN_drewN _ _ _) (congrArg (World.drewN _) (Nat.add_assoc _ _ _))⟩))|(go_at_call 32;(with_reducible refine (tollbarref02_Trim.calls k a0_1 t21 _ A7.out).mono ?_);rintro e w' ⟨rfl,⟨nd,rfl⟩⟩;(try clear A7);(try first|exact ⟨rfl,_,World.drewN_drewN _ _ _⟩|exact ⟨rfl,_,Eq.trans (World.drewN_drewN _ _ _) (congrArg (World.drewN _) (Nat.add_assoc _ _ _))⟩)));try go_wp2_with (first|((with_reducible refine gate_dst (N:=1) rfl ?_);(try (refine gate_guard zb65 ?_;dsimp only));refine box_event ?hg (N:=1) ?hd (cs:=#[.string a0_0,.string a0_1]) (t:=55) ?hr ?_;(case hd=>rfl);(case hg=>rfl);(case hr=>first|(go_simp;done)|(go_simp;rfl));intro gb19 hg w11 hbox hb;have GW19:=zG hg zb0;have GE19:=GW19;have BK19:=Aside0.mk hbox;replace HB:=Aside0.mk (below_step zb0 hb);clear hb hbox hg;have hcz12_0:w11.cell? ⟨gb19,0,none⟩=some (.string a0_0):=(blk_cell BK19.out 0).trans rfl;have hcz12_1:w11.cell? ⟨gb19,1,none⟩=some (.string a0_1):=(blk_cell BK19.out 1).trans rfl;have hfz12_0:=blk_frozen BK19.out 0;have hfz12_1:=blk_frozen BK19.out 1)|(go_at_call 143;(with_reducible refine (tollbarref02_Token.calls k a0_0 true _ A2.out).mono ?_);rintro e w' ⟨rfl,⟨nd,rfl⟩⟩;(try clear A2);(try first|exact ⟨rfl,_,World.drewN_drewN _ _ _⟩|exact ⟨rfl,_,Eq.trans (World.drewN_drewN _ _ _) (congrArg (World.drewN _) (Nat.add_assoc _ _ _))⟩))|(go_at_call 33;(with_reducible refine (tollbarref02_Value.calls k a0_1 true _ A5.out).mono ?_);rintro e w' ⟨rfl,⟨nd,rfl⟩⟩;(try clear A5);(try first|exact ⟨rfl,_,World.drewN_drewN _ _ _⟩|exact ⟨rfl,_,Eq.trans (World.drewN_drewN _ _ _) (congrArg (World.drewN _) (Nat.add_assoc _ _ _))⟩))|(go_at_call 32;(with_reducible refine (tollbarref02_Trim.calls k a0_1 t21 _ A7.out).mono ?_);rintro e w' ⟨rfl,⟨nd,rfl⟩⟩;(try clear A7);(try first|exact ⟨rfl,_,World.drewN_drewN _ _ _⟩|exact ⟨rfl,_,Eq.trans (World.drewN_drewN _ _ _) (congrArg (World.drewN _) (Nat.add_assoc _ _ _))⟩))))
   go_ret
   exact ⟨zb3,zb60⟩
  rw [if_pos c8] at H
  have c8b0:=beq_iff_eq.mpr c8
  have c8b1:=bne_eq_false_iff_eq.mpr c8
  clear c8
  obtain rfl:=Option.some.inj H
  go_enter Tryz.func156,Tryz.ntmps156
  go_wp2_with (first|((with_reducible refine gate_dst (N:=1) rfl ?_);(try (refine gate_guard zb65 ?_;dsimp only));refine box_event ?hg (N:=1) ?hd (cs:=#[.string a0_0,.string a0_1]) (t:=55) ?hr ?_;(case hd=>rfl);(case hg=>rfl);(case hr=>first|(go_simp;done)|(go_simp;rfl));intro gb19 hg w9 hbox hb;have GW19:=zG hg zb0;have GE19:=GW19;have BK19:=Aside0.mk hbox;replace HB:=Aside0.mk (below_step zb0 hb);clear hb hbox hg;have hcz10_0:w9.cell? ⟨gb19,0,none⟩=some (.string a0_0):=(blk_cell BK19.out 0).trans rfl;have hcz10_1:w9.cell? ⟨gb19,1,none⟩=some (.string a0_1):=(blk_cell BK19.out 1).trans rfl;have hfz10_0:=blk_frozen BK19.out 0;have hfz10_1:=blk_frozen BK19.out 1)|(go_at_call 143;(with_reducible refine (tollbarref02_Token.calls k a0_0 true _ A2.out).mono ?_);rintro e w' ⟨rfl,⟨nd,rfl⟩⟩;(try clear A2);(try first|exact ⟨rfl,_,World.drewN_drewN _ _ _⟩|exact ⟨rfl,_,Eq.trans (World.drewN_drewN _ _ _) (congrArg (World.drewN _) (Nat.add_assoc _ _ _))⟩))|(go_at_call 33;(with_reducible refine (tollbarref02_Value.calls k a0_1 true _ A5.out).mono ?_);rintro e w' ⟨rfl,⟨nd,rfl⟩⟩;(try clear A5);(try first|exact ⟨rfl,_,World.drewN_drewN _ _ _⟩|exact ⟨rfl,_,Eq.trans (World.drewN_drewN _ _ _) (congrArg (World.drewN _) (Nat.add_assoc _ _ _))⟩))|(go_at_call 32;(with_reducible refine (tollbarref02_Trim.calls k a0_1 t21 _ A7.out).mono ?_);rintro e w' ⟨rfl,⟨nd,rfl⟩⟩;(try clear A7);(try first|exact ⟨rfl,_,World.drewN_drewN _ _ _⟩|exact ⟨rfl,_,Eq.trans (World.drewN_drewN _ _ _) (congrArg (World.drewN _) (Nat.add_assoc _ _ _))⟩)))
  repeat (go_quiet (first|((with_reducible refine gate_dst (N:=1) rfl ?_);(try (refine gate_guard zb65 ?_;dsimp only));refine box_event ?hg (N:=1) ?hd (cs:=#[.string a0_0,.string a0_1]) (t:=55) ?hr ?_;(case hd=>rfl);(case hg=>rfl);(case hr=>first|(go_simp;done)|(go_simp;rfl));intro gb19 hg w9 hbox hb;have GW19:=zG hg zb0;have GE19:=GW19;have BK19:=Aside0.mk hbox;replace HB:=Aside0.mk (below_step zb0 hb);clear hb hbox hg;have hcz10_0:w9.cell? ⟨gb19,0,none⟩=some (.string a0_0):=(blk_cell BK19.out 0).trans rfl;have hcz10_1:w9.cell? ⟨gb19,1,none⟩=some (.string a0_1):=(blk_cell BK19.out 1).trans rfl;have hfz10_0:=blk_frozen BK19.out 0;have hfz10_1:=blk_frozen BK19.out 1)|(go_at_call 143;(with_reducible refine (tollbarref02_Token.calls k a0_0 true _ A2.out).mono ?_);rintro e w' ⟨rfl,⟨nd,rfl⟩⟩;(try clear A2);(try first|exact ⟨rfl,_,World.drewN_drewN _ _ _⟩|exact ⟨rfl,_,Eq.trans (World.drewN_drewN _ _ _) (congrArg (World.drewN _) (Nat.add_assoc _ _ _))⟩))|(go_at_call 33;(with_reducible refine (tollbarref02_Value.calls k a0_1 true _ A5.out).mono ?_);rintro e w' ⟨rfl,⟨nd,rfl⟩⟩;(try clear A5);(try first|exact ⟨rfl,_,World.drewN_drewN _ _ _⟩|exact ⟨rfl,_,Eq.trans (World.drewN_drewN _ _ _) (congrArg (World.drewN _) (Nat.add_assoc _ _ _))⟩))|(go_at_call 32;(with_reducible refine (tollbarref02_Trim.calls k a0_1 t21 _ A7.out).mono ?_);rintro e w' ⟨rfl,⟨nd,rfl⟩⟩;(try clear A7);(try first|exact ⟨rfl,_,World.drewN_drewN _ _ _⟩|exact ⟨rfl,_,Eq.trans (World.drewN_drewN _ _ _) (congrArg (World.drewN _) (Nat.add_assoc _ _ _))⟩)));try go_wp2_with (first|((with_reducible refine gate_dst (N:=1) rfl ?_);(try (refine gate_guard zb65 ?_;dsimp only));refine box_event ?hg (N:=1) ?hd (cs:=#[.string a0_0,.string a0_1]) (t:=55) ?hr ?_;(case hd=>rfl);(case hg=>rfl);(case hr=>first|(go_simp;done)|(go_simp;rfl));intro gb19 hg w9 hbox hb;have GW19:=zG hg zb0;have GE19:=GW19;have BK19:=Aside0.mk hbox;replace HB:=Aside0.mk (below_step zb0 hb);clear hb hbox hg;have hcz10_0:w9.cell? ⟨gb19,0,none⟩=some (.string a0_0):=(blk_cell BK19.out 0).trans rfl;have hcz10_1:w9.cell? ⟨gb19,1,none⟩=some (.string a0_1):=(blk_cell BK19.out 1).trans rfl;have hfz10_0:=blk_frozen BK19.out 0;have hfz10_1:=blk_frozen BK19.out 1)|(go_at_call 143;(with_reducible refine (tollbarref02_Token.calls k a0_0 true _ A2.out).mono ?_);rintro e w' ⟨rfl,⟨nd,rfl⟩⟩;(try clear A2);(try first|exact ⟨rfl,_,World.drewN_drewN _ _ _⟩|exact ⟨rfl,_,Eq.trans (World.drewN_drewN _ _ _) (congrArg (World.drewN _) (Nat.add_assoc _ _ _))⟩))|(go_at_call 33;(with_reducible refine (tollbarref02_Value.calls k a0_1 true _ A5.out).mono ?_);rintro e w' ⟨rfl,⟨nd,rfl⟩⟩;(try clear A5);(try first|exact ⟨rfl,_,World.drewN_drewN _ _ _⟩|exact ⟨rfl,_,Eq.trans (World.drewN_drewN _ _ _) (congrArg (World.drewN _) (Nat.add_assoc _ _ _))⟩))|(go_at_call 32;(with_reducible refine (tollbarref02_Trim.calls k a0_1 t21 _ A7.out).mono ?_);rintro e w' ⟨rfl,⟨nd,rfl⟩⟩;(try clear A7);(try first|exact ⟨rfl,_,World.drewN_drewN _ _ _⟩|exact ⟨rfl,_,Eq.trans (World.drewN_drewN _ _ _) (congrArg (World.drewN _) (Nat.add_assoc _ _ _))⟩))))
  go_ret
  exact ⟨zb3,zb60⟩
 ·replace c6:=Bool.eq_false_iff.mpr c6
  subst c6
  rw [if_neg (show ¬ (false=true) by decide)] at H
  obtain rfl:=Option.some.inj H
  go_enter Tryz.func156,Tryz.ntmps156
  go_wp2_with (first|((with_reducible refine gate_dst (N:=1) rfl ?_);(try (refine gate_guard zb65 ?_;dsimp only));refine box_event ?hg (N:=1) ?hd (cs:=#[.string a0_0,.string a0_1]) (t:=55) ?hr ?_;(case hd=>rfl);(case hg=>rfl);(case hr=>first|(go_simp;done)|(go_simp;rfl));intro gb19 hg w13 hbox hb;have GW19:=zG hg zb0;have GE19:=GW19;have BK19:=Aside0.mk hbox;replace HB:=Aside0.mk (below_step zb0 hb);clear hb hbox hg;have hcz14_0:w13.cell? ⟨gb19,0,none⟩=some (.string a0_0):=(blk_cell BK19.out 0).trans rfl;have hcz14_1:w13.cell? ⟨gb19,1,none⟩=some (.string a0_1):=(blk_cell BK19.out 1).trans rfl;have hfz14_0:=blk_frozen BK19.out 0;have hfz14_1:=blk_frozen BK19.out 1)|(go_at_call 143;(with_reducible refine (tollbarref02_Token.calls k a0_0 true _ A2.out).mono ?_);rintro e w' ⟨rfl,⟨nd,rfl⟩⟩;(try clear A2);(try first|exact ⟨rfl,_,World.drewN_drewN _ _ _⟩|exact ⟨rfl,_,Eq.trans (World.drewN_drewN _ _ _) (congrArg (World.drewN _) (Nat.add_assoc _ _ _))⟩))|(go_at_call 33;(with_reducible refine (tollbarref02_Value.calls k a0_1 false _ A5.out).mono ?_);rintro e w' ⟨rfl,⟨nd,rfl⟩⟩;(try clear A5);(try first|exact ⟨rfl,_,World.drewN_drewN _ _ _⟩|exact ⟨rfl,_,Eq.trans (World.drewN_drewN _ _ _) (congrArg (World.drewN _) (Nat.add_assoc _ _ _))⟩)))
  repeat (go_quiet (first|((with_reducible refine gate_dst (N:=1) rfl ?_);(try (refine gate_guard zb65 ?_;dsimp only));refine box_event ?hg (N:=1) ?hd (cs:=#[.string a0_0,.string a0_1]) (t:=55) ?hr ?_;(case hd=>rfl);(case hg=>rfl);(case hr=>first|(go_simp;done)|(go_simp;rfl));intro gb19 hg w13 hbox hb;have GW19:=zG hg zb0;have GE19:=GW19;have BK19:=Aside0.mk hbox;replace HB:=Aside0.mk (below_step zb0 hb);clear hb hbox hg;have hcz14_0:w13.cell? ⟨gb19,0,none⟩=some (.string a0_0):=(blk_cell BK19.out 0).trans rfl;have hcz14_1:w13.cell? ⟨gb19,1,none⟩=some (.string a0_1):=(blk_cell BK19.out 1).trans rfl;have hfz14_0:=blk_frozen BK19.out 0;have hfz14_1:=blk_frozen BK19.out 1)|(go_at_call 143;(with_reducible refine (tollbarref02_Token.calls k a0_0 true _ A2.out).mono ?_);rintro e w' ⟨rfl,⟨nd,rfl⟩⟩;(try clear A2);(try first|exact ⟨rfl,_,World.drewN_drewN _ _ _⟩|exact ⟨rfl,_,Eq.trans (World.drewN_drewN _ _ _) (congrArg (World.drewN _) (Nat.add_assoc _ _ _))⟩))|(go_at_call 33;(with_reducible refine (tollbarref02_Value.calls k a0_1 false _ A5.out).mono ?_);rintro e w' ⟨rfl,⟨nd,rfl⟩⟩;(try clear A5);(try first|exact ⟨rfl,_,World.drewN_drewN _ _ _⟩|exact ⟨rfl,_,Eq.trans (World.drewN_drewN _ _ _) (congrArg (World.drewN _) (Nat.add_assoc _ _ _))⟩)));try go_wp2_with (first|((with_reducible refine gate_dst (N:=1) rfl ?_);(try (refine gate_guard zb65 ?_;dsimp only));refine box_event ?hg (N:=1) ?hd (cs:=#[.string a0_0,.string a0_1]) (t:=55) ?hr ?_;(case hd=>rfl);(case hg=>rfl);(case hr=>first|(go_simp;done)|(go_simp;rfl));intro gb19 hg w13 hbox hb;have GW19:=zG hg zb0;have GE19:=GW19;have BK19:=Aside0.mk hbox;replace HB:=Aside0.mk (below_step zb0 hb);clear hb hbox hg;have hcz14_0:w13.cell? ⟨gb19,0,none⟩=some (.string a0_0):=(blk_cell BK19.out 0).trans rfl;have hcz14_1:w13.cell? ⟨gb19,1,none⟩=some (.string a0_1):=(blk_cell BK19.out 1).trans rfl;have hfz14_0:=blk_frozen BK19.out 0;have hfz14_1:=blk_frozen BK19.out 1)|(go_at_call 143;(with_reducible refine (tollbarref02_Token.calls k a0_0 true _ A2.out).mono ?_);rintro e w' ⟨rfl,⟨nd,rfl⟩⟩;(try clear A2);(try first|exact ⟨rfl,_,World.drewN_drewN _ _ _⟩|exact ⟨rfl,_,Eq.trans (World.drewN_drewN _ _ _) (congrArg (World.drewN _) (Nat.add_assoc _ _ _))⟩))|(go_at_call 33;(with_reducible refine (tollbarref02_Value.calls k a0_1 false _ A5.out).mono ?_);rintro e w' ⟨rfl,⟨nd,rfl⟩⟩;(try clear A5);(try first|exact ⟨rfl,_,World.drewN_drewN _ _ _⟩|exact ⟨rfl,_,Eq.trans (World.drewN_drewN _ _ _) (congrArg (World.drewN _) (Nat.add_assoc _ _ _))⟩))))
  go_ret
  exact ⟨zb3,zb60⟩
def tollbarref04_Parse.l0:Nat → ByteArray → Int → Option (ByteArray × ByteArray × Bool)
 | 0,_,_=>none
 | k + 1,x0,x4=>if x4 < (x0.size:Int) then (if 0 ≤ x4 then (if (bt x0 x4)=58 then (if x4 ≤ (x0.size:Int) then (if 0 ≤ (wrap64 (x4 + 1)) then (if (wrap64 (x4 + 1)) ≤ (x0.size:Int) then ((tollbarref02_Trim.f k (x0.extract ((wrap64 (x4 + 1)):Int).toNat x0.size)).bind fun t663=>((tollbarref04_One.f k (x0.extract 0 (x4:Int).toNat) t663).bind fun t665=>(if t665=true then (some (x0.extract 0 (x4:Int).toNat,t663,true)) else (some ((⟨#[]⟩:ByteArray),(⟨#[]⟩:ByteArray),false))))) else (none)) else (none)) else (none)) else (tollbarref04_Parse.l0 k x0 (wrap64 (x4 + 1)))) else (none)) else (some ((⟨#[]⟩:ByteArray),(⟨#[]⟩:ByteArray),false))
def tollbarref04_Parse.f (k:Nat) (a0:ByteArray):Option (ByteArray × ByteArray × Bool):=tollbarref04_Parse.l0 k a0 0
def tollbarref04_Parse.T5:Bool × List (List Nat × List Nat):=(true,[([],[]),([],[]),([0,1],[0,1]),([],[]),([],[]),([4],[4]),([3,5],[3,5]),([6],[6]),([2,7],[2,7]),([],[]),([9,8,7,0,1,2,3,4,5,6,7,8,9],[8,9])])
def tollbarref04_Parse.B5:List Nat:=[0,0,3,0,0,16,56,120,255,0,1023]
theorem tollbarref04_Parse.tab5:rtab .any (opsOf Tryz.f116 5)=tollbarref04_Parse.T5:=by kernel_rfl
theorem tollbarref04_Parse.bits5:waitsOk tollbarref04_Parse.T5.2 tollbarref04_Parse.B5=true:=by kernel_rfl
set_option maxHeartbeats 8000000 in
set_option maxRecDepth 100000 in
theorem tollbarref04_Parse.calls (k:Nat) (a0:ByteArray) (r1:ByteArray) (r2:ByteArray) (r3:Bool) (w:World) (h:tollbarref04_Parse.f k a0=some (r1,r2,r3)) :
  Calls Tryz.prog 116 #[.string a0] w fun e w' => e = .returned (.tuple #[.agg #[.string r1,.string r2],.bool r3])∧Below w.heap.size w w' := by
 have hu55:=Tryz.underlying55
 have HB:=Aside0.mk (Below.refl w.heap.size w)
 have H:(tollbarref04_Parse.l0 k a0 0)=some (r1,r2,r3):=h
 clear h
 have H' := Aside0.mk H
 clear H
 go_enter Tryz.func116,Tryz.ntmps116
 go_wp2_with (first|((with_reducible refine gate_dst (N:=2) rfl ?_);refine box_event ?hg (N:=2) ?hd (cs:=#[.string (⟨#[]⟩:ByteArray),.string (⟨#[]⟩:ByteArray)]) (t:=55) ?hr ?_;(case hd=>rfl);(case hg=>rfl);(case hr=>first|(go_simp;done)|(go_simp;rfl));intro gb35 hg w2 hbox hb;have GW35:=zG hg zb0;have GE35:=GW35;have BK35:=Aside0.mk hbox;replace HB:=Aside0.mk (below_step zb0 hb);clear hb hbox hg))
 go_loopg [4] k (fun kq v4 w' => ∃ (x4_1:Int) (x38_1:ByteArray) (x37_1:ByteArray),v4 = .int .i64 x4_1∧Aside0 (tollbarref04_Parse.l0 kq a0 x4_1=some (r1,r2,r3))∧Aside0 (kq ≤ k)∧Aside0 (w'.heap[gb35]? = some (.cells #[.string x38_1,.string x37_1] 55 (0,0)))∧Aside0 (Below w.heap.size w w'))
 case atStart=>exact ⟨(0),((⟨#[]⟩:ByteArray)),((⟨#[]⟩:ByteArray)),zb4,H',⟨Nat.le_refl _⟩,⟨zb24⟩,⟨zb20⟩⟩
 case round =>
  clear H'
  try clear c1
  try clear p2
  obtain ⟨x4_1,x38_1,x37_1,rfl,HA,HK1,BK35,HB⟩:=hrel
  cases gk with
  | zero=>exact absurd HA.out (by simp [tollbarref04_Parse.l0])
  | succ k1 =>
   have H:=HA.out
   clear HA
   simp only [tollbarref04_Parse.l0] at H
   by_cases c3:x4_1 < (a0.size:Int);rotate_left
   ·rw [if_neg c3] at H
    have c3b0:decide (x4_1 < (a0.size:Int))=false:=decide_eq_false c3
    clear c3
    simp only [Option.some.injEq,Prod.mk.injEq] at H
    obtain ⟨rfl,rfl,rfl⟩:=H
    obtain ⟨hcz34_0,hcz34_1,hfz34_0,hfz34_1⟩:=zq2 BK35.out
    go_wp2
    refine bodyPost_ret (results_ct rfl _ _ gb35 55 #[.string (⟨#[]⟩:ByteArray),.string (⟨#[]⟩:ByteArray)] (0,0) _ rfl zb56 Tryz.underlying55 rfl zb9) rfl ?_
    exact ⟨zb3,zb20⟩
   rw [if_pos c3] at H
   have c3b0:decide (x4_1 < (a0.size:Int))=true:=decide_eq_true c3
   clear c3
   by_cases c4:0 ≤ x4_1
   ·rw [if_pos c4] at H
    have c4b0:decide (0 ≤ x4_1)=true:=decide_eq_true c4
    clear c4
    by_cases c6:(bt a0 x4_1)=58;rotate_left
    ·rw [if_neg c6] at H
     have c6b0:=beq_eq_false_iff_ne.mpr c6
     have c6b1:=bne_iff_ne.mpr c6
     have H' := Aside0.mk H
     clear H
     have p5:0 ≤ (x4_1:Int):=of_decide_eq_true zb2
     have q5:x4_1 < (a0.size:Int):=of_decide_eq_true zb2
     have hx5:=bt_at a0 x4_1
     replace p5:=eq_true p5
     replace q5:=eq_true q5
     go_wp2
     go_roundg k1
     case measure=>have:=HK1.out;omega
     case rel=>exact ⟨(wrap64 (x4_1 + 1)),(x38_1),(x37_1),zb4,H',⟨zb74⟩,⟨zb24⟩,⟨zb20⟩⟩
    rw [if_pos c6] at H
    have c6b0:=beq_iff_eq.mpr c6
    have c6b1:=bne_eq_false_iff_eq.mpr c6
    clear c6
    have c7b0:=eq_true (of_decide_eq_true zb2:0 ≤ x4_1)
    by_cases c8:x4_1 ≤ (a0.size:Int)
    ·rw [if_pos c8] at H
     have c8b0:=eq_true c8
     have c8b1:decide (x4_1 ≤ (a0.size:Int))=true:=decide_eq_true c8
     clear c8
     obtain ⟨ji9,hji9⟩ : ∃ j_:Int,(wrap64 (x4_1 + 1))=j_:=⟨_,rfl⟩
     replace H:(if 0 ≤ (ji9) then (if (ji9) ≤ (a0.size:Int) then ((tollbarref02_Trim.f k1 (a0.extract ((ji9):Int).toNat a0.size)).bind fun t39=>((tollbarref04_One.f k1 (a0.extract 0 (x4_1:Int).toNat) t39).bind fun t40=>(if t40=true then (some (a0.extract 0 (x4_1:Int).toNat,t39,true)) else (some ((⟨#[]⟩:ByteArray),(⟨#[]⟩:ByteArray),false))))) else (none)) else (none))=some (r1,r2,r3):=by first|(rw [hji9] at H;exact H)|(simp only [hji9] at H ⊢;exact H)
     have hji9w:(IntKind.i64.wrap (x4_1 + 1))=ji9:=(i64_w _).trans hji9
     by_cases c10:0 ≤ (ji9)
     ·rw [if_pos c10] at H
      have c10b0:=eq_true c10
      have c10b1:decide (0 ≤ (ji9))=true:=decide_eq_true c10
      clear c10
      by_cases c11:(ji9) ≤ (a0.size:Int)
      ·rw [if_pos c11] at H
       have c11b0:=eq_true c11
       have c11b1:decide ((ji9) ≤ (a0.size:Int))=true:=decide_eq_true c11
       clear c11
       replace H:=Option.bind_eq_some_iff.mp H
       obtain ⟨t39,A41,H⟩:=H
       try dsimp only at H
       have A12:=Aside0.mk A41
       clear A41
       replace H:=Option.bind_eq_some_iff.mp H
       obtain ⟨t40,A42,H⟩:=H
       try dsimp only at H
       have A13:=Aside0.mk A42
       clear A42
       by_cases c14:t40=true
       ·subst c14
        rw [if_pos rfl] at H
        simp only [Option.some.injEq,Prod.mk.injEq] at H
        obtain ⟨rfl,rfl,rfl⟩:=H
        have p5:0 ≤ (x4_1:Int):=of_decide_eq_true zb2
        have q5:x4_1 < (a0.size:Int):=of_decide_eq_true zb2
        have hx5:=bt_at a0 x4_1
        replace p5:=eq_true p5
        replace q5:=eq_true q5
        try go_wp2
        replace BK35:=Aside0.mk (blk_drew BK35.out)
        replace HB:=Aside0.mk (below_drew1 HB.out)
        refine start_ (n:=11) (S:=fun w' => True) (ds:=[]) (zl 11 0) zb9 rfl rfl trivial (fun hHeld=>?_);refine with_tabW tollbarref04_Parse.tab5 tollbarref04_Parse.bits5 (fun HT_ HW_=>?_)
        generalize wr.drew=w15 at BK35 HB hHeld ⊢
        refine zpu 0 (N:=some 16) (zl 11 1) HT_.out rfl rfl ?_
        refine zpu 1 (N:=some 17) (zl 11 3) HT_.out rfl rfl ?_
        refine zpu 2 (N:=some 18) (zl 11 7) HT_.out rfl rfl ?_
        refine zpu 3 (N:=some 19) (zl 11 15) HT_.out rfl rfl ?_
        refine zpu 4 (N:=some 20) (zl 11 31) HT_.out rfl rfl ?_
        refine zpu 5 (N:=some 21) (zl 11 63) HT_.out rfl rfl ?_
        refine zpu 6 (N:=some 22) (zl 11 127) HT_.out rfl rfl ?_
        refine join_ (σ:=Nat) 1 (zl 11 1023) (fun s_=>[(23,.string t39),(5,.pointer (some ⟨s_,0,none⟩)),(24,.agg #[.string (a0.extract 0 (x4_1:Int).toNat),.string t39])]) (fun s_ w' => (w'.heap[gb35]? = some (.cells #[.string x38_1,.string x37_1] 55 (0,0)))∧(w'.heap[s_]? = some (.cells #[.string (⟨#[]⟩:ByteArray),.string (⟨#[]⟩:ByteArray)] 55 (0,0)))∧(w.heap.size ≤ s_)∧(w.heap.size ≤ s_)∧(gb35 ≠ s_)∧(s_ ≠ gb35)∧(Below w.heap.size w w')) ?_ ?_
        rotate_left
        ·intro hCont
         refine two_ (i:=7) (j:=9) (Ni:=some 23) (Nj:=some 5) (zl 11 255) (zl 11 639) rfl rfl rfl rfl (two_of HT_.out zb9) zb72 zb72 (fun K hK=>?_) (fun K hK=>?_)
         ·skip
          refine goes_ Tryz.func32 zb9 rfl #[.string (a0.extract ((ji9):Int).toNat a0.size)] zb65 rfl rfl zb70 ?_
          with_reducible refine (tollbarref02_Trim.calls k1 (a0.extract ((ji9):Int).toNat a0.size) t39 _ A12.out).mono ?_
          rintro e w' ⟨rfl,⟨nd,rfl⟩⟩
          refine ⟨_,rfl,?_⟩
          refine hK.out _ _ trivial (fun hHeld=>?_)
          clear hK K
          refine norm_ (a' := ?_) ?_ ?_
          rotate_left
          ·show Act.put _ (some 23) _=_
           simp only [Act.put,zqA,zqB,zqC,i64_w,i32_w]
           rfl
          refine zpu 8 (N:=some 24) (zl 11 511) HT_.out rfl rfl ?_
          refine one_ (i:=9) (N:=some 5) (zl 11 1023) rfl rfl (one_of HT_.out zb9) zb72 (fun K hK=>?_)
          refine box_step ?hg (N:=5) ?hd (cs:=#[.string (⟨#[]⟩:ByteArray),.string (⟨#[]⟩:ByteArray)]) (t:=55) ?hr ?_;(case hd=>rfl);(case hg=>rfl);(case hr=>first|(go_simp;done)|(go_simp;rfl))
          intro gb36 hg w16 hbox hb
          have n0_:=Aside0.mk (blk_below (g:=gb35) (o:=.cells #[.string x38_1,.string x37_1] 55 (0,0)) zb24 hb)
          have n1_:=Aside0.mk (below_step zb20 hb)
          have n2_:=Aside0.mk (hbox)
          have n3_:=zG hg zb20
          have n4_:=zG hg zb20
          have n5_:=Aside0.mk ((by rw [hg];exact Nat.ne_of_lt (blk_lt (g:=gb35) (o:=.cells #[.string x38_1,.string x37_1] 55 (0,0)) zb24):gb35 ≠ gb36))
          have n6_:=Aside0.mk ((by rw [hg];exact Nat.ne_of_gt (blk_lt (g:=gb35) (o:=.cells #[.string x38_1,.string x37_1] 55 (0,0)) zb24):gb36 ≠ gb35))
          clear BK35 HB
          have BK35:=n0_
          have HB:=n1_
          have BK36:=n2_
          have GW36:=n3_
          have GE36:=n4_
          have NB35_664:=n5_
          have NB36_662:=n6_
          clear n0_ n1_ n2_ n3_ n4_ n5_ n6_ hb hbox hg
          refine hK.out _ _ trivial (fun hHeld=>?_)
          clear hK K
          refine norm_ (a' := ?_) ?_ ?_
          rotate_left
          ·show Act.put _ (some 5) _=_
           simp only [Act.put,zqA,zqB,zqC,i64_w,i32_w]
           rfl
          exact norm_ zb103 (hCont (gb36) _ ⟨zb24,zb78,GW36.out,GE36.out,NB35_664.out,NB36_662.out,zb30⟩)
         skip
         refine box_step ?hg (N:=5) ?hd (cs:=#[.string (⟨#[]⟩:ByteArray),.string (⟨#[]⟩:ByteArray)]) (t:=55) ?hr ?_;(case hd=>rfl);(case hg=>rfl);(case hr=>first|(go_simp;done)|(go_simp;rfl))
         intro gb36 hg w16 hbox hb
         have n0_:=Aside0.mk (blk_below (g:=gb35) (o:=.cells #[.string x38_1,.string x37_1] 55 (0,0)) zb24 hb)
         have n1_:=Aside0.mk (below_step zb20 hb)
         have n2_:=Aside0.mk (hbox)
         have n3_:=zG hg zb20
         have n4_:=zG hg zb20
         have n5_:=Aside0.mk ((by rw [hg];exact Nat.ne_of_lt (blk_lt (g:=gb35) (o:=.cells #[.string x38_1,.string x37_1] 55 (0,0)) zb24):gb35 ≠ gb36))
         have n6_:=Aside0.mk ((by rw [hg];exact Nat.ne_of_gt (blk_lt (g:=gb35) (o:=.cells #[.string x38_1,.string x37_1] 55 (0,0)) zb24):gb36 ≠ gb35))
         clear BK35 HB
         have BK35:=n0_
         have HB:=n1_
         have BK36:=n2_
         have GW36:=n3_
         have GE36:=n4_
         have NB35_664:=n5_
         have NB36_662:=n6_
         clear n0_ n1_ n2_ n3_ n4_ n5_ n6_ hb hbox hg
         refine hK.out _ _ trivial (fun hHeld=>?_)
         clear hK K
         refine norm_ (a' := ?_) ?_ ?_
         rotate_left
         ·show Act.put _ (some 5) _=_
          simp only [Act.put,zqA,zqB,zqC,i64_w,i32_w]
          rfl
         refine one_ (i:=7) (N:=some 23) (zl 11 767) rfl rfl (one_of HT_.out zb9) zb72 (fun K hK=>?_)
         refine goes_ Tryz.func32 zb9 rfl #[.string (a0.extract ((ji9):Int).toNat a0.size)] zb65 rfl rfl zb70 ?_
         with_reducible refine (tollbarref02_Trim.calls k1 (a0.extract ((ji9):Int).toNat a0.size) t39 _ A12.out).mono ?_
         rintro e w' ⟨rfl,⟨nd,rfl⟩⟩
         refine ⟨_,rfl,?_⟩
         refine hK.out _ _ trivial (fun hHeld=>?_)
         clear hK K
         refine norm_ (a' := ?_) ?_ ?_
         rotate_left
         ·show Act.put _ (some 23) _=_
          simp only [Act.put,zqA,zqB,zqC,i64_w,i32_w]
          rfl
         refine zpu 8 (N:=some 24) (zl 11 1023) HT_.out rfl rfl ?_
         exact norm_ zb103 (hCont (gb36) _ ⟨zb24,zb78,GW36.out,GE36.out,NB35_664.out,NB36_662.out,zb30⟩)
        rintro gb36 w17 ⟨h0_,h1_,h2_,h3_,h4_,h5_,h6_⟩
        have n0_:Aside0 (w17.heap[gb35]? = some (.cells #[.string x38_1,.string x37_1] 55 (0,0))):=⟨h0_⟩
        have n1_:Aside0 (w17.heap[gb36]? = some (.cells #[.string (⟨#[]⟩:ByteArray),.string (⟨#[]⟩:ByteArray)] 55 (0,0))):=⟨h1_⟩
        have n2_:Aside0 (w.heap.size ≤ gb36):=⟨h2_⟩
        have n3_:Aside0 (w.heap.size ≤ gb36):=⟨h3_⟩
        have n4_:Aside0 (gb35 ≠ gb36):=⟨h4_⟩
        have n5_:Aside0 (gb36 ≠ gb35):=⟨h5_⟩
        have n6_:Aside0 (Below w.heap.size w w17):=⟨h6_⟩
        clear BK35 HB h0_ h1_ h2_ h3_ h4_ h5_ h6_
        have BK35:=n0_
        have BK36:=n1_
        have GW36:=n2_
        have GE36:=n3_
        have NB35_664:=n4_
        have NB36_662:=n5_
        have HB:=n6_
        clear n0_ n1_ n2_ n3_ n4_ n5_ n6_
        have hHeld:=trivial
        refine norm_ (a' := ?_) ?_ ?_
        rotate_left
        ·simp only [putAll,Act.put,zqA,zqB,zqC];rfl
        refine one_ (i:=10) (N:=none) (zl 11 2047) rfl rfl (one_of HT_.out zb9) zb72 (fun K hK=>?_)
        have hs18:w17.cell? ⟨gb36,0,none⟩=some (.string (⟨#[]⟩:ByteArray)):=(blk_cell BK36.out 0).trans rfl
        have hfs18:=blk_frozen BK36.out 0
        have hns18_0:=NB35_664.out
        have hms18_0:=NB36_662.out
        have hs19:w17.cell? ⟨gb36,1,none⟩=some (.string (⟨#[]⟩:ByteArray)):=(blk_cell BK36.out 1).trans rfl
        have hfs19:=blk_frozen BK36.out 1
        have hns19_0:=NB35_664.out
        have hms19_0:=NB36_662.out
        refine skip_ (w1:=?_) zb65 rfl ?_ ?_
        rotate_left
        ·go_simp
         rfl
        refine hK.out _ _ trivial (fun hHeld=>?_)
        clear hK K
        refine done_ (done_of HT_.out zb9) ?_
        have hnb20:=NB36_662.out
        have hnc20:=NB35_664.out
        obtain ⟨hcz21_0,hcz21_1,hfz21_0,hfz21_1⟩:=zq2 BK36.out
        try go_wp2_with (first|((with_reducible refine gate_callee (f:=156) rfl ?_);refine goesL_ (some 26) rfl rfl Tryz.func156 zb9 rfl #[.agg #[.string (a0.extract 0 (x4_1:Int).toNat),.string t39]] rfl zb1 ?_;(with_reducible refine (tollbarref04_One.calls k1 (a0.extract 0 (x4_1:Int).toNat) t39 true _ A13.out).mono ?_);rintro e w22 ⟨rfl,hb⟩;(try clear A13);refine ⟨_,rfl,?_⟩;have n0_:=Aside0.mk (blk_below (g:=gb35) (o:=.cells #[.string x38_1,.string x37_1] 55 (0,0)) zb63 hb);have n1_:=Aside0.mk (blk_below (g:=gb36) (o:=.cells #[.string (a0.extract 0 (x4_1:Int).toNat),.string t39] 55 (0,0)) zb47 hb);have n2_:=Aside0.mk (below_step zb30 hb);clear BK35;clear BK36;clear HB;have BK35:=n0_;have BK36:=n1_;have HB:=n2_;clear n0_ n1_ n2_;(try clear hb);(try clear hb2);(try clear hk);(try clear hi);have hcz23_0:w22.cell? ⟨gb36,0,none⟩=some (.string (a0.extract 0 (x4_1:Int).toNat)):=(blk_cell BK36.out 0).trans rfl;have hcz23_1:w22.cell? ⟨gb36,1,none⟩=some (.string t39):=(blk_cell BK36.out 1).trans rfl;have hfz23_0:=blk_frozen BK36.out 0;have hfz23_1:=blk_frozen BK36.out 1;have hcz24_0:w22.cell? ⟨gb35,0,none⟩=some (.string x38_1):=(blk_cell BK35.out 0).trans rfl;have hcz24_1:w22.cell? ⟨gb35,1,none⟩=some (.string x37_1):=(blk_cell BK35.out 1).trans rfl;have hfz24_0:=blk_frozen BK35.out 0;have hfz24_1:=blk_frozen BK35.out 1))
        refine bodyPost_ret (results_ct rfl _ _ gb35 55 #[.string (a0.extract 0 (x4_1:Int).toNat),.string t39] (0,0) _ rfl (by (with_reducible repeat (first|refine blk_drewN ?_ _|refine blk_drew ?_|refine blk_alloc ?_ _));refine blk_put (cs:=#[.string (a0.extract 0 (x4_1:Int).toNat),.string x37_1]) ?_ 1 _ rfl;(with_reducible repeat (first|refine blk_drewN ?_ _|refine blk_drew ?_|refine blk_alloc ?_ _));refine blk_put (cs:=#[.string x38_1,.string x37_1]) ?_ 0 _ rfl;(with_reducible repeat (first|refine blk_drewN ?_ _|refine blk_drew ?_|refine blk_alloc ?_ _));exact BK35.out) Tryz.underlying55 rfl zb9) rfl ?_
        exact ⟨zb88,zb30⟩
       replace c14:=Bool.eq_false_iff.mpr c14
       subst c14
       rw [if_neg (show ¬ (false=true) by decide)] at H
       simp only [Option.some.injEq,Prod.mk.injEq] at H
       obtain ⟨rfl,rfl,rfl⟩:=H
       have p5:0 ≤ (x4_1:Int):=of_decide_eq_true zb2
       have q5:x4_1 < (a0.size:Int):=of_decide_eq_true zb2
       have hx5:=bt_at a0 x4_1
       replace p5:=eq_true p5
       replace q5:=eq_true q5
       try go_wp2
       replace BK35:=Aside0.mk (blk_drew BK35.out)
       replace HB:=Aside0.mk (below_drew1 HB.out)
       refine start_ (n:=11) (S:=fun w' => True) (ds:=[]) (zl 11 0) zb9 rfl rfl trivial (fun hHeld=>?_);refine with_tabW tollbarref04_Parse.tab5 tollbarref04_Parse.bits5 (fun HT_ HW_=>?_)
       generalize wr.drew=w25 at BK35 HB hHeld ⊢
       refine zpu 0 (N:=some 16) (zl 11 1) HT_.out rfl rfl ?_
       refine zpu 1 (N:=some 17) (zl 11 3) HT_.out rfl rfl ?_
       refine zpu 2 (N:=some 18) (zl 11 7) HT_.out rfl rfl ?_
       refine zpu 3 (N:=some 19) (zl 11 15) HT_.out rfl rfl ?_
       refine zpu 4 (N:=some 20) (zl 11 31) HT_.out rfl rfl ?_
       refine zpu 5 (N:=some 21) (zl 11 63) HT_.out rfl rfl ?_
       refine zpu 6 (N:=some 22) (zl 11 127) HT_.out rfl rfl ?_
       refine join_ (σ:=Nat) 1 (zl 11 1023) (fun s_=>[(23,.string t39),(5,.pointer (some ⟨s_,0,none⟩)),(24,.agg #[.string (a0.extract 0 (x4_1:Int).toNat),.string t39])]) (fun s_ w' => (w'.heap[gb35]? = some (.cells #[.string x38_1,.string x37_1] 55 (0,0)))∧(w'.heap[s_]? = some (.cells #[.string (⟨#[]⟩:ByteArray),.string (⟨#[]⟩:ByteArray)] 55 (0,0)))∧(w.heap.size ≤ s_)∧(w.heap.size ≤ s_)∧(gb35 ≠ s_)∧(s_ ≠ gb35)∧(Below w.heap.size w w')) ?_ ?_
       rotate_left
       ·intro hCont
        refine two_ (i:=7) (j:=9) (Ni:=some 23) (Nj:=some 5) (zl 11 255) (zl 11 639) rfl rfl rfl rfl (two_of HT_.out zb9) zb72 zb72 (fun K hK=>?_) (fun K hK=>?_)
        ·skip
         refine goes_ Tryz.func32 zb9 rfl #[.string (a0.extract ((ji9):Int).toNat a0.size)] zb65 rfl rfl zb70 ?_
         with_reducible refine (tollbarref02_Trim.calls k1 (a0.extract ((ji9):Int).toNat a0.size) t39 _ A12.out).mono ?_
         rintro e w' ⟨rfl,⟨nd,rfl⟩⟩
         refine ⟨_,rfl,?_⟩
         refine hK.out _ _ trivial (fun hHeld=>?_)
         clear hK K
         refine norm_ (a' := ?_) ?_ ?_
         rotate_left
         ·show Act.put _ (some 23) _=_
          simp only [Act.put,zqA,zqB,zqC,i64_w,i32_w]
          rfl
         refine zpu 8 (N:=some 24) (zl 11 511) HT_.out rfl rfl ?_
         refine one_ (i:=9) (N:=some 5) (zl 11 1023) rfl rfl (one_of HT_.out zb9) zb72 (fun K hK=>?_)
         refine box_step ?hg (N:=5) ?hd (cs:=#[.string (⟨#[]⟩:ByteArray),.string (⟨#[]⟩:ByteArray)]) (t:=55) ?hr ?_;(case hd=>rfl);(case hg=>rfl);(case hr=>first|(go_simp;done)|(go_simp;rfl))
         intro gb36 hg w26 hbox hb
         have n0_:=Aside0.mk (blk_below (g:=gb35) (o:=.cells #[.string x38_1,.string x37_1] 55 (0,0)) zb24 hb)
         have n1_:=Aside0.mk (below_step zb20 hb)
         have n2_:=Aside0.mk (hbox)
         have n3_:=zG hg zb20
         have n4_:=zG hg zb20
         have n5_:=Aside0.mk ((by rw [hg];exact Nat.ne_of_lt (blk_lt (g:=gb35) (o:=.cells #[.string x38_1,.string x37_1] 55 (0,0)) zb24):gb35 ≠ gb36))
         have n6_:=Aside0.mk ((by rw [hg];exact Nat.ne_of_gt (blk_lt (g:=gb35) (o:=.cells #[.string x38_1,.string x37_1] 55 (0,0)) zb24):gb36 ≠ gb35))
         clear BK35 HB
         have BK35:=n0_
         have HB:=n1_
         have BK36:=n2_
         have GW36:=n3_
         have GE36:=n4_
         have NB35_664:=n5_
         have NB36_662:=n6_
         clear n0_ n1_ n2_ n3_ n4_ n5_ n6_ hb hbox hg
         refine hK.out _ _ trivial (fun hHeld=>?_)
         clear hK K
         refine norm_ (a' := ?_) ?_ ?_
         rotate_left
         ·show Act.put _ (some 5) _=_
          simp only [Act.put,zqA,zqB,zqC,i64_w,i32_w]
          rfl
         exact norm_ zb103 (hCont (gb36) _ ⟨zb24,zb78,GW36.out,GE36.out,NB35_664.out,NB36_662.out,zb30⟩)
        skip
        refine box_step ?hg (N:=5) ?hd (cs:=#[.string (⟨#[]⟩:ByteArray),.string (⟨#[]⟩:ByteArray)]) (t:=55) ?hr ?_;(case hd=>rfl);(case hg=>rfl);(case hr=>first|(go_simp;done)|(go_simp;rfl))
        intro gb36 hg w26 hbox hb
        have n0_:=Aside0.mk (blk_below (g:=gb35) (o:=.cells #[.string x38_1,.string x37_1] 55 (0,0)) zb24 hb)
        have n1_:=Aside0.mk (below_step zb20 hb)
        have n2_:=Aside0.mk (hbox)
        have n3_:=zG hg zb20
        have n4_:=zG hg zb20
        have n5_:=Aside0.mk ((by rw [hg];exact Nat.ne_of_lt (blk_lt (g:=gb35) (o:=.cells #[.string x38_1,.string x37_1] 55 (0,0)) zb24):gb35 ≠ gb36))
        have n6_:=Aside0.mk ((by rw [hg];exact Nat.ne_of_gt (blk_lt (g:=gb35) (o:=.cells #[.string x38_1,.string x37_1] 55 (0,0)) zb24):gb36 ≠ gb35))
        clear BK35 HB
        have BK35:=n0_
        have HB:=n1_
        have BK36:=n2_
        have GW36:=n3_
        have GE36:=n4_
        have NB35_664:=n5_
        have NB36_662:=n6_
        clear n0_ n1_ n2_ n3_ n4_ n5_ n6_ hb hbox hg
        refine hK.out _ _ trivial (fun hHeld=>?_)
        clear hK K
        refine norm_ (a' := ?_) ?_ ?_
        rotate_left
        ·show Act.put _ (some 5) _=_
         simp only [Act.put,zqA,zqB,zqC,i64_w,i32_w]
         rfl
        refine one_ (i:=7) (N:=some 23) (zl 11 767) rfl rfl (one_of HT_.out zb9) zb72 (fun K hK=>?_)
        refine goes_ Tryz.func32 zb9 rfl #[.string (a0.extract ((ji9):Int).toNat a0.size)] zb65 rfl rfl zb70 ?_
        with_reducible refine (tollbarref02_Trim.calls k1 (a0.extract ((ji9):Int).toNat a0.size) t39 _ A12.out).mono ?_
        rintro e w' ⟨rfl,⟨nd,rfl⟩⟩
        refine ⟨_,rfl,?_⟩
        refine hK.out _ _ trivial (fun hHeld=>?_)
        clear hK K
        refine norm_ (a' := ?_) ?_ ?_
        rotate_left
        ·show Act.put _ (some 23) _=_
         simp only [Act.put,zqA,zqB,zqC,i64_w,i32_w]
         rfl
        refine zpu 8 (N:=some 24) (zl 11 1023) HT_.out rfl rfl ?_
        exact norm_ zb103 (hCont (gb36) _ ⟨zb24,zb78,GW36.out,GE36.out,NB35_664.out,NB36_662.out,zb30⟩)
       rintro gb36 w27 ⟨h0_,h1_,h2_,h3_,h4_,h5_,h6_⟩
       have n0_:Aside0 (w27.heap[gb35]? = some (.cells #[.string x38_1,.string x37_1] 55 (0,0))):=⟨h0_⟩
       have n1_:Aside0 (w27.heap[gb36]? = some (.cells #[.string (⟨#[]⟩:ByteArray),.string (⟨#[]⟩:ByteArray)] 55 (0,0))):=⟨h1_⟩
       have n2_:Aside0 (w.heap.size ≤ gb36):=⟨h2_⟩
       have n3_:Aside0 (w.heap.size ≤ gb36):=⟨h3_⟩
       have n4_:Aside0 (gb35 ≠ gb36):=⟨h4_⟩
       have n5_:Aside0 (gb36 ≠ gb35):=⟨h5_⟩
       have n6_:Aside0 (Below w.heap.size w w27):=⟨h6_⟩
       clear BK35 HB h0_ h1_ h2_ h3_ h4_ h5_ h6_
       have BK35:=n0_
       have BK36:=n1_
       have GW36:=n2_
       have GE36:=n3_
       have NB35_664:=n4_
       have NB36_662:=n5_
       have HB:=n6_
       clear n0_ n1_ n2_ n3_ n4_ n5_ n6_
       have hHeld:=trivial
       refine norm_ (a' := ?_) ?_ ?_
       rotate_left
       ·simp only [putAll,Act.put,zqA,zqB,zqC];rfl
       refine one_ (i:=10) (N:=none) (zl 11 2047) rfl rfl (one_of HT_.out zb9) zb72 (fun K hK=>?_)
       have hs28:w27.cell? ⟨gb36,0,none⟩=some (.string (⟨#[]⟩:ByteArray)):=(blk_cell BK36.out 0).trans rfl
       have hfs28:=blk_frozen BK36.out 0
       have hns28_0:=NB35_664.out
       have hms28_0:=NB36_662.out
       have hs29:w27.cell? ⟨gb36,1,none⟩=some (.string (⟨#[]⟩:ByteArray)):=(blk_cell BK36.out 1).trans rfl
       have hfs29:=blk_frozen BK36.out 1
       have hns29_0:=NB35_664.out
       have hms29_0:=NB36_662.out
       refine skip_ (w1:=?_) zb65 rfl ?_ ?_
       rotate_left
       ·go_simp
        rfl
       refine hK.out _ _ trivial (fun hHeld=>?_)
       clear hK K
       refine done_ (done_of HT_.out zb9) ?_
       have hnb30:=NB36_662.out
       have hnc30:=NB35_664.out
       obtain ⟨hcz31_0,hcz31_1,hfz31_0,hfz31_1⟩:=zq2 BK36.out
       try go_wp2_with (first|((with_reducible refine gate_callee (f:=156) rfl ?_);refine goesL_ (some 26) rfl rfl Tryz.func156 zb9 rfl #[.agg #[.string (a0.extract 0 (x4_1:Int).toNat),.string t39]] rfl zb1 ?_;(with_reducible refine (tollbarref04_One.calls k1 (a0.extract 0 (x4_1:Int).toNat) t39 false _ A13.out).mono ?_);rintro e w32 ⟨rfl,hb⟩;(try clear A13);refine ⟨_,rfl,?_⟩;have n0_:=Aside0.mk (blk_below (g:=gb35) (o:=.cells #[.string x38_1,.string x37_1] 55 (0,0)) zb63 hb);have n1_:=Aside0.mk (blk_below (g:=gb36) (o:=.cells #[.string (a0.extract 0 (x4_1:Int).toNat),.string t39] 55 (0,0)) zb47 hb);have n2_:=Aside0.mk (below_step zb30 hb);clear BK35;clear BK36;clear HB;have BK35:=n0_;have BK36:=n1_;have HB:=n2_;clear n0_ n1_ n2_;(try clear hb);(try clear hb2);(try clear hk);(try clear hi);have hcz33_0:w32.cell? ⟨gb35,0,none⟩=some (.string x38_1):=(blk_cell BK35.out 0).trans rfl;have hcz33_1:w32.cell? ⟨gb35,1,none⟩=some (.string x37_1):=(blk_cell BK35.out 1).trans rfl;have hfz33_0:=blk_frozen BK35.out 0;have hfz33_1:=blk_frozen BK35.out 1))
       refine bodyPost_ret (results_ct rfl _ _ gb35 55 #[.string (⟨#[]⟩:ByteArray),.string (⟨#[]⟩:ByteArray)] (0,0) _ rfl zb56 Tryz.underlying55 rfl zb9) rfl ?_
       exact ⟨zb88,zb30⟩
      ·rw [if_neg c11] at H
       exact absurd H zb27
     ·rw [if_neg c10] at H
      exact absurd H zb27
    ·rw [if_neg c8] at H
     exact absurd H zb27
   ·rw [if_neg c4] at H
    exact absurd H zb27
mutual
def tollbarref05_Cut.j0:Nat → List Int → Int → Option (ByteArray × Int × Int)
 | 0,_,_=>none
 | k + 1,x0,x1=>tollbarref05_Cut.l0 k x0 x1 0
def tollbarref05_Cut.l0:Nat → List Int → Int → Int → Option (ByteArray × Int × Int)
 | 0,_,_,_=>none
 | k + 1,x0,x1,x7=>if x7 < (x0.length:Int) then (if x7=(wrap64 ((x0.length:Int) - 1)) then (if 0 ≤ x7 then (if (rd x0 x7)=10 then (tollbarref05_Cut.j2 k x0 x1 x7 true true) else (if (rd x0 x7)=13 then (tollbarref05_Cut.j2 k x0 x1 x7 true false) else (tollbarref05_Cut.j2 k x0 x1 x7 true false))) else (none)) else (if 0 ≤ x7 then (if (rd x0 x7)=10 then (tollbarref05_Cut.j4 k x0 x1 x7 false true) else (if (rd x0 x7)=13 then (if 0 ≤ (wrap64 (x7 + 1)) then (if (wrap64 (x7 + 1)) < (x0.length:Int) then (tollbarref05_Cut.j4 k x0 x1 x7 false ((rd x0 (wrap64 (x7 + 1))) != 10)) else (none)) else (none)) else (tollbarref05_Cut.j4 k x0 x1 x7 false false))) else (none))) else (some ((⟨#[]⟩:ByteArray),0,0))
def tollbarref05_Cut.j2:Nat → List Int → Int → Int → Bool → Bool → Option (ByteArray × Int × Int)
 | 0,_,_,_,_,_=>none
 | k + 1,x0,x1,x7,x8,x45=>if x45=true then (some ((⟨#[]⟩:ByteArray),0,20)) else (if 0 ≤ x7 then (if x7 < (x0.length:Int) then (if (rd x0 x7)=13 then (tollbarref05_Cut.j3 k x0 x1 x7 x8) else (tollbarref05_Cut.j3 k x0 x1 x7 false)) else (none)) else (none))
def tollbarref05_Cut.j3:Nat → List Int → Int → Int → Bool → Option (ByteArray × Int × Int)
 | 0,_,_,_,_=>none
 | k + 1,x0,x1,x7,x53=>if x53=true then (some ((⟨#[]⟩:ByteArray),0,0)) else (if 0 ≤ x7 then (if x7 < (x0.length:Int) then (if (rd x0 x7)=13 then (if x7 ≤ (x0.length:Int) then (some (strOfNums (x0.take (x7:Int).toNat),wrap64 (x7 + 2),0)) else (none)) else (if x7 ≥ x1 then (some ((⟨#[]⟩:ByteArray),0,2)) else (tollbarref05_Cut.l0 k x0 x1 (wrap64 (x7 + 1))))) else (none)) else (none))
def tollbarref05_Cut.j4:Nat → List Int → Int → Int → Bool → Bool → Option (ByteArray × Int × Int)
 | 0,_,_,_,_,_=>none
 | k + 1,x0,x1,x7,x8,x45=>if x45=true then (some ((⟨#[]⟩:ByteArray),0,20)) else (if 0 ≤ x7 then (if x7 < (x0.length:Int) then (if (rd x0 x7)=13 then (tollbarref05_Cut.j5 k x0 x1 x7 x8) else (tollbarref05_Cut.j5 k x0 x1 x7 false)) else (none)) else (none))
def tollbarref05_Cut.j5:Nat → List Int → Int → Int → Bool → Option (ByteArray × Int × Int)
 | 0,_,_,_,_=>none
 | k + 1,x0,x1,x7,x53=>if x53=true then (some ((⟨#[]⟩:ByteArray),0,0)) else (if 0 ≤ x7 then (if x7 < (x0.length:Int) then (if (rd x0 x7)=13 then (if x7 ≤ (x0.length:Int) then (some (strOfNums (x0.take (x7:Int).toNat),wrap64 (x7 + 2),0)) else (none)) else (if x7 ≥ x1 then (some ((⟨#[]⟩:ByteArray),0,2)) else (tollbarref05_Cut.l0 k x0 x1 (wrap64 (x7 + 1))))) else (none)) else (none))
end
def tollbarref05_Cut.f (k:Nat) (l0:List Int) (a1:Int):Option (ByteArray × Int × Int):=if a1 < 0 then (tollbarref05_Cut.j0 k l0 0) else (tollbarref05_Cut.j0 k l0 a1)
set_option maxHeartbeats 8000000 in
set_option maxRecDepth 100000 in
theorem tollbarref05_Cut.calls (k:Nat) (A0:Option Addr) (c0:Nat) (l0:List Int) (a1:Int) (r1:ByteArray) (r2:Int) (r3:Int) (w:World) (hr0:Kd.C (Kd.int .u8) w A0 l0.length l0) (hc0:l0.length ≤ c0) (h:tollbarref05_Cut.f k l0 a1=some (r1,r2,r3)) :
  Calls Tryz.prog 114 #[.slice A0 l0.length c0,.int .i64 a1] w fun e w' => e = .returned (.tuple #[.string r1,.int .i64 r2,.int .i64 r3])∧Drawn0 w w' := by
 have HR0:=Aside0.mk hr0
 have HC0:=Aside0.mk hc0
 clear hr0 hc0
 have H:(if a1 < 0 then (tollbarref05_Cut.j0 k l0 0) else (tollbarref05_Cut.j0 k l0 a1))=some (r1,r2,r3):=h
 clear h
 have HC3:=Aside0.mk H
 clear H
 go_enter Tryz.func114,Tryz.ntmps114
 go_upto_if 10 with (fail)
 go_cut [1] (fun v1 wc => ∃ (kq:Nat) (x1_2:Int),v1 = .int .i64 x1_2∧Aside0 (tollbarref05_Cut.j0 kq l0 x1_2=some (r1,r2,r3))∧Aside0 (kq ≤ k)∧Drawn0 w wc)
 case first =>
  have H:=HC3.out
  clear HC3
  by_cases c4:a1 < 0
  ·rw [if_pos c4] at H
   have c4b0:decide (a1 < 0)=true:=decide_eq_true c4
   clear c4
   (first|rw [c4b0]|(simp only [i64_w,i32_w];rw [c4b0])|skip)
   have H' := Aside0.mk H
   clear H
   go_wp2
   go_meet
   case rel=>exact ⟨_,(0),zb4,H',⟨zb31⟩,zb8⟩
  rw [if_neg c4] at H
  have c4b0:decide (a1 < 0)=false:=decide_eq_false c4
  clear c4
  (first|rw [c4b0]|(simp only [i64_w,i32_w];rw [c4b0])|skip)
  have H' := Aside0.mk H
  clear H
  go_wp2
  go_meet
  case rel=>exact ⟨_,(a1),zb4,H',⟨zb31⟩,zb8⟩
 case rest =>
  clear HC3
  try clear c1
  try clear p2
  try clear c4
  try clear c4b0
  obtain ⟨kq,x1_2,rfl,HA,HJ2,⟨mc2,rfl⟩⟩:=hcut
  cases kq with
  | zero=>exact absurd HA.out (by simp [tollbarref05_Cut.j0])
  | succ kj2 =>
   have H:=HA.out
   clear HA
   simp only [tollbarref05_Cut.j0] at H
   have H' := Aside0.mk H
   clear H
   go_wp2
   go_loopg [7] kj2 (fun kq v7 w' => ∃ (x7_2:Int),v7 = .int .i64 x7_2∧Aside0 (tollbarref05_Cut.l0 kq l0 x1_2 x7_2=some (r1,r2,r3))∧Aside0 (kq ≤ kj2)∧Drawn0 w w')
   case atStart=>exact ⟨(0),zb4,H',⟨Nat.le_refl _⟩,zb8⟩
   case round =>
    clear H'
    try clear c1
    try clear c2
    try clear p2
    try clear c4
    try clear c4b0
    try clear p2
    obtain ⟨x7_2,rfl,HA,HK2,⟨m2,rfl⟩⟩:=hrel
    cases gk with
    | zero=>exact absurd HA.out (by simp [tollbarref05_Cut.l0])
    | succ k2 =>
     have H:=HA.out
     clear HA
     simp only [tollbarref05_Cut.l0] at H
     by_cases c5:x7_2 < (l0.length:Int);rotate_left
     ·rw [if_neg c5] at H
      have c5b0:decide (x7_2 < (l0.length:Int))=false:=decide_eq_false c5
      clear c5
      simp only [Option.some.injEq,Prod.mk.injEq] at H
      obtain ⟨rfl,rfl,rfl⟩:=H
      go_wp2
      go_ret3
      exact ⟨zb4,zb8⟩
     rw [if_pos c5] at H
     have c5b0:decide (x7_2 < (l0.length:Int))=true:=decide_eq_true c5
     clear c5
     by_cases c6:x7_2=(wrap64 ((l0.length:Int) - 1))
     ·rw [if_pos c6] at H
      have c6b0:=beq_iff_eq.mpr c6
      have c6b1:=bne_eq_false_iff_eq.mpr c6
      clear c6
      have HC7:=Aside0.mk H
      clear H
      go_upto_region 7 with (fail)
      go_cut [45] (fun v45 wc => ∃ (kq:Nat) (x45_6:Bool),v45 = .bool x45_6∧Aside0 (tollbarref05_Cut.j2 kq l0 x1_2 x7_2 true x45_6=some (r1,r2,r3))∧Aside0 (kq ≤ k2)∧Drawn0 w wc)
      case first =>
       have H:=HC7.out
       clear HC7
       by_cases c8:0 ≤ x7_2;rotate_left
       ·rw [if_neg c8] at H
        exact absurd H zb27
       rw [if_pos c8] at H
       have c8b0:decide (0 ≤ x7_2)=true:=decide_eq_true c8
       clear c8
       (first|rw [c8b0]|(simp only [i64_w,i32_w];rw [c8b0])|skip)
       by_cases c9:(rd l0 x7_2)=10
       ·rw [if_pos c9] at H
        have c9b0:=beq_iff_eq.mpr c9
        have c9b1:=bne_eq_false_iff_eq.mpr c9
        clear c9
        have H' := Aside0.mk H
        clear H
        have p46:0 ≤ (x7_2:Int):=of_decide_eq_true zb2
        have q46:x7_2 < (l0.length:Int):=of_decide_eq_true zb2
        obtain ⟨ad46,e46,hx46_0⟩:=Kd.at_int HR0.out x7_2 p46 q46
        cases e46
        replace p46:=eq_true p46
        replace q46:=eq_true q46
        go_wp2
        go_meet
        case rel=>exact ⟨_,(true),zb4,H',⟨zb77⟩,zb8⟩
       rw [if_neg c9] at H
       have c9b0:=beq_eq_false_iff_ne.mpr c9
       have c9b1:=bne_iff_ne.mpr c9
       by_cases c10:(rd l0 x7_2)=13;rotate_left
       ·rw [if_neg c10] at H
        have c10b0:=beq_eq_false_iff_ne.mpr c10
        have c10b1:=bne_iff_ne.mpr c10
        have H' := Aside0.mk H
        clear H
        have p46:0 ≤ (x7_2:Int):=of_decide_eq_true zb2
        have q46:x7_2 < (l0.length:Int):=of_decide_eq_true zb2
        obtain ⟨ad46,e46,hx46_0⟩:=Kd.at_int HR0.out x7_2 p46 q46
        cases e46
        replace p46:=eq_true p46
        replace q46:=eq_true q46
        have p50:0 ≤ (x7_2:Int):=of_decide_eq_true zb2
        have q50:x7_2 < (l0.length:Int):=of_decide_eq_true zb2
        obtain ⟨ad50,e50,hx50_0⟩:=Kd.at_int HR0.out x7_2 p50 q50
        obtain rfl:ad46=ad50:=(by injection e50)
        replace p50:=eq_true p50
        replace q50:=eq_true q50
        go_wp2
        go_meet
        case rel=>exact ⟨_,(false),zb4,H',⟨zb77⟩,zb8⟩
       rw [if_pos c10] at H
       have c10b0:=beq_iff_eq.mpr c10
       have c10b1:=bne_eq_false_iff_eq.mpr c10
       clear c10
       have H' := Aside0.mk H
       clear H
       have p46:0 ≤ (x7_2:Int):=of_decide_eq_true zb2
       have q46:x7_2 < (l0.length:Int):=of_decide_eq_true zb2
       obtain ⟨ad46,e46,hx46_0⟩:=Kd.at_int HR0.out x7_2 p46 q46
       cases e46
       replace p46:=eq_true p46
       replace q46:=eq_true q46
       have p50:0 ≤ (x7_2:Int):=of_decide_eq_true zb2
       have q50:x7_2 < (l0.length:Int):=of_decide_eq_true zb2
       obtain ⟨ad50,e50,hx50_0⟩:=Kd.at_int HR0.out x7_2 p50 q50
       obtain rfl:ad46=ad50:=(by injection e50)
       replace p50:=eq_true p50
       replace q50:=eq_true q50
       go_wp2
       go_meet
       case rel=>exact ⟨_,(false),zb4,H',⟨zb77⟩,zb8⟩
      case rest =>
       clear HC7
       try clear c1
       try clear c2
       try clear p2
       try clear c4
       try clear c4b0
       try clear c5
       try clear c5b0
       try clear c6
       try clear c6b0
       try clear c6b1
       try clear p6
       try clear q6
       try clear hx6
       try clear c8
       try clear c8b0
       try clear c9
       try clear c9b0
       try clear c9b1
       try clear c10
       try clear c10b0
       try clear c10b1
       try clear hx46_0
       try clear hx50_0
       try clear p2
       try clear p46
       try clear p50
       try clear q46
       try clear q50
       obtain ⟨kq,x45_6,rfl,HA,HJ6,⟨mc6,rfl⟩⟩:=hcut
       cases kq with
       | zero=>exact absurd HA.out (by simp [tollbarref05_Cut.j2])
       | succ kj6 =>
        have H:=HA.out
        clear HA
        simp only [tollbarref05_Cut.j2] at H
        by_cases c11:x45_6=true
        ·subst c11
         rw [if_pos rfl] at H
         simp only [Option.some.injEq,Prod.mk.injEq] at H
         obtain ⟨rfl,rfl,rfl⟩:=H
         go_wp2
         go_ret3
         exact ⟨zb4,zb8⟩
        replace c11:=Bool.eq_false_iff.mpr c11
        subst c11
        rw [if_neg (show ¬ (false=true) by decide)] at H
        have HC12:=Aside0.mk H
        clear H
        go_upto_region 9 with (fail)
        go_cut [53] (fun v53 wc => ∃ (kq:Nat) (x53_11:Bool),v53 = .bool x53_11∧Aside0 (tollbarref05_Cut.j3 kq l0 x1_2 x7_2 x53_11=some (r1,r2,r3))∧Aside0 (kq ≤ kj6)∧Drawn0 w wc)
        case first =>
         have H:=HC12.out
         clear HC12
         by_cases c13:0 ≤ x7_2;rotate_left
         ·rw [if_neg c13] at H
          exact absurd H zb27
         rw [if_pos c13] at H
         have c13b0:decide (0 ≤ x7_2)=true:=decide_eq_true c13
         clear c13
         (first|rw [c13b0]|(simp only [i64_w,i32_w];rw [c13b0])|skip)
         by_cases c14:x7_2 < (l0.length:Int)
         ·rw [if_pos c14] at H
          have c14b0:decide (x7_2 < (l0.length:Int))=true:=decide_eq_true c14
          clear c14
          by_cases c15:(rd l0 x7_2)=13;rotate_left
          ·rw [if_neg c15] at H
           have c15b0:=beq_eq_false_iff_ne.mpr c15
           have c15b1:=bne_iff_ne.mpr c15
           have H' := Aside0.mk H
           clear H
           have p51:0 ≤ (x7_2:Int):=of_decide_eq_true zb2
           have q51:x7_2 < (l0.length:Int):=of_decide_eq_true zb2
           obtain ⟨ad51,e51,hx51_0⟩:=Kd.at_int HR0.out x7_2 p51 q51
           cases e51
           replace p51:=eq_true p51
           replace q51:=eq_true q51
           go_wp2
           go_meet
           case rel=>exact ⟨_,(false),zb4,H',⟨by have:=HJ2.out;have:=HK2.out;have:=HJ6.out;first|omega|exact Nat.le_refl _⟩,zb8⟩
          rw [if_pos c15] at H
          have c15b0:=beq_iff_eq.mpr c15
          have c15b1:=bne_eq_false_iff_eq.mpr c15
          clear c15
          have H' := Aside0.mk H
          clear H
          have p51:0 ≤ (x7_2:Int):=of_decide_eq_true zb2
          have q51:x7_2 < (l0.length:Int):=of_decide_eq_true zb2
          obtain ⟨ad51,e51,hx51_0⟩:=Kd.at_int HR0.out x7_2 p51 q51
          cases e51
          replace p51:=eq_true p51
          replace q51:=eq_true q51
          go_wp2
          go_meet
          case rel=>exact ⟨_,(true),zb4,H',⟨by have:=HJ2.out;have:=HK2.out;have:=HJ6.out;first|omega|exact Nat.le_refl _⟩,zb8⟩
         ·rw [if_neg c14] at H
          exact absurd H zb27
        case rest =>
         clear HC12
         try clear c1
         try clear c2
         try clear p2
         try clear c4
         try clear c4b0
         try clear c5
         try clear c5b0
         try clear c6
         try clear c6b0
         try clear c6b1
         try clear p6
         try clear q6
         try clear hx6
         try clear c8
         try clear c8b0
         try clear c9
         try clear c9b0
         try clear c9b1
         try clear c10
         try clear c10b0
         try clear c10b1
         try clear c11
         try clear c13
         try clear c13b0
         try clear c14
         try clear c14b0
         try clear c15
         try clear c15b0
         try clear c15b1
         try clear hx46_0
         try clear hx50_0
         try clear hx51_0
         try clear p2
         try clear p6
         try clear p46
         try clear p50
         try clear p51
         try clear q6
         try clear q46
         try clear q50
         try clear q51
         obtain ⟨kq,x53_11,rfl,HA,HJ11,⟨mc11,rfl⟩⟩:=hcut
         cases kq with
         | zero=>exact absurd HA.out (by simp [tollbarref05_Cut.j3])
         | succ kj11 =>
          have H:=HA.out
          clear HA
          simp only [tollbarref05_Cut.j3] at H
          by_cases c16:x53_11=true
          ·subst c16
           rw [if_pos rfl] at H
           simp only [Option.some.injEq,Prod.mk.injEq] at H
           obtain ⟨rfl,rfl,rfl⟩:=H
           go_wp2
           go_ret3
           exact ⟨zb4,zb8⟩
          replace c16:=Bool.eq_false_iff.mpr c16
          subst c16
          rw [if_neg (show ¬ (false=true) by decide)] at H
          by_cases c17:0 ≤ x7_2;rotate_left
          ·rw [if_neg c17] at H
           exact absurd H zb27
          rw [if_pos c17] at H
          have c17b0:decide (0 ≤ x7_2)=true:=decide_eq_true c17
          clear c17
          by_cases c18:x7_2 < (l0.length:Int)
          ·rw [if_pos c18] at H
           have c18b0:decide (x7_2 < (l0.length:Int))=true:=decide_eq_true c18
           clear c18
           by_cases c19:(rd l0 x7_2)=13;rotate_left
           ·rw [if_neg c19] at H
            have c19b0:=beq_eq_false_iff_ne.mpr c19
            have c19b1:=bne_iff_ne.mpr c19
            by_cases c24:x7_2 ≥ x1_2
            ·rw [if_pos c24] at H
             have c24b0:decide (x1_2 ≤ x7_2)=true:=decide_eq_true c24
             clear c24
             simp only [Option.some.injEq,Prod.mk.injEq] at H
             obtain ⟨rfl,rfl,rfl⟩:=H
             have p47:0 ≤ (x7_2:Int):=of_decide_eq_true zb2
             have q47:x7_2 < (l0.length:Int):=of_decide_eq_true zb2
             obtain ⟨ad47,e47,hx47_0⟩:=Kd.at_int HR0.out x7_2 p47 q47
             cases e47
             replace p47:=eq_true p47
             replace q47:=eq_true q47
             go_wp2
             go_ret3
             exact ⟨zb4,zb8⟩
            rw [if_neg c24] at H
            have c24b0:decide (x1_2 ≤ x7_2)=false:=decide_eq_false c24
            clear c24
            have H' := Aside0.mk H
            clear H
            have p47:0 ≤ (x7_2:Int):=of_decide_eq_true zb2
            have q47:x7_2 < (l0.length:Int):=of_decide_eq_true zb2
            obtain ⟨ad47,e47,hx47_0⟩:=Kd.at_int HR0.out x7_2 p47 q47
            cases e47
            replace p47:=eq_true p47
            replace q47:=eq_true q47
            go_wp2
            go_roundg kj11
            case measure=>have:=HJ2.out;have:=HK2.out;have:=HJ6.out;have:=HJ11.out;omega
            case rel=>exact ⟨(wrap64 (x7_2 + 1)),zb4,H',⟨by have:=HJ2.out;have:=HK2.out;have:=HJ6.out;have:=HJ11.out;omega⟩,zb8⟩
           rw [if_pos c19] at H
           have c19b0:=beq_iff_eq.mpr c19
           have c19b1:=bne_eq_false_iff_eq.mpr c19
           clear c19
           have c20b0:=eq_true (of_decide_eq_true zb2:0 ≤ x7_2)
           by_cases c21:x7_2 ≤ (l0.length:Int)
           ·rw [if_pos c21] at H
            have c21b0:=eq_true c21
            have c21b1:decide (x7_2 ≤ (l0.length:Int))=true:=decide_eq_true c21
            clear c21
            simp only [Option.some.injEq,Prod.mk.injEq] at H
            obtain ⟨rfl,rfl,rfl⟩:=H
            have p47:0 ≤ (x7_2:Int):=of_decide_eq_true zb2
            have q47:x7_2 < (l0.length:Int):=of_decide_eq_true zb2
            obtain ⟨ad47,e47,hx47_0⟩:=Kd.at_int HR0.out x7_2 p47 q47
            cases e47
            replace p47:=eq_true p47
            replace q47:=eq_true q47
            obtain ⟨i56,hi56,_,hsz22,_⟩:=info_parts info5
            obtain ⟨hcut22,hA22,hC22⟩:=print_take_of (P:=Tryz.prog) (Value.int .u8) 0 23 5 .i64 Tryz.underlying23 hi56 hsz22 (some ad47) c0 l0 x7_2 (of_decide_eq_true zb2) (of_decide_eq_true zb2) HC0.out
            have HR58:=Aside0.mk (Kd.C_of_reads (h1:=fun _=>rfl) (hA22 _ (Kd.reads_of_C HR0.out)))
            have HC58:=Aside0.mk hC22
            clear hA22 hC22 hi56 hsz22
            have hcv23:=Kd.C_string (P:=Tryz.prog) (A:=(some ad47)) (c:=c0) Tryz.underlying23 Tryz.underlying5 Tryz.underlying9 HR58.out
            have hcvd23:=fun (m_:Nat)=>Kd.C_string (P:=Tryz.prog) (A:=(some ad47)) (c:=c0) Tryz.underlying23 Tryz.underlying5 Tryz.underlying9 (Kd.C_drewN HR58.out m_)
            have hlen23:(l0.take (x7_2:Int).toNat).length=(x7_2:Int).toNat:=by have q1_:(x7_2:Int) ≤ (l0.length:Int):=of_decide_eq_true zb2;have q2_:0 ≤ (x7_2:Int):=of_decide_eq_true zb2;rw [List.length_take];omega
            rw [hlen23] at hcv23
            simp only [hlen23] at hcvd23
            clear hlen23
            go_wp2
            go_ret3
            exact ⟨zb4,zb8⟩
           ·rw [if_neg c21] at H
            exact absurd H zb27
          ·rw [if_neg c18] at H
           exact absurd H zb27
     rw [if_neg c6] at H
     have c6b0:=beq_eq_false_iff_ne.mpr c6
     have c6b1:=bne_iff_ne.mpr c6
     have HC25:=Aside0.mk H
     clear H
     go_upto_region 7 with (fail)
     go_cut [45] (fun v45 wc => ∃ (kq:Nat) (x45_24:Bool),v45 = .bool x45_24∧Aside0 (tollbarref05_Cut.j4 kq l0 x1_2 x7_2 false x45_24=some (r1,r2,r3))∧Aside0 (kq ≤ k2)∧Drawn0 w wc)
     case first =>
      have H:=HC25.out
      clear HC25
      by_cases c26:0 ≤ x7_2;rotate_left
      ·rw [if_neg c26] at H
       exact absurd H zb27
      rw [if_pos c26] at H
      have c26b0:decide (0 ≤ x7_2)=true:=decide_eq_true c26
      clear c26
      (first|rw [c26b0]|(simp only [i64_w,i32_w];rw [c26b0])|skip)
      by_cases c27:(rd l0 x7_2)=10
      ·rw [if_pos c27] at H
       have c27b0:=beq_iff_eq.mpr c27
       have c27b1:=bne_eq_false_iff_eq.mpr c27
       clear c27
       have H' := Aside0.mk H
       clear H
       have p48:0 ≤ (x7_2:Int):=of_decide_eq_true zb2
       have q48:x7_2 < (l0.length:Int):=of_decide_eq_true zb2
       obtain ⟨ad48,e48,hx48_0⟩:=Kd.at_int HR0.out x7_2 p48 q48
       cases e48
       replace p48:=eq_true p48
       replace q48:=eq_true q48
       go_wp2
       go_meet
       case rel=>exact ⟨_,(true),zb4,H',⟨zb77⟩,zb8⟩
      rw [if_neg c27] at H
      have c27b0:=beq_eq_false_iff_ne.mpr c27
      have c27b1:=bne_iff_ne.mpr c27
      by_cases c28:(rd l0 x7_2)=13;rotate_left
      ·rw [if_neg c28] at H
       have c28b0:=beq_eq_false_iff_ne.mpr c28
       have c28b1:=bne_iff_ne.mpr c28
       have H' := Aside0.mk H
       clear H
       have p48:0 ≤ (x7_2:Int):=of_decide_eq_true zb2
       have q48:x7_2 < (l0.length:Int):=of_decide_eq_true zb2
       obtain ⟨ad48,e48,hx48_0⟩:=Kd.at_int HR0.out x7_2 p48 q48
       cases e48
       replace p48:=eq_true p48
       replace q48:=eq_true q48
       have p52:0 ≤ (x7_2:Int):=of_decide_eq_true zb2
       have q52:x7_2 < (l0.length:Int):=of_decide_eq_true zb2
       obtain ⟨ad52,e52,hx52_0⟩:=Kd.at_int HR0.out x7_2 p52 q52
       obtain rfl:ad48=ad52:=(by injection e52)
       replace p52:=eq_true p52
       replace q52:=eq_true q52
       go_wp2
       go_meet
       case rel=>exact ⟨_,(false),zb4,H',⟨zb77⟩,zb8⟩
      rw [if_pos c28] at H
      have c28b0:=beq_iff_eq.mpr c28
      have c28b1:=bne_eq_false_iff_eq.mpr c28
      clear c28
      obtain ⟨ji29,hji29⟩ : ∃ j_:Int,(wrap64 (x7_2 + 1))=j_:=⟨_,rfl⟩
      replace H:(if 0 ≤ (ji29) then (if (ji29) < (l0.length:Int) then (tollbarref05_Cut.j4 k2 l0 x1_2 x7_2 false ((rd l0 (ji29)) != 10)) else (none)) else (none))=some (r1,r2,r3):=by first|(rw [hji29] at H;exact H)|(simp only [hji29] at H ⊢;exact H)
      have hji29w:(IntKind.i64.wrap (x7_2 + 1))=ji29:=(i64_w _).trans hji29
      by_cases c30:0 ≤ (ji29)
      ·rw [if_pos c30] at H
       have c30b0:decide (0 ≤ (ji29))=true:=decide_eq_true c30
       clear c30
       by_cases c31:(ji29) < (l0.length:Int)
       ·rw [if_pos c31] at H
        have c31b0:decide ((ji29) < (l0.length:Int))=true:=decide_eq_true c31
        clear c31
        have H' := Aside0.mk H
        clear H
        have p48:0 ≤ (x7_2:Int):=of_decide_eq_true zb2
        have q48:x7_2 < (l0.length:Int):=of_decide_eq_true zb2
        obtain ⟨ad48,e48,hx48_0⟩:=Kd.at_int HR0.out x7_2 p48 q48
        cases e48
        replace p48:=eq_true p48
        replace q48:=eq_true q48
        have p52:0 ≤ (x7_2:Int):=of_decide_eq_true zb2
        have q52:x7_2 < (l0.length:Int):=of_decide_eq_true zb2
        obtain ⟨ad52,e52,hx52_0⟩:=Kd.at_int HR0.out x7_2 p52 q52
        obtain rfl:ad48=ad52:=(by injection e52)
        replace p52:=eq_true p52
        replace q52:=eq_true q52
        have p55:0 ≤ ((ji29):Int):=of_decide_eq_true zb2
        have q55:(ji29) < (l0.length:Int):=of_decide_eq_true zb2
        obtain ⟨ad55,e55,hx55_0⟩:=Kd.at_int HR0.out (ji29) p55 q55
        obtain rfl:ad48=ad55:=(by injection e55)
        replace p55:=eq_true p55
        replace q55:=eq_true q55
        go_wp2
        go_meet
        case rel=>exact ⟨_,(((rd l0 (ji29)) != 10)),(by first|rfl|(simp;done)|(simp only [← hji29] <;> (first|rfl|simp))|(simp [*];done)),H',⟨zb77⟩,zb8⟩
       ·rw [if_neg c31] at H
        exact absurd H zb27
      ·rw [if_neg c30] at H
       exact absurd H zb27
     case rest =>
      clear HC25
      try clear c1
      try clear q1
      try clear c2
      try clear p2
      try clear q2
      try clear hcv2
      try clear c3
      try clear c4
      try clear c4b0
      try clear c5
      try clear c5b0
      try clear c6
      try clear c6b0
      try clear c6b1
      try clear p6
      try clear q6
      try clear hx6
      try clear c8
      try clear c8b0
      try clear c9
      try clear c9b0
      try clear c9b1
      try clear c10
      try clear c10b0
      try clear c10b1
      try clear c11
      try clear c13
      try clear c13b0
      try clear c14
      try clear c14b0
      try clear c15
      try clear c15b0
      try clear c15b1
      try clear c16
      try clear c17
      try clear c17b0
      try clear c18
      try clear c18b0
      try clear c19
      try clear c19b0
      try clear c19b1
      try clear c20
      try clear c20b0
      try clear c21
      try clear c21b0
      try clear c21b1
      try clear hcv23
      try clear c24
      try clear c24b0
      try clear c26
      try clear c26b0
      try clear c27
      try clear c27b0
      try clear c27b1
      try clear c28
      try clear c28b0
      try clear c28b1
      try clear c30
      try clear c30b0
      try clear c31
      try clear c31b0
      try clear hx46_0
      try clear hx50_0
      try clear hx51_0
      try clear hx47_0
      try clear hx48_0
      try clear hx52_0
      try clear hx55_0
      try clear p2
      try clear p6
      try clear p46
      try clear p50
      try clear p51
      try clear p47
      try clear p48
      try clear p52
      try clear p55
      try clear q6
      try clear q46
      try clear q50
      try clear q51
      try clear q47
      try clear q48
      try clear q52
      try clear q55
      obtain ⟨kq,x45_24,rfl,HA,HJ24,⟨mc24,rfl⟩⟩:=hcut
      cases kq with
      | zero=>exact absurd HA.out (by simp [tollbarref05_Cut.j4])
      | succ kj24 =>
       have H:=HA.out
       clear HA
       simp only [tollbarref05_Cut.j4] at H
       by_cases c32:x45_24=true
       ·subst c32
        rw [if_pos rfl] at H
        simp only [Option.some.injEq,Prod.mk.injEq] at H
        obtain ⟨rfl,rfl,rfl⟩:=H
        go_wp2
        go_ret3
        exact ⟨zb4,zb8⟩
       replace c32:=Bool.eq_false_iff.mpr c32
       subst c32
       rw [if_neg (show ¬ (false=true) by decide)] at H
       have HC33:=Aside0.mk H
       clear H
       go_upto_region 9 with (fail)
       go_cut [53] (fun v53 wc => ∃ (kq:Nat) (x53_32:Bool),v53 = .bool x53_32∧Aside0 (tollbarref05_Cut.j5 kq l0 x1_2 x7_2 x53_32=some (r1,r2,r3))∧Aside0 (kq ≤ kj24)∧Drawn0 w wc)
       case first =>
        have H:=HC33.out
        clear HC33
        by_cases c34:0 ≤ x7_2;rotate_left
        ·rw [if_neg c34] at H
         exact absurd H zb27
        rw [if_pos c34] at H
        have c34b0:decide (0 ≤ x7_2)=true:=decide_eq_true c34
        clear c34
        (first|rw [c34b0]|(simp only [i64_w,i32_w];rw [c34b0])|skip)
        by_cases c35:x7_2 < (l0.length:Int)
        ·rw [if_pos c35] at H
         have c35b0:decide (x7_2 < (l0.length:Int))=true:=decide_eq_true c35
         clear c35
         by_cases c36:(rd l0 x7_2)=13;rotate_left
         ·rw [if_neg c36] at H
          have c36b0:=beq_eq_false_iff_ne.mpr c36
          have c36b1:=bne_iff_ne.mpr c36
          have H' := Aside0.mk H
          clear H
          have p54:0 ≤ (x7_2:Int):=of_decide_eq_true zb2
          have q54:x7_2 < (l0.length:Int):=of_decide_eq_true zb2
          obtain ⟨ad54,e54,hx54_0⟩:=Kd.at_int HR0.out x7_2 p54 q54
          cases e54
          replace p54:=eq_true p54
          replace q54:=eq_true q54
          go_wp2
          go_meet
          case rel=>exact ⟨_,(false),zb4,H',⟨by have:=HJ2.out;have:=HK2.out;have:=HJ24.out;first|omega|exact Nat.le_refl _⟩,zb8⟩
         rw [if_pos c36] at H
         have c36b0:=beq_iff_eq.mpr c36
         have c36b1:=bne_eq_false_iff_eq.mpr c36
         clear c36
         have H' := Aside0.mk H
         clear H
         have p54:0 ≤ (x7_2:Int):=of_decide_eq_true zb2
         have q54:x7_2 < (l0.length:Int):=of_decide_eq_true zb2
         obtain ⟨ad54,e54,hx54_0⟩:=Kd.at_int HR0.out x7_2 p54 q54
         cases e54
         replace p54:=eq_true p54
         replace q54:=eq_true q54
         go_wp2
         go_meet
         case rel=>exact ⟨_,(false),zb4,H',⟨by have:=HJ2.out;have:=HK2.out;have:=HJ24.out;first|omega|exact Nat.le_refl _⟩,zb8⟩
        ·rw [if_neg c35] at H
         exact absurd H zb27
       case rest =>
        clear HC33
        try clear c1
        try clear q1
        try clear c2
        try clear p2
        try clear q2
        try clear hcv2
        try clear c3
        try clear c4
        try clear c4b0
        try clear c5
        try clear c5b0
        try clear c6
        try clear c6b0
        try clear c6b1
        try clear p6
        try clear q6
        try clear hx6
        try clear c8
        try clear c8b0
        try clear c9
        try clear c9b0
        try clear c9b1
        try clear c10
        try clear c10b0
        try clear c10b1
        try clear c11
        try clear c13
        try clear c13b0
        try clear c14
        try clear c14b0
        try clear c15
        try clear c15b0
        try clear c15b1
        try clear c16
        try clear c17
        try clear c17b0
        try clear c18
        try clear c18b0
        try clear c19
        try clear c19b0
        try clear c19b1
        try clear c20
        try clear c20b0
        try clear c21
        try clear c21b0
        try clear c21b1
        try clear hcv23
        try clear c24
        try clear c24b0
        try clear c26
        try clear c26b0
        try clear c27
        try clear c27b0
        try clear c27b1
        try clear c28
        try clear c28b0
        try clear c28b1
        try clear c30
        try clear c30b0
        try clear c31
        try clear c31b0
        try clear c32
        try clear c34
        try clear c34b0
        try clear c35
        try clear c35b0
        try clear c36
        try clear c36b0
        try clear c36b1
        try clear hx46_0
        try clear hx50_0
        try clear hx51_0
        try clear hx47_0
        try clear hx48_0
        try clear hx52_0
        try clear hx55_0
        try clear hx54_0
        try clear p2
        try clear p6
        try clear p46
        try clear p50
        try clear p51
        try clear p47
        try clear p48
        try clear p52
        try clear p55
        try clear p54
        try clear q1
        try clear q2
        try clear q6
        try clear q46
        try clear q50
        try clear q51
        try clear q47
        try clear q48
        try clear q52
        try clear q55
        try clear q54
        obtain ⟨kq,x53_32,rfl,HA,HJ32,⟨mc32,rfl⟩⟩:=hcut
        cases kq with
        | zero=>exact absurd HA.out (by simp [tollbarref05_Cut.j5])
        | succ kj32 =>
         have H:=HA.out
         clear HA
         simp only [tollbarref05_Cut.j5] at H
         by_cases c37:x53_32=true
         ·subst c37
          rw [if_pos rfl] at H
          simp only [Option.some.injEq,Prod.mk.injEq] at H
          obtain ⟨rfl,rfl,rfl⟩:=H
          go_wp2
          go_ret3
          exact ⟨zb4,zb8⟩
         replace c37:=Bool.eq_false_iff.mpr c37
         subst c37
         rw [if_neg (show ¬ (false=true) by decide)] at H
         by_cases c38:0 ≤ x7_2
         ·rw [if_pos c38] at H
          have c38b0:decide (0 ≤ x7_2)=true:=decide_eq_true c38
          clear c38
          by_cases c39:x7_2 < (l0.length:Int)
          ·rw [if_pos c39] at H
           have c39b0:decide (x7_2 < (l0.length:Int))=true:=decide_eq_true c39
           clear c39
           by_cases c40:(rd l0 x7_2)=13;rotate_left
           ·rw [if_neg c40] at H
            have c40b0:=beq_eq_false_iff_ne.mpr c40
            have c40b1:=bne_iff_ne.mpr c40
            by_cases c45:x7_2 ≥ x1_2
            ·rw [if_pos c45] at H
             have c45b0:decide (x1_2 ≤ x7_2)=true:=decide_eq_true c45
             clear c45
             simp only [Option.some.injEq,Prod.mk.injEq] at H
             obtain ⟨rfl,rfl,rfl⟩:=H
             have p49:0 ≤ (x7_2:Int):=of_decide_eq_true zb2
             have q49:x7_2 < (l0.length:Int):=of_decide_eq_true zb2
             obtain ⟨ad49,e49,hx49_0⟩:=Kd.at_int HR0.out x7_2 p49 q49
             cases e49
             replace p49:=eq_true p49
             replace q49:=eq_true q49
             go_wp2
             go_ret3
             exact ⟨zb4,zb8⟩
            rw [if_neg c45] at H
            have c45b0:decide (x1_2 ≤ x7_2)=false:=decide_eq_false c45
            clear c45
            have H' := Aside0.mk H
            clear H
            have p49:0 ≤ (x7_2:Int):=of_decide_eq_true zb2
            have q49:x7_2 < (l0.length:Int):=of_decide_eq_true zb2
            obtain ⟨ad49,e49,hx49_0⟩:=Kd.at_int HR0.out x7_2 p49 q49
            cases e49
            replace p49:=eq_true p49
            replace q49:=eq_true q49
            go_wp2
            go_roundg kj32
            case measure=>have:=HJ2.out;have:=HK2.out;have:=HJ24.out;have:=HJ32.out;omega
            case rel=>exact ⟨(wrap64 (x7_2 + 1)),zb4,H',⟨by have:=HJ2.out;have:=HK2.out;have:=HJ24.out;have:=HJ32.out;omega⟩,zb8⟩
           rw [if_pos c40] at H
           have c40b0:=beq_iff_eq.mpr c40
           have c40b1:=bne_eq_false_iff_eq.mpr c40
           clear c40
           have c41b0:=eq_true (of_decide_eq_true zb2:0 ≤ x7_2)
           by_cases c42:x7_2 ≤ (l0.length:Int)
           ·rw [if_pos c42] at H
            have c42b0:=eq_true c42
            have c42b1:decide (x7_2 ≤ (l0.length:Int))=true:=decide_eq_true c42
            clear c42
            simp only [Option.some.injEq,Prod.mk.injEq] at H
            obtain ⟨rfl,rfl,rfl⟩:=H
            have p49:0 ≤ (x7_2:Int):=of_decide_eq_true zb2
            have q49:x7_2 < (l0.length:Int):=of_decide_eq_true zb2
            obtain ⟨ad49,e49,hx49_0⟩:=Kd.at_int HR0.out x7_2 p49 q49
            cases e49
            replace p49:=eq_true p49
            replace q49:=eq_true q49
            obtain ⟨i57,hi57,_,hsz43,_⟩:=info_parts info5
            obtain ⟨hcut43,hA43,hC43⟩:=print_take_of (P:=Tryz.prog) (Value.int .u8) 0 23 5 .i64 Tryz.underlying23 hi57 hsz43 (some ad49) c0 l0 x7_2 (of_decide_eq_true zb2) (of_decide_eq_true zb2) HC0.out
            have HR59:=Aside0.mk (Kd.C_of_reads (h1:=fun _=>rfl) (hA43 _ (Kd.reads_of_C HR0.out)))
            have HC59:=Aside0.mk hC43
            clear hA43 hC43 hi57 hsz43
            have hcv44:=Kd.C_string (P:=Tryz.prog) (A:=(some ad49)) (c:=c0) Tryz.underlying23 Tryz.underlying5 Tryz.underlying9 HR59.out
            have hcvd44:=fun (m_:Nat)=>Kd.C_string (P:=Tryz.prog) (A:=(some ad49)) (c:=c0) Tryz.underlying23 Tryz.underlying5 Tryz.underlying9 (Kd.C_drewN HR59.out m_)
            have hlen44:(l0.take (x7_2:Int).toNat).length=(x7_2:Int).toNat:=by have q1_:(x7_2:Int) ≤ (l0.length:Int):=of_decide_eq_true zb2;have q2_:0 ≤ (x7_2:Int):=of_decide_eq_true zb2;rw [List.length_take];omega
            rw [hlen44] at hcv44
            simp only [hlen44] at hcvd44
            clear hlen44
            go_wp2
            go_ret3
            exact ⟨zb4,zb8⟩
           ·rw [if_neg c42] at H
            exact absurd H zb27
          ·rw [if_neg c39] at H
           exact absurd H zb27
         ·rw [if_neg c38] at H
          exact absurd H zb27
mutual
def tollbarref02_Hex.j0:Nat → ByteArray → Bool → Option (Int × Bool)
 | 0,_,_=>none
 | k + 1,x0,x14=>if x14=true then (some (0,false)) else (tollbarref02_Hex.l0 k x0 0 0)
def tollbarref02_Hex.l0:Nat → ByteArray → Int → Int → Option (Int × Bool)
 | 0,_,_,_=>none
 | k + 1,x0,x4,x5=>if x5 < (x0.size:Int) then (if 0 ≤ x5 then ((tollbarref02_Digit.f (bt x0 x5)).bind fun t712=>(if t712=true then (tollbarref02_Hex.l0 k x0 (wrap64 ((wrap64 (x4 * 16)) + (((bt x0 x5) - 48) % 256))) (wrap64 (x5 + 1))) else (if (bt x0 x5) ≥ 97 then (tollbarref02_Hex.j2 k x0 x4 x5 (bt x0 x5) (decide ((bt x0 x5) ≤ 102))) else (tollbarref02_Hex.j2 k x0 x4 x5 (bt x0 x5) false)))) else (none)) else (some (x4,true))
def tollbarref02_Hex.j2:Nat → ByteArray → Int → Int → Int → Bool → Option (Int × Bool)
 | 0,_,_,_,_,_=>none
 | k + 1,x0,x4,x5,x6,x33=>if x33=true then (tollbarref02_Hex.l0 k x0 (wrap64 ((wrap64 ((wrap64 (x4 * 16)) + ((x6 - 97) % 256))) + 10)) (wrap64 (x5 + 1))) else (if x6 ≥ 65 then (if x6 ≤ 70 then (tollbarref02_Hex.l0 k x0 (wrap64 ((wrap64 ((wrap64 (x4 * 16)) + ((x6 - 65) % 256))) + 10)) (wrap64 (x5 + 1))) else (some (0,false))) else (some (0,false)))
end
def tollbarref02_Hex.f (k:Nat) (a0:ByteArray):Option (Int × Bool):=if (a0.size:Int) < 1 then (tollbarref02_Hex.j0 k a0 true) else (tollbarref02_Hex.j0 k a0 (decide ((a0.size:Int) > 15)))
set_option maxHeartbeats 8000000 in
set_option maxRecDepth 100000 in
theorem tollbarref02_Hex.calls (k:Nat) (a0:ByteArray) (r1:Int) (r2:Bool) (w:World) (h:tollbarref02_Hex.f k a0=some (r1,r2)) :
  Calls Tryz.prog 172 #[.string a0] w fun e w' => e = .returned (.tuple #[.int .i64 r1,.bool r2])∧Drawn0 w w' := by
 have H:(if (a0.size:Int) < 1 then (tollbarref02_Hex.j0 k a0 true) else (tollbarref02_Hex.j0 k a0 (decide ((a0.size:Int) > 15))))=some (r1,r2):=h
 clear h
 have HC2:=Aside0.mk H
 clear H
 go_enter Tryz.func172,Tryz.ntmps172
 go_upto_region 1 with (fail)
 go_cut [14] (fun v14 wc => ∃ (kq:Nat) (x14_1:Bool),v14 = .bool x14_1∧Aside0 (tollbarref02_Hex.j0 kq a0 x14_1=some (r1,r2))∧Aside0 (kq ≤ k)∧Drawn0 w wc)
 case first =>
  have H:=HC2.out
  clear HC2
  by_cases c3:(a0.size:Int) < 1
  ·rw [if_pos c3] at H
   have c3b0:decide ((a0.size:Int) < 1)=true:=decide_eq_true c3
   have c3b1:decide (a0.size < 1)=true:=decide_eq_true zb25
   clear c3
   (first|rw [c3b0]|(simp only [i64_w,i32_w];rw [c3b0])|rw [c3b1]|skip)
   have H' := Aside0.mk H
   clear H
   go_wp2
   go_meet
   case rel=>exact ⟨_,(true),zb4,H',⟨zb31⟩,zb8⟩
  rw [if_neg c3] at H
  have c3b0:decide ((a0.size:Int) < 1)=false:=decide_eq_false c3
  have c3b1:decide (a0.size < 1)=false:=decide_eq_false zb25
  clear c3
  (first|rw [c3b0]|(simp only [i64_w,i32_w];rw [c3b0])|rw [c3b1]|skip)
  have H' := Aside0.mk H
  clear H
  go_wp2
  go_meet
  case rel=>exact ⟨_,(decide ((a0.size:Int) > 15)),zb4,H',⟨zb31⟩,zb8⟩
 case rest =>
  clear HC2
  try clear c1
  try clear p2
  try clear c3
  try clear c3b0
  try clear c3b1
  obtain ⟨kq,x14_1,rfl,HA,HJ1,⟨mc1,rfl⟩⟩:=hcut
  cases kq with
  | zero=>exact absurd HA.out (by simp [tollbarref02_Hex.j0])
  | succ kj1 =>
   have H:=HA.out
   clear HA
   simp only [tollbarref02_Hex.j0] at H
   by_cases c4:x14_1=true
   ·subst c4
    rw [if_pos rfl] at H
    simp only [Option.some.injEq,Prod.mk.injEq] at H
    obtain ⟨rfl,rfl⟩:=H
    go_wp2
    go_ret2
    exact ⟨zb4,zb8⟩
   replace c4:=Bool.eq_false_iff.mpr c4
   subst c4
   rw [if_neg (show ¬ (false=true) by decide)] at H
   have H' := Aside0.mk H
   clear H
   go_wp2
   go_loopg [4,5] kj1 (fun kq v4 v5 w' => ∃ (x4_2:Int) (x5_2:Int),v4 = .int .i64 x4_2∧v5 = .int .i64 x5_2∧Aside0 (tollbarref02_Hex.l0 kq a0 x4_2 x5_2=some (r1,r2))∧Aside0 (kq ≤ kj1)∧Drawn0 w w')
   case atStart=>exact ⟨(0),(0),zb4,zb4,H',⟨Nat.le_refl _⟩,zb8⟩
   case round =>
    clear H'
    try clear c1
    try clear p2
    try clear c3
    try clear c3b0
    try clear c3b1
    try clear c4
    try clear p2
    obtain ⟨x4_2,x5_2,rfl,rfl,HA,HK2,⟨m2,rfl⟩⟩:=hrel
    cases gk with
    | zero=>exact absurd HA.out (by simp [tollbarref02_Hex.l0])
    | succ k2 =>
     have H:=HA.out
     clear HA
     simp only [tollbarref02_Hex.l0] at H
     by_cases c5:x5_2 < (a0.size:Int);rotate_left
     ·rw [if_neg c5] at H
      have c5b0:decide (x5_2 < (a0.size:Int))=false:=decide_eq_false c5
      clear c5
      simp only [Option.some.injEq,Prod.mk.injEq] at H
      obtain ⟨rfl,rfl⟩:=H
      go_wp2
      go_ret2
      exact ⟨zb4,zb8⟩
     rw [if_pos c5] at H
     have c5b0:decide (x5_2 < (a0.size:Int))=true:=decide_eq_true c5
     clear c5
     by_cases c6:0 ≤ x5_2
     ·rw [if_pos c6] at H
      have c6b0:decide (0 ≤ x5_2)=true:=decide_eq_true c6
      clear c6
      replace H:=Option.bind_eq_some_iff.mp H
      obtain ⟨t712,A80,H⟩:=H
      try dsimp only at H
      have A8:=Aside0.mk A80
      clear A80
      by_cases c9:t712=true
      ·subst c9
       rw [if_pos rfl] at H
       have H' := Aside0.mk H
       clear H
       have p7:0 ≤ (x5_2:Int):=of_decide_eq_true zb2
       have q7:x5_2 < (a0.size:Int):=of_decide_eq_true zb2
       have hx7:=bt_at a0 x5_2
       replace p7:=eq_true p7
       replace q7:=eq_true q7
       go_wp2_with (first|((with_reducible refine gate_callee (f:=105) rfl ?_);refine goesL_ (some 26) rfl rfl Tryz.func105 zb9 rfl #[.int .u8 (bt a0 x5_2)] rfl zb1 ?_;(with_reducible refine (tollbarref02_Digit.calls (bt a0 x5_2) true _ A8.out).mono ?_);rintro e w' ⟨rfl,⟨nd,rfl⟩⟩;(try clear A8);refine ⟨_,rfl,?_⟩))
       go_roundg k2
       case measure=>have:=HJ1.out;have:=HK2.out;omega
       case rel=>exact ⟨(wrap64 ((wrap64 (x4_2 * 16)) + (((bt a0 x5_2) - 48) % 256))),(wrap64 (x5_2 + 1)),zb4,zb4,H',⟨by have:=HJ1.out;have:=HK2.out;omega⟩,zb8⟩
      replace c9:=Bool.eq_false_iff.mpr c9
      subst c9
      rw [if_neg (show ¬ (false=true) by decide)] at H
      have HC10:=Aside0.mk H
      clear H
      have p7:0 ≤ (x5_2:Int):=of_decide_eq_true zb2
      have q7:x5_2 < (a0.size:Int):=of_decide_eq_true zb2
      have hx7:=bt_at a0 x5_2
      replace p7:=eq_true p7
      replace q7:=eq_true q7
      go_upto_region 11 with (first|((with_reducible refine gate_callee (f:=105) rfl ?_);refine goesL_ (some 26) rfl rfl Tryz.func105 zb9 rfl #[.int .u8 (bt a0 x5_2)] rfl zb1 ?_;(with_reducible refine (tollbarref02_Digit.calls (bt a0 x5_2) false _ A8.out).mono ?_);rintro e w' ⟨rfl,⟨nd,rfl⟩⟩;refine ⟨_,rfl,?_⟩))
      (try simp only [Act.put,zqA,zqB,zqC])
      go_cut [33] (fun v33 wc => ∃ (kq:Nat) (x33_9:Bool),v33 = .bool x33_9∧Aside0 (tollbarref02_Hex.j2 kq a0 x4_2 x5_2 (bt a0 x5_2) x33_9=some (r1,r2))∧Aside0 (kq ≤ k2)∧Drawn0 w wc)
      case first =>
       have H:=HC10.out
       clear HC10
       by_cases c11:(bt a0 x5_2) ≥ 97
       ·rw [if_pos c11] at H
        have c11b0:decide (97 ≤ (bt a0 x5_2))=true:=decide_eq_true c11
        clear c11
        (first|rw [c11b0]|(simp only [i64_w,i32_w];rw [c11b0])|skip)
        have H' := Aside0.mk H
        clear H
        go_wp2
        go_meet
        case rel=>exact ⟨_,(decide ((bt a0 x5_2) ≤ 102)),zb4,H',⟨by have:=HJ1.out;have:=HK2.out;first|omega|exact Nat.le_refl _⟩,zb8⟩
       rw [if_neg c11] at H
       have c11b0:decide (97 ≤ (bt a0 x5_2))=false:=decide_eq_false c11
       clear c11
       (first|rw [c11b0]|(simp only [i64_w,i32_w];rw [c11b0])|skip)
       have H' := Aside0.mk H
       clear H
       go_wp2
       go_meet
       case rel=>exact ⟨_,(false),zb4,H',⟨by have:=HJ1.out;have:=HK2.out;first|omega|exact Nat.le_refl _⟩,zb8⟩
      case rest =>
       clear HC10
       try clear c1
       try clear p2
       try clear c3
       try clear c3b0
       try clear c3b1
       try clear c4
       try clear c5
       try clear c5b0
       try clear c6
       try clear c6b0
       try clear p6
       try clear p7
       try clear q7
       try clear hx7
       try clear c9
       try clear c10
       try clear c11
       try clear c11b0
       try clear p2
       try clear p7
       try clear q7
       obtain ⟨kq,x33_9,rfl,HA,HJ9,⟨mc9,rfl⟩⟩:=hcut
       cases kq with
       | zero=>exact absurd HA.out (by simp [tollbarref02_Hex.j2])
       | succ kj9 =>
        have H:=HA.out
        clear HA
        simp only [tollbarref02_Hex.j2] at H
        by_cases c12:x33_9=true
        ·subst c12
         rw [if_pos rfl] at H
         have H' := Aside0.mk H
         clear H
         go_wp2
         go_roundg kj9
         case measure=>have:=HJ1.out;have:=HK2.out;have:=HJ9.out;omega
         case rel=>exact ⟨(wrap64 ((wrap64 ((wrap64 (x4_2 * 16)) + (((bt a0 x5_2) - 97) % 256))) + 10)),(wrap64 (x5_2 + 1)),zb4,zb4,H',⟨by have:=HJ1.out;have:=HK2.out;have:=HJ9.out;omega⟩,zb8⟩
        replace c12:=Bool.eq_false_iff.mpr c12
        subst c12
        rw [if_neg (show ¬ (false=true) by decide)] at H
        by_cases c13:(bt a0 x5_2) ≥ 65;rotate_left
        ·rw [if_neg c13] at H
         have c13b0:decide (65 ≤ (bt a0 x5_2))=false:=decide_eq_false c13
         clear c13
         simp only [Option.some.injEq,Prod.mk.injEq] at H
         obtain ⟨rfl,rfl⟩:=H
         go_wp2
         go_ret2
         exact ⟨zb4,zb8⟩
        rw [if_pos c13] at H
        have c13b0:decide (65 ≤ (bt a0 x5_2))=true:=decide_eq_true c13
        clear c13
        by_cases c14:(bt a0 x5_2) ≤ 70
        ·rw [if_pos c14] at H
         have c14b0:decide ((bt a0 x5_2) ≤ 70)=true:=decide_eq_true c14
         clear c14
         have H' := Aside0.mk H
         clear H
         go_wp2
         go_roundg kj9
         case measure=>have:=HJ1.out;have:=HK2.out;have:=HJ9.out;omega
         case rel=>exact ⟨(wrap64 ((wrap64 ((wrap64 (x4_2 * 16)) + (((bt a0 x5_2) - 65) % 256))) + 10)),(wrap64 (x5_2 + 1)),zb4,zb4,H',⟨by have:=HJ1.out;have:=HK2.out;have:=HJ9.out;omega⟩,zb8⟩
        ·rw [if_neg c14] at H
         have c14b0:decide ((bt a0 x5_2) ≤ 70)=false:=decide_eq_false c14
         clear c14
         simp only [Option.some.injEq,Prod.mk.injEq] at H
         obtain ⟨rfl,rfl⟩:=H
         go_wp2
         go_ret2
         exact ⟨zb4,zb8⟩
     ·rw [if_neg c6] at H
      exact absurd H zb27
end Go.Proofs.YtfjeinnemimjoaaGreatDoor.P
