/- Each function below answers as its Lean twin says; plain lemmas; a row where its theorem stands. No further condition. (Laid by this repo's pack.py out of its texts and of the print's words.) -/
import Derived.Test.YtagffbblalldiaaGreatDoorZ3d8491c0
import Derived.Test.YtagffbblalldiaaGreatDoorZ819dcbb6
import Derived.Test.YtagffbblalldiaaGreatDoorZff9df73b
import Derived.Test.YtagffbblalldiaaGreatDoorZ02602194
import Derived.Test.YtagffbblalldiaaGreatDoorZ71cf0ab3
namespace Go.Proofs.YtagffbblalldiaaGreatDoor.Pure
open Go.RowKit Go.Proofs.YtagffbblalldiaaGreatDoor.P Go.Proofs.YtagffbblalldiaaGreatDoorW.PrintWords Go.Proofs.YtagffbblalldiaaGreatDoorW.PrintLast Go.Proofs.YtagffbblalldiaaGreatDoorW.PrintMore
set_option linter.unusedVariables false
set_option linter.unusedSimpArgs false
def lineQ (m t:List UInt8):List UInt8:=m ++ 32 :: (t ++ 32 :: [72,84,84,80,47,49,46,49])
theorem tgt_13:tgtB 13=false:=by decide +kernel
theorem tgt_10:tgtB 10=false:=by decide +kernel
theorem ver_11:verL [72,84,84,80,47,49,46,49]=some (1,1):=by decide +kernel
theorem cln_of (m:List UInt8) (p:Int → Bool) (h:(bytesOf (mkS m)).all p=true) (h1:p 13=false) (h2:p 10=false):Cln (toI m):=by
 have e:bytesOf (mkS m)=(mkS m).data.toList.map fun b=>(b.toNat:Int):=rfl
 rw [e,mkS_data] at h
 intro x hx
 have:=List.all_eq_true.1 h x hx
 refine ⟨fun e=>?_,fun e=>?_⟩
 ·rw [e,h1] at this;cases this
 ·rw [e,h2] at this;cases this
/-- A right request line, told anew with version 1.1. -/
theorem reqR (l : List UInt8) (h : (reqSpec l).2.2.2.2.2 = 0) : ∃ m t : List UInt8, (reqSpec l).1 = mkS m ∧ (reqSpec l).2.1 = mkS t ∧ m.length ≤ 20 ∧ t.length ≤ 512 ∧ reqSpec (lineQ m t) = (mkS m, mkS t, 1, [], [], 0) ∧ Cln (toI (lineQ m t)) := by
  by_cases h3 : (pcs 32 l).length = 3
  · obtain ⟨m, t, v, hp⟩ := three h3
    have hno := pcs_no (sp := 32) l
    rw [hp] at hno
    have hm32 := hno m (by simp)
    have ht32 := hno t (by simp)
    rw [reqSpec_yes hp] at h ⊢
    unfold reqP at h ⊢
    split at h
    · rename_i c
      rw [if_pos c]
      split at h
      · cases h
      · rename_i c2
        rw [if_neg c2]
        split at h
        · cases h
        · rename_i p hver
          split at h
          · rename_i c3
            simp only [hver, if_pos c3]
            refine ⟨m, t, rfl, rfl, c.1.1, by omega, ?_, ?_⟩
            · have hpc : pcs 32 (lineQ m t) = [m, t, [72, 84, 84, 80, 47, 49, 46, 49]] := by
                unfold lineQ
                rw [pcs_append, pcs_append, pcs_none m hm32, pcs_none t ht32, pcs_none _ (by decide)]
                rfl
              rw [reqSpec_yes hpc]
              unfold reqP
              rw [if_pos c, if_neg c2, ver_11]
              rfl
            · have hmc := c.1.2
              have htc := c.2
              unfold tokOk at hmc
              unfold aimOk tgtOk at htc
              simp only [Bool.and_eq_true] at hmc htc
              have h1 := cln_of m tokB hmc.2 tok_13 tok_10
              have h2 := cln_of t tgtB htc.1.2 tgt_13 tgt_10
              have e : toI (lineQ m t) = toI m ++ ([32] ++ (toI t ++ [32, 72, 84, 84, 80, 47, 49, 46, 49])) := by
                unfold toI lineQ
                rw [List.map_append, List.map_cons, List.map_append]
                rfl
              rw [e]
              exact cln_app h1 (cln_app (by intro x hx; revert x; decide) (cln_app h2 (by intro x hx; revert x; decide)))
          · cases h
    · cases h
  · rw [reqSpec_not h3] at h
    cases h
/-- A host that is told is told as itself. -/
theorem host_idem (h:ByteArray) (hs:h.size ≤ 140737488355328) (ho:(hostT h).2=true) : ∃ u:List UInt8,(hostT h).1=mkS u∧0 < u.length∧u.length ≤ 64∧(bytesOf (mkS u)).all hostC=true∧hostT (mkS u)=(mkS u,true):=by
 obtain ⟨u,hu⟩:=Host_some h.data.toList (by rw [data_length];exact hs)
 rw [mkS_self] at hu
 have e:hostT h=hostEnd (mkS u):=by unfold hostT;rw [hu];rfl
 rw [e] at ho ⊢
 obtain ⟨h1,h2,h3,h4⟩:=hostEnd_ok u ho
 have hb:bytesOf (mkS u)=(mkS u).data.toList.map fun b=>(b.toNat:Int):=rfl
 have hall : ∀ b ∈ u,hostC (b.toNat:Int)=true:=fun b hbm=>by
  rw [hb,mkS_data] at h4
  exact List.all_eq_true.1 h4 _ (List.mem_map.2 ⟨b,hbm,rfl⟩)
 have hnp : ∀ n,¬ PortAt u n:=fun n ⟨hn,h58,_⟩=>by
  have:=hall u[n] (List.getElem_mem hn)
  rw [h58] at this
  revert this
  decide
 have hf:u.map foldU=u:=by
  conv=>rhs;rw [← List.map_id u]
  exact List.map_congr_left fun b hbm=>foldU_host b (hall b hbm)
 have h5:=Host_none u (by omega) hnp
 refine ⟨u,h1,h2,h3,h4,?_⟩
 have e2:hostEnd (mkS u)=(mkS u,true):=Prod.ext h1 ho
 unfold hostT
 rw [h5]
 unfold hostOf
 rw [List.take_length,hf,e2]
 rfl
theorem host_right (u:List UInt8) (hl:u.length ≤ 64) (h:(bytesOf (mkS u)).all hostC=true):rightB hostNM (mkS u)=true:=by
 have hb:bytesOf (mkS u)=(mkS u).data.toList.map fun b=>(b.toNat:Int):=rfl
 have hall : ∀ b ∈ u,hostC (b.toNat:Int)=true:=fun b hbm=>by
  rw [hb,mkS_data] at h
  exact List.all_eq_true.1 h _ (List.mem_map.2 ⟨b,hbm,rfl⟩)
 have hv : ∀ b:UInt8,hostC (b.toNat:Int)=true → valB (b.toNat:Int)=true∧blk b=false:=fun b=>byteAll (P:=fun b=>hostC (b.toNat:Int)=true → valB (b.toNat:Int)=true∧blk b=false) (by decide +kernel) b
 have ht:trm u=u:=trm_self ⟨fun a ha=>(hv a (hall a (List.mem_of_mem_head? ha))).2,fun a ha=>(hv a (hall a (List.mem_of_getLast? ha))).2⟩
 have h1:(!hostNM.toList.isEmpty && (bytesOf hostNM).all tokB)=true:=by decide +kernel
 have h2:(bytesOf (mkS u)).all valB=true:=by
  rw [hb,mkS_data]
  refine List.all_eq_true.2 fun x hx=>?_
  obtain ⟨b,hbm,rfl⟩:=List.mem_map.1 hx
  exact (hv b (hall b hbm)).1
 unfold rightB
 rw [h1,h2,mkS_data,ht,decide_eq_true (show hostNM.size ≤ 100 by decide),decide_eq_true (show (mkS u).size ≤ 1000 by rw [mkS_size];omega),beq_self_eq_true]
 rfl
theorem sameB_l0 (xs:List Int) (hn:xs.length ≤ 4398046511104) (d:Nat) : ∀ (k:Nat) (i:Int),0 ≤ i → (xs.length:Int) - i=d → d + 1 ≤ k → tollbarref01_SameBytes.l0 k xs xs i=some true:=by
 induction d with
 | zero =>
  intro k i h0 hd hk
  obtain ⟨k,rfl⟩ : ∃ m,k=m + 1:=⟨k - 1,by omega⟩
  simp only [tollbarref01_SameBytes.l0]
  rw [if_neg (by omega)]
 | succ d ih =>
  intro k i h0 hd hk
  obtain ⟨k,rfl⟩ : ∃ m,k=m + 1:=⟨k - 1,by omega⟩
  simp only [tollbarref01_SameBytes.l0]
  rw [if_pos (by omega),if_pos h0,if_pos (by omega),if_pos trivial,show wrap64 (i + 1)=i + 1 by unfold wrap64;omega]
  exact ih k (i + 1) (by omega) (by omega) (by omega)
theorem sameB_eq (xs:List Int) (hn:xs.length ≤ 4398046511104) (k:Nat) (hk:xs.length + 1 ≤ k):tollbarref01_SameBytes.f k xs xs=some true:=by
 unfold tollbarref01_SameBytes.f
 rw [if_pos rfl]
 exact sameB_l0 xs hn xs.length k 0 (by omega) (by omega) hk
theorem sameF_l0 (xs:List (S36)) (hn:xs.length ≤ 1000000) (d:Nat) : ∀ (k i:Nat),i + d=xs.length → d < k → tollbarref04_Same.l0 k xs xs (i:Int)=some true:=by
 induction d with
 | zero =>
  intro k i hi hk
  obtain ⟨k,rfl⟩ : ∃ m,k=m + 1:=⟨k - 1,by omega⟩
  rw [tollbarref04_Same.l0,if_neg (by omega)]
 | succ d ih =>
  intro k i hi hk
  obtain ⟨k,rfl⟩ : ∃ m,k=m + 1:=⟨k - 1,by omega⟩
  rw [tollbarref04_Same.l0,if_pos (by omega),if_pos (by omega),if_pos (by omega),if_pos rfl,if_pos rfl,show wrap64 ((i:Int) + 1)=((i + 1:Nat):Int) by unfold wrap64;omega]
  exact ih k (i + 1) (by omega) (by omega)
theorem sameF_eq (xs:List (S36)) (hn:xs.length ≤ 1000000) (k:Nat) (hk:xs.length < k):tollbarref04_Same.f k xs xs=some true:=by
 unfold tollbarref04_Same.f
 rw [if_pos rfl]
 exact sameF_l0 xs hn xs.length k 0 (by omega) hk
theorem sameReq_eq (m t:ByteArray) (mi:Int) (fs:List (S36)) (b:List Int) (hf:fs.length ≤ 100000) (hb:b.length ≤ 1000000) (k:Nat) (hk:1000010 ≤ k):tollbarref08_SameReq.f k m t mi fs b m t mi fs b=some true:=by
 unfold tollbarref08_SameReq.f
 rw [if_pos rfl,if_pos rfl,if_pos rfl,sameF_eq _ (by omega) k (by omega),Option.bind_some,if_pos rfl,sameB_eq b (by omega) k (by omega),Option.bind_some]
theorem wo_l0 (fs:List (S36)) (ns:List ByteArray) (hf:FB fs) (hn : ∀ n ∈ ns,n.size ≤ 1048576) (d:Nat) : ∀ (k i:Nat) (out:List (S36)),i + d=fs.length → d < k → out.length ≤ i →
 field_Without.l0 k fs ns out (i:Int)=some (out ++ (fs.drop i).filter (fun f => !(ns.any (fun n=>sameN n f.f0)))):=by
 have hfl:=hf.1
 induction d with
 | zero =>
  intro k i out hi hk ho
  obtain ⟨k,rfl⟩ : ∃ m,k=m + 1:=⟨k - 1,by omega⟩
  rw [field_Without.l0,if_neg (by omega),List.drop_of_length_le (by omega),List.filter_nil,List.append_nil]
 | succ d ih =>
  intro k i out hi hk ho
  obtain ⟨k,rfl⟩ : ∃ m,k=m + 1:=⟨k - 1,by omega⟩
  have hlt:i < fs.length:=by omega
  have hb:=hf.2 _ (List.getElem_mem hlt)
  have hw:wrap64 ((i:Int) + 1)=((i + 1:Nat):Int):=by unfold wrap64;omega
  have ha:anyO (fun n=>sign_Same.f n (rd_T36 fs (i:Int)).f0) ns=some (ns.any (fun n=>sameN n fs[i].f0)):=by
   rw [rdT_at fs i hlt]
   exact any_f _ _ _ (fun x hx=>same_f x _ (by have:=hn x hx;omega) (by omega))
  rw [field_Without.l0,if_pos (by omega),if_pos (by omega),ha,Option.bind_some,hw,List.drop_eq_getElem_cons hlt,List.filter_cons,rdT_at fs i hlt]
  cases hs:ns.any (fun n=>sameN n fs[i].f0)
  ·rw [if_neg (by simp),if_pos (by omega),if_pos (by simp),ih k (i + 1) _ (by omega) (by omega) (by rw [List.length_append];simp;omega)]
   simp only [List.append_assoc,List.singleton_append]
  ·rw [if_pos rfl,if_neg (by simp),ih k (i + 1) _ (by omega) (by omega) (by omega)]
theorem Without_f (fs:List (S36)) (ns:List ByteArray) (hf:FB fs) (hn : ∀ n ∈ ns,n.size ≤ 1048576) (k:Nat) (hk:fs.length < k):field_Without.f k fs ns=some (withoutS fs ns):=by
 have:=wo_l0 fs ns hf hn fs.length k 0 [] (by omega) hk (Nat.zero_le _)
 rw [List.drop_zero,List.nil_append] at this
 exact this
/-- Is a body's length told? -/
def needS (m:ByteArray) (b:List Int):Bool:=decide ((b.length:Int) > 0) || ((m.toList == [80,79,83,84]) || ((m.toList == [80,85,84]) || (m.toList == [80,65,84,67,72])))
def reqFields (m:ByteArray) (fs:List (S36)) (b:List Int) (set:List (S36)) (drop:List ByteArray) (h:ByteArray):List (S36) :=
 (((⟨(⟨#[72,111,115,116]⟩:ByteArray),h⟩:S36) :: withoutS (onwS fs) (drop ++ set.map (·.f0))) ++ set) ++ (if needS m b=true then [lenF (b.length:Int)] else [])
theorem req_names (h t : ByteArray) (set : List (S36)) (hs : set.length ≤ 1000) (m tg : ByteArray) (mi : Int) (fs : List (S36)) (b : List Int) (us : List (S83)) (rts : List (S85)) (set2 : List (S36)) (drop : List ByteArray) (n4 n5 n6 n7 : Int) (d : Nat) :
    ∀ (K i : Nat) (x9 : List ByteArray), i + d = set.length → x9.length + d ≤ 100000 → scrub_Request.l0 (K + d) h t x9 set (set.length : Int) (i : Int) m tg mi fs b us rts set2 drop n4 n5 n6 n7 = scrub_Request.l0 K h t (x9 ++ (set.drop i).map (·.f0)) set (set.length : Int) (set.length : Int) m tg mi fs b us rts set2 drop n4 n5 n6 n7 := by
  induction d with
  | zero => intro K i x9 hi _; obtain rfl : i = set.length := by omega
            rw [List.drop_of_length_le (Nat.le_refl _), List.map_nil, List.append_nil, Nat.add_zero]
  | succ d ih =>
    intro K i x9 hi hx
    have hlt : i < set.length := by omega
    have hw : wrap64 ((i : Int) + 1) = ((i + 1 : Nat) : Int) := by unfold wrap64; omega
    rw [show K + (d + 1) = (K + d) + 1 by omega, scrub_Request.l0, if_pos (by omega), if_pos (by omega), if_pos (by omega), if_pos (by omega), rdT_at set i hlt, hw, ih K (i + 1) _ (by omega) (by rw [List.length_append]; simp; omega), List.drop_eq_getElem_cons hlt, List.map_cons, List.append_assoc]
    rfl
theorem req_j1 (t:ByteArray) (fs:List (S36)) (hfl:fs.length ≤ 100000) (m tg:ByteArray) (mi:Int) (ofs:List (S36)) (b:List Int) (hb:b.length ≤ 100000) (need:Bool) (k:Nat) :
 scrub_Request.j1 (k + 1) t fs need m tg mi ofs b=some (m,t,1,fs ++ (if need=true then [lenF (b.length:Int)] else []),b):=by
 have hcl:bytes_Clone.f b=some b:=if_pos (by omega)
 rw [scrub_Request.j1]
 cases need
 ·rw [if_neg (by simp),hcl,Option.bind_some,if_neg (by simp),List.append_nil]
 ·rw [if_pos rfl,length_f _ (by omega) (by omega),Option.bind_some,if_pos (by omega),hcl,Option.bind_some,if_pos rfl]
theorem Request12_f (m tg:ByteArray) (mi:Int) (fs:List (S36)) (b:List Int) (us:List (S83)) (rts:List (S85)) (set:List (S36)) (drop:List ByteArray) (n4 n5 n6 n7:Int) (h t:ByteArray)
 (hf:FB fs) (hs:FB set) (hd:drop.length ≤ 1000 ∧ ∀ n ∈ drop,n.size ≤ 1048576) (hb:b.length ≤ 100000) (k:Nat) (hk:1060000 ≤ k) :
 scrub_Request.f k m tg mi fs b us rts set drop n4 n5 n6 n7 h t=some (m,t,1,reqFields m fs b set drop h,b):=by
 have hsl:=hs.1
 have hof:=onwS_FB fs hf
 have hol:=hof.1
 have hcl:slices_Clone_string_string.f drop=some drop:=if_pos (by omega)
 have hgone : ∀ n ∈ drop ++ set.map (·.f0),n.size ≤ 1048576:=by
  intro n hn
  rcases List.mem_append.1 hn with hn|hn
  ·exact hd.2 n hn
  ·obtain ⟨f,hm,rfl⟩:=List.mem_map.1 hn;exact (hs.2 f hm).1
 obtain ⟨K,rfl⟩ : ∃ K,k=(K + 2) + set.length:=⟨k - 2 - set.length,by omega⟩
 have hw:(withoutS (onwS fs) (drop ++ set.map (·.f0))).length ≤ 1000:=Nat.le_trans (List.length_filter_le _ _) hol
 have h1:=req_names h t set hsl m tg mi fs b us rts set drop n4 n5 n6 n7 set.length (K + 2) 0 drop (by omega) (by omega)
 rw [List.drop_zero] at h1
 unfold scrub_Request.f
 rw [hcl,Option.bind_some]
 refine Eq.trans h1 ?_
 have hh1 : ∀ y:List (S36),(y=[(⟨(⟨#[72,111,115,116]⟩:ByteArray),h⟩:S36)]) → y.length=1:=fun y e=>by rw [e];rfl
 rw [scrub_Request.l0,if_neg (by omega),Option.bind_some,onward_f fs hf (K + 1) (by omega),Option.bind_some,Without_f (onwS fs) _ hof hgone (K + 1) (by omega),Option.bind_some,if_pos (by simp only [List.length_cons,List.length_nil];omega),Option.bind_some,
  if_pos (by simp only [List.length_append,List.length_cons,List.length_nil];omega),Option.bind_some]
 have hbig:(([(⟨(⟨#[72,111,115,116]⟩:ByteArray),h⟩:S36)] ++ withoutS (onwS fs) (drop ++ set.map (·.f0))) ++ set).length ≤ 100000:=by simp only [List.length_append,List.length_cons,List.length_nil];omega
 unfold reqFields needS
 by_cases c1:(b.length:Int) > 0
 ·rw [if_pos c1,decide_eq_true c1,req_j1 t _ hbig m tg mi fs b hb true K,Bool.true_or]
  rfl
 ·rw [if_neg c1,decide_eq_false c1,Bool.false_or]
  by_cases c2:m.toList=[80,79,83,84]
  ·rw [if_pos c2,req_j1 t _ hbig m tg mi fs b hb _ K,beq_iff_eq.2 c2,Bool.true_or]
   rfl
  ·rw [if_neg c2,beq_eq_false_iff_ne.2 c2,Bool.false_or]
   by_cases c3:m.toList=[80,85,84]
   ·rw [if_pos c3,req_j1 t _ hbig m tg mi fs b hb _ K,beq_iff_eq.2 c3,Bool.true_or]
    rfl
   ·rw [if_neg c3,req_j1 t _ hbig m tg mi fs b hb _ K,beq_eq_false_iff_ne.2 c3,Bool.false_or]
    rfl
theorem rd_lenF (u:Nat):lenF (u:Int)=⟨lenN,strOfNums (decI u)⟩:=by
 unfold lenF
 have hi:Lib.itoa (u:Int)=Lib.decDigits u:=by unfold Lib.itoa;rw [if_neg (by omega),Int.toNat_natCast]
 rw [hi,dec_str]
theorem onw_kept (fs:List (S36)) (ns:List ByteArray) : ∀ f ∈ withoutS (onwS fs) ns,keptN f.f0=false:=fun f hf=>by
 have h1:=(List.mem_filter.1 (List.mem_filter.1 hf).1).2
 cases h2:keptN f.f0 with
 | false=>rfl
 | true =>
  have h3:hopS fs f.f0=true:=by unfold hopS;rw [h2];rfl
  rw [h3] at h1
  cases h1
/-- What is known of the fields that are sent. -/
theorem sent (m : ByteArray) (fs : List (S36)) (b : List Int) (set : List (S36)) (drop : List ByteArray) (u : List UInt8) (hf : ∀ f ∈ fs, rightB f.f0 f.f1 = true) (hb : b.length ≤ 4096) (hs : ∀ f ∈ set, rightB f.f0 f.f1 = true ∧ keptN f.f0 = false)
    (hu : u.length ≤ 64) (huc : (bytesOf (mkS u)).all hostC = true) : (∀ f ∈ reqFields m fs b set drop (mkS u), rightB f.f0 f.f1 = true) ∧ getS hostNm (reqFields m fs b set drop (mkS u)) = [mkS u] ∧ reqLen (reqFields m fs b set drop (mkS u)) 1 = ((b.length : Int), false, 0) := by
  have hk := onw_kept fs (drop ++ set.map (·.f0))
  have hsk : ∀ f ∈ set, keptN f.f0 = false := fun f h => (hs f h).2
  have ht := dec_text b.length (by omega)
  have hL : lenF (b.length : Int) = ⟨lenN, strOfNums (decI b.length)⟩ := rd_lenF b.length
  have a1 : getS hostNm [lenF (b.length : Int)] = [] := getS_none _ _ (fun f hf => by rw [List.mem_singleton.1 hf, hL]; show sameN lenNM hostNm = false; decide +kernel)
  have a2 : getS teNm [lenF (b.length : Int)] = [] := getS_none _ _ (fun f hf => by rw [List.mem_singleton.1 hf, hL]; show sameN lenNM teNm = false; decide +kernel)
  have a3 : getS lenNm [lenF (b.length : Int)] = [strOfNums (decI b.length)] := by
    rw [hL, getS, if_pos (show sameN lenN lenNm = true by decide +kernel)]
    rfl
  have b1 : getS hostNm (if needS m b = true then [lenF (b.length : Int)] else []) = [] := by split <;> first | exact a1 | rfl
  have b2 : getS teNm (if needS m b = true then [lenF (b.length : Int)] else []) = [] := by split <;> first | exact a2 | rfl
  have e0 : reqFields m fs b set drop (mkS u) = (((⟨hostNM, mkS u⟩ : S36) :: withoutS (onwS fs) (drop ++ set.map (·.f0))) ++ set) ++ (if needS m b = true then [lenF (b.length : Int)] else []) := rfl
  have g : ∀ p, p ∈ keptNames → getS p (reqFields m fs b set drop (mkS u)) = (if sameN hostNM p = true then [mkS u] else []) ++ getS p (if needS m b = true then [lenF (b.length : Int)] else []) := by
    intro p hp
    rw [e0, getS_app, getS_app, getS, kept_get p hp _ hk, kept_get p hp _ hsk, List.append_nil]
  refine ⟨fun f h => ?_, ?_, ?_⟩
  · rw [e0] at h
    rcases List.mem_append.1 h with h | h
    · rcases List.mem_append.1 h with h | h
      · rcases List.mem_cons.1 h with rfl | h
        · exact host_right u hu huc
        · exact hf f (List.mem_filter.1 (List.mem_filter.1 h).1).1
      · exact (hs f h).1
    · split at h
      · rw [List.mem_singleton.1 h, hL]; exact ht.1
      · cases h
  · rw [g hostNm kept_host, b1, if_pos (by decide +kernel)]
    rfl
  · have c1 := g teNm kept_te
    rw [b2, if_neg (by decide +kernel)] at c1
    have c2 := g lenNm kept_len
    rw [if_neg (by decide +kernel), List.nil_append] at c2
    cases hn : needS m b
    · have hz : b.length = 0 := by
        unfold needS at hn
        simp only [Bool.or_eq_false_iff, decide_eq_false_iff_not] at hn
        omega
      have c3 : getS lenNm (reqFields m fs b set drop (mkS u)) = [] := by rw [c2, hn]; rfl
      unfold reqLen thereS
      rw [c1, c3, hz]
      rfl
    · have c3 : getS lenNm (reqFields m fs b set drop (mkS u)) = [strOfNums (decI b.length)] := by rw [c2, hn, if_pos rfl, a3]
      have e3 : listS lenNm (reqFields m fs b set drop (mkS u)) = [strOfNums (decI b.length)] := by
        unfold listS
        rw [c3, List.flatMap_cons, List.flatMap_nil, List.append_nil, ht.2.1]
      have e4 : lenS [strOfNums (decI b.length)] = ((b.length : Int), true) := by
        rw [lenS, dec_spec b.length (by omega)]
        simp
      unfold reqLen thereS
      rw [c1, c3, e3, e4, if_neg (by decide), if_pos (decide_eq_true (by simp)), if_pos rfl, if_neg (by simp only; omega)]
theorem none_host:(bytesOf (mkS [110,111,110,101])).all hostC=true∧hostT (mkS [110,111,110,101])=(mkS [110,111,110,101],true):=⟨by decide +kernel,by kernel_rfl⟩
/-- The way behind the host. -/
theorem reads_j1 (us:List (S83)) (rts:List (S85)) (set:List (S36)) (drop:List ByteArray) (n4 n5 n6 n7:Int) (l:List UInt8) (hq:(reqSpec l).2.2.2.2.2=0) (mi:Int) (fs:List (S36)) (b:List Int) (u:List UInt8)
 (hf : ∀ f ∈ fs,rightB f.f0 f.f1=true) (hfl:fs.length ≤ 40) (hb:b.length ≤ 4096) (hs:set.length ≤ 16∧drop.length ≤ 16∧(∀ f ∈ set,rightB f.f0 f.f1=true∧keptN f.f0=false) ∧ ∀ n ∈ drop,n.size ≤ 100∧keptN n=false)
 (hu:u.length ≤ 64) (huc:(bytesOf (mkS u)).all hostC=true) (hut:hostT (mkS u)=(mkS u,true)) (k:Nat) (hk:1070000100 ≤ k) :
 tollbarlaw12_ScrubReads.j1 (k + 2) (mkS u) us rts set drop n4 n5 n6 n7 (reqSpec l).1 (reqSpec l).2.1 mi fs b=some true:=by
 obtain ⟨m,t,p1,p2,p3,p4,p5,p6⟩:=reqR l hq
 obtain ⟨s1,s2,s3⟩:=sent (mkS m) fs b set drop u hf hb hs.2.2.1 hu huc
 obtain ⟨g,hg⟩ : ∃ g,g=reqFields (mkS m) fs b set drop (mkS u):=⟨_,rfl⟩
 have hFBf:=right_FB fs (by omega) hf
 have hFBs:FB set:=right_FB set (by omega) (fun f h=>(hs.2.2.1 f h).1)
 have hR:=Request12_f (mkS m) (mkS t) mi fs b us rts set drop n4 n5 n6 n7 (mkS u) (mkS t) hFBf hFBs ⟨by omega,fun n h=>by have:=(hs.2.2.2 n h).1;omega⟩ (by omega) (k + 1) (by omega)
 rw [← hg] at s1 s2 s3 hR
 have hol:(withoutS (onwS fs) (drop ++ set.map (·.f0))).length ≤ fs.length:=Nat.le_trans (List.length_filter_le _ _) (List.length_filter_le _ _)
 have hgl:g.length ≤ 100:=by
  rw [hg]
  unfold reqFields
  split <;> simp only [List.length_append,List.length_cons,List.length_nil] <;> omega
 have hFB:=right_FB g (by omega) s1
 have hfl2:=fLines_small g s1
 have hll:(lineQ m t).length=m.length + t.length + 10:=by unfold lineQ;simp only [List.length_append,List.length_cons,List.length_nil];omega
 have hw:=write_back (lineQ m t) (by omega) (by rw [p5]) g hFB b (by omega) (k + 1) (by omega)
 rw [p5] at hw
 simp only at hw
 obtain ⟨x,hx⟩ : ∃ x,x=(toI (lineQ m t) ++ [13,10]) ++ fLines g ++ [13,10] ++ b:=⟨_,rfl⟩
 rw [← hx] at hw
 have hxl:x.length=(lineQ m t).length + (fLines g).length + 4 + b.length:=by rw [hx];simp only [List.length_append,List.length_cons,List.length_nil,toI_length];omega
 have hwr:wrap64 ((x.length:Int) - (b.length:Int))=(x.length:Int) - (b.length:Int):=by unfold wrap64;omega
 rw [p1,p2,tollbarlaw12_ScrubReads.j1,hR,Option.bind_some]
 simp only
 rw [hw,Option.bind_some,hwr]
 by_cases c1:(x.length:Int) - (b.length:Int) > 2048
 ·rw [if_pos c1,tollbarlaw12_ScrubReads.j2,if_pos rfl]
 ·rw [if_neg c1]
  by_cases c2:(g.length:Int) > 40
  ·rw [decide_eq_true c2,tollbarlaw12_ScrubReads.j2,if_pos rfl]
  ·have hbk:=back_req (lineQ m t) p6 (by omega) (by rw [p5]) g s1 (by omega) (by rw [s2,p5,hostsOk,hut]) (b.length:Int) false (by rw [p5];exact s3) b b (b.length:Int) (by have:=body_plain b [];rw [List.append_nil] at this;exact this) (by omega) x hx
   rw [if_neg (by omega),p5] at hbk
   simp only at hbk
   rw [decide_eq_false c2,tollbarlaw12_ScrubReads.j2,if_neg (by simp),http_Request_f x (by omega) k (by omega),Option.bind_some,hbk]
   simp only
   rw [if_pos trivial,if_pos (by omega),sameReq_eq _ _ _ _ _ (by omega) (by omega) k (by omega),Option.bind_some,if_pos rfl,sameB_eq b (by omega) k (by omega),Option.bind_some]
theorem ScrubReads (b:List Int) (us:List (S83)) (rts:List (S85)) (set:List (S36)) (drop:List ByteArray) (n4 n5 n6 n7:Int) (a2:ByteArray) (_:b.length ≤ maxLen) (_:b.length * 1 ≤ 140737488351232) (hb8 : ∀ x ∈ b,(Lit.int .u8 x).wf=true)
 (h1:(us.length ≤ 140737488351232∧us.length ≤ maxLen ∧ ∀ x ∈ us,(x.f0.size ≤ 140737488351232∧x.f0.size ≤ maxLen)∧(x.f1.length ≤ 140737488351232∧x.f1.length ≤ maxLen ∧ ∀ y ∈ x.f1,y.size ≤ 140737488351232∧y.size ≤ maxLen)) ∧
  ((rts.length ≤ 140737488351232∧rts.length ≤ maxLen ∧ ∀ x ∈ rts,(x.f0.size ≤ 140737488351232∧x.f0.size ≤ maxLen)∧((x.f1.size ≤ 140737488351232∧x.f1.size ≤ maxLen)∧(x.f2.size ≤ 140737488351232∧x.f2.size ≤ maxLen))) ∧
  ((set.length ≤ 140737488351232∧set.length ≤ maxLen ∧ ∀ x ∈ set,(x.f0.size ≤ 140737488351232∧x.f0.size ≤ maxLen)∧(x.f1.size ≤ 140737488351232∧x.f1.size ≤ maxLen)) ∧
  ((drop.length ≤ 140737488351232∧drop.length ≤ maxLen ∧ ∀ y ∈ drop,y.size ≤ 140737488351232∧y.size ≤ maxLen) ∧
  ((Lit.int .i64 n4).wf=true∧((Lit.int .i64 n5).wf=true∧((Lit.int .i64 n6).wf=true∧(Lit.int .i64 n7).wf=true)))))))
 (_:a2.size ≤ 140737488351232) : ∃ k,tollbarlaw12_ScrubReads.f k b us rts set drop n4 n5 n6 n7 a2=some true:=by
 refine ⟨1080000000,?_⟩
 unfold tollbarlaw12_ScrubReads.f
 rw [show tollbarlaw12_alive.f=some true from rfl,Option.bind_some,if_pos rfl]
 by_cases c0:(b.length:Int) > 4000
 ·rw [if_pos c0,show (1080000000:Nat)=1079999999 + 1 from rfl,tollbarlaw12_ScrubReads.j0,if_pos rfl]
 ·obtain ⟨g1,g2,g3,g4,_⟩:=h1
  obtain ⟨e,he,hee⟩:=check_tot us rts set drop n4 n5 n6 n7 (by omega) (by omega) (fun u h=>⟨by have:=(g1.2.2 u h).1.1;omega,fun a ha=>by have:=((g1.2.2 u h).2.2.2 a ha).1;omega⟩) (fun r h=>⟨by have:=(g2.2.2 r h).1.1;omega,by have:=(g2.2.2 r h).2.1.1;omega,by have:=(g2.2.2 r h).2.2.1;omega⟩) (fun n h=>by have:=(g4.2.2 n h).1;omega) 1080000000 (by omega)
  rw [if_neg c0,he,Option.bind_some,show (1080000000:Nat)=1079999999 + 1 from rfl,tollbarlaw12_ScrubReads.j0]
  by_cases c1:e=0
  ·have hs:=hee c1
   have hbl:b.length ≤ 1000000:=by omega
   have hle:=req_le b hbl
   rw [c1,if_neg (by decide),http_Request_f b hbl _ (by omega),Option.bind_some]
   by_cases c2:(reqS b).2.2.2.2.2.1=0
   ·rw [if_pos c2]
   ·rw [if_neg c2]
    obtain ⟨ho,e1,e2,e3,e4⟩:=req_parts b c2
    obtain ⟨l,a1,a2,a3,a4,a5,a6,a7⟩:=open_parts b (fun x hx=>wf_u8 (hb8 x hx)) ho
    obtain ⟨fs,hfs⟩ : ∃ fs,fs=(reqS b).2.2.2.1:=⟨_,rfl⟩
    obtain ⟨B,hB⟩ : ∃ B,B=(reqS b).2.2.2.2.1:=⟨_,rfl⟩
    rw [← hfs] at e4 hle
    rw [← hB] at hle
    rw [← hfs,← hB,e1,a4,e2,a5]
    have hfr : ∀ f ∈ fs,rightB f.f0 f.f1=true:=by rw [e4];exact ho.fields.2
    rw [← e4] at a7
    have hFB:=right_FB fs (by omega) hfr
    have hgo:=fun u hu1 hu2 hu3=>reads_j1 us rts set drop n4 n5 n6 n7 l a3 (reqS b).2.2.1 fs B u hfr (by omega) (by omega) hs hu1 hu2 hu3 1079999997 (by omega)
    have hnone:=hgo [110,111,110,101] (by decide) none_host.1 none_host.2
    rw [http_Host_f _ _ _ _ _ hFB _ (by omega),Option.bind_some]
    cases hgs:getS hostNm fs with
    | nil =>
     have:hostS fs=⟨#[]⟩:=by unfold hostS;rw [hgs]
     rw [this,if_pos (by decide +kernel)]
     exact hnone
    | cons h r =>
     have hhs:hostS fs=(hostT h).1:=by unfold hostS;rw [hgs]
     have hok:(hostT h).2=true:=by
      rw [hgs] at a7
      cases r with
      | nil=>rw [hostsOk] at a7;exact a7
      | cons q r=>rw [hostsOk] at a7;cases a7
     have hsz:h.size ≤ 1048576:=(get_bounds fs hostNm hFB).2 h (by rw [hgs];exact List.mem_cons_self ..)
     obtain ⟨u,u1,u2,u3,u4,u5⟩:=host_idem h (by omega) hok
     rw [hhs,u1,if_neg (by rw [mkS_toList];intro he;rw [he] at u2;exact Nat.lt_irrefl 0 u2)]
     exact hgo u u3 u4 u5
  ·rw [if_pos (bne_iff_ne.2 c1)]
end Go.Proofs.YtagffbblalldiaaGreatDoor.Pure
