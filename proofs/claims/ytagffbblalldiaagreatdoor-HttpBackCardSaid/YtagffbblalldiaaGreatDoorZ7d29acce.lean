/- Each function below answers as its Lean twin says; plain lemmas; a row where its theorem stands. No further condition. (Laid by this repo's pack.py out of its texts and of the print's words.) -/
import Derived.Test.YtagffbblalldiaaGreatDoorZ0e6c455e
import Derived.Test.YtagffbblalldiaaGreatDoorZa9aa4ed7
import Derived.Test.YtagffbblalldiaaGreatDoorZ5b866b23
import Derived.Test.YtagffbblalldiaaGreatDoorZ0e9a2119
import Derived.Test.YtagffbblalldiaaGreatDoorZdbf0bf3b
namespace Go.Proofs.YtagffbblalldiaaGreatDoor.Pure
open Go.RowKit Go.Proofs.YtagffbblalldiaaGreatDoor.P Go.Proofs.YtagffbblalldiaaGreatDoorW.PrintWords Go.Proofs.YtagffbblalldiaaGreatDoorW.PrintLast Go.Proofs.YtagffbblalldiaaGreatDoorW.PrintMore
set_option linter.unusedVariables false
set_option linter.unusedSimpArgs false
theorem cutS_more (l x:List Int) (m:Int) (h:(cutSpec l m).2.1 > 0 ∨ (cutSpec l m).2.2 ≠ 0):cutSpec (l ++ x) m=cutSpec l m:=by
 unfold cutSpec at h ⊢
 rw [List.length_append]
 exact cutA_more l x (mx m 0) l.length 0 (by omega) (by omega) h
theorem trail_more (l x:List Int) : ∀ (d p:Nat),p ≤ l.length → (trailS l d p).1 ≠ 0 ∨ (trailS l d p).2 ≠ 0 → trailS (l ++ x) d p=trailS l d p:=by
 intro d
 induction d with
 | zero=>intro p _ _;rfl
 | succ d ih =>
  intro p hp h
  have hsh:=cutS_shape (l.drop p) 256
  have hdl:(l.drop p).length=l.length - p:=List.length_drop ..
  have hm:=cutS_more (l.drop p) x 256
  rw [trailS] at h
  rw [trailS,trailS,List.drop_append_of_le_length hp]
  obtain ⟨c,hc⟩ : ∃ c,c=cutSpec (l.drop p) 256:=⟨_,rfl⟩
  rw [← hc] at hsh h hm ⊢
  by_cases h1:c.2.2=0
  ·by_cases h2:c.2.1=0
   ·rw [if_pos h1,if_pos h2] at h
    simp at h
   ·have hz2:c.2.1 > 0∧c.2.1 ≤ (l.length:Int) - p:=by rcases hsh with h|h <;> omega
    rw [hm (Or.inl hz2.1)]
    rw [if_pos h1,if_neg h2] at h ⊢
    rw [if_pos h1,if_neg h2]
    by_cases h3:c.1.toList=[]
    ·rw [if_pos h3,if_pos h3]
    ·rw [if_neg h3] at h ⊢
     rw [if_neg h3]
     by_cases h4:fieldOk c.1.data.toList=true
     ·rw [if_pos h4] at h ⊢
      rw [if_pos h4]
      exact ih _ (by omega) h
     ·rw [if_neg h4,if_neg h4]
  ·rw [hm (Or.inr h1),if_neg h1,if_neg h1]
theorem trail_pos (l:List Int) : ∀ (d p:Nat),0 ≤ (trailS l d p).1:=by
 intro d
 induction d with
 | zero=>intro p;exact Int.le_refl _
 | succ d ih =>
  intro p
  have hsh:=cutS_shape (l.drop p) 256
  rw [trailS]
  repeat' split
  ·exact Int.le_refl _
  ·show 0 ≤ (p:Int) + _
   rcases hsh with h|h <;> omega
  ·exact ih _
  ·exact Int.le_refl _
  ·exact Int.le_refl _
theorem rd_more (l x:List Int) (i:Int) (h0:0 ≤ i) (h1:i < (l.length:Int)):rd (l ++ x) i=rd l i:=rd_append_left l x i h0 h1
theorem data_more (rest x:List Int) (p n:Int) (n0:0 ≤ n) (h : ¬ (dataOf rest p n false).2.2.2=true):dataOf (rest ++ x) p n false=dataOf rest p n false:=by
 have hl:((rest ++ x).length:Int)=rest.length + x.length:=by rw [List.length_append];omega
 unfold dataOf at h ⊢
 by_cases a0:n < (rest.length:Int)
 ·rw [if_pos a0] at h ⊢
  rw [if_pos (by omega),rd_more rest x n n0 a0]
  by_cases a1:rd rest n=13
  ·rw [if_pos a1] at h ⊢
   rw [if_pos a1]
   by_cases a2:n + 1 < (rest.length:Int)
   ·rw [if_pos (by omega),if_pos a2,rd_more rest x (n + 1) (by omega) a2,List.take_append_of_le_length (by omega)]
   ·rw [if_neg a2] at h;simp at h
  ·rw [if_neg a1,if_neg a1]
 ·rw [if_neg a0] at h;simp at h
theorem dec_more (l x : List Int) (hl : l.length ≤ 1000000) : ∀ (d D p : Nat) (left : Int) (out : List Int), p ≤ l.length → l.length < p + d → l.length + x.length < p + D → ((decS l d p left out).2.1 > 0 ∨ (decS l d p left out).2.2 ≠ 0) → decS (l ++ x) D p left out = decS l d p left out := by
  intro d
  induction d with
  | zero => intro D p left out h1 h2; omega
  | succ d ih =>
    intro D p left out hp hd hD h
    obtain ⟨D, rfl⟩ : ∃ m, D = m + 1 := ⟨D - 1, by omega⟩
    have hsh := cutS_shape (l.drop p) 256
    have hdl : (l.drop p).length = l.length - p := List.length_drop ..
    have hm := cutS_more (l.drop p) x 256
    rw [decS] at h
    rw [decS, decS, List.drop_append_of_le_length hp]
    obtain ⟨c, hc⟩ : ∃ c, c = cutSpec (l.drop p) 256 := ⟨_, rfl⟩
    rw [← hc] at hsh h hm ⊢
    by_cases h1 : c.2.2 = 0
    · by_cases h2 : c.2.1 = 0
      · rw [if_pos h1, if_pos h2] at h
        simp at h
      · have hz2 : c.2.1 > 0 ∧ c.2.1 ≤ (l.length : Int) - p := by rcases hsh with h | h <;> omega
        have hzb := size_bound c.1.data.toList
        obtain ⟨z, hz⟩ : ∃ z, z = sizeS c.1.data.toList := ⟨_, rfl⟩
        obtain ⟨q, hq⟩ : ∃ q, q = p + c.2.1.toNat := ⟨_, rfl⟩
        rw [hm (Or.inl hz2.1)]
        rw [← hz] at hzb h ⊢
        rw [← hq] at h ⊢
        have hqd : (l.drop q).length = l.length - q := List.length_drop ..
        rw [List.drop_append_of_le_length (show q ≤ l.length by omega)]
        rw [if_pos h1, if_neg h2] at h ⊢
        rw [if_pos h1, if_neg h2]
        by_cases h3 : z.2 = true
        · rw [if_pos h3] at h ⊢
          rw [if_pos h3]
          by_cases h4 : z.1 = 0
          · rw [if_pos h4] at h ⊢
            rw [if_pos h4]
            by_cases h5 : (trailS l 41 q).2 = 0 ∧ (trailS l 41 q).1 = 0
            · rw [if_pos h5.1, if_pos h5.2] at h
              simp at h
            · rw [trail_more l x 41 q (by omega) (by
                by_cases h6 : (trailS l 41 q).1 = 0
                · exact Or.inr fun e => h5 ⟨e, h6⟩
                · exact Or.inl h6)]
          · rw [if_neg h4] at h ⊢
            rw [if_neg h4]
            by_cases h5 : z.1 > left
            · rw [if_pos h5, if_pos h5]
            · rw [if_neg h5] at h ⊢
              rw [if_neg h5]
              by_cases h7 : (dataOf (l.drop q) (q : Int) z.1 false).2.2.2 = true
              · by_cases h6 : (dataOf (l.drop q) (q : Int) z.1 false).2.1 = 0
                · rw [if_pos h6, if_pos h7] at h
                  simp at h
                · unfold dataOf at h6 h7
                  exfalso
                  revert h6 h7
                  repeat' split
                  all_goals simp
              · rw [data_more (l.drop q) x q z.1 hzb.1 h7]
                by_cases h6 : (dataOf (l.drop q) (q : Int) z.1 false).2.1 = 0
                · rw [if_pos h6, if_neg h7] at h ⊢
                  rw [if_pos h6, if_neg h7]
                  obtain ⟨_, _, e3, _, _⟩ := data_ok (l.drop q) q z.1 (by omega) (by omega) hzb.1 (by omega) h6 h7
                  rw [List.take_append_of_le_length (show z.1.toNat ≤ (l.drop q).length by omega)]
                  exact ih D _ _ _ (by omega) (by omega) (by omega) h
                · rw [if_neg h6, if_neg h6]
        · rw [if_neg h3, if_neg h3]
    · rw [hm (Or.inr h1), if_neg h1, if_neg h1]
theorem dec_none' (l:List Int) : ∀ (d p:Nat) (left:Int) (out:List Int),¬ (decS l d p left out).2.1 > 0 → (decS l d p left out).2.2=0 → (decS l d p left out).1=[]∧(decS l d p left out).2.1=0:=by
 intro d
 induction d with
 | zero=>intro p left out _ _;exact ⟨rfl,rfl⟩
 | succ d ih =>
  intro p left out g1 g2
  rw [decS] at g1 g2 ⊢
  obtain ⟨c,hc⟩ : ∃ c,c=cutSpec (l.drop p) 256:=⟨_,rfl⟩
  rw [← hc] at g1 g2 ⊢
  obtain ⟨z,hz⟩ : ∃ z,z=sizeS c.1.data.toList:=⟨_,rfl⟩
  obtain ⟨q,hq⟩ : ∃ q,q=p + c.2.1.toNat:=⟨_,rfl⟩
  rw [← hz,← hq] at g1 g2 ⊢
  by_cases h1:c.2.2=0
  ·rw [if_pos h1] at g1 g2 ⊢
   by_cases h2:c.2.1=0
   ·rw [if_pos h2];exact ⟨rfl,rfl⟩
   ·rw [if_neg h2] at g1 g2 ⊢
    by_cases h3:z.2=true
    ·rw [if_pos h3] at g1 g2 ⊢
     by_cases h4:z.1=0
     ·rw [if_pos h4] at g1 g2 ⊢
      by_cases h5:(trailS l 41 q).2=0
      ·rw [if_pos h5] at g1 g2 ⊢
       by_cases h6:(trailS l 41 q).1=0
       ·rw [if_pos h6];exact ⟨rfl,rfl⟩
       ·rw [if_neg h6] at g1
        have:=trail_pos l 41 q
        exact absurd (show (trailS l 41 q).1 > 0 by omega) g1
      ·rw [if_neg h5];exact ⟨rfl,rfl⟩
     ·rw [if_neg h4] at g1 g2 ⊢
      by_cases h5:z.1 > left
      ·rw [if_pos h5];exact ⟨rfl,rfl⟩
      ·rw [if_neg h5] at g1 g2 ⊢
       by_cases h6:(dataOf (l.drop q) (q:Int) z.1 false).2.1=0
       ·rw [if_pos h6] at g1 g2 ⊢
        by_cases h7:(dataOf (l.drop q) (q:Int) z.1 false).2.2.2=true
        ·rw [if_pos h7];exact ⟨rfl,rfl⟩
        ·rw [if_neg h7] at g1 g2 ⊢
         exact ih _ _ _ g1 g2
       ·rw [if_neg h6];exact ⟨rfl,rfl⟩
    ·rw [if_neg h3];exact ⟨rfl,rfl⟩
  ·rw [if_neg h1];exact ⟨rfl,rfl⟩
/-- Fields but those of some names. -/
def withoutS (fs:List (S36)) (ns:List ByteArray):List (S36):=fs.filter (fun f => !(ns.any (fun n=>sameN n f.f0)))
theorem sameN_trans {a b p:ByteArray} (h1:sameN a b=true) (h2:sameN b p=true):sameN a p=true:=by
 unfold sameN at *
 rw [decide_eq_true_eq] at *
 exact h1.trans h2
theorem getS_app (p:ByteArray) (a b:List (S36)):getS p (a ++ b)=getS p a ++ getS p b:=by
 induction a with
 | nil=>rfl
 | cons f a ih =>
  rw [List.cons_append,getS,getS,ih]
  split <;> rfl
theorem getS_wo_other (p : ByteArray) (ns : List ByteArray) (h : ∀ n ∈ ns, sameN n p = false) (fs : List (S36)) : getS p (withoutS fs ns) = getS p fs := by
  unfold withoutS
  induction fs with
  | nil => rfl
  | cons f fs ih =>
    rw [List.filter_cons, getS]
    by_cases hs : sameN f.f0 p = true
    · have ha : ns.any (fun n => sameN n f.f0) = false := by
        rw [List.any_eq_false]
        intro n hn hc
        have := sameN_trans hc hs
        rw [h n hn] at this
        cases this
      rw [if_pos (by rw [ha]; rfl), getS, if_pos hs, if_pos hs, ih]
    · rw [if_neg hs]
      split
      · rw [getS, if_neg hs, ih]
      · exact ih
theorem getS_wo_in (p:ByteArray) (ns:List ByteArray) (n:ByteArray) (hn:n ∈ ns) (h : ∀ f,sameN f p=true → sameN n f=true) (fs:List (S36)):getS p (withoutS fs ns)=[]:=by
 refine getS_none p _ fun f hf=>?_
 have:=(List.mem_filter.1 hf).2
 cases hs:sameN f.f0 p with
 | false=>rfl
 | true =>
  have h1:=h _ hs
  have:ns.any (fun n=>sameN n f.f0)=true:=List.any_eq_true.2 ⟨n,hn,h1⟩
  rename_i h2
  rw [this] at h2
  cases h2
theorem sameN_symm {a b:ByteArray} (h:sameN a b=true):sameN b a=true:=by
 unfold sameN at *
 rw [decide_eq_true_eq] at *
 exact h.symm
theorem decI_dig (d:Nat) : ∀ u,u < 10 ^ d → ∀ x ∈ decI u,48 ≤ x∧x ≤ 57:=by
 induction d with
 | zero =>
  intro u hu x hx
  obtain rfl:u=0:=by simpa using hu
  rw [decI_small 0 (by decide)] at hx
  have:=List.mem_singleton.1 hx
  omega
 | succ d ih =>
  intro u hu x hx
  by_cases h:u < 10
  ·rw [decI_small u h] at hx
   have:=List.mem_singleton.1 hx
   omega
  ·rw [decI_big u (by omega)] at hx
   rcases List.mem_append.1 hx with hx|hx
   ·exact ih (u / 10) (by rw [Nat.pow_succ] at hu;omega) x hx
   ·have:=List.mem_singleton.1 hx
    omega
theorem dig_facts : ∀ c:Fin 10,valB (48 + (c.val:Int))=true:=by decide +kernel
/-- A number's text: what is known of it. -/
theorem dec_text (u:Nat) (hu:u < 100000):rightB lenNM (strOfNums (decI u))=true∧partsS (strOfNums (decI u))=[strOfNums (decI u)]∧(strOfNums (decI u)).size ≤ 5:=by
 have hl:=dec_len 4 u (by omega)
 have hd:=decI_dig 5 u (by omega)
 have hsz:(strOfNums (decI u)).size=(decI u).length:=str_size _
 have hdat : ∀ a ∈ (strOfNums (decI u)).data.toList,48 ≤ a.toNat∧a.toNat ≤ 57:=by
  intro a ha
  have e:(strOfNums (decI u)).data.toList=(decI u).map fun n=>UInt8.ofNat n.toNat:=by simp [strOfNums]
  rw [e] at ha
  obtain ⟨x,hx,rfl⟩:=List.mem_map.1 ha
  have:=hd x hx
  rw [UInt8.toNat_ofNat_of_lt' (by show x.toNat < 256;omega)]
  omega
 have hblk : ∀ a ∈ (strOfNums (decI u)).data.toList,blk a=false:=by
  intro a ha
  have:=hdat a ha
  have e : ∀ c:Fin 256,48 ≤ c.val∧c.val ≤ 57 → blk (UInt8.ofNat c.val)=false:=by decide +kernel
  have h:=e ⟨a.toNat,a.toNat_lt⟩ this
  rw [UInt8.ofNat_toNat] at h
  exact h
 have htrm:trm (strOfNums (decI u)).data.toList=(strOfNums (decI u)).data.toList :=
  trm_self ⟨fun a ha=>hblk a (List.mem_of_mem_head? ha),fun a ha=>hblk a (List.mem_of_getLast? ha)⟩
 have hb:bytesOf (strOfNums (decI u))=(strOfNums (decI u)).data.toList.map fun b=>(b.toNat:Int):=rfl
 refine ⟨?_,?_,by omega⟩
 ·unfold rightB
  have h1:(!lenNM.toList.isEmpty && (bytesOf lenNM).all tokB)=true:=by decide +kernel
  have h2:(bytesOf (strOfNums (decI u))).all valB=true:=by
   refine List.all_eq_true.2 fun x hx=>?_
   rw [hb] at hx
   obtain ⟨a,ha,rfl⟩:=List.mem_map.1 hx
   have:=hdat a ha
   have:=dig_facts ⟨a.toNat - 48,by omega⟩
   rw [show (48 + ((a.toNat - 48:Nat):Int))=(a.toNat:Int) by omega] at this
   exact this
  rw [h1,h2,htrm,mkS_self,decide_eq_true (show lenNM.size ≤ 100 by decide),decide_eq_true (show (strOfNums (decI u)).size ≤ 1000 by omega),beq_self_eq_true]
  rfl
 ·unfold partsS
  rw [comma_one _ (fun h=>by have:=hdat 44 h;revert this;decide),htrm,if_neg ?_,List.map_cons,List.map_nil,mkS_self]
  rw [List.isEmpty_iff]
  intro he
  have:=data_length (strOfNums (decI u))
  rw [he] at this
  simp only [List.length_nil] at this
  omega
def goneNs:List ByteArray:=[(⟨#[99,111,110,116,101,110,116,45,108,101,110,103,116,104]⟩:ByteArray),(⟨#[116,114,97,110,115,102,101,114,45,101,110,99,111,100,105,110,103]⟩:ByteArray)]
def codedF:S36:=⟨⟨#[84,114,97,110,115,102,101,114,45,69,110,99,111,100,105,110,103]⟩,⟨#[99,104,117,110,107,101,100]⟩⟩
def plainF (u:Nat):S36:=⟨lenNM,strOfNums (decI u)⟩
theorem gone_host (fs:List (S36)):getS hostNm (withoutS fs goneNs)=getS hostNm fs:=getS_wo_other _ _ (by decide +kernel) fs
theorem gone_len (fs:List (S36)):getS lenNm (withoutS fs goneNs)=[]:=getS_wo_in _ _ lenNm (show lenNm ∈ goneNs from List.mem_cons_self ..) (fun f h=>sameN_symm h) fs
theorem gone_te (fs:List (S36)):getS teNm (withoutS fs goneNs)=[]:=getS_wo_in _ _ teNm (show teNm ∈ goneNs from List.mem_cons_of_mem _ (List.mem_cons_self ..)) (fun f h=>sameN_symm h) fs
theorem plain_len (fs:List (S36)) (u:Nat) (hu:u ≤ 4096) (mi:Int):getS hostNm (withoutS fs goneNs ++ [plainF u])=getS hostNm fs∧reqLen (withoutS fs goneNs ++ [plainF u]) mi=((u:Int),false,0):=by
 have h1:getS hostNm [plainF u]=[]:=getS_none _ _ (fun f hf=>by rw [List.mem_singleton.1 hf];show sameN lenNM hostNm=false;decide +kernel)
 have h2:getS teNm [plainF u]=[]:=getS_none _ _ (fun f hf=>by rw [List.mem_singleton.1 hf];show sameN lenNM teNm=false;decide +kernel)
 have h3:getS lenNm [plainF u]=[strOfNums (decI u)]:=by
  rw [getS,if_pos (show sameN (plainF u).f0 lenNm=true from (show sameN lenNM lenNm=true by decide +kernel))]
  rfl
 have ht:=dec_text u (by omega)
 refine ⟨by rw [getS_app,gone_host,h1,List.append_nil],?_⟩
 have e1:getS teNm (withoutS fs goneNs ++ [plainF u])=[]:=by rw [getS_app,gone_te,h2];rfl
 have e2:getS lenNm (withoutS fs goneNs ++ [plainF u])=[strOfNums (decI u)]:=by rw [getS_app,gone_len,h3];rfl
 have e3:listS lenNm (withoutS fs goneNs ++ [plainF u])=[strOfNums (decI u)]:=by
  unfold listS
  rw [e2,List.flatMap_cons,List.flatMap_nil,List.append_nil,ht.2.1]
 have e4:lenS [strOfNums (decI u)]=((u:Int),true):=by
  rw [lenS,dec_spec u (by omega)]
  simp
 unfold reqLen thereS
 rw [e1,e2,e3,e4,if_neg (by decide),if_pos (decide_eq_true (by simp)),if_pos rfl,if_neg (by simp only;omega)]
theorem coded_len (fs:List (S36)) (mi:Int) (hm:mi ≠ 0):getS hostNm (withoutS fs goneNs ++ [codedF])=getS hostNm fs∧reqLen (withoutS fs goneNs ++ [codedF]) mi=(0,true,0):=by
 have h1:getS hostNm [codedF]=[]:=by decide +kernel
 have h2:getS lenNm [codedF]=[]:=by decide +kernel
 have h3:getS teNm [codedF]=[codedF.f1]:=by decide +kernel
 refine ⟨by rw [getS_app,gone_host,h1,List.append_nil],?_⟩
 have e1:getS teNm (withoutS fs goneNs ++ [codedF])=[codedF.f1]:=by rw [getS_app,gone_te,h3];rfl
 have e2:getS lenNm (withoutS fs goneNs ++ [codedF])=[]:=by rw [getS_app,gone_len,h2];rfl
 have e3:chunkedS (withoutS fs goneNs ++ [codedF])=true:=by
  unfold chunkedS listS
  rw [e1]
  kernel_rfl
 unfold reqLen thereS
 rw [e1,e2,e3,if_pos (decide_eq_true (by simp)),if_neg (by simp [hm]),if_pos rfl]
theorem encF_pos (sz:Int) (d:Nat) (b:List Int):0 < (encF sz (d + 1) b).length:=by
 rw [encF]
 split
 ·simp only [List.length_append,List.length_cons,List.length_nil];omega
 ·decide
theorem body_coded (b more:List Int) (hb:b.length ≤ 4096) (hm:more.length ≤ 4000) (sz:Int) (hsz:1 ≤ sz):bodyS (encF sz (b.length + 1) b ++ more) 0 true=(b,((encF sz (b.length + 1) b).length:Int),0):=by
 have hl:=encF_small sz hsz (b.length + 1) b (by omega)
 have hp:=encF_pos sz b.length b
 obtain ⟨E,hE⟩ : ∃ E,E=encF sz (b.length + 1) b:=⟨_,rfl⟩
 have h1:=(dec_enc sz hsz b.length b [] [] (E.length + 1) 4096 E (Nat.le_refl _) (by rw [hE];rfl) (by rw [hE];omega) (by simp) (by decide)).1 (by omega)
 rw [← hE] at hl hp ⊢
 simp only [List.length_nil,List.nil_append] at h1
 have h2:=dec_more E more (by omega) (E.length + 1) ((E ++ more).length + 1) 0 4096 [] (by omega) (by omega) (by rw [List.length_append];omega) (Or.inl (by rw [h1];show (0:Int) < (E.length:Int);omega))
 unfold bodyS
 rw [if_pos rfl,h2,h1,if_neg (by simp),if_pos rfl,if_neg (by simp only;omega)]
theorem body_plain (b more:List Int):bodyS (b ++ more) (b.length:Int) false=(b,(b.length:Int),0):=by
 unfold bodyS
 rw [if_neg (by simp),if_neg (by rw [List.length_append];omega),Int.toNat_natCast,List.take_left]
theorem trail_le (l:List Int) : ∀ (d p:Nat),p ≤ l.length → (trailS l d p).1 ≤ (l.length:Int):=by
 intro d
 induction d with
 | zero=>intro p _;exact Int.natCast_nonneg _
 | succ d ih =>
  intro p hp
  have hsh:=cutS_shape (l.drop p) 256
  have hdl:(l.drop p).length=l.length - p:=List.length_drop ..
  rw [trailS]
  obtain ⟨c,hc⟩ : ∃ c,c=cutSpec (l.drop p) 256:=⟨_,rfl⟩
  rw [← hc] at hsh ⊢
  by_cases h1:c.2.2=0
  ·rw [if_pos h1]
   by_cases h2:c.2.1=0
   ·rw [if_pos h2];exact Int.natCast_nonneg _
   ·have hz2:c.2.1 > 0∧c.2.1 ≤ (l.length:Int) - p:=by rcases hsh with h|h <;> omega
    rw [if_neg h2]
    by_cases h3:c.1.toList=[]
    ·rw [if_pos h3];show (p:Int) + c.2.1 ≤ _;omega
    ·rw [if_neg h3]
     by_cases h4:fieldOk c.1.data.toList=true
     ·rw [if_pos h4];exact ih _ (by omega)
     ·rw [if_neg h4];exact Int.natCast_nonneg _
  ·rw [if_neg h1];exact Int.natCast_nonneg _
theorem dec_le (l:List Int) (hl:l.length ≤ 1000000) : ∀ (d p:Nat) (left:Int) (out:List Int),p ≤ l.length → (decS l d p left out).2.1 ≤ (l.length:Int):=by
 intro d
 induction d with
 | zero=>intro p left out _;exact Int.natCast_nonneg _
 | succ d ih =>
  intro p left out hp
  have hsh:=cutS_shape (l.drop p) 256
  have hdl:(l.drop p).length=l.length - p:=List.length_drop ..
  have hz0:(0:Int) ≤ (l.length:Int):=Int.natCast_nonneg _
  rw [decS]
  obtain ⟨c,hc⟩ : ∃ c,c=cutSpec (l.drop p) 256:=⟨_,rfl⟩
  rw [← hc] at hsh ⊢
  have hzb:=size_bound c.1.data.toList
  obtain ⟨z,hz⟩ : ∃ z,z=sizeS c.1.data.toList:=⟨_,rfl⟩
  obtain ⟨q,hq⟩ : ∃ q,q=p + c.2.1.toNat:=⟨_,rfl⟩
  rw [← hz] at hzb
  rw [← hz,← hq]
  by_cases h1:c.2.2=0
  ·rw [if_pos h1]
   by_cases h2:c.2.1=0
   ·rw [if_pos h2];exact hz0
   ·have hz2:c.2.1 > 0∧c.2.1 ≤ (l.length:Int) - p:=by rcases hsh with h|h <;> omega
    have hqd:(l.drop q).length=l.length - q:=List.length_drop ..
    rw [if_neg h2]
    by_cases h3:z.2=true
    ·rw [if_pos h3]
     by_cases h4:z.1=0
     ·rw [if_pos h4]
      by_cases h5:(trailS l 41 q).2=0
      ·rw [if_pos h5]
       by_cases h6:(trailS l 41 q).1=0
       ·rw [if_pos h6];exact hz0
       ·rw [if_neg h6];exact trail_le l 41 q (by omega)
      ·rw [if_neg h5];exact hz0
     ·rw [if_neg h4]
      by_cases h5:z.1 > left
      ·rw [if_pos h5];exact hz0
      ·rw [if_neg h5]
       by_cases h6:(dataOf (l.drop q) (q:Int) z.1 false).2.1=0
       ·rw [if_pos h6]
        by_cases h7:(dataOf (l.drop q) (q:Int) z.1 false).2.2.2=true
        ·rw [if_pos h7];exact hz0
        ·rw [if_neg h7]
         obtain ⟨_,_,e3,_,_⟩:=data_ok (l.drop q) q z.1 (by omega) (by omega) hzb.1 (by omega) h6 h7
         exact ih _ _ _ (by omega)
       ·rw [if_neg h6];exact hz0
    ·rw [if_neg h3];exact hz0
  ·rw [if_neg h1];exact hz0
theorem decS_size (l:List Int) (hb:l.length ≤ 1000000) : ∀ (d p:Nat) (left:Int) (out:List Int),p ≤ l.length → out.length ≤ l.length → l.length < p + d → out.length ≤ p → (decS l d p left out).1.length ≤ l.length:=by
 intro d
 induction d with
 | zero=>intro p left out h1 h2 h3;omega
 | succ d ih =>
  intro p left out hp ho hd hop
  have hsh:=cutS_shape (l.drop p) 256
  have hdl:(l.drop p).length=l.length - p:=List.length_drop ..
  rw [decS]
  obtain ⟨c,hc⟩ : ∃ c,c=cutSpec (l.drop p) 256:=⟨_,rfl⟩
  rw [← hc] at hsh ⊢
  by_cases h1:c.2.2=0
  ·rw [if_pos h1]
   by_cases h2:c.2.1=0
   ·rw [if_pos h2];simp
   ·have hz2:c.2.1 > 0∧c.2.1 ≤ (l.length:Int) - p:=by rcases hsh with h|h <;> omega
    have hzb:=size_bound c.1.data.toList
    have hdq:(l.drop (p + c.2.1.toNat)).length=l.length - (p + c.2.1.toNat):=List.length_drop ..
    rw [if_neg h2]
    split
    ·split
     ·split
      ·split
       ·simp
       ·exact ho
      ·simp
     ·split
      ·simp
      ·split
       ·split
        ·simp
        ·rename_i h6 h7
         obtain ⟨_,_,e3,_,_⟩:=data_ok (l.drop (p + c.2.1.toNat)) ((p + c.2.1.toNat:Nat):Int) (sizeS c.1.data.toList).1 (by omega) (by omega) hzb.1 (by omega) h6 h7
         have htk:((l.drop (p + c.2.1.toNat)).take (sizeS c.1.data.toList).1.toNat).length ≤ (sizeS c.1.data.toList).1.toNat:=List.length_take_le ..
         exact ih _ _ _ (by omega) (by rw [List.length_append];omega) (by omega) (by rw [List.length_append];omega)
       ·simp
    ·simp
  ·rw [if_neg h1];simp
theorem body_le (b:List Int) (hb:b.length ≤ 1000000) (size:Int) (hs:0 ≤ size) (coded:Bool):(bodyS b size coded).2.1 ≤ (b.length:Int)∧(-1 ≤ (bodyS b size coded).2.1)∧(bodyS b size coded).1.length ≤ b.length∧(0 ≤ (bodyS b size coded).2.1 → (bodyS b size coded).2.2=0):=by
 unfold bodyS
 cases coded
 ·rw [if_neg (show ¬ (false=true) by simp)]
  by_cases h:(b.length:Int) < size
  ·rw [if_pos h];exact ⟨by simp only [];omega,by decide,by simp,fun _=>rfl⟩
  ·rw [if_neg h];exact ⟨by simp only [];omega,by simp only [];omega,by simp only [List.length_take];omega,fun _=>rfl⟩
 ·rw [if_pos rfl]
  have hle:=dec_le b hb (b.length + 1) 0 4096 [] (by omega)
  have hsz:=decS_size b hb (b.length + 1) 0 4096 [] (by omega) (by simp) (by omega) (by simp)
  have hz:=dec_none' b (b.length + 1) 0 4096 []
  obtain ⟨r,hr⟩ : ∃ r,r=decS b (b.length + 1) 0 4096 []:=⟨_,rfl⟩
  rw [← hr] at hle hsz hz ⊢
  by_cases h1:r.2.2=2
  ·rw [if_pos h1];exact ⟨by simp only [];omega,by decide,by simp,fun h=>absurd h (by decide)⟩
  ·rw [if_neg h1]
   by_cases h2:r.2.2=0
   ·rw [if_pos h2]
    by_cases h3:r.2.1=0
    ·rw [if_pos h3];exact ⟨by simp only [];omega,by decide,by simp,fun _=>rfl⟩
    ·rw [if_neg h3]
     have:r.2.1 > 0:=by
      by_cases h4:r.2.1 > 0
      ·exact h4
      ·exact absurd (hz h4 h2).2 h3
     exact ⟨hle,by simp only [];omega,hsz,fun _=>rfl⟩
   ·rw [if_neg h2];exact ⟨by simp only [];omega,by decide,by simp,fun h=>absurd h (by decide)⟩
theorem body_f (b:List Int) (hb:b.length ≤ 1000000) (size:Int) (hs:0 ≤ size) (coded:Bool) (k:Nat) (hk:4000100 ≤ k):http_body.f k b size coded=some (bodyS b size coded):=by
 unfold http_body.f bodyS
 cases coded
 ·rw [if_neg (show ¬ (false=true) by simp),if_neg (show ¬ (false=true) by simp)]
  by_cases h:(b.length:Int) < size
  ·rw [if_pos h,if_pos h]
  ·unfold bytes_Clone.f
   rw [if_neg h,if_neg h,if_pos hs,if_pos (by omega),if_pos (by rw [List.length_take];omega),Option.bind_some]
 ·rw [if_pos rfl,if_pos rfl,Decode_f b 4096 hb (by decide) k (by omega),Option.bind_some,show mx 4096 0=4096 by decide]
  obtain ⟨r,hr⟩ : ∃ r,r=decS b (b.length + 1) 0 4096 []:=⟨_,rfl⟩
  rw [← hr]
  by_cases h1:r.2.2=2
  ·rw [if_pos h1,if_pos h1]
  ·rw [if_neg h1,if_neg h1]
   by_cases h2:r.2.2=0
   ·rw [if_pos h2,if_pos h2]
    by_cases h3:r.2.1=0
    ·rw [if_pos h3,if_pos h3]
    ·rw [if_neg h3,if_neg h3]
   ·rw [if_neg h2,if_neg h2]
def headEnd (t:List ByteArray × Int × Int) (g:List (S36) × Int) (fs:List (S36)) (st:Option ByteArray):List (S36) × Int × Int × Option ByteArray :=
 if g.2=0 then (if t.2.1=0 then ([],0,t.2.2,st) else (fs ++ g.1,t.2.1,0,st)) else ([],0,g.2,st)
theorem head_l (fst:Nat → ByteArray → Option Int) (l:List Int) (hl:l.length ≤ 4398046511104) (st:Option ByteArray) : ∀ (d p k:Nat) (fs:List (S36)),0 < p → p ≤ (bdS l).length → (bdS l).length < p + d → fs.length ≤ 40 → d + 6200 ≤ k →
 http_head.l fst k l fs (p:Int) st=some (headEnd (tailS (bdS l) (extS l) d p) (fieldsS (tailS (bdS l) (extS l) d p).1 fs.length) fs st):=by
 intro d
 induction d with
 | zero=>intro p k fs _ h1 h2;omega
 | succ d ih =>
  intro p k fs h0 hp hd hf hk
  obtain ⟨k,rfl⟩ : ∃ m,k=m + 1:=⟨k - 1,by omega⟩
  have hb:=bdS_length l
  have hsh:=cutS_shape ((bdS l).drop p) 2048
  have hdl:((bdS l).drop p).length=(bdS l).length - p:=List.length_drop ..
  have hcl:=cut_len ((bdS l).drop p) (by omega)
  rw [http_head.l,mn_take,if_pos (by omega),if_pos (by omega),Int.toNat_natCast,cut_f _ 2048 (by omega) k (by omega),Option.bind_some,tailS]
  obtain ⟨c,hc⟩ : ∃ c,c=cutSpec ((bdS l).drop p) 2048:=⟨_,rfl⟩
  rw [← hc] at hsh hcl ⊢
  by_cases h1:c.2.2=20
  ·rw [if_pos h1,if_pos h1];rfl
  ·rw [if_neg h1,if_neg h1]
   by_cases h2:c.2.1=0
   ·rw [if_pos h2,if_pos h2]
    unfold extS
    split <;> rfl
   ·have hz:c.2.1 > 0∧c.2.1 ≤ ((bdS l).length:Int) - p:=by rcases hsh with h|h <;> omega
    have hw:wrap64 ((p:Int) + c.2.1)=((p + c.2.1.toNat:Nat):Int):=by unfold wrap64;omega
    have hw2:(p:Int) + c.2.1=((p + c.2.1.toNat:Nat):Int):=by omega
    rw [if_neg h2,if_neg h2,if_neg (show ¬ (p:Int)=0 by omega),hw,hw2]
    by_cases h3:c.1.toList=[]
    ·rw [if_pos h3,if_pos h3]
     unfold headEnd
     rw [fieldsS,if_pos rfl,if_neg (show ¬ ((p + c.2.1.toNat:Nat):Int)=0 by omega),List.append_nil]
    ·rw [if_neg h3,if_neg h3]
     have hcn:c.1.data.toList.length ≤ 2048:=by rw [data_length];exact hcl
     simp only [fieldsS]
     cases hfo:fieldOk c.1.data.toList
     ·obtain ⟨x,y,hxy⟩:=field_no c.1.data.toList (by omega) hfo
      rw [mkS_self] at hxy
      rw [hxy,Option.bind_some,if_neg (show ¬ ((20:Int)=0) by decide),if_neg (by simp)]
      rfl
     ·have hxy:=field_ok c.1.data.toList (by omega) hfo
      rw [mkS_self] at hxy
      rw [hxy,Option.bind_some,if_pos rfl,if_pos rfl]
      by_cases h4:fs.length=40
      ·rw [if_pos (show (fs.length:Int)=40 by omega),if_pos h4];rfl
      ·rw [if_neg (show ¬ (fs.length:Int)=40 by omega),if_neg h4,if_pos (by omega)]
       have hlen:(fs ++ [fieldX c.1.data.toList]).length=fs.length + 1:=by simp
       have:=ih (p + c.2.1.toNat) k (fs ++ [fieldX c.1.data.toList]) (by omega) (by omega) (by omega) (by omega) (by omega)
       rw [hlen] at this
       refine this.trans ?_
       obtain ⟨t,ht⟩ : ∃ t,t=tailS (bdS l) (extS l) d (p + c.2.1.toNat):=⟨_,rfl⟩
       rw [← ht]
       obtain ⟨g,hg⟩ : ∃ g,g=fieldsS t.1 (fs.length + 1):=⟨_,rfl⟩
       rw [← hg]
       unfold headEnd
       by_cases h5:g.2=0
       ·rw [if_pos h5,if_pos h5,if_pos rfl]
        by_cases h6:t.2.1=0
        ·rw [if_pos h6,if_pos h6]
        ·rw [if_neg h6,if_neg h6,List.append_assoc];rfl
       ·rw [if_neg h5,if_neg h5,if_neg h5]
theorem head_nil (fst:Nat → ByteArray → Option Int) (l:List Int) (k:Nat) (hk:8300 ≤ k) (h:(linesS (bdS l) (extS l)).1=[]):http_head.f fst (k + 1) l=some ([],0,(linesS (bdS l) (extS l)).2.2,none):=by
 have hb:=bdS_length l
 unfold linesS at h ⊢
 rw [http_head.f,http_head.l,mn_take,if_pos (by omega),if_pos (by omega),show (0:Int).toNat=0 from rfl,List.drop_zero,cut_f _ 2048 (by omega) k (by omega),Option.bind_some]
 obtain ⟨c,hc⟩ : ∃ c,c=cutSpec (bdS l) 2048:=⟨_,rfl⟩
 rw [← hc] at h ⊢
 by_cases h1:c.2.2=20
 ·rw [if_pos h1,if_pos h1]
 ·rw [if_neg h1] at h ⊢
  rw [if_neg h1]
  by_cases h2:c.2.1=0
  ·rw [if_pos h2,if_pos h2]
   unfold extS
   split <;> rfl
  ·rw [if_neg h2] at h;cases h
theorem head_cons (fst:Nat → ByteArray → Option Int) (l:List Int) (hl:l.length ≤ 4398046511104) (k:Nat) (hk:8300 ≤ k) (s:ByteArray) (ss:List ByteArray) (h:(linesS (bdS l) (extS l)).1=s :: ss) :
 http_head.f fst (k + 1) l=(fst k s).bind fun code=>if code=0 then some (headEnd (ss,(linesS (bdS l) (extS l)).2) (fieldsS ss 0) [] (some s)) else some ([],0,code,some s):=by
 have hb:=bdS_length l
 have hsh:=cutS_shape (bdS l) 2048
 unfold linesS at h ⊢
 rw [http_head.f,http_head.l,mn_take,if_pos (by omega),if_pos (by omega),show (0:Int).toNat=0 from rfl,List.drop_zero,cut_f _ 2048 (by omega) k (by omega),Option.bind_some]
 obtain ⟨c,hc⟩ : ∃ c,c=cutSpec (bdS l) 2048:=⟨_,rfl⟩
 rw [← hc] at h hsh ⊢
 by_cases h1:c.2.2=20
 ·rw [if_pos h1] at h;cases h
 ·rw [if_neg h1] at h ⊢
  rw [if_neg h1]
  by_cases h2:c.2.1=0
  ·rw [if_pos h2] at h;cases h
  ·have hz:c.2.1 > 0∧c.2.1 ≤ ((bdS l).length:Int):=by rcases hsh with h|h <;> omega
   have hw:wrap64 ((0:Int) + c.2.1)=((c.2.1.toNat:Nat):Int):=by unfold wrap64;omega
   rw [if_neg h2] at h ⊢
   rw [if_neg h2,if_pos rfl,hw,head_l fst l hl (some c.1) ((bdS l).length + 1) c.2.1.toNat k [] (by omega) (by omega) (by omega) (by simp) (by omega)]
   simp only [List.cons.injEq] at h
   rw [← h.1,← h.2]
   rfl
theorem tail_sizes (l:List Int) (e:Int) (hl:l.length ≤ 2048) : ∀ (d p:Nat),∀ s ∈ (tailS l e d p).1,s.size ≤ 2048:=by
 intro d
 induction d with
 | zero=>intro p s hs;cases hs
 | succ d ih =>
  intro p s hs
  have hdl:(l.drop p).length=l.length - p:=List.length_drop ..
  have hc:=cut_len (l.drop p) (by omega)
  rw [tailS] at hs
  split at hs
  ·cases hs
  ·split at hs
   ·cases hs
   ·split at hs
    ·cases hs
    ·rcases List.mem_cons.1 hs with rfl|hs
     ·exact hc
     ·exact ih _ s hs
theorem lines_sizes (l:List Int) (e:Int) (hl:l.length ≤ 2048) : ∀ s ∈ (linesS l e).1,s.size ≤ 2048:=by
 intro s hs
 have hc:=cut_len l hl
 unfold linesS at hs
 split at hs
 ·cases hs
 ·split at hs
  ·cases hs
  ·rcases List.mem_cons.1 hs with rfl|hs
   ·exact hc
   ·exact tail_sizes l e hl _ _ s hs
theorem hosts_f (m t:ByteArray) (mi:Int) (fs:List (S36)) (b:List Int) (hf:FB fs) (k:Nat) (hk:1001 ≤ k):http_hosts.f k m t mi fs b=some (hostsOk (getS hostNm fs) mi):=by
 have hfl:=hf.1
 have hg:=Get_f fs hostNM hf (by decide) k (by omega)
 rw [getS_nm hostNM hostNm host_nm] at hg
 have hb:=get_bounds fs hostNm hf
 unfold http_hosts.f
 rw [show (⟨#[72,111,115,116]⟩:ByteArray)=hostNM from rfl,hg,Option.bind_some]
 cases hs:getS hostNm fs with
 | nil=>rfl
 | cons p r =>
  rw [hs] at hb
  have hp:=hb.2 p (List.mem_cons_self ..)
  have hr0:rdOf ByteArray.empty (p :: r) 0=p:=rfl
  rw [if_neg (by simp only [List.length_cons];omega),if_pos (by simp only [List.length_cons];omega),hr0,hostT_f p (by omega),Option.bind_some]
  cases r with
  | nil =>
   rw [hostsOk]
   cases (hostT p).2
   ·rw [if_neg (by simp)]
   ·rw [if_pos rfl];rfl
  | cons q s =>
   rw [hostsOk]
   have:(((p :: q :: s).length:Int) == 1)=false:=beq_eq_false_iff_ne.2 (by simp only [List.length_cons];omega)
   rw [this]
   split <;> rfl
theorem http_open_f (l:List Int) (hl:l.length ≤ 1000000) (k:Nat) (hk:1070000000 ≤ k) : ∃ o,http_open.f (k + 1) l=some o∧(o=openS l ∨ (o.2.2.2.2.2.2.2.2 ≠ 0∧openS l=openBad o.2.2.2.2.2.2.2.2)):=by
 have hb:=bdS_length l
 have hsz:=lines_sizes (bdS l) (extS l) hb.1
 have hn1:=head_nil reqFst l k (by omega)
 have hn2:=head_cons reqFst l (by omega) k (by omega)
 unfold openS http_open.f
 obtain ⟨L,hL⟩ : ∃ L,L=linesS (bdS l) (extS l):=⟨_,rfl⟩
 rw [← hL] at hsz hn1 hn2 ⊢
 obtain ⟨ss,n,c⟩:=L
 cases ss with
 | nil =>
  rw [hn1 rfl,Option.bind_some]
  exact ⟨_,rfl,Or.inl rfl⟩
 | cons s ss =>
  have hs:=hsz s (List.mem_cons_self ..)
  have hq : ∀ k,1000000 ≤ k → line_Request.f k s=some (reqSpec s.data.toList):=fun k hk=>by
   have:=Request_f s.data.toList (by rw [data_length];omega) k (by rw [data_length];omega)
   rw [mkS_self] at this
   exact this
  have hr:reqFst k s=some (reqSpec s.data.toList).2.2.2.2.2:=by unfold reqFst;rw [hq k (by omega),Option.bind_some]
  rw [hn2 s ss rfl,hr,Option.bind_some,openL]
  obtain ⟨q,hqq⟩ : ∃ q,q=reqSpec s.data.toList:=⟨_,rfl⟩
  have hFB:=fields_FB ss
  rw [← hqq] at hq ⊢
  obtain ⟨g,hg⟩ : ∃ g,g=fieldsS ss 0:=⟨_,rfl⟩
  rw [← hg] at hFB ⊢
  by_cases h1:q.2.2.2.2.2=0
  ·rw [if_pos h1,if_pos h1]
   unfold headEnd
   by_cases h2:g.2=0
   ·rw [if_pos h2,if_pos h2]
    simp only
    by_cases h3:n=0
    ·rw [if_pos h3,if_pos h3,Option.bind_some]
     exact ⟨_,rfl,Or.inl rfl⟩
    ·rw [if_neg h3,if_neg h3,Option.bind_some,if_neg h3,Option.bind_some,hq _ (by omega),Option.bind_some,List.nil_append]
     rw [hosts_f q.1 q.2.1 q.2.2.1 g.1 [] hFB _ (by omega),Option.bind_some]
     unfold openF
     by_cases h4:hostsOk (getS hostNm g.1) q.2.2.1=true
     ·rw [if_pos h4,if_pos h4,frameReq_f g.1 q.2.2.1 hFB _ (by omega),Option.bind_some]
      refine ⟨_,rfl,?_⟩
      by_cases h5:(reqLen g.1 q.2.2.1).2.2=0
      ·rw [if_pos h5]
       exact Or.inl (by rw [h5])
      ·rw [if_neg h5]
       exact Or.inr ⟨h5,rfl⟩
     ·rw [if_neg h4,if_neg h4]
      exact ⟨_,rfl,Or.inl rfl⟩
   ·rw [if_neg h2,if_neg h2,Option.bind_some]
    exact ⟨_,rfl,Or.inl rfl⟩
  ·rw [if_neg h1,if_neg h1,Option.bind_some]
   exact ⟨_,rfl,Or.inl rfl⟩
theorem http_Request_f (l:List Int) (hl:l.length ≤ 1000000) (k:Nat) (hk:1070000010 ≤ k):http_Request.f k l=some (reqS l):=by
 obtain ⟨k,rfl⟩ : ∃ m,k=m + 1:=⟨k - 1,by omega⟩
 obtain ⟨o,ho,hs⟩:=http_open_f l hl k (by omega)
 unfold http_Request.f reqS
 rw [ho,Option.bind_some]
 have hbad : ∀ x6 x7 x8 x9 a b c d e,http_Request.j0 (k + 1) l x6 x7 x8 x9 true a b c d e=some (⟨#[]⟩,⟨#[]⟩,0,[],[],0,x9):=by
  intros
  rw [http_Request.j0,if_pos rfl]
 rcases hs with hs|⟨h1,hs⟩
 ·rw [← hs]
  rcases open_cases l with ⟨c,hc⟩|hok
  ·rw [hc] at hs
   subst hs
   rw [if_pos (show (openBad c).2.2.2.2.2.1=0 from rfl),if_pos (show (openBad c).2.2.2.2.2.1=0 from rfl),hbad]
  ·rw [← hs] at hok
   have p1:=hok.pos
   have hne : ¬ o.2.2.2.2.2.1=0:=by omega
   have p2:=hok.le
   have hdl:(l.drop o.2.2.2.2.2.1.toNat).length=l.length - o.2.2.2.2.2.1.toNat:=List.length_drop ..
   have hbl:=body_le (l.drop o.2.2.2.2.2.1.toNat) (by omega) o.2.2.2.2.2.2.1 hok.size.1 o.2.2.2.2.2.2.2.1
   rw [if_neg hne,if_neg hne,hok.code,show ((0:Int) != 0)=false from rfl,http_Request.j0,if_neg (by simp),if_pos (by omega),if_pos (by omega),body_f _ (by omega) _ hok.size.1 _ k (by omega),Option.bind_some]
   by_cases h3:(bodyS (l.drop o.2.2.2.2.2.1.toNat) o.2.2.2.2.2.2.1 o.2.2.2.2.2.2.2.1).2.1 < 0
   ·rw [if_pos h3,if_pos h3]
   ·rw [if_neg h3,if_neg h3]
    have hw:wrap64 (o.2.2.2.2.2.1 + (bodyS (l.drop o.2.2.2.2.2.1.toNat) o.2.2.2.2.2.2.1 o.2.2.2.2.2.2.2.1).2.1)=o.2.2.2.2.2.1 + (bodyS (l.drop o.2.2.2.2.2.1.toNat) o.2.2.2.2.2.2.1 o.2.2.2.2.2.2.2.1).2.1:=by unfold wrap64;omega
    rw [hw]
 ·rw [hs,if_pos (show (openBad o.2.2.2.2.2.2.2.2).2.2.2.2.2.1=0 from rfl)]
  by_cases h2:o.2.2.2.2.2.1=0
  ·rw [if_pos h2,hbad];rfl
  ·rw [if_neg h2,bne_iff_ne.2 h1,hbad];rfl
theorem req_le (l:List Int) (hl:l.length ≤ 1000000):(reqS l).2.2.2.2.2.1 ≤ (l.length:Int)∧0 ≤ (reqS l).2.2.2.2.2.1∧((reqS l).2.2.2.2.2.1 ≠ 0 → (reqS l).2.2.2.2.2.2=0)∧(reqS l).2.2.2.1.length ≤ 40∧(reqS l).2.2.2.2.1.length ≤ l.length:=by
 rcases open_cases l with ⟨c,hc⟩|ho
 ·unfold reqS
  rw [hc]
  exact ⟨by show (0:Int) ≤ _;omega,Int.le_refl _,fun h=>absurd rfl h,Nat.zero_le _,Nat.zero_le _⟩
 ·unfold reqS
  obtain ⟨o,hoo⟩ : ∃ o,o=openS l:=⟨_,rfl⟩
  rw [← hoo] at ho ⊢
  have h1:=ho.pos
  have h2:=ho.le
  rw [if_neg (by omega)]
  have hdl:(l.drop o.2.2.2.2.2.1.toNat).length=l.length - o.2.2.2.2.2.1.toNat:=List.length_drop ..
  have hb:=body_le (l.drop o.2.2.2.2.2.1.toNat) (by omega) o.2.2.2.2.2.2.1 ho.size.1 o.2.2.2.2.2.2.2.1
  split
  ·exact ⟨by show (0:Int) ≤ _;omega,Int.le_refl _,fun h=>absurd rfl h,Nat.zero_le _,Nat.zero_le _⟩
  ·exact ⟨by show o.2.2.2.2.2.1 + _ ≤ _;omega,by show (0:Int) ≤ o.2.2.2.2.2.1 + _;omega,fun _=>rfl,ho.fields.1,by show (bodyS _ _ _).1.length ≤ _;omega⟩
theorem str_ne1 (xs:List Int) (h:xs ≠ []) : ¬ ((strOfNums xs).toList=[]):=by
 intro e
 rw [toList_data] at e
 have:=data_length (strOfNums xs)
 rw [e,str_size] at this
 exact h (List.eq_nil_of_length_eq_zero this.symm)
theorem refTold_step (k u:Nat) (xs:List Int) (hx:xs.length ≤ 100) (hu:u ≤ 9223372036854775807) (hp:xs=[] ∨ 0 < u) :
 ∀ R,tollbarref01_Decimal.l0 k ((u / 10:Nat):Int) (strOfNums ((48 + ((u % 10:Nat):Int)) :: xs))=R → tollbarref01_Decimal.l0 (k + 1) (u:Int) (strOfNums xs)=R:=by
 intro R hR
 have e1:Int.tmod (u:Int) 10=((u % 10:Nat):Int):=by rw [Int.tmod_eq_emod_of_nonneg (by omega)];omega
 have e2:Int.tdiv (u:Int) 10=((u / 10:Nat):Int):=by rw [Int.tdiv_eq_ediv_of_nonneg (by omega)];omega
 have e3:wrap64 (48 + ((u % 10:Nat):Int)) % 256=48 + ((u % 10:Nat):Int):=by unfold wrap64;omega
 have e4:wrap64 ((u / 10:Nat):Int)=((u / 10:Nat):Int):=by unfold wrap64;omega
 have e5:strOfNums [48 + ((u % 10:Nat):Int)] ++ strOfNums xs=strOfNums ((48 + ((u % 10:Nat):Int)) :: xs):=by rw [← str_append];rfl
 have e6:(strOfNums [48 + ((u % 10:Nat):Int)]).size + (strOfNums xs).size ≤ 9223372036854775807:=by rw [str_size,str_size,List.length_singleton];omega
 simp only [tollbarref01_Decimal.l0]
 rw [e1,e2,e3,e4,Option.bind_some,if_pos e6,e5,hR]
 rcases hp with hp|hp
 ·rw [if_pos (by rw [hp,toList_data];rfl)]
 ·rw [if_pos (show (u:Int) > 0 by omega)]
  split <;> rfl
theorem refTold_end (k:Nat) (xs:List Int) (hx:xs ≠ []):tollbarref01_Decimal.l0 (k + 1) 0 (strOfNums xs)=some (strOfNums xs):=by
 simp only [tollbarref01_Decimal.l0]
 rw [if_neg (str_ne1 xs hx),if_neg (by decide)]
theorem refTold_l0 (d:Nat) : ∀ (k u:Nat) (xs:List Int),u < 10 ^ d → d + 1 ≤ k → u ≤ 9223372036854775807 → xs.length + d ≤ 100 → xs ≠ [] →
 tollbarref01_Decimal.l0 k (u:Int) (strOfNums xs)=some (strOfNums ((if u=0 then [] else decI u) ++ xs)):=by
 induction d with
 | zero =>
  intro k u xs hu hk hb hx hne
  obtain ⟨k,rfl⟩ : ∃ m,k=m + 1:=⟨k - 1,by omega⟩
  obtain rfl:u=0:=by simpa using hu
  rw [if_pos rfl]
  exact refTold_end k xs hne
 | succ d ih =>
  intro k u xs hu hk hb hx hne
  obtain ⟨k,rfl⟩ : ∃ m,k=m + 1:=⟨k - 1,by omega⟩
  by_cases h0:u=0
  ·subst h0
   rw [if_pos rfl]
   exact refTold_end k xs hne
  ·refine refTold_step k u xs (by omega) hb (Or.inr (by omega)) _ ?_
   have h2:u / 10 < 10 ^ d:=(Nat.div_lt_iff_lt_mul (by decide)).2 (by rwa [← Nat.pow_succ])
   rw [ih k (u / 10) _ h2 (by omega) (by omega) (by rw [List.length_cons];omega) (by simp),if_neg h0]
   by_cases h1:u < 10
   ·rw [if_pos (by omega),decI_small u h1,show u % 10=u by omega]
    rfl
   ·rw [if_neg (by omega),decI_big u (by omega),List.append_assoc]
    rfl
theorem refTold_nat (k u:Nat) (hk:30 ≤ k) (hu:u ≤ 9223372036854775807):tollbarref01_Decimal.l0 k (u:Int) (⟨#[]⟩:ByteArray)=some (strOfNums (decI u)):=by
 obtain ⟨k,rfl⟩ : ∃ m,k=m + 1:=⟨k - 1,by omega⟩
 have hs:(⟨#[]⟩:ByteArray)=strOfNums []:=rfl
 rw [hs]
 refine refTold_step k u [] (by simp) hu (Or.inl rfl) _ ?_
 have h3:(10:Nat) ^ 19=10000000000000000000:=by decide
 rw [refTold_l0 19 k (u / 10) _ (by omega) (by omega) (by omega) (by simp) (by simp)]
 by_cases h1:u < 10
 ·rw [if_pos (by omega),decI_small u h1,show u % 10=u by omega]
  rfl
 ·rw [if_neg (by omega),decI_big u (by omega)]
theorem refTold_f (u:Nat) (hu:u ≤ 9223372036854775807) (k:Nat) (hk:40 ≤ k):tollbarref01_Decimal.f k (u:Int)=some (strOfNums (decI u)):=by
 obtain ⟨k,rfl⟩ : ∃ m,k=m + 1:=⟨k - 1,by omega⟩
 rw [tollbarref01_Decimal.f,if_neg (by omega)]
 exact refTold_nat k u (by omega) hu
theorem refSame_f (a b:ByteArray) (ha:a.size ≤ 1048576) (hb:b.size ≤ 1048576) (k:Nat) (hk:1048578 ≤ k):tollbarref04_same.f k a b=some (sameN a b):=by
 unfold tollbarref04_same.f
 rw [refFold_f a (by omega) k (by omega),refFold_f b (by omega) k (by omega),Fold_f a (by omega),Fold_f b (by omega),Option.bind_some,Option.bind_some,str_inj (bytes_fold (bytes_of a)) (bytes_fold (bytes_of b))]
 rfl
theorem refIn_l0 (name:ByteArray) (hn:name.size ≤ 1048576) (ns:List ByteArray) (hl:ns.length ≤ 2000000000) (hs : ∀ n ∈ ns,n.size ≤ 1048576) (d:Nat) : ∀ (k i:Nat),i + d=ns.length → d + 1048580 ≤ k →
 tollbarref04_In.l0 k ns name (i:Int)=some ((ns.drop i).any (fun p=>sameN p name)):=by
 induction d with
 | zero =>
  intro k i hi hk
  obtain ⟨k,rfl⟩ : ∃ m,k=m + 1:=⟨k - 1,by omega⟩
  rw [tollbarref04_In.l0,if_neg (by omega),List.drop_of_length_le (by omega),List.any_nil]
 | succ d ih =>
  intro k i hi hk
  obtain ⟨k,rfl⟩ : ∃ m,k=m + 1:=⟨k - 1,by omega⟩
  have hlt:i < ns.length:=by omega
  have hb:=hs _ (List.getElem_mem hlt)
  have hw:wrap64 ((i:Int) + 1)=((i + 1:Nat):Int):=by unfold wrap64;omega
  rw [tollbarref04_In.l0,if_pos (by omega),if_pos (by omega),rdB_at ns i hlt,refSame_f _ _ (by omega) (by omega) k (by omega),Option.bind_some,hw,List.drop_eq_getElem_cons hlt,List.any_cons,ih k (i + 1) (by omega) (by omega)]
  cases sameN ns[i] name <;> simp
theorem refIn_f (ns:List ByteArray) (name:ByteArray) (hl:ns.length ≤ 2000000000) (hs : ∀ n ∈ ns,n.size ≤ 1048576) (hn:name.size ≤ 1048576) (k:Nat) (hk:ns.length + 1048580 ≤ k):tollbarref04_In.f k ns name=some (ns.any (fun p=>sameN p name)):=by
 have:=refIn_l0 name hn ns hl hs ns.length k 0 (by omega) (by omega)
 rw [List.drop_zero] at this
 exact this
theorem refWo_l0 (fs:List (S36)) (ns:List ByteArray) (hf:FB fs) (hl:ns.length ≤ 1000) (hn : ∀ n ∈ ns,n.size ≤ 1048576) (d:Nat) : ∀ (k i:Nat) (out:List (S36)),i + d=fs.length → d + 1050000 ≤ k → out.length ≤ i →
 tollbarref04_Without.l0 k fs ns out (i:Int)=some (out ++ (fs.drop i).filter (fun f => !(ns.any (fun n=>sameN n f.f0)))):=by
 have hfl:=hf.1
 induction d with
 | zero =>
  intro k i out hi hk ho
  obtain ⟨k,rfl⟩ : ∃ m,k=m + 1:=⟨k - 1,by omega⟩
  rw [tollbarref04_Without.l0,if_neg (by omega),List.drop_of_length_le (by omega),List.filter_nil,List.append_nil]
 | succ d ih =>
  intro k i out hi hk ho
  obtain ⟨k,rfl⟩ : ∃ m,k=m + 1:=⟨k - 1,by omega⟩
  have hlt:i < fs.length:=by omega
  have hb:=hf.2 _ (List.getElem_mem hlt)
  have hw:wrap64 ((i:Int) + 1)=((i + 1:Nat):Int):=by unfold wrap64;omega
  rw [tollbarref04_Without.l0,if_pos (by omega),if_pos (by omega),rdT_at fs i hlt,refIn_f ns _ (by omega) hn hb.1 k (by omega),Option.bind_some,hw,List.drop_eq_getElem_cons hlt,List.filter_cons]
  cases hs:ns.any (fun n=>sameN n fs[i].f0)
  ·rw [if_neg (by simp),if_pos (by omega),if_pos (by simp),ih k (i + 1) _ (by omega) (by omega) (by rw [List.length_append];simp;omega)]
   simp only [List.append_assoc,List.singleton_append]
  ·rw [if_pos rfl,if_neg (by simp),ih k (i + 1) _ (by omega) (by omega) (by omega)]
theorem refWithout_f (fs:List (S36)) (ns:List ByteArray) (hf:FB fs) (hl:ns.length ≤ 1000) (hn : ∀ n ∈ ns,n.size ≤ 1048576) (k:Nat) (hk:1060000 ≤ k):tollbarref04_Without.f k fs ns=some (withoutS fs ns):=by
 have hfl:=hf.1
 have:=refWo_l0 fs ns hf hl hn fs.length k 0 [] (by omega) (by omega) (Nat.zero_le _)
 rw [List.drop_zero,List.nil_append] at this
 exact this
theorem sameB_l0 (xs:List Int) (hn:xs.length ≤ 4398046511104) (d:Nat) : ∀ (k:Nat) (i:Int),0 ≤ i → (xs.length:Int) - i=d → d + 1 ≤ k → tollbarref01_SameBytes.l0 k xs xs i=some true:=by
 induction d with
 | zero =>
  intro k i h0 hd hk
  obtain ⟨k,rfl⟩ : ∃ m,k=m + 1:=⟨k - 1,by omega⟩
  simp only [tollbarref01_SameBytes.l0]
  rw [if_neg (by omega)]
 | succ d ih =>
  intro k i h0 hd hk
  obtain ⟨k,rfl⟩ : ∃ m,k=m + 1:=⟨k - 1,by omega⟩
  simp only [tollbarref01_SameBytes.l0]
  rw [if_pos (by omega),if_pos h0,if_pos (by omega),if_pos trivial,show wrap64 (i + 1)=i + 1 by unfold wrap64;omega]
  exact ih k (i + 1) (by omega) (by omega) (by omega)
theorem sameB_eq (xs:List Int) (hn:xs.length ≤ 4398046511104) (k:Nat) (hk:xs.length + 1 ≤ k):tollbarref01_SameBytes.f k xs xs=some true:=by
 unfold tollbarref01_SameBytes.f
 rw [if_pos rfl]
 exact sameB_l0 xs hn xs.length k 0 (by omega) (by omega) hk
theorem sameF_l0 (xs:List (S36)) (hn:xs.length ≤ 1000000) (d:Nat) : ∀ (k i:Nat),i + d=xs.length → d < k → tollbarref04_Same.l0 k xs xs (i:Int)=some true:=by
 induction d with
 | zero =>
  intro k i hi hk
  obtain ⟨k,rfl⟩ : ∃ m,k=m + 1:=⟨k - 1,by omega⟩
  rw [tollbarref04_Same.l0,if_neg (by omega)]
 | succ d ih =>
  intro k i hi hk
  obtain ⟨k,rfl⟩ : ∃ m,k=m + 1:=⟨k - 1,by omega⟩
  rw [tollbarref04_Same.l0,if_pos (by omega),if_pos (by omega),if_pos (by omega),if_pos rfl,if_pos rfl,show wrap64 ((i:Int) + 1)=((i + 1:Nat):Int) by unfold wrap64;omega]
  exact ih k (i + 1) (by omega) (by omega)
theorem sameF_eq (xs:List (S36)) (hn:xs.length ≤ 1000000) (k:Nat) (hk:xs.length < k):tollbarref04_Same.f k xs xs=some true:=by
 unfold tollbarref04_Same.f
 rw [if_pos rfl]
 exact sameF_l0 xs hn xs.length k 0 (by omega) hk
/-- The way behind the writing. -/
theorem back_j2 (l:List UInt8) (hl:Cln (toI l)) (hls:l.length + 4 ≤ 2048) (hq:(reqSpec l).2.2.2.2.2=0) (fs:List (S36)) (hf : ∀ f ∈ fs,rightB f.f0 f.f1=true) (hn:fs.length ≤ 40)
 (hh:hostsOk (getS hostNm fs) (reqSpec l).2.2.1=true) (N:Int) (cd:Bool) (hN:reqLen fs (reqSpec l).2.2.1=(N,cd,0)) (P B more:List Int) (hB:bodyS (P ++ more) N cd=(B,(P.length:Int),0)) (hP:P.length ≤ 100000) (hBl:B.length ≤ 4096) (hm:more.length ≤ 4000)
 (fs0:List (S36)) (b0:List Int) (k:Nat) (hk:1070000100 ≤ k) :
 tollbarlaw08_HttpBack.j2 (k + 1) more B (reqSpec l).1 (reqSpec l).2.1 (reqSpec l).2.2.1 fs0 b0 (reqSpec l).1 (reqSpec l).2.1 (reqSpec l).2.2.1 fs P=some true:=by
 have hfs:=fLines_small fs hf
 have hFB:=right_FB fs (by omega) hf
 have htl:=toI_length l
 obtain ⟨x,hx⟩ : ∃ x,x=(toI l ++ [13,10]) ++ fLines fs ++ [13,10] ++ P:=⟨_,rfl⟩
 have hxl:x.length=l.length + (fLines fs).length + 4 + P.length:=by rw [hx];simp only [List.length_append,List.length_cons,List.length_nil];omega
 have hw:=write_back l hls hq fs hFB P (by omega) k (by omega)
 rw [← hx] at hw
 have hX:x ++ more=(toI l ++ [13,10]) ++ fLines fs ++ [13,10] ++ (P ++ more):=by rw [hx];simp only [List.append_assoc]
 have hr:=back_req l hl hls hq fs hf hn hh N cd hN (P ++ more) B _ hB (by omega) (x ++ more) hX
 have hwr:wrap64 ((x.length:Int) - (P.length:Int))=(l.length:Int) + ((fLines fs).length:Int) + 4:=by unfold wrap64;omega
 rw [tollbarlaw08_HttpBack.j2,hw,Option.bind_some,Option.bind_some,List.nil_append,if_pos (by simp only [List.length_nil];omega),Option.bind_some,if_pos (by omega),http_Request_f (x ++ more) (by rw [List.length_append];omega) k (by omega),Option.bind_some,hr,hwr]
 by_cases c:2048 < l.length + (fLines fs).length + 4
 ·rw [if_pos c,if_pos rfl,decide_eq_true (by omega)]
 ·rw [if_neg c]
  simp only
  rw [if_neg (by decide),if_neg (by omega),if_pos trivial,if_pos (by omega),if_pos trivial,if_pos trivial,if_pos trivial,sameB_eq B (by omega) k (by omega),Option.bind_some,if_pos rfl,sameF_eq fs (by omega) k (by omega),Option.bind_some]
theorem HttpBack:tollbarlaw08_HttpBack.Pure:=by
 intro b more size coded _ _ hb8 _ _ _ _
 refine ⟨1080000000,?_⟩
 unfold tollbarlaw08_HttpBack.f
 rw [show tollbarlaw08_asking.f=some true from rfl,Option.bind_some,if_pos rfl,show (1080000000:Nat)=1079999999 + 1 from rfl]
 by_cases h1:(b.length:Int) > 4000
 ·rw [if_pos h1,tollbarlaw08_HttpBack.j0,if_pos rfl]
 ·rw [if_neg h1]
  by_cases h2:(more.length:Int) > 4000
  ·rw [decide_eq_true h2,tollbarlaw08_HttpBack.j0,if_pos rfl]
  ·have hbl:b.length ≤ 1000000:=by omega
   have hle:=req_le b hbl
   rw [decide_eq_false h2,tollbarlaw08_HttpBack.j0,if_neg (by simp),http_Request_f b hbl _ (by omega),Option.bind_some,show (1079999999:Nat)=1079999998 + 1 from rfl]
   by_cases c0:(reqS b).2.2.2.2.2.1=0
   ·rw [if_pos c0,tollbarlaw08_HttpBack.j1,if_pos rfl]
   ·rw [if_neg c0]
    by_cases c1:((reqS b).2.2.2.1.length:Int) ≥ 40
    ·rw [if_pos c1,tollbarlaw08_HttpBack.j1,if_pos rfl]
    ·rw [if_neg c1]
     obtain ⟨ho,e1,e2,e3,e4⟩:=req_parts b c0
     obtain ⟨l,a1,a2,a3,a4,a5,a6,a7⟩:=open_parts b (fun x hx=>wf_u8 (hb8 x hx)) ho
     obtain ⟨fs,hfs⟩ : ∃ fs,fs=(reqS b).2.2.2.1:=⟨_,rfl⟩
     obtain ⟨B,hB⟩ : ∃ B,B=(reqS b).2.2.2.2.1:=⟨_,rfl⟩
     rw [← hfs] at c1 e4 hle
     rw [← hB] at hle
     rw [← hfs,← hB,e1,a4,e2,a5,e3,a6]
     have hfr : ∀ f ∈ fs,rightB f.f0 f.f1=true:=by rw [e4];exact ho.fields.2
     rw [← e4] at a7
     have hFB:=right_FB fs (by omega) hfr
     have hwo : ∀ f ∈ withoutS fs goneNs,rightB f.f0 f.f1=true:=fun f hf=>hfr f (List.mem_filter.1 hf).1
     have hwl:(withoutS fs goneNs).length ≤ fs.length:=List.length_filter_le _ _
     have hmi:=reqSpec_minor l
     have hW : ∀ k,1060000 ≤ k → tollbarref04_Without.f k fs [(⟨#[99,111,110,116,101,110,116,45,108,101,110,103,116,104]⟩:ByteArray),(⟨#[116,114,97,110,115,102,101,114,45,101,110,99,111,100,105,110,103]⟩:ByteArray)]=some (withoutS fs goneNs) :=
      fun k hk=>refWithout_f fs goneNs hFB (by decide) (by decide) k hk
     have hadd : ∀ f:S36,rightB f.f0 f.f1=true → (∀ g ∈ withoutS fs goneNs ++ [f],rightB g.f0 g.f1=true)∧(withoutS fs goneNs ++ [f]).length ≤ 40:=fun f hf =>
      ⟨fun g hg=>by
       rcases List.mem_append.1 hg with hg|hg
       ·exact hwo g hg
       ·rw [List.mem_singleton.1 hg];exact hf,by rw [List.length_append];simp only [List.length_cons,List.length_nil];omega⟩
     cases coded
     ·rw [if_neg (by simp),tollbarlaw08_HttpBack.j1,if_neg (by simp),hW _ (by omega),Option.bind_some,if_neg (by simp),refTold_f B.length (by omega) _ (by omega),Option.bind_some,if_pos (by omega)]
      have hd:=dec_text B.length (by omega)
      have hp:=plain_len fs B.length (by omega) (reqSpec l).2.2.1
      obtain ⟨g1,g2⟩:=hadd (plainF B.length) hd.1
      rw [← hp.1] at a7
      exact back_j2 l a1 a2 a3 _ g1 g2 a7 _ _ hp.2 B B more (body_plain B more) (by omega) (by omega) (by omega) _ _ 1079999997 (by omega)
     ·rw [if_pos rfl]
      by_cases c2:(reqSpec l).2.2.1=0
      ·rw [beq_iff_eq.2 c2,tollbarlaw08_HttpBack.j1,if_pos rfl]
      ·rw [beq_eq_false_iff_ne.2 c2,tollbarlaw08_HttpBack.j1,if_neg (by simp),hW _ (by omega),Option.bind_some,if_pos rfl,if_pos (by omega),Encode_f B size _ (by omega) (by omega),Option.bind_some]
       have hp:=coded_len fs (reqSpec l).2.2.1 c2
       obtain ⟨g1,g2⟩:=hadd codedF (by decide +kernel)
       rw [← hp.1] at a7
       have hsz:1 ≤ mx size 1:=by unfold mx;split <;> omega
       have hel:=encF_small (mx size 1) hsz (B.length + 1) B (by omega)
       exact back_j2 l a1 a2 a3 _ g1 g2 a7 _ _ hp.2 _ B more (body_coded B more (by omega) (by omega) _ hsz) (by omega) (by omega) (by omega) _ _ 1079999997 (by omega)
end Go.Proofs.YtagffbblalldiaaGreatDoor.Pure
