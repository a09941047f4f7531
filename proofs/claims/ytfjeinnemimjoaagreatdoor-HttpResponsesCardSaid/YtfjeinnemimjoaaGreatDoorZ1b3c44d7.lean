/- Each function below answers as its Lean twin says; plain lemmas; a row where its theorem stands. No further condition. (Laid by this repo's pack.py out of its texts and of the print's words.) -/
import Derived.Test.YtfjeinnemimjoaaGreatDoorZ0286bf23
import Derived.Test.YtfjeinnemimjoaaGreatDoorZ706cf05c
import Derived.Test.YtfjeinnemimjoaaGreatDoorZc273be4c
import Derived.Test.YtfjeinnemimjoaaGreatDoorZ5929977a
import Derived.Lib.IndexBytes
import Derived.Lib.LastIndexByte
import Derived.Laws.RangeString
import Derived.Laws.RangeAny
import Derived.Lib.SlTrimSet
import Derived.Deep.RegionHeld3
import Derived.Shelf.Abstract
namespace Go.Proofs.YtfjeinnemimjoaaGreatDoor.Pure
open Go.RowKit Go.Proofs.YtfjeinnemimjoaaGreatDoor.P Go.Proofs.YtfjeinnemimjoaaGreatDoorW.PrintWords Go.Proofs.YtfjeinnemimjoaaGreatDoorW.PrintLast Go.Proofs.YtfjeinnemimjoaaGreatDoorW.PrintMore
set_option linter.unusedVariables false
set_option linter.unusedSimpArgs false
theorem numL_nn (b:Int) (hb:0 ≤ b) : ∀ (l:List Int) (n v:Int),0 ≤ n → numL b l n=some v → 0 ≤ v
 | [],n,v,hn,h=>by simp only [numL,Option.some.injEq] at h;omega
 | c :: r,n,v,hn,h=>by
  rw [numL] at h
  split at h
  ·next hc=>exact numL_nn b hb r _ v (by have:=Int.mul_nonneg hn hb;omega) h
  ·cases h
theorem num_nn (s:ByteArray):0 ≤ (numSpec s 10 18).1:=by
 unfold numSpec
 split
 ·exact Int.le_refl _
 ·split
  ·next v hv=>exact numL_nn 10 (by decide) _ 0 v (Int.le_refl _) hv
  ·exact Int.le_refl _
def lenNm:ByteArray:=⟨#[99,111,110,116,101,110,116,45,108,101,110,103,116,104]⟩
def teNm:ByteArray:=⟨#[116,114,97,110,115,102,101,114,45,101,110,99,111,100,105,110,103]⟩
def lenNM:ByteArray:=⟨#[67,111,110,116,101,110,116,45,76,101,110,103,116,104]⟩
def teNM:ByteArray:=⟨#[84,114,97,110,115,102,101,114,45,69,110,99,111,100,105,110,103]⟩
theorem getS_nm (p q:ByteArray) (h:(bytesOf p).map foldC=(bytesOf q).map foldC) : ∀ fs,getS p fs=getS q fs
 | []=>rfl
 | f :: r=>by rw [getS,getS,getS_nm p q h r];unfold sameN;rw [h]
theorem listS_nm (p q:ByteArray) (h:(bytesOf p).map foldC=(bytesOf q).map foldC) (fs:List (S55)):listS p fs=listS q fs:=by unfold listS;rw [getS_nm p q h]
theorem len_nm:(bytesOf lenNM).map foldC=(bytesOf lenNm).map foldC:=by decide +kernel
theorem te_nm:(bytesOf teNM).map foldC=(bytesOf teNm).map foldC:=by decide +kernel
/-- Is a name there? -/
def thereS (name:ByteArray) (fs:List (S55)):Bool:=decide (((getS name fs).length:Int) > 0)
theorem there_f (fs:List (S55)) (name:ByteArray) (hf:FB fs) (hn:name.size ≤ 1048576) (k:Nat) (hk:fs.length < k):frame_there.f k fs name=some (thereS name fs):=by
 unfold frame_there.f
 rw [Get_f fs name hf hn k hk,Option.bind_some];rfl
theorem thereLen_f (fs:List (S55)) (hf:FB fs) (k:Nat) (hk:fs.length < k):frame_there.f k fs ⟨#[67,111,110,116,101,110,116,45,76,101,110,103,116,104]⟩=some (thereS lenNm fs):=by
 have h:=there_f fs lenNM hf (by decide) k hk
 have e:thereS lenNM fs=thereS lenNm fs:=by unfold thereS;rw [getS_nm _ _ len_nm]
 rw [e] at h
 exact h
theorem thereTe_f (fs:List (S55)) (hf:FB fs) (k:Nat) (hk:fs.length < k):frame_there.f k fs ⟨#[84,114,97,110,115,102,101,114,45,69,110,99,111,100,105,110,103]⟩=some (thereS teNm fs):=by
 have h:=there_f fs teNM hf (by decide) k hk
 have e:thereS teNM fs=thereS teNm fs:=by unfold thereS;rw [getS_nm _ _ te_nm]
 rw [e] at h
 exact h
/-- The length that parts tell. -/
def lenS:List ByteArray → Int × Bool
 | []=>(0,false)
 | p :: r=>if (numSpec p 10 18).2=true∧(r.all fun q=>decide (numSpec q 10 18=((numSpec p 10 18).1,true)))=true then ((numSpec p 10 18).1,true) else (0,false)
theorem len_rest (ps:List ByteArray) (hl:ps.length ≤ 1048577000) (hs : ∀ p ∈ ps,p.size ≤ 1048576) (n:Int) (hn:0 ≤ n) (d:Nat) : ∀ (k i:Nat),i + d=ps.length → d + 2100000 ≤ k →
  frame_length.l0 k n ps (ps.length:Int) (i:Int)=some (if ((ps.drop i).all fun q=>decide (numSpec q 10 18=(n,true)))=true then (n,true) else (0,false)):=by
 induction d with
 | zero =>
  intro k i hi hk
  obtain ⟨k,rfl⟩ : ∃ m,k=m + 1:=⟨k - 1,by omega⟩
  rw [frame_length.l0,if_neg (by omega),List.drop_of_length_le (by omega),List.all_nil,if_pos rfl,decide_eq_true hn]
 | succ d ih =>
  intro k i hi hk
  obtain ⟨k,rfl⟩ : ∃ m,k=m + 1:=⟨k - 1,by omega⟩
  have hlt:i < ps.length:=by omega
  have hb:=hs _ (List.getElem_mem hlt)
  have hw:wrap64 ((i:Int) + 1)=((i + 1:Nat):Int):=by unfold wrap64;omega
  rw [frame_length.l0,if_pos (by omega),if_pos (by omega),if_pos (by omega),rdB_at ps i hlt,Decimal_f _ (by omega) k (by omega),Option.bind_some,hw,List.drop_eq_getElem_cons hlt,List.all_cons]
  obtain ⟨z,hz⟩ : ∃ z,z=numSpec ps[i] 10 18:=⟨_,rfl⟩
  rw [← hz]
  by_cases h1:z.2=true
  ·rw [if_pos h1,if_pos hn]
   by_cases h2:z.1=n
   ·have e:z=(n,true):=Prod.ext h2 h1
    rw [if_pos h2,h2,ih k (i + 1) (by omega) (by omega),decide_eq_true e,Bool.true_and]
   ·have e : ¬ z=(n,true):=fun e=>h2 (by rw [e])
    rw [if_neg h2,decide_eq_false e,Bool.false_and,if_neg (by simp)]
  ·have e : ¬ z=(n,true):=fun e=>h1 (by rw [e])
   rw [if_neg h1,decide_eq_false e,Bool.false_and,if_neg (by simp)]
theorem length_fs (fs:List (S55)) (hf:FB fs) (k:Nat) (hk:1060000000 ≤ k):frame_length.f k fs=some (if listS lenNm fs=[] then (-1,false) else lenS (listS lenNm fs)):=by
 have hlb:=list_bounds fs lenNm hf
 obtain ⟨ps,hps⟩ : ∃ ps,ps=listS lenNm fs:=⟨_,rfl⟩
 have hL:field_List.f k fs (⟨#[67,111,110,116,101,110,116,45,76,101,110,103,116,104]⟩:ByteArray)=some ps:=by
  have h:=List_f fs lenNM hf (by decide) k (by omega)
  rw [listS_nm _ _ len_nm,← hps] at h
  exact h
 unfold frame_length.f
 rw [hL,Option.bind_some,← hps]
 rw [← hps] at hlb
 obtain ⟨k,rfl⟩ : ∃ m,k=m + 1:=⟨k - 1,by omega⟩
 cases ps with
 | nil =>
  rw [frame_length.l0,if_neg (by simp),if_pos rfl]
  rfl
 | cons p r =>
  have hb:=hlb.2 p List.mem_cons_self
  have hr0:rdOf ByteArray.empty (p :: r) 0=p:=rdB_at (p :: r) 0 (by simp)
  rw [frame_length.l0,if_pos (by simp only [List.length_cons];omega),if_pos (by omega),if_pos (by simp only [List.length_cons];omega),hr0,Decimal_f _ (by omega) k (by omega),Option.bind_some,show (if (p :: r)=[] then ((-1:Int),false) else lenS (p :: r))=lenS (p :: r) from if_neg (by simp),lenS]
  obtain ⟨z,hz⟩ : ∃ z,z=numSpec p 10 18:=⟨_,rfl⟩
  have hnn:=num_nn p
  rw [← hz] at hnn ⊢
  by_cases h1:z.2=true
  ·have h:=len_rest (p :: r) hlb.1 hlb.2 z.1 hnn r.length k 1 (by simp only [List.length_cons];omega) (by have:=hlb.1;simp only [List.length_cons] at this;omega)
   have h' : frame_length.l0 k z.1 (p :: r) ((p :: r).length:Int) 1=_:=h
   rw [if_pos h1,if_neg (by decide),show wrap64 (0 + 1)=1 by unfold wrap64;omega,h']
   simp only [List.drop_succ_cons,List.drop_zero]
   by_cases h2:(r.all fun q=>decide (numSpec q 10 18=(z.1,true)))=true
   ·rw [if_pos h2,if_pos ⟨h1,h2⟩]
   ·rw [if_neg h2,if_neg (fun h=>h2 h.2)]
  ·rw [if_neg h1,if_neg (fun h=>h1 h.1)]
def chunkedW:ByteArray:=⟨#[99,104,117,110,107,101,100]⟩
/-- Are they chunked? -/
def chunkedS (fs:List (S55)):Bool:=match listS teNm fs with|[p]=>sameN p chunkedW|_=>false
theorem chunked_f (fs:List (S55)) (hf:FB fs) (k:Nat) (hk:1049600 ≤ k):frame_chunked.f k fs=some (chunkedS fs):=by
 have hlb:=list_bounds fs teNm hf
 have hL:field_List.f k fs (⟨#[84,114,97,110,115,102,101,114,45,69,110,99,111,100,105,110,103]⟩:ByteArray)=some (listS teNm fs):=by
  have h:=List_f fs teNM hf (by decide) k (by omega)
  rw [listS_nm _ _ te_nm] at h
  exact h
 unfold frame_chunked.f chunkedS
 rw [hL,Option.bind_some]
 match hps:listS teNm fs with
 | []=>rw [if_neg (by simp)]
 | [p] =>
  rw [hps] at hlb
  have hb:=hlb.2 p List.mem_cons_self
  have hr0:rdOf ByteArray.empty [p] 0=p:=rdB_at [p] 0 (by simp)
  rw [if_pos (by simp),if_pos (by simp),hr0,same_f p _ (by omega) (by decide),Option.bind_some]
  rfl
 | p :: q :: r=>rw [if_neg (by simp only [List.length_cons];omega)]
/-- How long a request's body is. -/
def reqLen (fs:List (S55)) (minor:Int):Int × Bool × Int :=
 if thereS teNm fs=true then (if thereS lenNm fs=true ∨ minor=0 then (0,false,400) else if chunkedS fs=true then (0,true,0) else (0,false,501))
 else if thereS lenNm fs=true then (if (lenS (listS lenNm fs)).2=true then (if (lenS (listS lenNm fs)).1 > 4096 then (0,false,413) else ((lenS (listS lenNm fs)).1,false,0)) else (0,false,400)) else (0,false,0)
theorem lenS_if (ps:List ByteArray):(if ps=[] then ((-1:Int),false) else lenS ps).2=(lenS ps).2∧((lenS ps).2=true → (if ps=[] then ((-1:Int),false) else lenS ps).1=(lenS ps).1):=by
 by_cases h:ps=[]
 ·rw [if_pos h,h];exact ⟨rfl,fun h=>by cases h⟩
 ·rw [if_neg h];exact ⟨rfl,fun _=>rfl⟩
theorem frameReq_f (fs:List (S55)) (minor:Int) (hf:FB fs) (k:Nat) (hk:1060000010 ≤ k):frame_Request.f k fs minor=some (reqLen fs minor):=by
 have hfl:=hf.1
 obtain ⟨k,rfl⟩ : ∃ m,k=m + 2:=⟨k - 2,by omega⟩
 obtain ⟨hl1,hl2⟩:=lenS_if (listS lenNm fs)
 unfold frame_Request.f reqLen
 rw [thereLen_f fs hf _ (by omega),Option.bind_some,thereTe_f fs hf _ (by omega),Option.bind_some,length_fs fs hf _ (by omega),Option.bind_some]
 obtain ⟨z,hz⟩ : ∃ z,z=(if listS lenNm fs=[] then ((-1:Int),false) else lenS (listS lenNm fs)):=⟨_,rfl⟩
 rw [← hz] at hl1 hl2 ⊢
 obtain ⟨y,hy⟩ : ∃ y,y=lenS (listS lenNm fs):=⟨_,rfl⟩
 rw [← hy] at hl1 hl2 ⊢
 have hj1 : ∀ L T b,frame_Request.j1 (k + 1) L T z.1 z.2 b=some (if b=true then (0,false,501) else if T=true then (0,true,0) else if L=true then (if y.2=true then (if y.1 > 4096 then (0,false,413) else (y.1,false,0)) else (0,false,400)) else (0,false,0)):=by
  intro L T b
  rw [frame_Request.j1,hl1]
  cases b <;> cases T <;> cases L <;> try rfl
  cases h:y.2
  ·rfl
  ·rw [hl2 h]
   by_cases h9:y.1 > 4096
   ·simp [h9]
   ·simp [h9]
 have hj0 : ∀ L T x,frame_Request.j0 (k + 2) fs L T z.1 z.2 x=some (if x=true then (0,false,400) else if T=true then (if chunkedS fs=true then (0,true,0) else (0,false,501)) else if L=true then (if y.2=true then (if y.1 > 4096 then (0,false,413) else (y.1,false,0)) else (0,false,400)) else (0,false,0)):=by
  intro L T x
  rw [frame_Request.j0,chunked_f fs hf (k + 1) (by omega),Option.bind_some,hj1,hj1]
  cases x <;> cases T <;> cases chunkedS fs <;> rfl
 rw [hj0,hj0,hj0]
 by_cases hm:minor=0
 ·rw [beq_iff_eq.2 hm]
  cases thereS teNm fs <;> cases thereS lenNm fs <;> simp [hm]
 ·rw [beq_eq_false_iff_ne.2 hm]
  cases thereS teNm fs <;> cases thereS lenNm fs <;> simp [hm]
/-- How a response's body is told. -/
def noBody (method:ByteArray) (code:Int):Bool:=(method.toList == [72,69,65,68]) || (decide (code < 200) || ((code == 204) || (code == 304)))
def respLen (method:ByteArray) (code minor:Int) (fs:List (S55)):Int × Int × Bool :=
 if noBody method code=true then (0,0,true)
 else if (reqLen fs minor).2.2=0 then (if (reqLen fs minor).2.1=true then (2,0,true) else if thereS lenNm fs=true then (1,(reqLen fs minor).1,true) else (3,0,true)) else (0,0,false)
theorem frameResp_f (method:ByteArray) (code:Int) (reason:ByteArray) (minor:Int) (fs:List (S55)) (b:List Int) (hf:FB fs) (k:Nat) (hk:1060000020 ≤ k):frame_Response.f k method code reason minor fs b=some (respLen method code minor fs):=by
 have hfl:=hf.1
 obtain ⟨k,rfl⟩ : ∃ m,k=m + 1:=⟨k - 1,by omega⟩
 have hj : ∀ x,frame_Response.j0 (k + 1) x code reason minor fs b=some (if x=true then (0,0,true) else if (reqLen fs minor).2.2=0 then (if (reqLen fs minor).2.1=true then (2,0,true) else if thereS lenNm fs=true then (1,(reqLen fs minor).1,true) else (3,0,true)) else (0,0,false)):=by
  intro x
  rw [frame_Response.j0,frameReq_f fs minor hf k (by omega),Option.bind_some,thereLen_f fs hf k (by omega),Option.bind_some]
  by_cases h1:(reqLen fs minor).2.2=0
  ·cases x <;> cases (reqLen fs minor).2.1 <;> cases thereS lenNm fs <;> simp [h1]
  ·cases x <;> simp [h1]
 unfold frame_Response.f respLen noBody
 by_cases h1:method.toList=[72,69,65,68]
 ·rw [if_pos h1,hj,if_pos rfl,beq_iff_eq.2 h1,Bool.true_or,if_pos rfl]
 ·rw [if_neg h1,beq_eq_false_iff_ne.2 h1,Bool.false_or]
  by_cases h2:code < 200
  ·rw [if_pos h2,hj,if_pos rfl,decide_eq_true h2,Bool.true_or,if_pos rfl]
  ·rw [if_neg h2,decide_eq_false h2,Bool.false_or]
   by_cases h3:code=204
   ·rw [if_pos h3,hj,if_pos rfl,beq_iff_eq.2 h3,Bool.true_or,if_pos rfl]
   ·rw [if_neg h3,hj,beq_eq_false_iff_ne.2 h3,Bool.false_or]
/-- The line at the place i of l,with the bound m;d bytes are left. -/
def cutAt (l:List Int) (m:Int):Nat → Int → (ByteArray × Int × Int)
 | 0,_=>((⟨#[]⟩:ByteArray),0,0)
 | d + 1,i =>
  if rd l i=10 then ((⟨#[]⟩:ByteArray),0,20)
  else if rd l i=13 then
   (if i + 1 < (l.length:Int) then (if rd l (i + 1)=10 then (strOfNums (l.take i.toNat),i + 2,0) else ((⟨#[]⟩:ByteArray),0,20)) else ((⟨#[]⟩:ByteArray),0,0))
  else if m ≤ i then ((⟨#[]⟩:ByteArray),0,2) else cutAt l m d (i + 1)
theorem cut_l0 (l:List Int) (a:Int) (hn:l.length ≤ 140737488355328) (d:Nat) : ∀ (k:Nat) (i:Int),0 ≤ i → (l.length:Int) - i=d → 3 * d + 3 ≤ k →
  line_Cut.l0 k l a l (l.length:Int) i=some (cutAt l (mx a 0) d i):=by
 induction d with
 | zero =>
  intro k i h0 hd hk
  obtain ⟨k,rfl⟩ : ∃ m,k=m + 1:=⟨k - 1,by omega⟩
  simp only [line_Cut.l0,cutAt];rw [if_neg (by omega)]
 | succ d ih =>
  intro k i h0 hd hk
  obtain ⟨k,rfl⟩ : ∃ m,k=m + 3:=⟨k - 3,by omega⟩
  have hlt:i < (l.length:Int):=by omega
  have hw1:wrap64 (i + 1)=i + 1:=w64 1 h0 hlt hn (by omega) (by omega)
  have hw2:wrap64 (i + 2)=i + 2:=w64 2 h0 hlt hn (by omega) (by omega)
  have ih' := ih k (i + 1) (by omega) (by omega) (by omega)
  unfold line_Cut.l0
  rw [if_pos hlt,if_pos h0,if_pos hlt]
  unfold line_Cut.j1 line_Cut.j2
  simp only [cutAt,hw1,hw2,ih']
  by_cases h10:rd l i=10
  ·simp [h10]
  ·rw [if_neg h10]
   by_cases h13:rd l i=13
   ·simp only [h13]
    by_cases h1:i + 1 < (l.length:Int)
    ·by_cases hr:rd l (i + 1)=10
     ·have hne : ¬ (i + 1=(l.length:Int)):=by omega
      have hle:i ≤ (l.length:Int):=by omega
      have h01:0 ≤ i + 1:=by omega
      simp [h1,hr,hne,hle,h01,h0]
     ·have h01:0 ≤ i + 1:=by omega
      simp [h1,hr,h01]
    ·have he:i + 1=(l.length:Int):=by omega
     simp [he]
   ·simp only [h13,if_false,h10]
    by_cases hm:mx a 0 ≤ i
    ·simp [hm]
    ·simp [hm]
/-- What Cut tells. -/
def cutSpec (l:List Int) (a:Int):(ByteArray × Int × Int):=cutAt l (mx a 0) l.length 0
theorem cut_f (l:List Int) (a:Int) (hn:l.length ≤ 140737488355328) (k:Nat) (hk:3 * l.length + 3 ≤ k):line_Cut.f k l a=some (cutSpec l a):=by
 unfold line_Cut.f cutSpec
 exact cut_l0 l a hn l.length k 0 (by omega) (by omega) hk
theorem cutA_shape (l:List Int) (m:Int) (d:Nat) : ∀ (i:Int),0 ≤ i → (l.length:Int) - i=d →
  ((cutAt l m d i).2.1 > 0∧(cutAt l m d i).2.1 ≤ l.length∧strOfNums (l.take (cutAt l m d i).2.1.toNat)=(cutAt l m d i).1 ++ (⟨#[13,10]⟩:ByteArray)∧((cutAt l m d i).1.size:Int)=(cutAt l m d i).2.1 - 2∧(cutAt l m d i).2.2=0)
  ∨ ((cutAt l m d i).2.1=0∧(cutAt l m d i).1=(⟨#[]⟩:ByteArray)):=by
 induction d with
 | zero=>intro i h0 hd;right;simp [cutAt]
 | succ d ih =>
  intro i h0 hd
  have hlt:i < (l.length:Int):=by omega
  have ih' := ih (i + 1) (by omega) (by omega)
  simp only [cutAt]
  by_cases h10:rd l i=10
  ·simp [h10]
  ·rw [if_neg h10]
   by_cases h13:rd l i=13
   ·rw [if_pos h13]
    by_cases h1:i + 1 < (l.length:Int)
    ·rw [if_pos h1]
     by_cases hr:rd l (i + 1)=10
     ·rw [if_pos hr]
      left
      refine ⟨by show i + 2 > 0;omega,by show i + 2 ≤ _;omega,?_,?_,rfl⟩
      ·show strOfNums (l.take (i + 2).toNat)=_
       rw [take_two l i h0 h1,str_append,h13,hr]
       rfl
      ·show ((strOfNums (l.take i.toNat)).size:Int)=i + 2 - 2
       rw [str_size,List.length_take]
       omega
     ·rw [if_neg hr];right;exact ⟨rfl,rfl⟩
    ·rw [if_neg h1];right;exact ⟨rfl,rfl⟩
   ·rw [if_neg h13]
    by_cases hm:m ≤ i
    ·rw [if_pos hm];right;exact ⟨rfl,rfl⟩
    ·rw [if_neg hm];exact ih'
theorem cutS_shape (l:List Int) (m:Int) :
  (cutSpec l m).2.1 > 0∧(cutSpec l m).2.1 ≤ l.length∧((cutSpec l m).1.size:Int)=(cutSpec l m).2.1 - 2∧(cutSpec l m).2.2=0 ∨ (cutSpec l m).2.1=0∧(cutSpec l m).1=(⟨#[]⟩:ByteArray):=by
 rcases cutA_shape l (mx m 0) l.length 0 (by omega) (by omega) with h|h
 ·exact Or.inl ⟨h.1,h.2.1,h.2.2.2.1,h.2.2.2.2⟩
 ·exact Or.inr h
theorem index_append (sp:UInt8) (a b:List UInt8) (h:sp ∉ a):Lib.indexByte (a ++ sp :: b) sp=a.length:=by
 induction a with
 | nil=>simp [Lib.indexByte]
 | cons c a ih =>
  have hc:c ≠ sp:=fun e=>h (e ▸ List.mem_cons_self ..)
  have hb:(c == sp)=false:=by simpa using hc
  have h3:=ih (fun e=>h (List.mem_cons_of_mem _ e))
  have hn:((a.length:Int) == -1)=false:=by simp only [beq_eq_false_iff_ne];omega
  simp [Lib.indexByte,hb,h3,hn]
theorem index_none (sp:UInt8) (a:List UInt8) (h:sp ∉ a):Lib.indexByte a sp = -1:=by
 induction a with
 | nil=>simp [Lib.indexByte]
 | cons c a ih =>
  have hc:c ≠ sp:=fun e=>h (e ▸ List.mem_cons_self ..)
  have hb:(c == sp)=false:=by simpa using hc
  have h3:=ih (fun e=>h (List.mem_cons_of_mem _ e))
  simp [Lib.indexByte,hb,h3]
theorem slIndex (s:List UInt8) (sp:UInt8):stringslite_Index.f (mkS s) ⟨#[sp]⟩=some (Lib.indexByte s sp):=by
 show some (Lib.indexByte (mkS s).data.toList sp)=_
 rw [mkS_data]
theorem Cut_no (sp:UInt8) (s:List UInt8) (h:sp ∉ s):strings_Cut.f (mkS s) ⟨#[sp]⟩=some (mkS s,(⟨#[]⟩:ByteArray),false):=by
 unfold strings_Cut.f stringslite_Cut.f
 rw [slIndex,index_none sp s h,Option.bind_some,if_neg (by decide),Option.bind_some]
theorem Cut_yes (sp:UInt8) (a b:List UInt8) (h:sp ∉ a) (hn:(a ++ sp :: b).length ≤ 140737488355328):strings_Cut.f (mkS (a ++ sp :: b)) ⟨#[sp]⟩=some (mkS a,mkS b,true):=by
 unfold strings_Cut.f stringslite_Cut.f
 have hl:(a ++ sp :: b).length=a.length + b.length + 1:=by rw [List.length_append,List.length_cons];omega
 rw [hl] at hn
 have h1:((⟨#[sp]⟩:ByteArray).size:Int)=1:=rfl
 have hw:wrap64 ((a.length:Int) + 1)=(a.length:Int) + 1:=by unfold wrap64;omega
 have e1:((a.length:Int) + 1).toNat=a.length + 1:=by omega
 rw [slIndex,index_append sp a b h,Option.bind_some,h1,hw,mkS_size,hl,if_pos (by omega),if_pos (by omega),if_pos (by omega),if_pos (by omega),if_pos (by omega),Option.bind_some,e1,Int.toNat_natCast,mkS_extract,mkS_extract,List.drop_zero,Nat.sub_zero,List.take_left,← List.drop_drop,List.drop_left]
 rw [show List.drop 1 (sp :: b)=b from rfl,List.take_of_length_le (by omega)]
/-- What stands ahead of the first sp,and behind it. -/
theorem split_first (sp:UInt8) (s:List UInt8):sp ∉ s ∨ ∃ a b,s=a ++ sp :: b∧sp ∉ a:=by
 induction s with
 | nil=>exact .inl (by simp)
 | cons c s ih =>
  by_cases hc:c=sp
  ·exact .inr ⟨[],s,by rw [hc];rfl,by simp⟩
  ·rcases ih with h|⟨a,b,rfl,h⟩
   ·refine .inl fun hm=>?_
    rcases List.mem_cons.1 hm with e|e
    ·exact hc e.symm
    ·exact h e
   ·refine .inr ⟨c :: a,b,rfl,fun hm=>?_⟩
    rcases List.mem_cons.1 hm with e|e
    ·exact hc e.symm
    ·exact h e
theorem byte_cases {P:Int → Prop} (h : ∀ n:Fin 256,P (n.val:Int)) (c:Int) (h0:0 ≤ c) (h1:c ≤ 255):P c:=by
 obtain ⟨n,rfl⟩:=Int.eq_ofNat_of_zero_le h0
 exact h ⟨n,by omega⟩
def tokB (c:Int):Bool:=(sign_Token_1.f c).getD false
def valB (c:Int):Bool:=(sign_Value_1.f c).getD false
theorem Token_f (s:ByteArray) (h:s.size ≤ 140737488355328):sign_Token.f s=some (!s.toList.isEmpty && (bytesOf s).all tokB):=if_pos h
theorem Value_f (s:ByteArray) (h:s.size ≤ 140737488355328):sign_Value.f s=some ((bytesOf s).all valB):=if_pos h
theorem drop_all (p:Int → Bool) (s:ByteArray) (x:Int) (h0:0 ≤ x) (h:x < (s.size:Int)) :
  ((bytesOf s).drop x.toNat).all p=(p (bt s x) && ((bytesOf s).drop (x + 1).toNat).all p):=by
 rw [show (x + 1).toNat=x.toNat + 1 by omega]
 exact bytes_drop_all p s x h0 h
theorem drop_end (p:Int → Bool) (s:ByteArray) (x:Int) (h:(s.size:Int) ≤ x):((bytesOf s).drop x.toNat).all p=true:=by
 rw [List.drop_of_length_le (by rw [bytesOf_length];omega)];rfl
/-- Is a field right? -/
def rightB (a t:ByteArray):Bool:=decide (a.size ≤ 100) && ((!a.toList.isEmpty && (bytesOf a).all tokB) && (decide (t.size ≤ 1000) && ((bytesOf t).all valB && (mkS (trm t.data.toList)).toList == t.toList)))
theorem Trim_mk (s:ByteArray) (h:s.size ≤ 9223372036854775807):sign_Trim.f s=some (mkS (trm s.data.toList)):=Trim_f s h
theorem field_right_f (a t:ByteArray):field_right.f a t=some (rightB a t):=by
 unfold field_right.f rightB
 by_cases h1:(a.size:Int) ≤ 100
 ·rw [if_pos h1,Token_f a (by omega),Option.bind_some,decide_eq_true (show a.size ≤ 100 by omega),Bool.true_and]
  cases hT:(!a.toList.isEmpty && (bytesOf a).all tokB)
  ·rw [if_neg (by simp),Bool.false_and]
  ·rw [if_pos rfl,Bool.true_and]
   by_cases h2:(t.size:Int) ≤ 1000
   ·rw [if_pos h2,Value_f t (by omega),Option.bind_some,decide_eq_true (show t.size ≤ 1000 by omega),Bool.true_and]
    cases (bytesOf t).all valB
    ·rw [if_neg (by simp),Bool.false_and]
    ·rw [if_pos rfl,Bool.true_and,Trim_mk t (by omega),Option.bind_some]
   ·rw [if_neg h2,decide_eq_false (show ¬ t.size ≤ 1000 by omega),Bool.false_and]
 ·rw [if_neg h1,decide_eq_false (show ¬ a.size ≤ 100 by omega),Bool.false_and]
def fieldOk (l:List UInt8):Bool:=if 58 ∈ l then rightB (mkS (l.takeWhile (· != 58))) (mkS (trm ((l.dropWhile (· != 58)).drop 1))) else false
theorem take_first (sp:UInt8) (a b:List UInt8) (h:sp ∉ a):(a ++ sp :: b).takeWhile (· != sp)=a∧((a ++ sp :: b).dropWhile (· != sp)).drop 1=b:=by
 induction a with
 | nil=>simp [List.takeWhile_cons,List.dropWhile_cons]
 | cons x a ih =>
  have hx:x ≠ sp:=fun e=>h (by rw [e];exact List.mem_cons_self ..)
  have:=ih (fun e=>h (List.mem_cons_of_mem _ e))
  simp only [List.cons_append,List.takeWhile_cons,List.dropWhile_cons,bne_iff_ne,ne_eq,hx,not_false_eq_true,if_true]
  exact ⟨by rw [this.1],this.2⟩
theorem fieldOk_no (l:List UInt8) (h:58 ∉ l):fieldOk l=false:=by unfold fieldOk;rw [if_neg h]
theorem fieldOk_yes (a b:List UInt8) (h:58 ∉ a):fieldOk (a ++ 58 :: b)=rightB (mkS a) (mkS (trm b)):=by
 unfold fieldOk
 obtain ⟨e1,e2⟩:=take_first 58 a b h
 rw [if_pos (by simp),e1,e2]
theorem field_f (l:List UInt8) (hn:l.length ≤ 140737488355328) : ∃ x y,field_Parse.f (mkS l)=some (x,y,if fieldOk l=true then 0 else 20):=by
 unfold field_Parse.f
 rcases split_first 58 l with h|⟨a,b,rfl,h⟩
 ·rw [Cut_no 58 l h,Option.bind_some,fieldOk_no l h]
  simp only
  rw [Trim_mk _ (by decide),Option.bind_some]
  exact ⟨_,_,rfl⟩
 ·rw [Cut_yes 58 a b h hn,Option.bind_some,fieldOk_yes a b h]
  simp only
  rw [Trim_mk _ (by rw [mkS_size];rw [List.length_append,List.length_cons] at hn;omega),Option.bind_some,if_pos trivial,field_right_f,Option.bind_some,mkS_data]
  cases rightB (mkS a) (mkS (trm b)) <;> exact ⟨_,_,rfl⟩
/-- The field that a line tells. -/
def fieldX (l:List UInt8):S55:=⟨mkS (l.takeWhile (· != 58)),mkS (trm ((l.dropWhile (· != 58)).drop 1))⟩
theorem field_ok (l:List UInt8) (hn:l.length ≤ 140737488355328) (hr:fieldOk l=true):field_Parse.f (mkS l)=some ((fieldX l).f0,(fieldX l).f1,0):=by
 unfold field_Parse.f
 rcases split_first 58 l with h|⟨a,b,rfl,h⟩
 ·rw [fieldOk_no l h] at hr;cases hr
 ·rw [fieldOk_yes a b h] at hr
  obtain ⟨e1,e2⟩:=take_first 58 a b h
  unfold fieldX
  rw [e1,e2,Cut_yes 58 a b h hn,Option.bind_some]
  simp only
  rw [Trim_mk _ (by rw [mkS_size];rw [List.length_append,List.length_cons] at hn;omega),Option.bind_some,if_pos trivial,field_right_f,Option.bind_some,mkS_data,hr]
  rfl
theorem field_no (l:List UInt8) (hn:l.length ≤ 140737488355328) (hr:fieldOk l=false) : ∃ x y,field_Parse.f (mkS l)=some (x,y,20):=by
 obtain ⟨x,y,h⟩:=field_f l hn
 rw [hr] at h
 exact ⟨x,y,h⟩
/-- The lines behind the first one;how many bytes the head has;a status. -/
def tailS (l:List Int) (e:Int):Nat → Nat → List ByteArray × Int × Int
 | 0,_=>([],0,0)
 | d + 1,p=>if (cutSpec (l.drop p) 2048).2.2=20 then ([],0,400)
  else if (cutSpec (l.drop p) 2048).2.1=0 then ([],0,e)
  else if (cutSpec (l.drop p) 2048).1.toList=[] then ([],(p:Int) + (cutSpec (l.drop p) 2048).2.1,0)
  else ((cutSpec (l.drop p) 2048).1 :: (tailS l e d (p + (cutSpec (l.drop p) 2048).2.1.toNat)).1,(tailS l e d (p + (cutSpec (l.drop p) 2048).2.1.toNat)).2)
/-- The lines of a head,without the empty one;how many bytes it has;a status. -/
def linesS (l:List Int) (e:Int):List ByteArray × Int × Int :=
 if (cutSpec l 2048).2.2=20 then ([],0,400)
 else if (cutSpec l 2048).2.1=0 then ([],0,e)
 else ((cutSpec l 2048).1 :: (tailS l e (l.length + 1) (cutSpec l 2048).2.1.toNat).1,(tailS l e (l.length + 1) (cutSpec l 2048).2.1.toNat).2)
/-- The fields that lines tell,n fields before them;a status. -/
def fieldsS:List ByteArray → Nat → List (S55) × Int
 | [],_=>([],0)
 | s :: ss,n=>if fieldOk s.data.toList=true then (if n=40 then ([],431) else if (fieldsS ss (n + 1)).2=0 then (fieldX s.data.toList :: (fieldsS ss (n + 1)).1,0) else ([],(fieldsS ss (n + 1)).2)) else ([],400)
def bdS (l:List Int):List Int:=l.take 2048
def extS (l:List Int):Int:=if 2048 ≤ (l.length:Int) then 431 else 0
theorem bdS_length (l:List Int):(bdS l).length ≤ 2048∧(bdS l).length ≤ l.length:=by unfold bdS;rw [List.length_take];omega
theorem mn_take (l:List Int):l.take (mn (l.length:Int) 2048).toNat=bdS l:=by
 unfold bdS mn
 split
 ·rfl
 ·rw [Int.toNat_natCast,List.take_of_length_le (Nat.le_refl _),List.take_of_length_le (by omega)]
theorem rightB_size {a t:ByteArray} (h:rightB a t=true):a.size ≤ 100∧t.size ≤ 1000:=by
 unfold rightB at h
 simp only [Bool.and_eq_true,decide_eq_true_eq] at h
 exact ⟨h.1,h.2.2.1⟩
theorem fieldX_right {l:List UInt8} (h:fieldOk l=true):rightB (fieldX l).f0 (fieldX l).f1=true:=by
 unfold fieldOk at h
 split at h
 ·exact h
 ·cases h
theorem fieldsS_err (ss:List ByteArray) : ∀ n,(fieldsS ss n).2 ≠ 0 → (fieldsS ss n).1=[]:=by
 cases ss with
 | nil=>intro n h;exact absurd rfl h
 | cons s ss =>
  intro n h
  rw [fieldsS] at h ⊢
  split at h
  ·rename_i h1
   rw [if_pos h1]
   split at h
   ·rename_i h2;rw [if_pos h2]
   ·rename_i h2
    rw [if_neg h2]
    split at h
    ·exact absurd rfl h
    ·rename_i h3;rw [if_neg h3]
  ·rename_i h1;rw [if_neg h1]
theorem fieldsS_FB (ss:List ByteArray) : ∀ n,n ≤ 40 → (fieldsS ss n).1.length + n ≤ 40 ∧ ∀ f ∈ (fieldsS ss n).1,rightB f.f0 f.f1=true:=by
 induction ss with
 | nil=>intro n hn;exact ⟨by simpa [fieldsS] using hn,fun f hf=>by cases hf⟩
 | cons s ss ih =>
  intro n hn
  rw [fieldsS]
  split
  ·rename_i h1
   split
   ·exact ⟨by simpa using hn,fun f hf=>by cases hf⟩
   ·rename_i h2
    have:=ih (n + 1) (by omega)
    split
    ·refine ⟨by simp only [List.length_cons];omega,fun f hf=>?_⟩
     rcases List.mem_cons.1 hf with rfl|hf
     ·exact fieldX_right h1
     ·exact this.2 f hf
    ·exact ⟨by simpa using hn,fun f hf=>by cases hf⟩
  ·exact ⟨by simpa using hn,fun f hf=>by cases hf⟩
theorem fields_FB (ss:List ByteArray):FB (fieldsS ss 0).1:=by
 have:=fieldsS_FB ss 0 (by omega)
 refine ⟨by omega,fun f hf=>?_⟩
 have:=rightB_size (this.2 f hf)
 omega
theorem tail_le (l:List Int) (e:Int) : ∀ (d p:Nat),p ≤ l.length → (tailS l e d p).2.1 ≤ (l.length:Int)∧0 ≤ (tailS l e d p).2.1∧((tailS l e d p).2.1 ≠ 0 → (tailS l e d p).2.2=0):=by
 intro d
 induction d with
 | zero=>intro p hp;exact ⟨by simp [tailS],by simp [tailS],fun _=>rfl⟩
 | succ d ih =>
  intro p hp
  have hsh:=cutS_shape (l.drop p) 2048
  have hdl:(l.drop p).length=l.length - p:=List.length_drop ..
  rw [tailS]
  split
  ·exact ⟨by simp,by simp,fun h=>absurd rfl h⟩
  ·split
   ·exact ⟨by simp,by simp,fun h=>absurd rfl h⟩
   ·rename_i h2
    have hz:(cutSpec (l.drop p) 2048).2.1 > 0∧(cutSpec (l.drop p) 2048).2.1 ≤ (l.length:Int) - p:=by rcases hsh with h|h <;> omega
    split
    ·exact ⟨by show (p:Int) + _ ≤ _;omega,by show 0 ≤ (p:Int) + _;omega,fun _=>rfl⟩
    ·exact ih _ (by omega)
theorem lines_le (l:List Int) (e:Int):(linesS l e).2.1 ≤ (l.length:Int)∧0 ≤ (linesS l e).2.1∧((linesS l e).2.1 ≠ 0 → (linesS l e).2.2=0)∧((linesS l e).1=[] → (linesS l e).2.1=0):=by
 have hsh:=cutS_shape l 2048
 unfold linesS
 split
 ·exact ⟨by simp,by simp,fun h=>absurd rfl h,fun _=>rfl⟩
 ·split
  ·exact ⟨by simp,by simp,fun h=>absurd rfl h,fun _=>rfl⟩
  ·rename_i h2
   have hz:(cutSpec l 2048).2.1 > 0∧(cutSpec l 2048).2.1 ≤ (l.length:Int):=by rcases hsh with h|h <;> omega
   have:=tail_le l e (l.length + 1) (cutSpec l 2048).2.1.toNat (by omega)
   exact ⟨this.1,this.2.1,this.2.2,fun h=>by cases h⟩
/-- A line's text has no 10,no 13: it is no longer than what it was cut from. -/
theorem cut_len (l:List Int) (h:l.length ≤ 2048):(cutSpec l 2048).1.size ≤ 2048:=by
 rcases cutS_shape l 2048 with h1|h1
 ·omega
 ·rw [h1.2];decide
def headEnd (t:List ByteArray × Int × Int) (g:List (S55) × Int) (fs:List (S55)) (st:Option ByteArray):List (S55) × Int × Int × Option ByteArray :=
 if g.2=0 then (if t.2.1=0 then ([],0,t.2.2,st) else (fs ++ g.1,t.2.1,0,st)) else ([],0,g.2,st)
theorem head_l (fst:Nat → ByteArray → Option Int) (l:List Int) (hl:l.length ≤ 4398046511104) (st:Option ByteArray) : ∀ (d p k:Nat) (fs:List (S55)),0 < p → p ≤ (bdS l).length → (bdS l).length < p + d → fs.length ≤ 40 → d + 6200 ≤ k →
  http_head.l fst k l fs (p:Int) st=some (headEnd (tailS (bdS l) (extS l) d p) (fieldsS (tailS (bdS l) (extS l) d p).1 fs.length) fs st):=by
 intro d
 induction d with
 | zero=>intro p k fs _ h1 h2;omega
 | succ d ih =>
  intro p k fs h0 hp hd hf hk
  obtain ⟨k,rfl⟩ : ∃ m,k=m + 1:=⟨k - 1,by omega⟩
  have hb:=bdS_length l
  have hsh:=cutS_shape ((bdS l).drop p) 2048
  have hdl:((bdS l).drop p).length=(bdS l).length - p:=List.length_drop ..
  have hcl:=cut_len ((bdS l).drop p) (by omega)
  rw [http_head.l,mn_take,if_pos (by omega),if_pos (by omega),Int.toNat_natCast,cut_f _ 2048 (by omega) k (by omega),Option.bind_some,tailS]
  obtain ⟨c,hc⟩ : ∃ c,c=cutSpec ((bdS l).drop p) 2048:=⟨_,rfl⟩
  rw [← hc] at hsh hcl ⊢
  by_cases h1:c.2.2=20
  ·rw [if_pos h1,if_pos h1];rfl
  ·rw [if_neg h1,if_neg h1]
   by_cases h2:c.2.1=0
   ·rw [if_pos h2,if_pos h2]
    unfold extS
    split <;> rfl
   ·have hz:c.2.1 > 0∧c.2.1 ≤ ((bdS l).length:Int) - p:=by rcases hsh with h|h <;> omega
    have hw:wrap64 ((p:Int) + c.2.1)=((p + c.2.1.toNat:Nat):Int):=by unfold wrap64;omega
    have hw2:(p:Int) + c.2.1=((p + c.2.1.toNat:Nat):Int):=by omega
    rw [if_neg h2,if_neg h2,if_neg (show ¬ (p:Int)=0 by omega),hw,hw2]
    by_cases h3:c.1.toList=[]
    ·rw [if_pos h3,if_pos h3]
     unfold headEnd
     rw [fieldsS,if_pos rfl,if_neg (show ¬ ((p + c.2.1.toNat:Nat):Int)=0 by omega),List.append_nil]
    ·rw [if_neg h3,if_neg h3]
     have hcn:c.1.data.toList.length ≤ 2048:=by rw [data_length];exact hcl
     simp only [fieldsS]
     cases hfo:fieldOk c.1.data.toList
     ·obtain ⟨x,y,hxy⟩:=field_no c.1.data.toList (by omega) hfo
      rw [mkS_self] at hxy
      rw [hxy,Option.bind_some,if_neg (show ¬ ((20:Int)=0) by decide),if_neg (by simp)]
      rfl
     ·have hxy:=field_ok c.1.data.toList (by omega) hfo
      rw [mkS_self] at hxy
      rw [hxy,Option.bind_some,if_pos rfl,if_pos rfl]
      by_cases h4:fs.length=40
      ·rw [if_pos (show (fs.length:Int)=40 by omega),if_pos h4];rfl
      ·rw [if_neg (show ¬ (fs.length:Int)=40 by omega),if_neg h4,if_pos (by omega)]
       have hlen:(fs ++ [fieldX c.1.data.toList]).length=fs.length + 1:=by simp
       have:=ih (p + c.2.1.toNat) k (fs ++ [fieldX c.1.data.toList]) (by omega) (by omega) (by omega) (by omega) (by omega)
       rw [hlen] at this
       refine this.trans ?_
       obtain ⟨t,ht⟩ : ∃ t,t=tailS (bdS l) (extS l) d (p + c.2.1.toNat):=⟨_,rfl⟩
       rw [← ht]
       obtain ⟨g,hg⟩ : ∃ g,g=fieldsS t.1 (fs.length + 1):=⟨_,rfl⟩
       rw [← hg]
       unfold headEnd
       by_cases h5:g.2=0
       ·rw [if_pos h5,if_pos h5,if_pos rfl]
        by_cases h6:t.2.1=0
        ·rw [if_pos h6,if_pos h6]
        ·rw [if_neg h6,if_neg h6,List.append_assoc];rfl
       ·rw [if_neg h5,if_neg h5,if_neg h5]
theorem head_nil (fst:Nat → ByteArray → Option Int) (l:List Int) (k:Nat) (hk:8300 ≤ k) (h:(linesS (bdS l) (extS l)).1=[]):http_head.f fst (k + 1) l=some ([],0,(linesS (bdS l) (extS l)).2.2,none):=by
 have hb:=bdS_length l
 unfold linesS at h ⊢
 rw [http_head.f,http_head.l,mn_take,if_pos (by omega),if_pos (by omega),show (0:Int).toNat=0 from rfl,List.drop_zero,cut_f _ 2048 (by omega) k (by omega),Option.bind_some]
 obtain ⟨c,hc⟩ : ∃ c,c=cutSpec (bdS l) 2048:=⟨_,rfl⟩
 rw [← hc] at h ⊢
 by_cases h1:c.2.2=20
 ·rw [if_pos h1,if_pos h1]
 ·rw [if_neg h1] at h ⊢
  rw [if_neg h1]
  by_cases h2:c.2.1=0
  ·rw [if_pos h2,if_pos h2]
   unfold extS
   split <;> rfl
  ·rw [if_neg h2] at h;cases h
theorem head_cons (fst:Nat → ByteArray → Option Int) (l:List Int) (hl:l.length ≤ 4398046511104) (k:Nat) (hk:8300 ≤ k) (s:ByteArray) (ss:List ByteArray) (h:(linesS (bdS l) (extS l)).1=s :: ss) :
  http_head.f fst (k + 1) l=(fst k s).bind fun code=>if code=0 then some (headEnd (ss,(linesS (bdS l) (extS l)).2) (fieldsS ss 0) [] (some s)) else some ([],0,code,some s):=by
 have hb:=bdS_length l
 have hsh:=cutS_shape (bdS l) 2048
 unfold linesS at h ⊢
 rw [http_head.f,http_head.l,mn_take,if_pos (by omega),if_pos (by omega),show (0:Int).toNat=0 from rfl,List.drop_zero,cut_f _ 2048 (by omega) k (by omega),Option.bind_some]
 obtain ⟨c,hc⟩ : ∃ c,c=cutSpec (bdS l) 2048:=⟨_,rfl⟩
 rw [← hc] at h hsh ⊢
 by_cases h1:c.2.2=20
 ·rw [if_pos h1] at h;cases h
 ·rw [if_neg h1] at h ⊢
  rw [if_neg h1]
  by_cases h2:c.2.1=0
  ·rw [if_pos h2] at h;cases h
  ·have hz:c.2.1 > 0∧c.2.1 ≤ ((bdS l).length:Int):=by rcases hsh with h|h <;> omega
   have hw:wrap64 ((0:Int) + c.2.1)=((c.2.1.toNat:Nat):Int):=by unfold wrap64;omega
   rw [if_neg h2] at h ⊢
   rw [if_neg h2,if_pos rfl,hw,head_l fst l hl (some c.1) ((bdS l).length + 1) c.2.1.toNat k [] (by omega) (by omega) (by omega) (by simp) (by omega)]
   simp only [List.cons.injEq] at h
   rw [← h.1,← h.2]
   rfl
end Go.Proofs.YtfjeinnemimjoaaGreatDoor.Pure
namespace Go.Proofs.YtfjeinnemimjoaaGreatDoor.P
open Go.RowKit Go.Proofs.YtfjeinnemimjoaaGreatDoorW.PrintWords Go.Proofs.YtfjeinnemimjoaaGreatDoorW.PrintLast Go.Proofs.YtfjeinnemimjoaaGreatDoorW.PrintMore
attribute [local go_sem] max2_int min2_int max_two min_two max_three min_three max_four min_four
set_option linter.unusedVariables false
set_option linter.unusedSimpArgs false
def line_digit.f (a0:Int):Option (Bool):=if a0 ≥ 48 then (some (decide (a0 ≤ 57))) else (some false)
def line_numbered.f (a0:ByteArray):Option (Bool):=(strings_CutPrefix.f a0 (⟨#[72,84,84,80,47]⟩:ByteArray)).bind fun bt147=>(if bt147.2=true then (if (bt147.1.size:Int)=3 then (if 0 < (bt147.1.size:Int) then ((line_digit.f (bt bt147.1 0)).bind fun t149=>(if t149=true then (if 1 < (bt147.1.size:Int) then (if (bt bt147.1 1)=46 then (if 2 < (bt147.1.size:Int) then ((line_digit.f (bt bt147.1 2)).bind fun t150=>(some t150)) else (none)) else (some false)) else (none)) else (some false))) else (none)) else (some false)) else (some false))
def sign_Target_1.f (a0:Int):Option (Bool):=if a0 ≥ 33 then (some (decide (a0 ≤ 126))) else (some false)
def sign_Target.f (a0:ByteArray):Option Bool:=if a0.size ≤ 140737488355328 then some (!a0.toList.isEmpty && (bytesOf a0).all fun c=>(sign_Target_1.f c).getD false) else none
def line_target.f (a0:ByteArray) (a1:ByteArray):Option (Bool):=(sign_Target.f a1).bind fun t146=>(if t146=true then (if 0 < (a1.size:Int) then (if (bt a1 0)=47 then (some true) else (if a1.toList=([42]:List UInt8) then (some (a0.toList == ([79,80,84,73,79,78,83]:List UInt8))) else (some false))) else (none)) else (some false))
def line_Request.j0:Nat → List ByteArray → Bool → Option (ByteArray × ByteArray × Int × (List (S55)) × List Int × Int)
 | 0,_,_=>none
 | k + 1,x4,x35=>if x35=true then (some ((⟨#[]⟩:ByteArray),(⟨#[]⟩:ByteArray),0,([]:List (S55)),([]:List Int),400)) else (if 2 < (x4.length:Int) then ((line_minor.f (rdOf ByteArray.empty x4 2)).bind fun bt162=>(if 1 < (x4.length:Int) then (if ((rdOf ByteArray.empty x4 1).size:Int) > 512 then (some ((⟨#[]⟩:ByteArray),(⟨#[]⟩:ByteArray),0,([]:List (S55)),([]:List Int),414)) else ((line_numbered.f (rdOf ByteArray.empty x4 2)).bind fun t166=>(if t166=true then (if bt162.2=true then (if 0 < (x4.length:Int) then (some (rdOf ByteArray.empty x4 0,rdOf ByteArray.empty x4 1,bt162.1,([]:List (S55)),([]:List Int),0)) else (none)) else (some ((⟨#[]⟩:ByteArray),(⟨#[]⟩:ByteArray),0,([]:List (S55)),([]:List Int),505))) else (some ((⟨#[]⟩:ByteArray),(⟨#[]⟩:ByteArray),0,([]:List (S55)),([]:List Int),400))))) else (none))) else (none))
def line_Request.f (k:Nat) (a0:ByteArray):Option (ByteArray × ByteArray × Int × (List (S55)) × List Int × Int):=(strings_Split.f k a0 (⟨#[32]⟩:ByteArray)).bind fun t152=>(if (t152.length:Int)=3 then (if 0 < (t152.length:Int) then (if ((rdOf ByteArray.empty t152 0).size:Int) > 20 then (line_Request.j0 k t152 true) else ((sign_Token.f (rdOf ByteArray.empty t152 0)).bind fun t157=>(if t157=true then (if 1 < (t152.length:Int) then ((line_target.f (rdOf ByteArray.empty t152 0) (rdOf ByteArray.empty t152 1)).bind fun t160=>(line_Request.j0 k t152 (!t160))) else (none)) else (line_Request.j0 k t152 true)))) else (none)) else (line_Request.j0 k t152 true))
/-- What its block holds: nothing,or the words of the line that was read last. -/
def ReqVal (x:Option ByteArray) (cs:Array Value):Prop:=match x with
 | none=>cs=#[.string ⟨#[]⟩,.string ⟨#[]⟩,.int .i64 0,.slice none 0 0,.slice none 0 0]
 | some s => ∃ (k:Nat) (r1 r2:ByteArray) (r3:Int) (r4:List (S55)) (r5:List Int) (r6:Int),line_Request.f k s=some (r1,r2,r3,r4,r5,r6)∧cs=#[.string r1,.string r2,.int .i64 r3,.slice none 0 0,.slice none 0 0]
theorem ReqVal.form {x:Option ByteArray} {cs:Array Value} (h:ReqVal x cs) : ∃ (m t:ByteArray) (mi:Int),cs=#[.string m,.string t,.int .i64 mi,.slice none 0 0,.slice none 0 0]:=by
 cases x with
 | none=>exact ⟨_,_,_,h⟩
 | some s=>obtain ⟨_,m,t,mi,_,_,_,_,h⟩:=h;exact ⟨m,t,mi,h⟩
end Go.Proofs.YtfjeinnemimjoaaGreatDoor.P
namespace Go.Proofs.YtfjeinnemimjoaaGreatDoor.Pure
open Go.RowKit Go.Proofs.YtfjeinnemimjoaaGreatDoor.P Go.Proofs.YtfjeinnemimjoaaGreatDoorW.PrintWords Go.Proofs.YtfjeinnemimjoaaGreatDoorW.PrintLast Go.Proofs.YtfjeinnemimjoaaGreatDoorW.PrintMore
set_option linter.unusedVariables false
set_option linter.unusedSimpArgs false
theorem blk_iff (b:UInt8):blk b=(decide (b=32) || decide (b=9)):=by
 unfold blk
 simp [List.contains_cons]
theorem blank_f (b:UInt8):tollbarref02_blank.f (b.toNat:Int)=some (blk b):=by
 unfold tollbarref02_blank.f
 rw [blk_iff]
 by_cases h:b=32
 ·subst h;rfl
 ·have h1 : ¬ ((b.toNat:Int)=32):=fun e=>h (UInt8.toNat_inj.1 (show b.toNat=32 by omega))
  rw [if_neg h1]
  by_cases h2:b=9
  ·subst h2;rfl
  ·have h3 : ¬ ((b.toNat:Int)=9):=fun e=>h2 (UInt8.toNat_inj.1 (show b.toNat=9 by omega))
   simp [h,h2,h3]
/-- Blanks behind taken away. -/
def rtrim (l:List UInt8):List UInt8:=(l.reverse.dropWhile blk).reverse
theorem rtrim_snoc (l:List UInt8) (c:UInt8):rtrim (l ++ [c])=if blk c=true then rtrim l else l ++ [c]:=by
 unfold rtrim
 rw [List.reverse_append,List.reverse_singleton,List.singleton_append,List.dropWhile_cons]
 split <;> simp
theorem rtrim_len (l:List UInt8):(rtrim l).length ≤ l.length:=by
 unfold rtrim
 rw [List.length_reverse]
 have:=(List.dropWhile_sublist blk (l:=l.reverse)).length_le
 rw [List.length_reverse] at this
 exact this
theorem snoc_parts (l:List UInt8) (c:UInt8) (hn:(l ++ [c]).length ≤ 4398046511104):((mkS (l ++ [c])).size:Int) > 0∧wrap64 (((mkS (l ++ [c])).size:Int) - 1)=(l.length:Int)∧((mkS (l ++ [c])).size:Int)=(l.length:Int) + 1∧bt (mkS (l ++ [c])) (l.length:Int)=(c.toNat:Int)∧(mkS (l ++ [c])).extract 0 l.length=mkS l:=by
 have hs:(mkS (l ++ [c])).size=l.length + 1:=by rw [mkS_size,List.length_append];rfl
 refine ⟨by omega,?_,by omega,?_,?_⟩
 ·rw [hs];rw [List.length_append] at hn;unfold wrap64;omega
 ·rw [bt_mk _ _ (by rw [List.length_append];simp)];simp
 ·rw [mkS_extract];simp
theorem rtail (n:Nat) : ∀ (l:List UInt8) (k:Nat),l.length=n → n < k → n ≤ 4398046511104 → tollbarref02_Trim.l1 k (mkS l)=some (mkS (rtrim l)):=by
 induction n with
 | zero =>
  intro l k hl hk _
  obtain ⟨k,rfl⟩ : ∃ m,k=m + 1:=⟨k - 1,by omega⟩
  obtain rfl:=List.eq_nil_of_length_eq_zero hl
  rw [tollbarref02_Trim.l1,if_neg (by rw [mkS_size];simp)]
  rfl
 | succ n ih =>
  intro l k hl hk hn
  obtain ⟨k,rfl⟩ : ∃ m,k=m + 1:=⟨k - 1,by omega⟩
  rcases List.eq_nil_or_concat l with rfl|⟨l',c,rfl⟩
  ·simp at hl
  ·rw [List.concat_eq_append] at hl ⊢
   rw [List.length_append] at hl
   obtain ⟨h1,h2,h3,h4,h5⟩:=snoc_parts l' c (by rw [List.length_append];omega)
   rw [tollbarref02_Trim.l1,if_pos h1,h2,if_pos (by omega),if_pos (by omega),h4,blank_f,Option.bind_some,rtrim_snoc]
   cases blk c
   ·rw [if_neg (by simp),if_neg (by simp)]
   ·rw [if_pos rfl,if_pos (by omega),if_pos rfl,Int.toNat_natCast,h5]
    exact ih l' k (by simpa using hl) (by omega) (by omega)
theorem rfront (n:Nat) : ∀ (l:List UInt8) (k:Nat),l.length=n → 2 * n + 3 ≤ k → n ≤ 4398046511104 → tollbarref02_Trim.l0 k (mkS l)=some (mkS (rtrim (l.dropWhile blk))):=by
 induction n with
 | zero =>
  intro l k hl hk hn
  obtain ⟨k,rfl⟩ : ∃ m,k=m + 2:=⟨k - 2,by omega⟩
  obtain rfl:=List.eq_nil_of_length_eq_zero hl
  rw [tollbarref02_Trim.l0,if_neg (by rw [mkS_size];simp),tollbarref02_Trim.j1]
  exact rtail 0 [] k rfl (by omega) (by omega)
 | succ n ih =>
  intro l k hl hk hn
  obtain ⟨k,rfl⟩ : ∃ m,k=m + 2:=⟨k - 2,by omega⟩
  cases l with
  | nil=>simp at hl
  | cons c l =>
   have hb:bt (mkS (c :: l)) 0=(c.toNat:Int):=by have:=bt_mk (c :: l) 0 (by simp);simpa using this
   have hs:(mkS (c :: l)).size=l.length + 1:=by rw [mkS_size];rfl
   rw [List.length_cons] at hl
   rw [tollbarref02_Trim.l0,if_pos (by omega),if_pos (by omega),hb,blank_f,Option.bind_some,List.dropWhile_cons]
   cases blk c
   ·rw [if_neg (by simp),if_neg (by simp),tollbarref02_Trim.j1]
    exact rtail (n + 1) (c :: l) k (by rw [List.length_cons];omega) (by omega) hn
   ·rw [if_pos rfl,if_pos (by omega),if_pos rfl,mkS_extract,List.take_of_length_le (by rw [hs];simp)]
    exact ih l (k + 1) (by omega) (by omega) (by omega)
theorem trm_two (l:List UInt8):trm l=rtrim (l.dropWhile blk):=by
 obtain ⟨pre,e1,h1⟩:=dw_split blk l
 obtain ⟨post,e2,h2⟩:=dw_split blk (l.dropWhile blk).reverse
 have e3:l.dropWhile blk=rtrim (l.dropWhile blk) ++ post.reverse:=by
  have:=congrArg List.reverse e2
  rw [List.reverse_reverse,List.reverse_append] at this
  exact this
 have hc:Clean (rtrim (l.dropWhile blk)):=by
  refine ⟨fun a ha=>?_,fun a ha=>?_⟩
  ·refine dw_head blk l a ?_
   rw [e3,List.head?_append,ha];rfl
  ·unfold rtrim at ha
   rw [List.getLast?_reverse] at ha
   exact dw_head blk _ a ha
 have e4:l=pre ++ rtrim (l.dropWhile blk) ++ post.reverse:=by rw [List.append_assoc,← e3];exact e1
 conv=>lhs;rw [e4]
 exact trm_around pre _ _ hc h1 (fun a ha=>h2 a (List.mem_reverse.1 ha))
theorem refTrim_f (s:ByteArray) (hs:s.size ≤ 4398046511104) (k:Nat) (hk:2 * s.size + 3 ≤ k):tollbarref02_Trim.f k s=sign_Trim.f s:=by
 rw [Trim_f s (by omega),trm_two]
 unfold tollbarref02_Trim.f
 have:=rfront s.size s.data.toList k (by rw [data_length]) hk hs
 rw [mkS_self] at this
 exact this
/-- The size that a chunk's line tells;is it one? -/
def sizeS (l:List UInt8):Int × Bool :=
 ((numSpec (mkS (rtrim (l.takeWhile (· != 59)))) 16 15).1,(numSpec (mkS (rtrim (l.takeWhile (· != 59)))) 16 15).2 && (bytesOf (mkS ((l.dropWhile (· != 59)).drop 1))).all valB)
theorem take_none (sp:UInt8) (l:List UInt8) (h:sp ∉ l):l.takeWhile (· != sp)=l∧(l.dropWhile (· != sp)).drop 1=[]:=by
 induction l with
 | nil=>simp
 | cons x a ih =>
  have hx:x ≠ sp:=fun e=>h (by rw [e];exact List.mem_cons_self ..)
  have:=ih (fun e=>h (List.mem_cons_of_mem _ e))
  simp only [List.takeWhile_cons,List.dropWhile_cons,bne_iff_ne,ne_eq,hx,not_false_eq_true,if_true]
  exact ⟨by rw [this.1],this.2⟩
theorem sizeS_no (l:List UInt8) (h:59 ∉ l):sizeS l=numSpec (mkS (rtrim l)) 16 15:=by
 obtain ⟨e1,e2⟩:=take_none 59 l h
 unfold sizeS
 rw [e1,e2]
 have:(bytesOf (mkS [])).all valB=true:=by rw [mkS_bytes];rfl
 rw [this,Bool.and_true]
theorem sizeS_yes (a b:List UInt8) (h:59 ∉ a):sizeS (a ++ 59 :: b)=((numSpec (mkS (rtrim a)) 16 15).1,(numSpec (mkS (rtrim a)) 16 15).2 && (bytesOf (mkS b)).all valB):=by
 obtain ⟨e1,e2⟩:=take_first 59 a b h
 unfold sizeS
 rw [e1,e2]
theorem TrimRight_f (l:List UInt8) (hl:l.length ≤ 140737488355328):strings_TrimRight.f (mkS l) ⟨#[32,9]⟩=some (mkS (rtrim l)):=by
 unfold strings_TrimRight.f
 rw [if_pos ⟨by rw [mkS_size];omega,by decide,by decide⟩,mkS_data]
 rfl
theorem numL_bound (xs:List Int) : ∀ (n v:Int) (B:Int),0 ≤ n → n < B → numL 16 xs n=some v → 0 ≤ v∧v < B * 16 ^ xs.length:=by
 induction xs with
 | nil=>intro n v B h0 h1 h;simp only [numL,Option.some.injEq] at h;subst h;simpa using ⟨h0,h1⟩
 | cons x xs ih =>
  intro n v B h0 h1 h
  rw [numL] at h
  by_cases hd:0 ≤ digV x∧digV x < 16
  ·rw [if_pos hd] at h
   have:=ih _ v (B * 16) (by omega) (by omega) h
   rw [List.length_cons,Int.pow_succ,Int.mul_comm (16 ^ xs.length) 16,← Int.mul_assoc]
   exact this
  ·rw [if_neg hd] at h;cases h
theorem hexs_bound (s : ByteArray) : 0 ≤ (numSpec s 16 15).1 ∧ (numSpec s 16 15).1 ≤ 1152921504606846976 := by
  unfold numSpec
  split
  · exact ⟨by decide, by decide⟩
  · rename_i h
    cases hv : numL 16 (bytesOf s) 0 with
    | none => exact ⟨by decide, by decide⟩
    | some v =>
      have := numL_bound (bytesOf s) 0 v 1 (by decide) (by decide) hv
      have hl : (bytesOf s).length ≤ 15 := by rw [bytesOf_length]; omega
      have h2 : (16 : Int) ^ (bytesOf s).length ≤ 16 ^ 15 := by
        have := pow_mono' 16 (by decide) (bytesOf s).length (15 - (bytesOf s).length)
        rwa [show (bytesOf s).length + (15 - (bytesOf s).length) = 15 by omega] at this
      exact ⟨this.1, by simp only; have h3 : (16 : Int) ^ 15 = 1152921504606846976 := by decide
                        omega⟩
theorem size_bound (l:List UInt8):0 ≤ (sizeS l).1∧(sizeS l).1 ≤ 1152921504606846976:=hexs_bound _
theorem line_f (l:List Int) (p:Nat) (hp:p ≤ l.length) (hl:l.length ≤ 1000000) (k:Nat) (hk:3 * l.length + 3 ≤ k) :
  chunk_reader_line.f k l p=some ((cutSpec (l.drop p) 256).1,(cutSpec (l.drop p) 256).2.2,(p:Int) + (cutSpec (l.drop p) 256).2.1,decide ((cutSpec (l.drop p) 256).2.1=0) && decide ((cutSpec (l.drop p) 256).2.2=0)):=by
 unfold chunk_reader_line.f
 have hd:(l.drop p).length=l.length - p:=List.length_drop ..
 rw [if_pos (by omega),if_pos (by omega),Int.toNat_natCast,cut_f _ _ (by omega) k (by omega),Option.bind_some]
 have hw:wrap64 ((p:Int) + (cutSpec (l.drop p) 256).2.1)=(p:Int) + (cutSpec (l.drop p) 256).2.1:=by
  rcases cutS_shape (l.drop p) 256 with h|h <;> unfold wrap64 <;> omega
 rw [hw]
theorem size_f (l : List Int) (p : Nat) (hp : p ≤ l.length) (hl : l.length ≤ 1000000) (k : Nat) (hk : 3 * l.length + 3 ≤ k) :
    chunk_reader_size.f k l p = some (if (cutSpec (l.drop p) 256).2.2 = 0 then (if (cutSpec (l.drop p) 256).2.1 = 0 then (0, 0, (p : Int), true) else
        if (sizeS (cutSpec (l.drop p) 256).1.data.toList).2 = true then ((sizeS (cutSpec (l.drop p) 256).1.data.toList).1, 0, (p : Int) + (cutSpec (l.drop p) 256).2.1, false) else (0, 30, (p : Int) + (cutSpec (l.drop p) 256).2.1, false))
      else (0, (cutSpec (l.drop p) 256).2.2, (p : Int) + (cutSpec (l.drop p) 256).2.1, false)) := by
  unfold chunk_reader_size.f
  rw [line_f l p hp hl k hk, Option.bind_some]
  have hsh := cutS_shape (l.drop p) 256
  have hd : (l.drop p).length = l.length - p := List.length_drop ..
  obtain ⟨c, hc⟩ : ∃ c, c = cutSpec (l.drop p) 256 := ⟨_, rfl⟩
  rw [← hc] at hsh ⊢
  simp only
  by_cases h1 : c.2.2 = 0
  · rw [if_pos h1, if_pos h1]
    by_cases h2 : c.2.1 = 0
    · rw [if_pos h2, decide_eq_true h2, decide_eq_true h1, if_pos (by rfl), h2, Int.add_zero]
    · rw [if_neg h2, decide_eq_false h2, Bool.false_and, if_neg (by simp)]
      have hsz : c.1.data.toList.length ≤ 1000000 := by rw [data_length]; rcases hsh with h | h <;> omega
      have e0 : c.1 = mkS c.1.data.toList := (mkS_self _).symm
      obtain ⟨u, hu⟩ : ∃ u, u = c.1.data.toList := ⟨_, rfl⟩
      rw [← hu] at e0 hsz ⊢
      rw [e0]
      have hk2 : 2 * u.length + 1 ≤ k := by
        have : u.length = c.1.size := by rw [hu, data_length]
        rcases hsh with h | h <;> omega
      rcases split_first 59 u with h | ⟨a, b, hab, h⟩
      · have hr := rtrim_len u
        rw [Cut_no 59 u h, Option.bind_some]
        simp only
        rw [TrimRight_f u (by omega), Option.bind_some, Hex_f _ (by rw [mkS_size]; omega) k (by rw [mkS_size]; omega), Option.bind_some, sizeS_no u h]
        cases (numSpec (mkS (rtrim u)) 16 15).2
        · rw [if_neg (by simp), if_neg (by simp)]
        · rw [if_pos rfl, if_pos rfl, Value_f _ (by decide), Option.bind_some, if_pos (by rfl)]
      · subst hab
        have hab : (a ++ 59 :: b).length = a.length + b.length + 1 := by rw [List.length_append, List.length_cons]; omega
        have hr := rtrim_len a
        rw [Cut_yes 59 a b h (by omega), Option.bind_some]
        simp only
        rw [TrimRight_f a (by omega), Option.bind_some, Hex_f _ (by rw [mkS_size]; omega) k (by rw [mkS_size]; omega), Option.bind_some, sizeS_yes a b h]
        cases (numSpec (mkS (rtrim a)) 16 15).2
        · rw [if_neg (by simp), Bool.false_and, if_neg (by simp)]
        · rw [if_pos rfl, Bool.true_and, Value_f _ (by rw [mkS_size]; omega), Option.bind_some]
          cases (bytesOf (mkS b)).all valB <;> rfl
  · rw [if_neg h1, if_neg h1, decide_eq_false h1, Bool.and_false]
/-- The lines behind the last chunk, at most d more: the place behind them (0: they are not whole), the error. -/
def trailS (l : List Int) : Nat → Nat → Int × Int
  | 0, _ => (0, 3)
  | d + 1, p => if (cutSpec (l.drop p) 256).2.2 = 0 then (if (cutSpec (l.drop p) 256).2.1 = 0 then (0, 0)
      else if (cutSpec (l.drop p) 256).1.toList = [] then ((p : Int) + (cutSpec (l.drop p) 256).2.1, 0)
      else if fieldOk (cutSpec (l.drop p) 256).1.data.toList = true then trailS l d (p + (cutSpec (l.drop p) 256).2.1.toNat) else (0, 20))
    else (0, (cutSpec (l.drop p) 256).2.2)
/-- The body from a place on. -/
def decS (l : List Int) : Nat → Nat → Int → List Int → List Int × Int × Int
  | 0, _, _, _ => ([], 0, 0)
  | d + 1, p, left, out => if (cutSpec (l.drop p) 256).2.2 = 0 then (if (cutSpec (l.drop p) 256).2.1 = 0 then ([], 0, 0)
      else if (sizeS (cutSpec (l.drop p) 256).1.data.toList).2 = true then (if (sizeS (cutSpec (l.drop p) 256).1.data.toList).1 = 0 then
          (if (trailS l 41 (p + (cutSpec (l.drop p) 256).2.1.toNat)).2 = 0 then (if (trailS l 41 (p + (cutSpec (l.drop p) 256).2.1.toNat)).1 = 0 then ([], 0, 0) else (out, (trailS l 41 (p + (cutSpec (l.drop p) 256).2.1.toNat)).1, 0)) else ([], 0, (trailS l 41 (p + (cutSpec (l.drop p) 256).2.1.toNat)).2))
        else if (sizeS (cutSpec (l.drop p) 256).1.data.toList).1 > left then ([], 0, 2)
        else if (dataOf (l.drop (p + (cutSpec (l.drop p) 256).2.1.toNat)) ((p + (cutSpec (l.drop p) 256).2.1.toNat : Nat) : Int) (sizeS (cutSpec (l.drop p) 256).1.data.toList).1 false).2.1 = 0 then
          (if (dataOf (l.drop (p + (cutSpec (l.drop p) 256).2.1.toNat)) ((p + (cutSpec (l.drop p) 256).2.1.toNat : Nat) : Int) (sizeS (cutSpec (l.drop p) 256).1.data.toList).1 false).2.2.2 = true then ([], 0, 0)
            else decS l d (p + (cutSpec (l.drop p) 256).2.1.toNat + (sizeS (cutSpec (l.drop p) 256).1.data.toList).1.toNat + 2) (left - (sizeS (cutSpec (l.drop p) 256).1.data.toList).1) (out ++ (l.drop (p + (cutSpec (l.drop p) 256).2.1.toNat)).take (sizeS (cutSpec (l.drop p) 256).1.data.toList).1.toNat))
        else ([], 0, 20))
      else ([], 0, 30))
    else ([], 0, (cutSpec (l.drop p) 256).2.2)
theorem trail_f (l:List Int) (hl:l.length ≤ 1000000) : ∀ (d:Nat) (n p k:Nat),n + d=41 → 1 ≤ d → p ≤ l.length → d + 3 * l.length + 4 ≤ k →
  ∃ q m,chunk_reader_trailer.l k l p n=some ((trailS l d p).2,q,m)∧((trailS l d p).2=0 → (m=true ↔ (trailS l d p).1=0)∧(m=false → q=(trailS l d p).1)):=by
 intro d
 induction d with
 | zero=>intro n p k _ h;omega
 | succ d ih =>
  intro n p k hn _ hp hk
  obtain ⟨k,rfl⟩ : ∃ m,k=m + 1:=⟨k - 1,by omega⟩
  have hsh:=cutS_shape (l.drop p) 256
  have hd:(l.drop p).length=l.length - p:=List.length_drop ..
  rw [chunk_reader_trailer.l,line_f l p hp hl k (by omega),Option.bind_some,trailS]
  obtain ⟨c,hc⟩ : ∃ c,c=cutSpec (l.drop p) 256:=⟨_,rfl⟩
  rw [← hc] at hsh ⊢
  simp only
  by_cases h1:c.2.2=0
  ·rw [if_pos h1,if_pos h1]
   by_cases h2:c.2.1=0
   ·rw [if_pos h2,decide_eq_true h2,decide_eq_true h1,if_pos (by rfl)]
    exact ⟨_,_,rfl,fun _=>⟨by simp,by simp⟩⟩
   ·rw [if_neg h2,decide_eq_false h2,Bool.false_and,if_neg (by simp)]
    by_cases h3:c.1.toList=[]
    ·rw [if_pos h3,if_pos h3]
     refine ⟨_,_,rfl,fun _=>⟨⟨by simp,fun e=>?_⟩,fun _=>rfl⟩⟩
     simp only at e
     rcases hsh with h|h <;> omega
    ·rw [if_neg h3,if_neg h3]
     have hz:c.1.data.toList.length=c.1.size:=data_length _
     have hz2:c.2.1 > 0∧c.2.1 ≤ (l.length:Int) - p∧(c.1.size:Int)=c.2.1 - 2:=by rcases hsh with h|h <;> omega
     obtain ⟨x,y,hf⟩:=field_f c.1.data.toList (by omega)
     rw [mkS_self] at hf
     rw [hf,Option.bind_some]
     simp only
     cases fieldOk c.1.data.toList
     ·rw [if_neg (by simp),if_neg (by decide),if_neg (by simp)]
      exact ⟨_,_,rfl,fun e=>by simp at e⟩
     ·rw [if_pos rfl,if_pos rfl,if_pos rfl]
      by_cases h4:(n:Int)=40
      ·obtain rfl:d=0:=by omega
       rw [if_pos h4,trailS]
       exact ⟨_,_,rfl,fun e=>by simp at e⟩
      ·rw [if_neg h4]
       have:=ih (n + 1) (p + c.2.1.toNat) k (by omega) (by omega) (by omega) (by omega)
       rw [show ((p + c.2.1.toNat:Nat):Int)=(p:Int) + c.2.1 by omega,show ((n + 1:Nat):Int)=(n:Int) + 1 by omega] at this
       exact this
  ·rw [if_neg h1,if_neg h1]
   exact ⟨_,_,rfl,fun e=>absurd e h1⟩
theorem data_f (l:List Int) (p:Nat) (n:Int) (hp:p ≤ l.length) (h0:0 ≤ n) (h1:n ≤ 1152921504606846976):chunk_reader_data.f l p n false=some (dataOf (l.drop p) p n false):=by
 unfold chunk_reader_data.f
 rw [if_pos ⟨by omega,by omega,h0,by omega⟩,Int.toNat_natCast]
theorem data_shape (rest:List Int) (p n:Int) (h0:0 ≤ p) (hp:p ≤ 1000000) (n0:0 ≤ n) (hr:rest.length ≤ 1000000):(dataOf rest p n false).2.1=0 ∨ (dataOf rest p n false).2.1=20:=by
 unfold dataOf
 repeat' split
 all_goals first|exact Or.inl rfl|exact Or.inr rfl
theorem data_ok (rest:List Int) (p n:Int) (h0:0 ≤ p) (hp:p ≤ 1000000) (n0:0 ≤ n) (hr:rest.length ≤ 1000000) (h1:(dataOf rest p n false).2.1=0) (h2 : ¬ (dataOf rest p n false).2.2.2=true) :
  (dataOf rest p n false).1=rest.take n.toNat∧(dataOf rest p n false).2.2.1=p + (n + 2)∧n + 2 ≤ (rest.length:Int)∧rd rest n=13∧rd rest (n + 1)=10:=by
 unfold dataOf at h1 h2 ⊢
 by_cases a0:n < (rest.length:Int)
 ·rw [if_pos a0] at h1 h2 ⊢
  by_cases a1:rd rest n=13
  ·rw [if_pos a1] at h1 h2 ⊢
   by_cases a2:n + 1 < (rest.length:Int)
   ·rw [if_pos a2] at h1 h2 ⊢
    by_cases a3:rd rest (n + 1)=10
    ·rw [if_pos a3]
     exact ⟨rfl,by show wrap64 (p + (n + 2))=_;unfold wrap64;omega,by omega,a1,a3⟩
    ·rw [if_neg a3] at h1;simp at h1
   ·rw [if_neg a2] at h2;simp at h2
  ·rw [if_neg a1] at h1;simp at h1
 ·rw [if_neg a0] at h2;simp at h2
theorem dec_f (l:List Int) (hl:l.length ≤ 1000000) : ∀ (d p:Nat) (left:Int) (out:List Int) (k:Nat),p ≤ l.length → l.length < p + d → out.length ≤ p → 0 ≤ left → left ≤ 9223372036854775807 → d + 3 * l.length + 60 ≤ k →
  chunk_Decode.l k l p left out=some (decS l d p left out):=by
 intro d
 induction d with
 | zero=>intro p left out k h1 h2;omega
 | succ d ih =>
  intro p left out k hp hd ho hl0 hl1 hk
  obtain ⟨k,rfl⟩ : ∃ m,k=m + 1:=⟨k - 1,by omega⟩
  have hsh:=cutS_shape (l.drop p) 256
  have hdl:(l.drop p).length=l.length - p:=List.length_drop ..
  rw [chunk_Decode.l,size_f l p hp hl k (by omega),Option.bind_some,decS]
  obtain ⟨c,hc⟩ : ∃ c,c=cutSpec (l.drop p) 256:=⟨_,rfl⟩
  rw [← hc] at hsh ⊢
  by_cases h1:c.2.2=0
  ·rw [if_pos h1,if_pos h1]
   by_cases h2:c.2.1=0
   ·rw [if_pos h2,if_pos h2]
    simp
   ·have hz2:c.2.1 > 0∧c.2.1 ≤ (l.length:Int) - p∧(c.1.size:Int)=c.2.1 - 2:=by rcases hsh with h|h <;> omega
    rw [if_neg h2,if_neg h2]
    obtain ⟨z,hz⟩ : ∃ z,z=sizeS c.1.data.toList:=⟨_,rfl⟩
    have hzb:=size_bound c.1.data.toList
    rw [← hz] at hzb ⊢
    obtain ⟨q,hq⟩ : ∃ q,q=p + c.2.1.toNat:=⟨_,rfl⟩
    have hq2:(p:Int) + c.2.1=(q:Int):=by omega
    rw [← hq,hq2]
    by_cases h3:z.2=true
    ·rw [if_pos h3,if_pos h3]
     simp only
     rw [if_pos trivial,if_neg (by simp)]
     by_cases h4:z.1=0
     ·rw [if_pos h4,if_pos h4]
      obtain ⟨q',m,ht,hm⟩:=trail_f l hl 41 0 q k (by omega) (by omega) (by omega) (by omega)
      have ht' : chunk_reader_trailer.f k l q=some ((trailS l 41 q).2,q',m):=ht
      rw [ht',Option.bind_some]
      by_cases h5:(trailS l 41 q).2=0
      ·obtain ⟨hm1,hm2⟩:=hm h5
       rw [if_pos h5,if_pos h5]
       by_cases h6:(trailS l 41 q).1=0
       ·rw [if_pos h6,if_pos (hm1.2 h6)]
       ·have hmf:m=false:=by cases m with|false=>rfl|true=>exact absurd (hm1.1 rfl) h6
        rw [if_neg h6,hmf,if_neg (by simp),hm2 hmf]
      ·rw [if_neg h5,if_neg h5]
     ·rw [if_neg h4,if_neg h4]
      by_cases h5:z.1 > left
      ·rw [if_pos h5,if_pos h5]
      ·rw [if_neg h5,if_neg h5,data_f l q z.1 (by omega) hzb.1 hzb.2,Option.bind_some]
       have hdr:(l.drop q).length=l.length - q:=List.length_drop ..
       by_cases h6:(dataOf (l.drop q) (q:Int) z.1 false).2.1=0
       ·rw [if_pos h6,if_pos h6]
        by_cases h7:(dataOf (l.drop q) (q:Int) z.1 false).2.2.2=true
        ·rw [if_pos h7,if_pos h7]
        ·obtain ⟨e1,e2,e3,_,_⟩:=data_ok (l.drop q) q z.1 (by omega) (by omega) hzb.1 (by omega) h6 h7
         have htk:((l.drop q).take z.1.toNat).length ≤ z.1.toNat:=List.length_take_le ..
         rw [if_neg h7,if_neg h7,e1,e2,if_pos (by omega),show wrap64 (left - z.1)=left - z.1 by unfold wrap64;omega,show (q:Int) + (z.1 + 2)=((q + z.1.toNat + 2:Nat):Int) by omega]
         exact ih _ _ _ k (by omega) (by omega) (by rw [List.length_append];omega) (by omega) (by omega) (by omega)
       ·rcases data_shape (l.drop q) q z.1 (by omega) (by omega) hzb.1 (by omega) with e|e
        ·exact absurd e h6
        ·rw [if_neg h6,if_neg h6,e]
    ·rw [if_neg h3,if_neg h3]
     simp
  ·rw [if_neg h1,if_neg h1]
   simp only
   rw [if_neg h1]
theorem Decode_f (l:List Int) (most:Int) (hl:l.length ≤ 1000000) (hm:most ≤ 9223372036854775807) (k:Nat) (hk:4 * l.length + 70 ≤ k):chunk_Decode.f k l most=some (decS l (l.length + 1) 0 (mx most 0) []):=by
 unfold chunk_Decode.f
 exact dec_f l hl (l.length + 1) 0 (mx most 0) [] k (by omega) (by omega) (by simp) (by unfold mx;split <;> omega) (by unfold mx;split <;> omega) (by omega)
end Go.Proofs.YtfjeinnemimjoaaGreatDoor.Pure
namespace Go.Proofs.YtfjeinnemimjoaaGreatDoor.P
open Go.RowKit Go.Proofs.YtfjeinnemimjoaaGreatDoorW.PrintWords Go.Proofs.YtfjeinnemimjoaaGreatDoorW.PrintLast Go.Proofs.YtfjeinnemimjoaaGreatDoorW.PrintMore
attribute [local go_sem] max2_int min2_int max_two min_two max_three min_three max_four min_four
set_option linter.unusedVariables false
set_option linter.unusedSimpArgs false
end Go.Proofs.YtfjeinnemimjoaaGreatDoor.P
namespace Go.Proofs.YtfjeinnemimjoaaGreatDoor.Pure
open Go.RowKit Go.Proofs.YtfjeinnemimjoaaGreatDoor.P Go.Proofs.YtfjeinnemimjoaaGreatDoorW.PrintWords Go.Proofs.YtfjeinnemimjoaaGreatDoorW.PrintLast Go.Proofs.YtfjeinnemimjoaaGreatDoorW.PrintMore
set_option linter.unusedVariables false
set_option linter.unusedSimpArgs false
theorem byteAll {P:UInt8 → Prop} (h : ∀ n:Fin 256,P (UInt8.ofNat n.val)) (b:UInt8):P b:=by
 have:=h ⟨b.toNat,b.toNat_lt⟩
 rwa [show UInt8.ofNat (⟨b.toNat,b.toNat_lt⟩:Fin 256).val=b from UInt8.ofNat_toNat] at this
def digU (b:UInt8):Bool:=([48,49,50,51,52,53,54,55,56,57]:List UInt8).contains b
theorem dig_host (b:UInt8):digU b=decide (48 ≤ (b.toNat:Int)∧(b.toNat:Int) ≤ 57):=byteAll (P:=fun b=>digU b=decide (48 ≤ (b.toNat:Int)∧(b.toNat:Int) ≤ 57)) (by decide +kernel) b
theorem refFold_l0 (s:ByteArray) (hn:s.size ≤ 140737488355327) (d:Nat) : ∀ (k:Nat) (out:List Int) (i:Int),0 ≤ i → (s.size:Int) - i=d → d + 1 ≤ k → (out.length:Int)=i →
  tollbarref02_Fold.l0 k s out i=some (strOfNums (out ++ ((bytesOf s).drop i.toNat).map foldC)):=by
 induction d with
 | zero =>
  intro k out i h0 hd hk ho
  obtain ⟨k,rfl⟩ : ∃ m,k=m + 1:=⟨k - 1,by omega⟩
  simp only [tollbarref02_Fold.l0]
  rw [if_neg (by omega),List.drop_of_length_le (by rw [bytesOf_length];omega),List.map_nil,List.append_nil]
 | succ d ih =>
  intro k out i h0 hd hk ho
  obtain ⟨k,rfl⟩ : ∃ m,k=m + 1:=⟨k - 1,by omega⟩
  have hlt:i < (s.size:Int):=by omega
  have hl:i.toNat < (bytesOf s).length:=by rw [bytesOf_length];omega
  have hg:(bytesOf s)[i.toNat]=bt s i:=by rw [← rd_bytesOf];simp [rd,List.getD_eq_getElem?_getD,List.getElem?_eq_getElem hl]
  have hr:=bt_range s i
  have ih' := fun v=>ih k (out ++ [v]) (i + 1) (by omega) (by omega) (by omega) (by rw [List.length_append];simp;omega)
  have e1:(i + 1).toNat=i.toNat + 1:=by omega
  rw [List.drop_eq_getElem_cons hl,hg,List.map_cons]
  simp only [tollbarref02_Fold.l0]
  rw [if_pos hlt,if_pos h0,show wrap64 (i + 1)=i + 1 by unfold wrap64;omega]
  have hf : ∀ v,v=foldC (bt s i) → some (strOfNums (out ++ [v] ++ ((bytesOf s).drop (i.toNat + 1)).map foldC))=some (strOfNums (out ++ foldC (bt s i) :: ((bytesOf s).drop (i.toNat + 1)).map foldC)):=by
   intro v hv
   rw [hv,List.append_assoc]
   rfl
  have ho2:out.length < 140737488355328:=by omega
  by_cases h1:bt s i ≥ 65
  ·rw [if_pos h1]
   by_cases h2:bt s i ≤ 90
   ·rw [if_pos h2,if_pos ho2,ih',e1];exact hf _ (by unfold foldC;rw [if_pos ⟨h1,h2⟩];omega)
   ·rw [if_neg h2,if_pos ho2,ih',e1];exact hf _ (by unfold foldC;rw [if_neg (by omega)])
  ·rw [if_neg h1,if_pos ho2,ih',e1];exact hf _ (by unfold foldC;rw [if_neg (by omega)])
theorem refFold_f (s:ByteArray) (hn:s.size ≤ 140737488355327) (k:Nat) (hk:s.size + 1 ≤ k):tollbarref02_Fold.f k s=sign_Fold.f s:=by
 unfold tollbarref02_Fold.f sign_Fold.f
 rw [refFold_l0 s hn s.size k [] 0 (by omega) (by omega) hk rfl,if_pos (by omega)]
 rfl
theorem Fold_f (s:ByteArray) (hn:s.size ≤ 140737488355328):sign_Fold.f s=some (strOfNums ((bytesOf s).map foldC)):=if_pos hn
/-- The digits of a version. -/
def verL (l:List UInt8):Option (Int × Int):=match l with
 | [a,b,c,d,e,f,g,h]=>if [a,b,c,d,e]=[72,84,84,80,47]∧(48 ≤ (f.toNat:Int)∧(f.toNat:Int) ≤ 57)∧g=46∧(48 ≤ (h.toNat:Int)∧(h.toNat:Int) ≤ 57) then some ((f.toNat:Int) - 48,(h.toNat:Int) - 48) else none
 | _=>none
theorem verL_8 (a b c d e f g h:UInt8):verL [a,b,c,d,e,f,g,h]=if [a,b,c,d,e]=[72,84,84,80,47]∧(48 ≤ (f.toNat:Int)∧(f.toNat:Int) ≤ 57)∧g=46∧(48 ≤ (h.toNat:Int)∧(h.toNat:Int) ≤ 57) then some ((f.toNat:Int) - 48,(h.toNat:Int) - 48) else none:=rfl
theorem verL_none {l:List UInt8} (h:l.length ≠ 8):verL l=none:=by
 unfold verL
 split
 ·simp at h
 ·rfl
theorem eight {l:List UInt8} (h:l.length=8) : ∃ a b c d e f g i,l=[a,b,c,d,e,f,g,i]:=by
 match l,h with
 | [a,b,c,d,e,f,g,i],_=>exact ⟨a,b,c,d,e,f,g,i,rfl⟩
theorem refDigit_f (c:Int):tollbarref02_Digit.f c=some (decide (48 ≤ c∧c ≤ 57)):=by
 unfold tollbarref02_Digit.f
 by_cases h:c ≥ 48
 ·rw [if_pos h];congr 1;rw [Bool.eq_iff_iff,decide_eq_true_eq,decide_eq_true_eq];omega
 ·rw [if_neg h,decide_eq_false (by omega)]
theorem refVersion_f (l:List UInt8):tollbarref05_Version.f (mkS l)=some (match verL l with|some p=>(p.1,p.2,true)|none=>(0,0,false)):=by
 unfold tollbarref05_Version.f
 by_cases h8:l.length=8
 ·obtain ⟨a,b,c,d,e,f,g,i,rfl⟩:=eight h8
  have hz:((mkS [a,b,c,d,e,f,g,i]).size:Int)=8:=by rw [mkS_size];rfl
  have b5:=bt_mk [a,b,c,d,e,f,g,i] 5 (by simp)
  have b6:=bt_mk [a,b,c,d,e,f,g,i] 6 (by simp)
  have b7:=bt_mk [a,b,c,d,e,f,g,i] 7 (by simp)
  simp only [List.getElem_cons_succ,List.getElem_cons_zero] at b5 b6 b7
  have b5' : bt (mkS [a,b,c,d,e,f,g,i]) 5=f.toNat:=b5
  have b6' : bt (mkS [a,b,c,d,e,f,g,i]) 6=g.toNat:=b6
  have b7' : bt (mkS [a,b,c,d,e,f,g,i]) 7=i.toNat:=b7
  have hx:((mkS [a,b,c,d,e,f,g,i]).extract 0 5).toList=[a,b,c,d,e]:=by rw [mkS_extract,mkS_toList];rfl
  rw [hz,hx,b5',b6',b7',if_pos rfl,if_pos (by decide),if_pos (by decide),refDigit_f,refDigit_f,Option.bind_some,Option.bind_some]
  have fr:=f.toNat_lt
  have ir:=i.toNat_lt
  rw [verL_8]
  by_cases c1:[a,b,c,d,e]=[72,84,84,80,47]
  ·rw [if_pos c1,if_pos (by decide)]
   by_cases c2:48 ≤ (f.toNat:Int)∧(f.toNat:Int) ≤ 57
   ·rw [decide_eq_true c2,if_pos rfl,if_pos (by decide)]
    by_cases c3:g=46
    ·have g1:((g.toNat:Nat):Int)=46:=by rw [c3];rfl
     rw [if_pos g1,if_pos (by decide)]
     by_cases c4:48 ≤ (i.toNat:Int)∧(i.toNat:Int) ≤ 57
     ·rw [decide_eq_true c4,if_pos rfl,if_pos ⟨c1,c2,c3,c4⟩]
      simp only
      congr 2
      ·omega
      ·congr 1;omega
     ·rw [decide_eq_false c4,if_neg (by simp),if_neg (fun h=>c4 h.2.2.2)]
    ·have g1 : ¬ ((g.toNat:Nat):Int)=46:=fun h=>c3 (UInt8.toNat_inj.1 (by show _=46;omega))
     rw [if_neg g1,if_neg (fun h=>c3 h.2.2.1)]
   ·rw [decide_eq_false c2,if_neg (by simp),if_neg (fun h=>c2 h.2.1)]
  ·rw [if_neg c1,if_neg (fun h=>c1 h.1)]
 ·rw [mkS_size,if_neg (by omega),verL_none h8]
theorem CutPrefix_f (s p:List UInt8):strings_CutPrefix.f (mkS s) (mkS p)=some (if s.take p.length=p then (mkS (s.drop p.length),true) else (mkS s,false)):=by
 unfold strings_CutPrefix.f stringslite_CutPrefix.f stringslite_HasPrefix.f
 rw [mkS_size,mkS_size]
 by_cases h:p.length ≤ s.length
 ·rw [if_pos (by omega),if_pos (by omega),if_pos (by omega),Option.bind_some,Int.toNat_natCast,mkS_extract,mkS_extract,mkS_toList,mkS_toList,List.drop_zero,Nat.sub_zero]
  by_cases e:s.take p.length=p
  ·rw [if_pos e,e,if_pos (by simp),if_pos (by omega),if_pos (by omega),Option.bind_some,List.take_of_length_le (by rw [List.length_drop];omega)]
  ·rw [if_neg e,if_neg (by simpa using e),Option.bind_some]
 ·rw [if_neg (by omega),Option.bind_some,if_neg (by decide),Option.bind_some,if_neg ?_]
  intro e
  have:=congrArg List.length e
  rw [List.length_take] at this
  omega
theorem CutPrefix_yes (s p:List UInt8) (h:s.take p.length=p):strings_CutPrefix.f (mkS s) (mkS p)=some (mkS (s.drop p.length),true):=by rw [CutPrefix_f,if_pos h]
theorem CutPrefix_no (s p:List UInt8) (h : ¬ s.take p.length=p):strings_CutPrefix.f (mkS s) (mkS p)=some (mkS s,false):=by rw [CutPrefix_f,if_neg h]
/-- The last digit of a version that is known. -/
def minL (l:List UInt8):Option Int:=if l=[72,84,84,80,47,49,46,48] then some 0 else if l=[72,84,84,80,47,49,46,49] then some 1 else none
theorem minor_f (l:List UInt8):line_minor.f (mkS l)=some (match minL l with|some n=>(n,true)|none=>(0,false)):=by
 unfold line_minor.f minL
 rw [mkS_toList]
 by_cases h1:l=[72,84,84,80,47,49,46,48]
 ·rw [if_pos h1,if_pos h1]
 ·rw [if_neg h1,if_neg h1]
  by_cases h2:l=[72,84,84,80,47,49,46,49]
  ·rw [if_pos h2,if_pos h2]
  ·rw [if_neg h2,if_neg h2]
theorem ver_min (l:List UInt8):minL l=match verL l with|some p=>if p.1=1∧p.2 ≤ 1 then some p.2 else none|none=>none:=by
 by_cases h8:l.length=8
 ·obtain ⟨a,b,c,d,e,f,g,i,rfl⟩:=eight h8
  have fr:=f.toNat_lt
  have ir:=i.toNat_lt
  rw [verL_8]
  unfold minL
  by_cases c0:[a,b,c,d,e]=[72,84,84,80,47]∧(48 ≤ (f.toNat:Int)∧(f.toNat:Int) ≤ 57)∧g=46∧(48 ≤ (i.toNat:Int)∧(i.toNat:Int) ≤ 57)
  ·rw [if_pos c0]
   obtain ⟨c1,c2,c3,c4⟩:=c0
   simp only [List.cons.injEq,and_true] at c1
   obtain ⟨rfl,rfl,rfl,rfl,rfl⟩:=c1
   subst c3
   simp only [List.cons.injEq,and_true,true_and]
   by_cases f1:f=49
   ·subst f1
    simp only [true_and]
    by_cases i0:i=48
    ·subst i0;simp
    ·rw [if_neg i0]
     by_cases i1:i=49
     ·subst i1;simp
     ·rw [if_neg i1,if_neg ?_]
      rintro ⟨_,h⟩
      have e0:i.toNat ≠ 48:=fun h=>i0 (UInt8.toNat_inj.1 h)
      have e1:i.toNat ≠ 49:=fun h=>i1 (UInt8.toNat_inj.1 h)
      omega
   ·rw [if_neg (fun h=>f1 h.1),if_neg (fun h=>f1 h.1),if_neg ?_]
    rintro ⟨h,_⟩
    exact f1 (UInt8.toNat_inj.1 (by show _=49;omega))
  ·rw [if_neg c0,if_neg,if_neg]
   ·intro h;simp only [List.cons.injEq,and_true] at h;obtain ⟨rfl,rfl,rfl,rfl,rfl,rfl,rfl,rfl⟩:=h;exact c0 (by decide)
   ·intro h;simp only [List.cons.injEq,and_true] at h;obtain ⟨rfl,rfl,rfl,rfl,rfl,rfl,rfl,rfl⟩:=h;exact c0 (by decide)
 ·rw [verL_none h8]
  unfold minL
  rw [if_neg (fun h=>h8 (by rw [h];rfl)),if_neg (fun h=>h8 (by rw [h];rfl))]
end Go.Proofs.YtfjeinnemimjoaaGreatDoor.Pure
namespace Go.Proofs.YtfjeinnemimjoaaGreatDoor.P
open Go.RowKit Go.Proofs.YtfjeinnemimjoaaGreatDoorW.PrintWords Go.Proofs.YtfjeinnemimjoaaGreatDoorW.PrintLast Go.Proofs.YtfjeinnemimjoaaGreatDoorW.PrintMore
attribute [local go_sem] max2_int min2_int max_two min_two max_three min_three max_four min_four
set_option linter.unusedVariables false
set_option linter.unusedSimpArgs false
end Go.Proofs.YtfjeinnemimjoaaGreatDoor.P
namespace Go.Proofs.YtfjeinnemimjoaaGreatDoor.Pure
open Go.RowKit Go.Proofs.YtfjeinnemimjoaaGreatDoor.P Go.Proofs.YtfjeinnemimjoaaGreatDoorW.PrintWords Go.Proofs.YtfjeinnemimjoaaGreatDoorW.PrintLast Go.Proofs.YtfjeinnemimjoaaGreatDoorW.PrintMore
set_option linter.unusedVariables false
set_option linter.unusedSimpArgs false
theorem tokenByte_tells (c:Int) (h0:0 ≤ c) (h1:c ≤ 255) (k:Nat) (hk:1 ≤ k):tollbarref02_tokenByte.f k c=some (tokB c):=by
 refine at_rounds (fun k=>tollbarref02_tokenByte.mono c k) hk ?_
 exact byte_cases (P:=fun c=>tollbarref02_tokenByte.f 1 c=some (tokB c)) (by decide +kernel) c h0 h1
theorem valB_eq (c:Int) (h0:0 ≤ c) (h1:c ≤ 255):valB c = !(decide (c < 32) && !decide (c=9) || decide (c=127)) :=
 byte_cases (P:=fun c=>valB c = !(decide (c < 32) && !decide (c=9) || decide (c=127))) (by decide +kernel) c h0 h1
theorem refToken_l0 (s:ByteArray) (hn:s.size ≤ 140737488355328) (d:Nat) : ∀ (k:Nat) (i:Int),0 ≤ i → (s.size:Int) - i=d → d + 2 ≤ k →
  tollbarref02_Token.l0 k s i=some (!s.toList.isEmpty && ((bytesOf s).drop i.toNat).all tokB):=by
 induction d with
 | zero =>
  intro k i h0 hd hk
  obtain ⟨k,rfl⟩ : ∃ m,k=m + 1:=⟨k - 1,by omega⟩
  simp only [tollbarref02_Token.l0]
  rw [if_neg (by omega),drop_end _ _ _ (by omega),isEmpty_size]
  congr 1
  by_cases h:s.size=0 <;> simp [h];omega
 | succ d ih =>
  intro k i h0 hd hk
  obtain ⟨k,rfl⟩ : ∃ m,k=m + 1:=⟨k - 1,by omega⟩
  have hlt:i < (s.size:Int):=by omega
  simp only [tollbarref02_Token.l0]
  rw [if_pos hlt,if_pos h0,tokenByte_tells _ (bt_range s i).1 (bt_range s i).2 k (by omega),w64 1 h0 hlt hn (by omega) (by omega),drop_all _ _ _ h0 hlt,isEmpty_size]
  have ih' := ih k (i + 1) (by omega) (by omega) (by omega)
  rw [isEmpty_size] at ih'
  simp only [Option.bind_some,ih']
  have hz:s.size ≠ 0:=by omega
  cases tokB (bt s i) <;> simp [hz]
theorem refToken_f (s:ByteArray) (hn:s.size ≤ 140737488355328) (k:Nat) (hk:s.size + 2 ≤ k):tollbarref02_Token.f k s=sign_Token.f s:=by
 rw [Token_f s hn]
 unfold tollbarref02_Token.f
 rw [refToken_l0 s hn s.size k 0 (by omega) (by omega) hk]
 rfl
theorem refValue_l0 (s:ByteArray) (hn:s.size ≤ 140737488355328) (d:Nat) : ∀ (k:Nat) (i:Int),0 ≤ i → (s.size:Int) - i=d → d + 1 ≤ k →
  tollbarref02_Value.l0 k s i=some (((bytesOf s).drop i.toNat).all valB):=by
 induction d with
 | zero =>
  intro k i h0 hd hk
  obtain ⟨k,rfl⟩ : ∃ m,k=m + 1:=⟨k - 1,by omega⟩
  simp only [tollbarref02_Value.l0]
  rw [if_neg (by omega),drop_end _ _ _ (by omega)]
 | succ d ih =>
  intro k i h0 hd hk
  obtain ⟨k,rfl⟩ : ∃ m,k=m + 1:=⟨k - 1,by omega⟩
  have hlt:i < (s.size:Int):=by omega
  simp only [tollbarref02_Value.l0]
  have ih' := ih k (i + 1) (by omega) (by omega) (by omega)
  rw [if_pos hlt,if_pos h0,w64 1 h0 hlt hn (by omega) (by omega),drop_all _ _ _ h0 hlt,ih',valB_eq _ (bt_range s i).1 (bt_range s i).2]
  by_cases a:bt s i < 32 <;> by_cases b:bt s i=9 <;> by_cases c:bt s i=127 <;> simp [a,b,c]
theorem refValue_f (s:ByteArray) (hn:s.size ≤ 140737488355328) (k:Nat) (hk:s.size + 1 ≤ k):tollbarref02_Value.f k s=sign_Value.f s:=by
 rw [Value_f s hn]
 unfold tollbarref02_Value.f
 rw [refValue_l0 s hn s.size k 0 (by omega) (by omega) hk]
 rfl
def bodyS (b:List Int) (size:Int) (coded:Bool):List Int × Int × Int :=
 if coded=true then (if (decS b (b.length + 1) 0 4096 []).2.2=2 then ([],-1,413) else if (decS b (b.length + 1) 0 4096 []).2.2=0 then (if (decS b (b.length + 1) 0 4096 []).2.1=0 then ([],-1,0) else ((decS b (b.length + 1) 0 4096 []).1,(decS b (b.length + 1) 0 4096 []).2.1,0)) else ([],-1,400))
 else if (b.length:Int) < size then ([],-1,0) else (b.take size.toNat,size,0)
theorem lenS_nn (ps:List ByteArray):0 ≤ (lenS ps).1:=by
 cases ps with
 | nil=>decide
 | cons p r =>
  rw [lenS]
  split
  ·exact num_nn p
  ·decide
/-- What is known of a request's beginning that is whole. -/
structure OpenOk (l:List Int) (o:ByteArray × ByteArray × Int × List (S55) × List Int × Int × Int × Bool × Int):Prop where
 pos:0 < o.2.2.2.2.2.1
 le:o.2.2.2.2.2.1 ≤ (l.length:Int)∧o.2.2.2.2.2.1 ≤ 2048
 code:o.2.2.2.2.2.2.2.2=0
 size:0 ≤ o.2.2.2.2.2.2.1∧o.2.2.2.2.2.2.1 ≤ 4096
 minor:o.2.2.1=0 ∨ o.2.2.1=1
 fields:o.2.2.2.1.length ≤ 40 ∧ ∀ f ∈ o.2.2.2.1,rightB f.f0 f.f1=true
 body:o.2.2.2.2.1=[]
theorem reqLen_size (fs:List (S55)) (m:Int):0 ≤ (reqLen fs m).1∧(reqLen fs m).1 ≤ 4096:=by
 have h0:0 ≤ (lenS (listS lenNm fs)).1:=lenS_nn _
 unfold reqLen
 repeat' split
 all_goals first|exact ⟨by decide,by decide⟩|(constructor <;> simp only [] <;> omega)
theorem tail_sizes (l:List Int) (e:Int) (hl:l.length ≤ 2048) : ∀ (d p:Nat),∀ s ∈ (tailS l e d p).1,s.size ≤ 2048:=by
 intro d
 induction d with
 | zero=>intro p s hs;cases hs
 | succ d ih =>
  intro p s hs
  have hdl:(l.drop p).length=l.length - p:=List.length_drop ..
  have hc:=cut_len (l.drop p) (by omega)
  rw [tailS] at hs
  split at hs
  ·cases hs
  ·split at hs
   ·cases hs
   ·split at hs
    ·cases hs
    ·rcases List.mem_cons.1 hs with rfl|hs
     ·exact hc
     ·exact ih _ s hs
theorem lines_sizes (l:List Int) (e:Int) (hl:l.length ≤ 2048) : ∀ s ∈ (linesS l e).1,s.size ≤ 2048:=by
 intro s hs
 have hc:=cut_len l hl
 unfold linesS at hs
 split at hs
 ·cases hs
 ·split at hs
  ·cases hs
  ·rcases List.mem_cons.1 hs with rfl|hs
   ·exact hc
   ·exact tail_sizes l e hl _ _ s hs
end Go.Proofs.YtfjeinnemimjoaaGreatDoor.Pure
namespace Go.Proofs.YtfjeinnemimjoaaGreatDoor.P
open Go.RowKit Go.Proofs.YtfjeinnemimjoaaGreatDoorW.PrintWords Go.Proofs.YtfjeinnemimjoaaGreatDoorW.PrintLast Go.Proofs.YtfjeinnemimjoaaGreatDoorW.PrintMore
attribute [local go_sem] max2_int min2_int max_two min_two max_three min_three max_four min_four
set_option linter.unusedVariables false
set_option linter.unusedSimpArgs false
end Go.Proofs.YtfjeinnemimjoaaGreatDoor.P
namespace Go.Proofs.YtfjeinnemimjoaaGreatDoor.Pure
open Go.RowKit Go.Proofs.YtfjeinnemimjoaaGreatDoor.P Go.Proofs.YtfjeinnemimjoaaGreatDoorW.PrintWords Go.Proofs.YtfjeinnemimjoaaGreatDoorW.PrintLast Go.Proofs.YtfjeinnemimjoaaGreatDoorW.PrintMore
set_option linter.unusedVariables false
set_option linter.unusedSimpArgs false
theorem trail_le (l:List Int) : ∀ (d p:Nat),p ≤ l.length → (trailS l d p).1 ≤ (l.length:Int):=by
 intro d
 induction d with
 | zero=>intro p _;exact Int.natCast_nonneg _
 | succ d ih =>
  intro p hp
  have hsh:=cutS_shape (l.drop p) 256
  have hdl:(l.drop p).length=l.length - p:=List.length_drop ..
  rw [trailS]
  obtain ⟨c,hc⟩ : ∃ c,c=cutSpec (l.drop p) 256:=⟨_,rfl⟩
  rw [← hc] at hsh ⊢
  by_cases h1:c.2.2=0
  ·rw [if_pos h1]
   by_cases h2:c.2.1=0
   ·rw [if_pos h2];exact Int.natCast_nonneg _
   ·have hz2:c.2.1 > 0∧c.2.1 ≤ (l.length:Int) - p:=by rcases hsh with h|h <;> omega
    rw [if_neg h2]
    by_cases h3:c.1.toList=[]
    ·rw [if_pos h3];show (p:Int) + c.2.1 ≤ _;omega
    ·rw [if_neg h3]
     by_cases h4:fieldOk c.1.data.toList=true
     ·rw [if_pos h4];exact ih _ (by omega)
     ·rw [if_neg h4];exact Int.natCast_nonneg _
  ·rw [if_neg h1];exact Int.natCast_nonneg _
theorem dec_le (l:List Int) (hl:l.length ≤ 1000000) : ∀ (d p:Nat) (left:Int) (out:List Int),p ≤ l.length → (decS l d p left out).2.1 ≤ (l.length:Int):=by
 intro d
 induction d with
 | zero=>intro p left out _;exact Int.natCast_nonneg _
 | succ d ih =>
  intro p left out hp
  have hsh:=cutS_shape (l.drop p) 256
  have hdl:(l.drop p).length=l.length - p:=List.length_drop ..
  have hz0:(0:Int) ≤ (l.length:Int):=Int.natCast_nonneg _
  rw [decS]
  obtain ⟨c,hc⟩ : ∃ c,c=cutSpec (l.drop p) 256:=⟨_,rfl⟩
  rw [← hc] at hsh ⊢
  have hzb:=size_bound c.1.data.toList
  obtain ⟨z,hz⟩ : ∃ z,z=sizeS c.1.data.toList:=⟨_,rfl⟩
  obtain ⟨q,hq⟩ : ∃ q,q=p + c.2.1.toNat:=⟨_,rfl⟩
  rw [← hz] at hzb
  rw [← hz,← hq]
  by_cases h1:c.2.2=0
  ·rw [if_pos h1]
   by_cases h2:c.2.1=0
   ·rw [if_pos h2];exact hz0
   ·have hz2:c.2.1 > 0∧c.2.1 ≤ (l.length:Int) - p:=by rcases hsh with h|h <;> omega
    have hqd:(l.drop q).length=l.length - q:=List.length_drop ..
    rw [if_neg h2]
    by_cases h3:z.2=true
    ·rw [if_pos h3]
     by_cases h4:z.1=0
     ·rw [if_pos h4]
      by_cases h5:(trailS l 41 q).2=0
      ·rw [if_pos h5]
       by_cases h6:(trailS l 41 q).1=0
       ·rw [if_pos h6];exact hz0
       ·rw [if_neg h6];exact trail_le l 41 q (by omega)
      ·rw [if_neg h5];exact hz0
     ·rw [if_neg h4]
      by_cases h5:z.1 > left
      ·rw [if_pos h5];exact hz0
      ·rw [if_neg h5]
       by_cases h6:(dataOf (l.drop q) (q:Int) z.1 false).2.1=0
       ·rw [if_pos h6]
        by_cases h7:(dataOf (l.drop q) (q:Int) z.1 false).2.2.2=true
        ·rw [if_pos h7];exact hz0
        ·rw [if_neg h7]
         obtain ⟨_,_,e3,_,_⟩:=data_ok (l.drop q) q z.1 (by omega) (by omega) hzb.1 (by omega) h6 h7
         exact ih _ _ _ (by omega)
       ·rw [if_neg h6];exact hz0
    ·rw [if_neg h3];exact hz0
  ·rw [if_neg h1];exact hz0
theorem decS_size (l:List Int) (hb:l.length ≤ 1000000) : ∀ (d p:Nat) (left:Int) (out:List Int),p ≤ l.length → out.length ≤ l.length → l.length < p + d → out.length ≤ p → (decS l d p left out).1.length ≤ l.length:=by
 intro d
 induction d with
 | zero=>intro p left out h1 h2 h3;omega
 | succ d ih =>
  intro p left out hp ho hd hop
  have hsh:=cutS_shape (l.drop p) 256
  have hdl:(l.drop p).length=l.length - p:=List.length_drop ..
  rw [decS]
  obtain ⟨c,hc⟩ : ∃ c,c=cutSpec (l.drop p) 256:=⟨_,rfl⟩
  rw [← hc] at hsh ⊢
  by_cases h1:c.2.2=0
  ·rw [if_pos h1]
   by_cases h2:c.2.1=0
   ·rw [if_pos h2];simp
   ·have hz2:c.2.1 > 0∧c.2.1 ≤ (l.length:Int) - p:=by rcases hsh with h|h <;> omega
    have hzb:=size_bound c.1.data.toList
    have hdq:(l.drop (p + c.2.1.toNat)).length=l.length - (p + c.2.1.toNat):=List.length_drop ..
    rw [if_neg h2]
    split
    ·split
     ·split
      ·split
       ·simp
       ·exact ho
      ·simp
     ·split
      ·simp
      ·split
       ·split
        ·simp
        ·rename_i h6 h7
         obtain ⟨_,_,e3,_,_⟩:=data_ok (l.drop (p + c.2.1.toNat)) ((p + c.2.1.toNat:Nat):Int) (sizeS c.1.data.toList).1 (by omega) (by omega) hzb.1 (by omega) h6 h7
         have htk:((l.drop (p + c.2.1.toNat)).take (sizeS c.1.data.toList).1.toNat).length ≤ (sizeS c.1.data.toList).1.toNat:=List.length_take_le ..
         exact ih _ _ _ (by omega) (by rw [List.length_append];omega) (by omega) (by rw [List.length_append];omega)
       ·simp
    ·simp
  ·rw [if_neg h1];simp
theorem trail_pos (l:List Int) : ∀ (d p:Nat),0 ≤ (trailS l d p).1:=by
 intro d
 induction d with
 | zero=>intro p;exact Int.le_refl _
 | succ d ih =>
  intro p
  have hsh:=cutS_shape (l.drop p) 256
  rw [trailS]
  repeat' split
  ·exact Int.le_refl _
  ·show 0 ≤ (p:Int) + _
   rcases hsh with h|h <;> omega
  ·exact ih _
  ·exact Int.le_refl _
  ·exact Int.le_refl _
theorem dec_none' (l:List Int) : ∀ (d p:Nat) (left:Int) (out:List Int),¬ (decS l d p left out).2.1 > 0 → (decS l d p left out).2.2=0 → (decS l d p left out).1=[]∧(decS l d p left out).2.1=0:=by
 intro d
 induction d with
 | zero=>intro p left out _ _;exact ⟨rfl,rfl⟩
 | succ d ih =>
  intro p left out g1 g2
  rw [decS] at g1 g2 ⊢
  obtain ⟨c,hc⟩ : ∃ c,c=cutSpec (l.drop p) 256:=⟨_,rfl⟩
  rw [← hc] at g1 g2 ⊢
  obtain ⟨z,hz⟩ : ∃ z,z=sizeS c.1.data.toList:=⟨_,rfl⟩
  obtain ⟨q,hq⟩ : ∃ q,q=p + c.2.1.toNat:=⟨_,rfl⟩
  rw [← hz,← hq] at g1 g2 ⊢
  by_cases h1:c.2.2=0
  ·rw [if_pos h1] at g1 g2 ⊢
   by_cases h2:c.2.1=0
   ·rw [if_pos h2];exact ⟨rfl,rfl⟩
   ·rw [if_neg h2] at g1 g2 ⊢
    by_cases h3:z.2=true
    ·rw [if_pos h3] at g1 g2 ⊢
     by_cases h4:z.1=0
     ·rw [if_pos h4] at g1 g2 ⊢
      by_cases h5:(trailS l 41 q).2=0
      ·rw [if_pos h5] at g1 g2 ⊢
       by_cases h6:(trailS l 41 q).1=0
       ·rw [if_pos h6];exact ⟨rfl,rfl⟩
       ·rw [if_neg h6] at g1
        have:=trail_pos l 41 q
        exact absurd (show (trailS l 41 q).1 > 0 by omega) g1
      ·rw [if_neg h5];exact ⟨rfl,rfl⟩
     ·rw [if_neg h4] at g1 g2 ⊢
      by_cases h5:z.1 > left
      ·rw [if_pos h5];exact ⟨rfl,rfl⟩
      ·rw [if_neg h5] at g1 g2 ⊢
       by_cases h6:(dataOf (l.drop q) (q:Int) z.1 false).2.1=0
       ·rw [if_pos h6] at g1 g2 ⊢
        by_cases h7:(dataOf (l.drop q) (q:Int) z.1 false).2.2.2=true
        ·rw [if_pos h7];exact ⟨rfl,rfl⟩
        ·rw [if_neg h7] at g1 g2 ⊢
         exact ih _ _ _ g1 g2
       ·rw [if_neg h6];exact ⟨rfl,rfl⟩
    ·rw [if_neg h3];exact ⟨rfl,rfl⟩
  ·rw [if_neg h1];exact ⟨rfl,rfl⟩
theorem body_le (b:List Int) (hb:b.length ≤ 1000000) (size:Int) (hs:0 ≤ size) (coded:Bool):(bodyS b size coded).2.1 ≤ (b.length:Int)∧(-1 ≤ (bodyS b size coded).2.1)∧(bodyS b size coded).1.length ≤ b.length∧(0 ≤ (bodyS b size coded).2.1 → (bodyS b size coded).2.2=0):=by
 unfold bodyS
 cases coded
 ·rw [if_neg (show ¬ (false=true) by simp)]
  by_cases h:(b.length:Int) < size
  ·rw [if_pos h];exact ⟨by simp only [];omega,by decide,by simp,fun _=>rfl⟩
  ·rw [if_neg h];exact ⟨by simp only [];omega,by simp only [];omega,by simp only [List.length_take];omega,fun _=>rfl⟩
 ·rw [if_pos rfl]
  have hle:=dec_le b hb (b.length + 1) 0 4096 [] (by omega)
  have hsz:=decS_size b hb (b.length + 1) 0 4096 [] (by omega) (by simp) (by omega) (by simp)
  have hz:=dec_none' b (b.length + 1) 0 4096 []
  obtain ⟨r,hr⟩ : ∃ r,r=decS b (b.length + 1) 0 4096 []:=⟨_,rfl⟩
  rw [← hr] at hle hsz hz ⊢
  by_cases h1:r.2.2=2
  ·rw [if_pos h1];exact ⟨by simp only [];omega,by decide,by simp,fun h=>absurd h (by decide)⟩
  ·rw [if_neg h1]
   by_cases h2:r.2.2=0
   ·rw [if_pos h2]
    by_cases h3:r.2.1=0
    ·rw [if_pos h3];exact ⟨by simp only [];omega,by decide,by simp,fun _=>rfl⟩
    ·rw [if_neg h3]
     have:r.2.1 > 0:=by
      by_cases h4:r.2.1 > 0
      ·exact h4
      ·exact absurd (hz h4 h2).2 h3
     exact ⟨hle,by simp only [];omega,hsz,fun _=>rfl⟩
   ·rw [if_neg h2];exact ⟨by simp only [];omega,by decide,by simp,fun h=>absurd h (by decide)⟩
theorem body_f (b:List Int) (hb:b.length ≤ 1000000) (size:Int) (hs:0 ≤ size) (coded:Bool) (k:Nat) (hk:4000100 ≤ k):http_body.f k b size coded=some (bodyS b size coded):=by
 unfold http_body.f bodyS
 cases coded
 ·rw [if_neg (show ¬ (false=true) by simp),if_neg (show ¬ (false=true) by simp)]
  by_cases h:(b.length:Int) < size
  ·rw [if_pos h,if_pos h]
  ·unfold bytes_Clone.f
   rw [if_neg h,if_neg h,if_pos hs,if_pos (by omega),if_pos (by rw [List.length_take];omega),Option.bind_some]
 ·rw [if_pos rfl,if_pos rfl,Decode_f b 4096 hb (by decide) k (by omega),Option.bind_some,show mx 4096 0=4096 by decide]
  obtain ⟨r,hr⟩ : ∃ r,r=decS b (b.length + 1) 0 4096 []:=⟨_,rfl⟩
  rw [← hr]
  by_cases h1:r.2.2=2
  ·rw [if_pos h1,if_pos h1]
  ·rw [if_neg h1,if_neg h1]
   by_cases h2:r.2.2=0
   ·rw [if_pos h2,if_pos h2]
    by_cases h3:r.2.1=0
    ·rw [if_pos h3,if_pos h3]
    ·rw [if_neg h3,if_neg h3]
   ·rw [if_neg h2,if_neg h2]
def statBad:Int × ByteArray × Int × (List (S55)) × List Int × Bool:=(0,(⟨#[]⟩:ByteArray),0,[],[],false)
def dig3 (a b c:UInt8):Bool:=digU a && (digU b && digU c)
def code3 (a b c:UInt8):Int:=100 * ((a.toNat:Int) - 48) + 10 * ((b.toNat:Int) - 48) + ((c.toNat:Int) - 48)
/-- What stands behind a status line's code. -/
def statEnd (n code:Int) (tl:List UInt8):Int × ByteArray × Int × (List (S55)) × List Int × Bool :=
 if code < 100 ∨ 599 < code then statBad else
 match tl with
 | []=>(code,mkS [],n,[],[],true)
 | x :: r=>if x=32∧(bytesOf (mkS r)).all valB=true∧r.length ≤ 100 then (code,mkS r,n,[],[],true) else statBad
/-- What a status line tells. -/
def statSpec (l:List UInt8):Int × ByteArray × Int × (List (S55)) × List Int × Bool :=
 match minL (l.take 8),l.drop 8 with
 | some n,x :: a :: b :: c :: tl=>if x=32 then (if dig3 a b c=true then statEnd n (code3 a b c) tl else statBad) else statBad
 | _,_=>statBad
theorem statSpec_yes {l:List UInt8} {n:Int} {a b c:UInt8} {tl:List UInt8} (h1:minL (l.take 8)=some n) (h2:l.drop 8=32 :: a :: b :: c :: tl):statSpec l=if dig3 a b c=true then statEnd n (code3 a b c) tl else statBad:=by
 unfold statSpec
 rw [h1,h2]
 exact if_pos rfl
theorem statEnd_out {n code:Int} {tl:List UInt8} (h:code < 100 ∨ 599 < code):statEnd n code tl=statBad:=by unfold statEnd;rw [if_pos h]
theorem statEnd_nil0 {n code:Int} (h : ¬ (code < 100 ∨ 599 < code)):statEnd n code []=(code,mkS [],n,[],[],true):=by unfold statEnd;rw [if_neg h]
theorem statEnd_cons {n code:Int} {x:UInt8} {r:List UInt8} (h : ¬ (code < 100 ∨ 599 < code)):statEnd n code (x :: r)=if x=32∧(bytesOf (mkS r)).all valB=true∧r.length ≤ 100 then (code,mkS r,n,[],[],true) else statBad:=by unfold statEnd;rw [if_neg h]
theorem statSpec_min {l:List UInt8} (h1:minL (l.take 8)=none):statSpec l=statBad:=by
 unfold statSpec
 rw [h1]
theorem statSpec_no {l:List UInt8} (h : ∀ a b c tl,l.drop 8 ≠ 32 :: a :: b :: c :: tl):statSpec l=statBad:=by
 unfold statSpec
 split
 ·rename_i h2
  split
  ·rename_i hx;subst hx;exact absurd h2 (h _ _ _ _)
  ·rfl
 ·rfl
theorem minL_some {l:List UInt8} {n:Int} (h:minL l=some n):l.length=8∧32 ∉ l∧((n=0∧l=[72,84,84,80,47,49,46,48]) ∨ (n=1∧l=[72,84,84,80,47,49,46,49])):=by
 unfold minL at h
 split at h
 ·rename_i e;subst e;exact ⟨rfl,by decide,.inl ⟨(Option.some.inj h).symm,rfl⟩⟩
 ·split at h
  ·rename_i e;subst e;exact ⟨rfl,by decide,.inr ⟨(Option.some.inj h).symm,rfl⟩⟩
  ·cases h
theorem digV_dig (a:UInt8):(digU a=true → digV (a.toNat:Int)=(a.toNat:Int) - 48)∧(0 ≤ digV (a.toNat:Int)∧digV (a.toNat:Int) < 10 ↔ digU a=true) :=
 byteAll (P:=fun a=>(digU a=true → digV (a.toNat:Int)=(a.toNat:Int) - 48)∧(0 ≤ digV (a.toNat:Int)∧digV (a.toNat:Int) < 10 ↔ digU a=true)) (by decide +kernel) a
theorem num3 (a b c:UInt8):numSpec (mkS [a,b,c]) 10 18=if dig3 a b c=true then (code3 a b c,true) else (0,false):=by
 obtain ⟨a1,a2⟩:=digV_dig a
 obtain ⟨b1,b2⟩:=digV_dig b
 obtain ⟨c1,c2⟩:=digV_dig c
 unfold numSpec dig3
 rw [mkS_size,if_neg (by simp),mkS_bytes]
 simp only [List.map_cons,List.map_nil,numL]
 cases ha:digU a
 ·rw [if_neg (fun h=>by have:=a2.1 h;rw [ha] at this;cases this)];rfl
 ·rw [if_pos (a2.2 ha)]
  cases hb:digU b
  ·rw [if_neg (fun h=>by have:=b2.1 h;rw [hb] at this;cases this)];rfl
  ·rw [if_pos (b2.2 hb)]
   cases hc:digU c
   ·rw [if_neg (fun h=>by have:=c2.1 h;rw [hc] at this;cases this)];rfl
   ·rw [if_pos (c2.2 hc),a1 ha,b1 hb,c1 hc]
    simp only [Bool.and_self,if_true]
    congr 1
    unfold code3
    omega
theorem code3_range {a b c:UInt8} (h:dig3 a b c=true):0 ≤ code3 a b c∧code3 a b c ≤ 999∧48 ≤ (a.toNat:Int)∧(a.toNat:Int) ≤ 57∧48 ≤ (b.toNat:Int)∧(b.toNat:Int) ≤ 57∧48 ≤ (c.toNat:Int)∧(c.toNat:Int) ≤ 57:=by
 unfold dig3 at h
 rw [Bool.and_eq_true,Bool.and_eq_true,dig_host,dig_host,dig_host,decide_eq_true_eq,decide_eq_true_eq,decide_eq_true_eq] at h
 unfold code3
 omega
theorem Status_rest (k:Nat) (n:Int) (rest:List UInt8) (hn:rest.length ≤ 140737488355327) (hk:10 ≤ k) (h3:3 ≤ rest.length) :
  line_Status.j0 (k + 1) (mkS rest) n false=some (match rest with|a :: b :: c :: tl=>if dig3 a b c=true then statEnd n (code3 a b c) tl else statBad|_=>statBad):=by
 obtain ⟨a,b,c,tl,rfl⟩ : ∃ a b c tl,rest=a :: b :: c :: tl:=by
  match rest,h3 with
  | a :: b :: c :: tl,_=>exact ⟨a,b,c,tl,rfl⟩
 have hl:(a :: b :: c :: tl).length=tl.length + 3:=rfl
 have e1:(mkS (a :: b :: c :: tl)).extract 0 3=mkS [a,b,c]:=by rw [mkS_extract];rfl
 have e2:(mkS (a :: b :: c :: tl)).extract 3 (tl.length + 3)=mkS tl:=by rw [mkS_extract,List.take_of_length_le (by rw [List.length_drop,hl];omega)];rfl
 have hz:(mkS [a,b,c]).size=3:=mkS_size _
 simp only [line_Status.j0]
 rw [if_neg (by simp),mkS_size,hl,if_pos (by decide),if_pos (by omega),e1,e2,Decimal_f _ (by omega) k (by omega),Option.bind_some,num3,show (⟨#[32]⟩:ByteArray)=mkS [32] from rfl,mkS_toList]
 cases hd:dig3 a b c
 ·simp only [Bool.false_eq_true,if_false]
  obtain ⟨R,hR⟩ : ∃ R,strings_CutPrefix.f (mkS tl) (mkS [32])=some R:=⟨_,CutPrefix_f _ _⟩
  rw [hR]
  rfl
 ·simp only [if_true]
  by_cases c1:code3 a b c < 100
  ·rw [statEnd_out (Or.inl c1)]
   obtain ⟨R,hR⟩ : ∃ R,strings_CutPrefix.f (mkS tl) (mkS [32])=some R:=⟨_,CutPrefix_f _ _⟩
   rw [hR,Option.bind_some,if_pos c1]
   rfl
  ·by_cases c2:code3 a b c > 599
   ·rw [statEnd_out (Or.inr c2)]
    obtain ⟨R,hR⟩ : ∃ R,strings_CutPrefix.f (mkS tl) (mkS [32])=some R:=⟨_,CutPrefix_f _ _⟩
    rw [hR,Option.bind_some,if_neg c1,if_pos c2]
    rfl
   ·have hc : ¬ (code3 a b c < 100 ∨ 599 < code3 a b c):=by omega
    cases tl with
    | nil =>
     rw [statEnd_nil0 hc,CutPrefix_no [] [32] (by simp),Option.bind_some,if_neg c1,if_neg c2,if_neg (by simp),if_pos rfl,Value_f _ (by rw [mkS_size];simp),Option.bind_some,if_pos (by rfl),if_neg (by rw [mkS_size];simp)]
    | cons x r =>
     have hr:r.length ≤ 140737488355327:=by simp only [List.length_cons] at hn;omega
     rw [statEnd_cons hc]
     by_cases hx:x=32
     ·subst hx
      rw [CutPrefix_yes (32 :: r) [32] (by rfl),Option.bind_some,if_neg c1,if_neg c2,if_pos rfl]
      rw [show List.drop ([32]:List UInt8).length (32 :: r)=r from rfl,Value_f _ (by rw [mkS_size];omega),Option.bind_some,mkS_size]
      cases hv:(bytesOf (mkS r)).all valB
      ·rw [if_neg (by simp),if_neg (fun h=>by cases h.2.1)];rfl
      ·by_cases h100:r.length ≤ 100
       ·rw [if_pos rfl,if_neg (by omega),if_pos ⟨rfl,rfl,h100⟩]
       ·rw [if_pos rfl,if_pos (by omega),if_neg (fun h=>h100 h.2.2)]
        rfl
     ·rw [CutPrefix_no (x :: r) [32] (by simpa using hx),Option.bind_some,if_neg c1,if_neg c2,if_neg (by simp),if_neg (by simp),if_neg (fun h=>hx h.1)]
      rfl
theorem Status_f (l:List UInt8) (hn:l.length ≤ 140737488355327) (k:Nat) (hk:20 ≤ k):line_Status.f k (mkS l)=some (statSpec l):=by
 obtain ⟨k,rfl⟩ : ∃ m,k=m + 1:=⟨k - 1,by omega⟩
 have hbad : ∀ x n,line_Status.j0 (k + 1) x n true=some statBad:=by intro x n;simp only [line_Status.j0];rfl
 unfold line_Status.f
 rcases split_first 32 l with h|⟨a,b,rfl,h⟩
 ·rw [Cut_no 32 l h,Option.bind_some,minor_f,Option.bind_some,if_neg (by simp),hbad,statSpec_no]
  intro a b c tl e
  exact h (List.mem_of_mem_drop (by rw [e];simp))
 ·rw [Cut_yes 32 a b h (by omega),Option.bind_some,minor_f,Option.bind_some,if_pos rfl]
  have hlen:(a ++ 32 :: b).length=a.length + b.length + 1:=by rw [List.length_append,List.length_cons];omega
  cases hm:minL a with
  | none =>
   rw [if_neg (by simp),hbad]

   congr 1
   cases h8:minL ((a ++ 32 :: b).take 8) with
   | none=>exact (statSpec_min h8).symm
   | some n =>
    refine (statSpec_no fun x y z tl e=>?_).symm
    obtain ⟨h1,h2,_⟩:=minL_some h8
    have hsp:a ++ 32 :: b=(a ++ 32 :: b).take 8 ++ 32 :: (x :: y :: z :: tl):=by rw [← e,List.take_append_drop]
    have ha:a=(a ++ 32 :: b).take 8:=by
     have i1:=index_append 32 a b h
     have i2:=index_append 32 ((a ++ 32 :: b).take 8) (x :: y :: z :: tl) h2
     rw [← hsp,i1,h1] at i2
     have:a.length=8:=by omega
     rw [← this,List.take_left]
    rw [ha,h8] at hm
    cases hm
  | some n =>
   obtain ⟨h1,_,_⟩:=minL_some hm
   have ht:(a ++ 32 :: b).take 8=a:=by rw [← h1,List.take_left]
   have hdr:(a ++ 32 :: b).drop 8=32 :: b:=by rw [← h1,List.drop_left]
   rw [if_pos rfl,mkS_size]
   by_cases h3:(b.length:Int) < 3
   ·rw [decide_eq_true h3,hbad,statSpec_no]
    intro x y z tl e
    rw [hdr] at e
    injection e with _ e
    rw [e] at h3
    simp only [List.length_cons] at h3
    omega
   ·rw [decide_eq_false h3,Status_rest k n b (by omega) (by omega) (by omega)]
    obtain ⟨x,y,z,tl,rfl⟩ : ∃ x y z tl,b=x :: y :: z :: tl:=by
     match b,h3 with
     | [],h=>exact absurd (by simp) h
     | [_],h=>exact absurd (by simp) h
     | [_,_],h=>exact absurd (by simp) h
     | x :: y :: z :: tl,_=>exact ⟨x,y,z,tl,rfl⟩
    rw [statSpec_yes (by rw [ht];exact hm) hdr]
def respBad (b:Bool):Int × ByteArray × Int × List (S55) × List Int × Int × Bool:=(0,⟨#[]⟩,0,[],[],0,b)
def restS (b:List Int) (kind size:Int) (ended:Bool):List Int × Int × Bool :=
 if kind=3 then (if (b.length:Int) > 4096 then ([],-1,false) else if ended=true then (b,(b.length:Int),true) else ([],-1,true))
 else ((bodyS b size (kind == 2)).1,(bodyS b size (kind == 2)).2.1,(bodyS b size (kind == 2)).2.2 == 0)
def respF (l:List Int) (y:Int × Int × Bool) (ended:Bool) (q:Int × ByteArray × Int × (List (S55)) × List Int × Bool) (g:List (S55)) (n:Int):Int × ByteArray × Int × List (S55) × List Int × Int × Bool :=
 if y.2.2=true then
  (if (restS (l.drop n.toNat) y.1 y.2.1 ended).2.1 < 0 then respBad ((restS (l.drop n.toNat) y.1 y.2.1 ended).2.2 && !ended)
   else if (restS (l.drop n.toNat) y.1 y.2.1 ended).2.2=true then (q.1,q.2.1,q.2.2.1,g,(restS (l.drop n.toNat) y.1 y.2.1 ended).1,n + (restS (l.drop n.toNat) y.1 y.2.1 ended).2.1,true) else respBad false)
 else respBad false
def respL (l:List Int) (m:ByteArray) (ended:Bool):List ByteArray × Int × Int → Int × ByteArray × Int × List (S55) × List Int × Int × Bool
 | ([],_,c)=>respBad (c == 0 && !ended)
 | (s :: ss,n,c)=>if (statSpec s.data.toList).2.2.2.2.2=true then (if (fieldsS ss 0).2=0 then (if n=0 then respBad (c == 0 && !ended) else respF l (respLen m (statSpec s.data.toList).1 (statSpec s.data.toList).2.2.1 (fieldsS ss 0).1) ended (statSpec s.data.toList) (fieldsS ss 0).1 n) else respBad false) else respBad false
/-- The response with which bytes begin. -/
def respS2 (l:List Int) (m:ByteArray) (ended:Bool):Int × ByteArray × Int × List (S55) × List Int × Int × Bool:=respL l m ended (linesS (bdS l) (extS l))
theorem lines_at (l:List Int):(linesS (bdS l) (extS l)).2.1 ≤ (l.length:Int)∧0 ≤ (linesS (bdS l) (extS l)).2.1∧(linesS (bdS l) (extS l)).2.1 ≤ 2048:=by
 have hb:=bdS_length l
 have:=lines_le (bdS l) (extS l)
 omega
theorem respLen_size (m:ByteArray) (c mi:Int) (fs:List (S55)):0 ≤ (respLen m c mi fs).2.1:=by
 have:=(reqLen_size fs mi).1
 unfold respLen
 repeat' split
 all_goals first|exact Int.le_refl _|exact this
theorem resp_le (l:List Int) (m:ByteArray) (ended:Bool) (hl:l.length ≤ 1000000):(respS2 l m ended).2.2.2.2.2.1 ≤ (l.length:Int)∧(respS2 l m ended).2.2.2.1.length ≤ 40∧(respS2 l m ended).2.2.2.2.1.length ≤ l.length:=by
 have hle:=lines_at l
 unfold respS2
 obtain ⟨L,hL⟩ : ∃ L,L=linesS (bdS l) (extS l):=⟨_,rfl⟩
 rw [← hL] at hle ⊢
 obtain ⟨ss,n,c⟩:=L
 simp only at hle
 have hbad : ∀ b,(respBad b).2.2.2.2.2.1 ≤ (l.length:Int)∧(respBad b).2.2.2.1.length ≤ 40∧(respBad b).2.2.2.2.1.length ≤ l.length:=fun b=>⟨by show (0:Int) ≤ _;omega,Nat.zero_le _,Nat.zero_le _⟩
 cases ss with
 | nil=>exact hbad _
 | cons s ss =>
  rw [respL]
  split
  ·split
   ·split
    ·exact hbad _
    ·unfold respF
     have hy:=respLen_size m (statSpec s.data.toList).1 (statSpec s.data.toList).2.2.1 (fieldsS ss 0).1
     obtain ⟨y,hyy⟩ : ∃ y,y=respLen m (statSpec s.data.toList).1 (statSpec s.data.toList).2.2.1 (fieldsS ss 0).1:=⟨_,rfl⟩
     rw [← hyy] at hy ⊢
     have hdl:(l.drop n.toNat).length=l.length - n.toNat:=List.length_drop ..
     have hf:=fieldsS_FB ss 0 (by omega)
     have hb:=body_le (l.drop n.toNat) (by omega) y.2.1 hy (y.1 == 2)
     have hr:(restS (l.drop n.toNat) y.1 y.2.1 ended).2.1 ≤ ((l.drop n.toNat).length:Int)∧(restS (l.drop n.toNat) y.1 y.2.1 ended).1.length ≤ (l.drop n.toNat).length:=by
      unfold restS
      split
      ·split
       ·exact ⟨by show (-1:Int) ≤ _;omega,Nat.zero_le _⟩
       ·split
        ·exact ⟨Int.le_refl _,Nat.le_refl _⟩
        ·exact ⟨by show (-1:Int) ≤ _;omega,Nat.zero_le _⟩
      ·exact ⟨hb.1,hb.2.2.1⟩
     split
     ·split
      ·exact hbad _
      ·split
       ·exact ⟨by show n + _ ≤ _;omega,by show (fieldsS ss 0).1.length ≤ 40;omega,by show (restS _ _ _ _).1.length ≤ _;omega⟩
       ·exact hbad _
     ·exact hbad _
   ·exact hbad _
  ·exact hbad _
theorem statSpec_bare (l:List UInt8):(statSpec l).2.2.2.1=[]∧(statSpec l).2.2.2.2.1=[]:=by
 have hb:statBad.2.2.2.1=([]:List (S55))∧statBad.2.2.2.2.1=([]:List Int):=⟨rfl,rfl⟩
 unfold statSpec
 split
 ·split
  ·split
   ·unfold statEnd
    split
    ·exact hb
    ·split
     ·exact ⟨rfl,rfl⟩
     ·split
      ·exact ⟨rfl,rfl⟩
      ·exact hb
   ·exact hb
  ·exact hb
 ·exact hb
theorem rest_f (b:List Int) (hb:b.length ≤ 1000000) (kind size:Int) (hs:0 ≤ size) (ended:Bool) (k:Nat) (hk:4000100 ≤ k):http_rest.f k b kind size ended=some (restS b kind size ended):=by
 unfold http_rest.f restS
 by_cases h3:kind=3
 ·rw [if_pos h3,if_pos h3]
  by_cases h4:(b.length:Int) > 4096
  ·rw [if_pos h4,if_pos h4]
  ·rw [if_neg h4,if_neg h4]
   cases ended
   ·rw [if_neg (show ¬ (false=true) by simp),if_neg (show ¬ (false=true) by simp)]
   ·unfold bytes_Clone.f
    rw [if_pos rfl,if_pos rfl,if_pos (by omega),Option.bind_some]
 ·rw [if_neg h3,if_neg h3,body_f b hb size hs _ k hk,Option.bind_some]
theorem http_Response_f (l:List Int) (hl:l.length ≤ 1000000) (m:ByteArray) (ended:Bool) (k:Nat) (hk:1070000100 ≤ k):http_Response.f k l m ended=some (respS2 l m ended):=by
 obtain ⟨k,rfl⟩ : ∃ j,k=j + 1:=⟨k - 1,by omega⟩
 have hb:=bdS_length l
 have hsz:=lines_sizes (bdS l) (extS l) hb.1
 have hla:=lines_at l
 have hn1:=head_nil statusFst l k (by omega)
 have hn2:=head_cons statusFst l (by omega) k (by omega)
 unfold respS2 http_Response.f
 obtain ⟨L,hL⟩ : ∃ L,L=linesS (bdS l) (extS l):=⟨_,rfl⟩
 rw [← hL] at hsz hn1 hn2 hla ⊢
 obtain ⟨ss,n,c⟩:=L
 simp only at hla
 cases ss with
 | nil =>
  rw [hn1 rfl,Option.bind_some]
  rfl
 | cons s ss =>
  have hs:=hsz s (List.mem_cons_self ..)
  have hq : ∀ k,1000000 ≤ k → line_Status.f k s=some (statSpec s.data.toList):=fun k hk=>by
   have:=Status_f s.data.toList (by rw [data_length];omega) k (by omega)
   rw [mkS_self] at this
   exact this
  have hnil:=statSpec_bare s.data.toList
  have hr:statusFst k s=some (if (statSpec s.data.toList).2.2.2.2.2=true then 0 else 400):=by
   unfold statusFst
   rw [hq k (by omega),Option.bind_some,hnil.1,hnil.2,if_pos ⟨rfl,rfl⟩]
   split <;> rfl
  rw [hn2 s ss rfl,hr,Option.bind_some,respL]
  obtain ⟨q,hqq⟩ : ∃ q,q=statSpec s.data.toList:=⟨_,rfl⟩
  have hFB:=fields_FB ss
  rw [← hqq] at hq hnil ⊢
  obtain ⟨g,hg⟩ : ∃ g,g=fieldsS ss 0:=⟨_,rfl⟩
  rw [← hg] at hFB ⊢
  by_cases h1:q.2.2.2.2.2=true
  ·rw [if_pos h1,if_pos h1,if_pos rfl]
   unfold headEnd
   by_cases h2:g.2=0
   ·rw [if_pos h2,if_pos h2]
    simp only
    by_cases h3:n=0
    ·rw [if_pos h3,if_pos h3,Option.bind_some]
     rfl
    ·have hy:=respLen_size m q.1 q.2.2.1 g.1
     have hfr:=frameResp_f m q.1 q.2.1 q.2.2.1 g.1 [] hFB (k + 1) (by omega)
     rw [if_neg h3,if_neg h3,Option.bind_some,if_neg h3,Option.bind_some,hq _ (by omega),Option.bind_some,List.nil_append,hfr,Option.bind_some]
     obtain ⟨y,hyy⟩ : ∃ y,y=respLen m q.1 q.2.2.1 g.1:=⟨_,rfl⟩
     rw [← hyy] at hy ⊢
     unfold respF
     by_cases h4:y.2.2=true
     ·have hdl:(l.drop n.toNat).length=l.length - n.toNat:=List.length_drop ..
      rw [if_pos h4,if_pos h4,if_pos (show (0:Int) ≤ n by omega),if_pos (show n ≤ (l.length:Int) by omega),rest_f (l.drop n.toNat) (by omega) y.1 y.2.1 hy ended (k + 1) (by omega),Option.bind_some]
      have hb2:=body_le (l.drop n.toNat) (by omega) y.2.1 hy (y.1 == 2)
      have hrl:(restS (l.drop n.toNat) y.1 y.2.1 ended).2.1 ≤ ((l.drop n.toNat).length:Int):=by
       unfold restS
       split
       ·split
        ·show (-1:Int) ≤ _;omega
        ·split
         ·exact Int.le_refl _
         ·show (-1:Int) ≤ _;omega
       ·exact hb2.1
      obtain ⟨z,hz⟩ : ∃ z,z=restS (l.drop n.toNat) y.1 y.2.1 ended:=⟨_,rfl⟩
      rw [← hz] at hrl ⊢
      by_cases h5:z.2.1 < 0
      ·rw [if_pos h5,if_pos h5];rfl
      ·rw [if_neg h5,if_neg h5]
       by_cases h6:z.2.2=true
       ·rw [if_pos h6,if_pos h6,show wrap64 (n + z.2.1)=n + z.2.1 by unfold wrap64;omega]
       ·rw [if_neg h6,if_neg h6];rfl
     ·rw [if_neg h4,if_neg h4];rfl
   ·rw [if_neg h2,if_neg h2,Option.bind_some,if_pos rfl]
    have:(g.2 == 0)=false:=beq_eq_false_iff_ne.2 h2
    simp only [this,Bool.false_and]
    rfl
  ·rw [if_neg h1,if_neg h1,if_neg (by decide),Option.bind_some]
   rfl
theorem join_l1 (b:List Int) (hb:b.length < 140737488355328) (d:Nat) : ∀ (k:Nat) (out:List Int) (i:Nat),i + d=b.length → d < k → out.length + d < 140737488355328 → tollbarref01_Join.l1 k b out (i:Int)=some (out ++ b.drop i):=by
 induction d with
 | zero =>
  intro k out i hi hk ho
  obtain ⟨k,rfl⟩ : ∃ m,k=m + 1:=⟨k - 1,by omega⟩
  simp only [tollbarref01_Join.l1]
  rw [if_neg (by omega),List.drop_of_length_le (by omega),List.append_nil]
 | succ d ih =>
  intro k out i hi hk ho
  obtain ⟨k,rfl⟩ : ∃ m,k=m + 1:=⟨k - 1,by omega⟩
  have hlt:i < b.length:=by omega
  simp only [tollbarref01_Join.l1]
  rw [if_pos (by omega),if_pos (by omega),if_pos (by omega),show wrap64 ((i:Int) + 1)=((i + 1:Nat):Int) by unfold wrap64;omega,ih k _ (i + 1) (by omega) (by omega) (by rw [List.length_append];simp;omega),List.append_assoc,List.drop_eq_getElem_cons hlt]
  simp [rd,List.getD_eq_getElem?_getD,List.getElem?_eq_getElem hlt]
theorem join_l0 (a b:List Int) (ha:a.length < 140737488355328) (hb:b.length < 140737488355328) (d:Nat) : ∀ (k:Nat) (out:List Int) (i:Nat),i + d=a.length → d + b.length + 1 < k → out.length + d + b.length < 140737488355328 → tollbarref01_Join.l0 k a b out (i:Int)=some (out ++ a.drop i ++ b):=by
 induction d with
 | zero =>
  intro k out i hi hk ho
  obtain ⟨k,rfl⟩ : ∃ m,k=m + 1:=⟨k - 1,by omega⟩
  simp only [tollbarref01_Join.l0]
  rw [if_neg (by omega),List.drop_of_length_le (by omega),List.append_nil]
  have:=join_l1 b hb b.length k out 0 (by omega) (by omega) (by omega)
  rw [List.drop_zero] at this
  exact this
 | succ d ih =>
  intro k out i hi hk ho
  obtain ⟨k,rfl⟩ : ∃ m,k=m + 1:=⟨k - 1,by omega⟩
  have hlt:i < a.length:=by omega
  simp only [tollbarref01_Join.l0]
  rw [if_pos (by omega),if_pos (by omega),if_pos (by omega),show wrap64 ((i:Int) + 1)=((i + 1:Nat):Int) by unfold wrap64;omega,ih k _ (i + 1) (by omega) (by omega) (by rw [List.length_append];simp;omega),List.append_assoc out,List.drop_eq_getElem_cons hlt]
  simp [rd,List.getD_eq_getElem?_getD,List.getElem?_eq_getElem hlt]
theorem Join_f (a b:List Int) (k:Nat) (hk:a.length + b.length + 2 ≤ k) (hl:a.length + b.length < 140737488355328):tollbarref01_Join.f k a b=some (a ++ b):=by
 unfold tollbarref01_Join.f
 have:=join_l0 a b (by omega) (by omega) a.length k [] 0 (by omega) (by omega) (by simpa using hl)
 rw [List.drop_zero,List.nil_append] at this
 exact this
end Go.Proofs.YtfjeinnemimjoaaGreatDoor.Pure
namespace Go.Proofs.YtfjeinnemimjoaaGreatDoor.P
open Go.RowKit Go.Proofs.YtfjeinnemimjoaaGreatDoorW.PrintWords Go.Proofs.YtfjeinnemimjoaaGreatDoorW.PrintLast Go.Proofs.YtfjeinnemimjoaaGreatDoorW.PrintMore
attribute [local go_sem] max2_int min2_int max_two min_two max_three min_three max_four min_four
set_option linter.unusedVariables false
set_option linter.unusedSimpArgs false
end Go.Proofs.YtfjeinnemimjoaaGreatDoor.P
namespace Go.Proofs.YtfjeinnemimjoaaGreatDoor.Pure
open Go.RowKit Go.Proofs.YtfjeinnemimjoaaGreatDoor.P Go.Proofs.YtfjeinnemimjoaaGreatDoorW.PrintWords Go.Proofs.YtfjeinnemimjoaaGreatDoorW.PrintLast Go.Proofs.YtfjeinnemimjoaaGreatDoorW.PrintMore
set_option linter.unusedVariables false
set_option linter.unusedSimpArgs false
theorem blank_tells (b:UInt8):tollbarref02_blank.f (b.toNat:Int)=some (blk b):=by
 have h : ∀ n:Fin 256,tollbarref02_blank.f (n.val:Int)=some (blk (UInt8.ofNat n.val)):=by decide +kernel
 have:=h ⟨b.toNat,b.toNat_lt⟩
 rw [this]
 congr 2
 exact UInt8.ofNat_toNat
theorem trimR_ref (d:Nat) : ∀ (k:Nat) (x:List UInt8),x.length=d → x.length ≤ 4398046511104 → d + 1 ≤ k → (∀ a,x.head? = some a → blk a=false) →
  ∃ r post,tollbarref02_Trim.l1 k (mkS x)=some (mkS r)∧x=r ++ post∧Clean r ∧ ∀ a ∈ post,blk a=true:=by
 induction d with
 | zero =>
  intro k x hx hn hk hh
  obtain ⟨k,rfl⟩ : ∃ m,k=m + 1:=⟨k - 1,by omega⟩
  obtain rfl:x=[]:=List.eq_nil_of_length_eq_zero hx
  refine ⟨[],[],?_,rfl,⟨by simp,by simp⟩,by simp⟩
  simp only [tollbarref02_Trim.l1]
  rw [if_neg (by rw [mkS_size];simp)]
 | succ d ih =>
  intro k x hx hn hk hh
  obtain ⟨k,rfl⟩ : ∃ m,k=m + 1:=⟨k - 1,by omega⟩
  obtain ⟨y,b,rfl⟩ : ∃ y b,x=y ++ [b]:=⟨x.dropLast,x.getLast (by intro e;simp [e] at hx),(List.dropLast_concat_getLast _).symm⟩
  have hy:y.length=d:=by simpa using hx
  have hs:(mkS (y ++ [b])).size=d + 1:=by rw [mkS_size];simp [hy]
  have hw:wrap64 (((d + 1:Nat):Int) - 1)=((d:Nat):Int):=by unfold wrap64;omega
  have hb:bt (mkS (y ++ [b])) ((d:Nat):Int)=(b.toNat:Int):=by
   rw [bt_mk _ d (by simp;omega)]
   simp [← hy]
  have hex:(mkS (y ++ [b])).extract 0 d=mkS y:=by
   rw [mkS_extract,List.drop_zero,Nat.sub_zero,← hy,List.take_left]
  simp only [tollbarref02_Trim.l1]
  rw [hs,if_pos (by omega),hw,if_pos (by omega),if_pos (by omega),hb,blank_tells,Option.bind_some,Int.toNat_natCast,hex]
  cases hbl:blk b
  ·rw [if_neg (by simp)]
   exact ⟨y ++ [b],[],rfl,by simp,⟨hh,by intro a ha;simp at ha;rw [← ha];exact hbl⟩,by simp⟩
  ·rw [if_pos rfl,if_pos (by omega)]
   obtain ⟨r,post,h1,h2,h3,h4⟩:=ih k y hy (by omega) (by omega) (by
    intro a ha
    refine hh a ?_
    rw [List.head?_append,ha]
    rfl)
   refine ⟨r,post ++ [b],h1,by rw [h2];simp,h3,fun a ha=>?_⟩
   rcases List.mem_append.1 ha with ha|ha
   ·exact h4 a ha
   ·rw [List.mem_singleton.1 ha];exact hbl
theorem trimL_ref (n:Nat) (hn:n ≤ 4398046511104) (d:Nat) : ∀ (k:Nat) (x:List UInt8),x.length=d → d ≤ n → d + n + 4 ≤ k →
  ∃ r pre post,tollbarref02_Trim.l0 k (mkS x)=some (mkS r)∧x=pre ++ r ++ post∧Clean r∧(∀ a ∈ pre,blk a=true) ∧ ∀ a ∈ post,blk a=true:=by
 induction d with
 | zero =>
  intro k x hx hd hk
  obtain ⟨k,rfl⟩ : ∃ m,k=m + 2:=⟨k - 2,by omega⟩
  obtain rfl:x=[]:=List.eq_nil_of_length_eq_zero hx
  obtain ⟨r,post,h1,h2,h3,h4⟩:=trimR_ref 0 k [] rfl (by simp) (by omega) (by simp)
  refine ⟨r,[],post,?_,by simpa using h2,h3,by simp,h4⟩
  simp only [tollbarref02_Trim.l0]
  rw [if_neg (by rw [mkS_size];simp)]
  simp only [tollbarref02_Trim.j1]
  exact h1
 | succ d ih =>
  intro k x hx hd hk
  obtain ⟨k,rfl⟩ : ∃ m,k=m + 2:=⟨k - 2,by omega⟩
  obtain ⟨b,y,rfl⟩ : ∃ b y,x=b :: y:=by
   cases x with
   | nil=>simp at hx
   | cons b y=>exact ⟨b,y,rfl⟩
  have hy:y.length=d:=by simpa using hx
  have hs:(mkS (b :: y)).size=d + 1:=by rw [mkS_size];simp [hy]
  have hb:bt (mkS (b :: y)) 0=(b.toNat:Int):=bt_mk (b :: y) 0 (by simp)
  have hex:(mkS (b :: y)).extract 1 (d + 1)=mkS y:=by
   rw [mkS_extract]
   simp [← hy]
  simp only [tollbarref02_Trim.l0]
  rw [hs,if_pos (by omega),if_pos (by omega),hb,blank_tells,Option.bind_some]
  cases hbl:blk b
  ·rw [if_neg (by simp)]
   obtain ⟨r,post,h1,h2,h3,h4⟩:=trimR_ref (d + 1) k (b :: y) hx (by omega) (by omega) (by intro a ha;simp at ha;rw [← ha];exact hbl)
   refine ⟨r,[],post,?_,by simpa using h2,h3,by simp,h4⟩
   simp only [tollbarref02_Trim.j1]
   exact h1
  ·rw [if_pos rfl,if_pos (by omega),hex]
   obtain ⟨r,pre,post,h1,h2,h3,h4,h5⟩:=ih (k + 1) y hy (by omega) (by omega)
   refine ⟨r,b :: pre,post,h1,by rw [h2];simp,h3,fun a ha=>?_,h5⟩
   rcases List.mem_cons.1 ha with rfl|ha
   ·exact hbl
   ·exact h4 a ha
theorem refTrim_mk (x:List UInt8) (hn:x.length ≤ 4398046511104) (k:Nat) (hk:2 * x.length + 4 ≤ k):tollbarref02_Trim.f k (mkS x)=some (mkS (trm x)):=by
 obtain ⟨r,pre,post,h1,h2,h3,h4,h5⟩:=trimL_ref x.length hn x.length k x rfl (Nat.le_refl _) (by omega)
 unfold tollbarref02_Trim.f
 rw [h1,h2,trm_around pre r post h3 h4 h5]
/-- One part ends: what is told of it. -/
theorem part_ends (out:List ByteArray) (seg:List UInt8) (h:44 ∉ seg) (ho:out.length < 8796093022208) (R:List ByteArray → Option (List ByteArray)) :
  (if (mkS (trm seg)).toList=([]:List UInt8) then R out else (if out.length < 8796093022208 then R (out ++ [mkS (trm seg)]) else none))=R (out ++ (commaParts seg).map mkS):=by
 rw [comma_one seg h,mkS_toList]
 by_cases he:trm seg=[]
 ·rw [if_pos he,if_pos (by simpa using he)];simp
 ·rw [if_neg he,if_pos ho,if_neg (by simpa using he)];rfl
theorem refSplit_l0 (l : List UInt8) (hn : l.length ≤ 1048580) (d : Nat) : ∀ (k : Nat) (out : List ByteArray) (f i : Nat), f ≤ i → i + d = l.length → 44 ∉ (l.drop f).take (i - f) → out.length ≤ 2 * i → 3 * d + 2 * l.length + 20 ≤ k →
    tollbarref02_Split.l0 k (mkS l) out f i = some (out ++ (commaParts (l.drop f)).map mkS) := by
  induction d with
  | zero =>
    intro k out f i hf hi hs ho hk
    obtain ⟨k, rfl⟩ : ∃ m, k = m + 3 := ⟨k - 3, by omega⟩
    have hz : (mkS l).size = l.length := mkS_size l
    have hw : wrap64 ((i : Int) + 1) = (i : Int) + 1 := wn1 i (by omega)
    have ht : (l.drop f).take (i - f) = l.drop f := List.take_of_length_le (by rw [List.length_drop]; omega)
    have hend : ∀ o : List ByteArray, tollbarref02_Split.l0 (k + 1) (mkS l) o ((i : Int) + 1) ((i : Int) + 1) = some o := by
      intro o
      simp only [tollbarref02_Split.l0]
      rw [if_neg (by omega)]
    simp only [tollbarref02_Split.l0]
    rw [hz, if_pos (by omega), if_pos (by omega)]
    simp only [tollbarref02_Split.j1]
    rw [if_pos trivial, if_pos (by omega), if_pos (by omega), hz, if_pos (by omega), Int.toNat_natCast, Int.toNat_natCast, mkS_extract, refTrim_mk _ (by rw [List.length_take, List.length_drop]; omega) _ (by rw [List.length_take, List.length_drop]; omega), Option.bind_some, hw, hend, hend]
    rw [ht] at hs ⊢
    exact part_ends out _ hs (by omega) (fun o => some o)
  | succ d ih =>
    intro k out f i hf hi hs ho hk
    obtain ⟨k, rfl⟩ : ∃ m, k = m + 2 := ⟨k - 2, by omega⟩
    have hlt : i < l.length := by omega
    have hz : (mkS l).size = l.length := mkS_size l
    have hw : wrap64 ((i : Int) + 1) = ((i + 1 : Nat) : Int) := by rw [wn1 i (by omega)]; omega
    obtain ⟨e1, e2⟩ := seg_split l f i hf hlt
    have ih1 := fun o (h : o.length ≤ 2 * (i + 1)) => ih k o (i + 1) (i + 1) (Nat.le_refl _) (by omega) (by simp) h (by omega)
    have ih2 := fun h => ih k out f (i + 1) (by omega) (by omega) h (by omega) (by omega)
    simp only [tollbarref02_Split.l0]
    rw [hz, if_pos (by omega), if_neg (by omega), if_pos (by omega), if_pos (by omega), bt_mk l i hlt]
    simp only [tollbarref02_Split.j1]
    by_cases hc : l[i] = 44
    · have hb : (((l[i]).toNat : Int) == 44) = true := by rw [hc]; rfl
      rw [hb, if_pos rfl, if_pos (by omega), if_pos (by omega), hz, if_pos (by omega), Int.toNat_natCast, Int.toNat_natCast, mkS_extract, refTrim_mk _ (by rw [List.length_take, List.length_drop]; omega) _ (by rw [List.length_take, List.length_drop]; omega), Option.bind_some, hw]
      have hp := part_ends out ((l.drop f).take (i - f)) hs (by omega) (fun o => tollbarref02_Split.l0 k (mkS l) o ((i + 1 : Nat) : Int) ((i + 1 : Nat) : Int))
      refine hp.trans ?_
      have hlen : (commaParts ((l.drop f).take (i - f))).length ≤ 1 := by rw [comma_one _ hs]; split <;> simp
      rw [ih1 _ (by rw [List.length_append, List.length_map]; omega)]
      have e3 : commaParts (l.drop f) = commaParts ((l.drop f).take (i - f)) ++ commaParts (l.drop (i + 1)) := by
        rw [← comma_append]
        congr 1
        rw [← hc]
        exact e1
      rw [e3, List.map_append, List.append_assoc]
    · have hb : (((l[i]).toNat : Int) == 44) = false := by
        rw [beq_eq_false_iff_ne]
        intro e
        exact hc (UInt8.toNat_inj.1 (by show _ = 44; omega))
      rw [hb, if_neg (by simp), hw]
      refine ih2 ?_
      rw [e2]
      intro hm
      rcases List.mem_append.1 hm with hm | hm
      · exact hs hm
      · exact hc (List.mem_singleton.1 hm).symm
theorem refSplit_f (l:List UInt8) (hn:l.length ≤ 1048580) (k:Nat) (hk:5 * l.length + 20 ≤ k):tollbarref02_Split.f k (mkS l)=some ((commaParts l).map mkS):=by
 have:=refSplit_l0 l hn l.length k [] 0 0 (Nat.le_refl _) (by omega) (by simp) (by simp) (by omega)
 unfold tollbarref02_Split.f
 rw [show ((0:Nat):Int)=0 from rfl] at this
 rw [this]
 rfl
theorem refSame_f (a b:ByteArray) (ha:a.size ≤ 1048576) (hb:b.size ≤ 1048576) (k:Nat) (hk:1048578 ≤ k):tollbarref04_same.f k a b=some (sameN a b):=by
 unfold tollbarref04_same.f
 rw [refFold_f a (by omega) k (by omega),refFold_f b (by omega) k (by omega),Fold_f a (by omega),Fold_f b (by omega),Option.bind_some,Option.bind_some,str_inj (bytes_fold (bytes_of a)) (bytes_fold (bytes_of b))]
 rfl
theorem refGet_l0 (name:ByteArray) (hn:name.size ≤ 1048576) (fs:List (S55)) (hf:FB fs) (d:Nat) : ∀ (k i:Nat) (out:List ByteArray),i + d=fs.length → d + 1048580 ≤ k → out.length ≤ i →
  tollbarref04_Get.l0 k fs name out (i:Int)=some (out ++ getS name (fs.drop i)):=by
 have hfl:=hf.1
 induction d with
 | zero =>
  intro k i out hi hk ho
  obtain ⟨k,rfl⟩ : ∃ m,k=m + 1:=⟨k - 1,by omega⟩
  rw [tollbarref04_Get.l0,if_neg (by omega),List.drop_of_length_le (by omega),getS,List.append_nil]
 | succ d ih =>
  intro k i out hi hk ho
  obtain ⟨k,rfl⟩ : ∃ m,k=m + 1:=⟨k - 1,by omega⟩
  have hlt:i < fs.length:=by omega
  have hb:=hf.2 _ (List.getElem_mem hlt)
  have hw:wrap64 ((i:Int) + 1)=((i + 1:Nat):Int):=by unfold wrap64;omega
  rw [tollbarref04_Get.l0,if_pos (by omega),if_pos (by omega),rdT_at fs i hlt,refSame_f _ _ (by omega) (by omega) k (by omega),Option.bind_some,hw,List.drop_eq_getElem_cons hlt,getS]
  by_cases hs:sameN fs[i].f0 name=true
  ·rw [if_pos hs,if_pos hs,if_pos (by omega),ih k (i + 1) _ (by omega) (by omega) (by rw [List.length_append];simp;omega)]
   simp only [List.append_assoc,List.singleton_append]
  ·rw [if_neg hs,if_neg hs,ih k (i + 1) _ (by omega) (by omega) (by omega)]
theorem refGet_f (fs:List (S55)) (name:ByteArray) (hf:FB fs) (hn:name.size ≤ 1048576) (k:Nat) (hk:1049600 ≤ k):tollbarref04_Get.f k fs name=some (getS name fs):=by
 have hfl:=hf.1
 have:=refGet_l0 name hn fs hf fs.length k 0 [] (by omega) (by omega) (Nat.zero_le _)
 rw [List.drop_zero,List.nil_append] at this
 exact this
theorem refList_l1 (vs:List ByteArray) (x7:Int) (ps:List ByteArray) (hpl:ps.length ≤ 2000000) (R:Nat → List ByteArray → Option (List ByteArray)) (hR : ∀ k out,R k out=tollbarref04_List.l0 k out vs (wrap64 (x7 + 1))) (d:Nat) : ∀ (k i:Nat) (out:List ByteArray),i + d=ps.length → out.length + d < 8796093022208 →
  tollbarref04_List.l1 (k + 1 + d) out vs x7 ps (i:Int)=R k (out ++ ps.drop i):=by
 induction d with
 | zero =>
  intro k i out hi ho
  rw [Nat.add_zero,tollbarref04_List.l1,if_neg (by omega),List.drop_of_length_le (by omega),List.append_nil,hR]
 | succ d ih =>
  intro k i out hi ho
  have hlt:i < ps.length:=by omega
  have hw:wrap64 ((i:Int) + 1)=((i + 1:Nat):Int):=by unfold wrap64;omega
  rw [show k + 1 + (d + 1)=(k + 1 + d) + 1 by omega,tollbarref04_List.l1,if_pos (by omega),if_pos (by omega),if_pos (by omega),rdB_at ps i hlt,hw,ih k (i + 1) _ (by omega) (by rw [List.length_append];simp;omega),List.drop_eq_getElem_cons hlt]
  simp only [List.append_assoc,List.singleton_append]
theorem refList_l0 (vs:List ByteArray) (hl:vs.length ≤ 1000) (hv : ∀ v ∈ vs,v.size ≤ 1048576) (C E:Nat) (hC:1048580 ≤ C) (hE:8000000 ≤ E) (d:Nat) : ∀ (k i:Nat) (out:List ByteArray),i + d=vs.length → d * C + E ≤ k → out.length ≤ 1048577 * i →
  tollbarref04_List.l0 k out vs (i:Int)=some (out ++ (vs.drop i).flatMap partsS):=by
 induction d with
 | zero =>
  intro k i out hi hk ho
  obtain ⟨k,rfl⟩ : ∃ m,k=m + 1:=⟨k - 1,by omega⟩
  rw [tollbarref04_List.l0,if_neg (by omega),List.drop_of_length_le (by omega),List.flatMap_nil,List.append_nil]
 | succ d ih =>
  intro k i out hi hk ho
  rw [Nat.succ_mul] at hk
  obtain ⟨X,hX⟩ : ∃ X,X=d * C:=⟨_,rfl⟩
  rw [← hX] at hk
  have HX:=Aside0.mk hX
  clear hX
  obtain ⟨k,rfl⟩ : ∃ m,k=m + 1:=⟨k - 1,by omega⟩
  have hlt:i < vs.length:=by omega
  have hw:wrap64 ((i:Int) + 1)=((i + 1:Nat):Int):=by unfold wrap64;omega
  have HW:=Aside0.mk hw
  clear hw
  have hb:=hv _ (List.getElem_mem hlt)
  have hp:=parts_len vs[i]
  have hsp:=refSplit_f vs[i].data.toList (by rw [data_length];omega) k (by rw [data_length];omega)
  rw [mkS_self] at hsp
  have e:(commaParts vs[i].data.toList).map mkS=partsS vs[i]:=rfl
  rw [tollbarref04_List.l0,if_pos (Int.ofNat_lt.2 hlt),if_pos (Int.natCast_nonneg i),rdB_at vs i hlt,hsp,Option.bind_some,List.drop_eq_getElem_cons hlt,List.flatMap_cons,e]
  obtain ⟨j,hj⟩ : ∃ j,k=j + 1 + (partsS vs[i]).length:=⟨k - 1 - (partsS vs[i]).length,by omega⟩
  have h1:=refList_l1 vs (i:Int) (partsS vs[i]) (by omega) _ (fun _ _=>rfl) (partsS vs[i]).length j 0 out (by omega) (by omega)
  rw [← hj,List.drop_zero] at h1
  have h2:tollbarref04_List.l1 k out vs (i:Int) (partsS vs[i]) 0=tollbarref04_List.l0 j (out ++ partsS vs[i]) vs (wrap64 ((i:Int) + 1)):=h1
  have hj2:d * C + E ≤ j:=by rw [← HX.out];omega
  have h3:=ih j (i + 1) (out ++ partsS vs[i]) (by omega) hj2 (by have hla := @List.length_append _ out (partsS vs[i]);omega)
  rw [h2,HW.out,h3,List.append_assoc]
theorem refList_f (fs:List (S55)) (name:ByteArray) (hf:FB fs) (hn:name.size ≤ 1048576) (k:Nat) (hk:1057000000 ≤ k):tollbarref04_List.f k fs name=some (listS name fs):=by
 obtain ⟨h1,h2⟩:=get_bounds fs name hf
 unfold tollbarref04_List.f
 rw [refGet_f fs name hf hn k (by omega),Option.bind_some]
 obtain ⟨C,hC⟩ : ∃ C,C=1048580:=⟨_,rfl⟩
 obtain ⟨E,hE⟩ : ∃ E,E=8000000:=⟨_,rfl⟩
 have h3:(getS name fs).length * C ≤ 1000 * C:=Nat.mul_le_mul_right _ h1
 have h4:(getS name fs).length * C + E ≤ k:=by
  have h5:1000 * C=1048580000:=by rw [hC]
  omega
 have:=refList_l0 (getS name fs) h1 h2 C E (by omega) (by omega) (getS name fs).length k 0 [] (by omega) h4 (by simp)
 rw [List.drop_zero,List.nil_append] at this
 exact this
theorem refThere_f (fs:List (S55)) (name:ByteArray) (hf:FB fs) (hn:name.size ≤ 1048576) (k:Nat) (hk:1049600 ≤ k):tollbarref07_There.f k fs name=some (thereS name fs):=by
 unfold tollbarref07_There.f
 rw [refGet_f fs name hf hn k hk,Option.bind_some];rfl
theorem refLen_rest (ps:List ByteArray) (hl:ps.length ≤ 1048577000) (hs : ∀ p ∈ ps,p.size ≤ 1048576) (n:Int) (d:Nat) : ∀ (k i:Nat),i + d=ps.length → d + 100 ≤ k →
  tollbarref07_Length.l0 k ps n true (i:Int)=some (if ((ps.drop i).all fun q=>decide (numSpec q 10 18=(n,true)))=true then (n,true) else (0,false)):=by
 induction d with
 | zero =>
  intro k i hi hk
  obtain ⟨k,rfl⟩ : ∃ m,k=m + 1:=⟨k - 1,by omega⟩
  rw [tollbarref07_Length.l0,if_neg (by omega),List.drop_of_length_le (by omega),List.all_nil,if_pos rfl]
 | succ d ih =>
  intro k i hi hk
  obtain ⟨k,rfl⟩ : ∃ m,k=m + 1:=⟨k - 1,by omega⟩
  have hlt:i < ps.length:=by omega
  have hb:=hs _ (List.getElem_mem hlt)
  have hw:wrap64 ((i:Int) + 1)=((i + 1:Nat):Int):=by unfold wrap64;omega
  rw [tollbarref07_Length.l0,if_pos (by omega),if_pos (by omega),rdB_at ps i hlt,refDecimal_f _ k (by omega) (by omega),Option.bind_some,hw,List.drop_eq_getElem_cons hlt,List.all_cons]
  obtain ⟨z,hz⟩ : ∃ z,z=numSpec ps[i] 10 18:=⟨_,rfl⟩
  rw [← hz]
  by_cases h1:z.2=true
  ·rw [if_pos h1]
   by_cases h2:z.1=n
   ·have e:z=(n,true):=Prod.ext h2 h1
    rw [if_pos h2,ih k (i + 1) (by omega) (by omega),decide_eq_true e,Bool.true_and]
   ·have e : ¬ z=(n,true):=fun e=>h2 (by rw [e])
    rw [if_neg h2,decide_eq_false e,Bool.false_and,if_neg (by simp)]
  ·have e : ¬ z=(n,true):=fun e=>h1 (by rw [e])
   rw [if_neg h1,decide_eq_false e,Bool.false_and,if_neg (by simp)]
theorem refLength_fs (fs:List (S55)) (hf:FB fs) (k:Nat) (hk:1060000000 ≤ k):tollbarref07_Length.f k fs=some (lenS (listS lenNm fs)):=by
 have hlb:=list_bounds fs lenNm hf
 obtain ⟨ps,hps⟩ : ∃ ps,ps=listS lenNm fs:=⟨_,rfl⟩
 have hL:tollbarref04_List.f k fs (⟨#[99,111,110,116,101,110,116,45,108,101,110,103,116,104]⟩:ByteArray)=some ps:=by
  have h:=refList_f fs lenNm hf (by decide) k (by omega)
  rw [← hps] at h
  exact h
 rw [← hps] at hlb ⊢
 unfold tollbarref07_Length.f
 rw [hL,Option.bind_some]
 match ps,hlb with
 | [],_=>rw [if_pos (by simp)];rfl
 | p :: r,hlb =>
  have hb:=hlb.2 p List.mem_cons_self
  have hr0:rdOf ByteArray.empty (p :: r) 0=p:=rdB_at (p :: r) 0 (by simp)
  obtain ⟨k,rfl⟩ : ∃ m,k=m + 1:=⟨k - 1,by omega⟩
  rw [if_neg (by simp only [List.length_cons];omega),if_pos (by simp only [List.length_cons];omega),hr0,refDecimal_f p (k + 1) (by omega) (by omega),Option.bind_some,tollbarref07_Length.l0,if_pos (by simp only [List.length_cons];omega),if_pos (by omega),hr0,refDecimal_f p k (by omega) (by omega),Option.bind_some,lenS]
  obtain ⟨z,hz⟩ : ∃ z,z=numSpec p 10 18:=⟨_,rfl⟩
  rw [← hz]
  by_cases h1:z.2=true
  ·have h:=refLen_rest (p :: r) hlb.1 hlb.2 z.1 r.length k 1 (by simp only [List.length_cons];omega) (by have:=hlb.1;simp only [List.length_cons] at this;omega)
   have h' : tollbarref07_Length.l0 k (p :: r) z.1 true 1=_:=h
   rw [if_pos h1,if_pos rfl,show wrap64 (0 + 1)=1 by unfold wrap64;omega,h1,h']
   simp only [List.drop_succ_cons,List.drop_zero]
   by_cases h2:(r.all fun q=>decide (numSpec q 10 18=(z.1,true)))=true
   ·rw [if_pos h2,if_pos ⟨trivial,h2⟩]
   ·rw [if_neg h2,if_neg (fun h=>h2 h.2)]
  ·rw [if_neg h1,if_neg (fun h=>h1 h.1)]
theorem fold_sameN (a W:ByteArray) (hw:strOfNums ((bytesOf W).map foldC)=W):((strOfNums ((bytesOf a).map foldC)).toList == W.toList)=sameN a W:=by
 have h:=str_inj (bytes_fold (bytes_of a)) (bytes_fold (bytes_of W))
 rw [hw] at h
 rw [h]
 rfl
theorem refCoded_f (fs:List (S55)) (hf:FB fs) (k:Nat) (hk:1060000000 ≤ k):tollbarref07_Coded.f k fs=some (chunkedS fs):=by
 have hlb:=list_bounds fs teNm hf
 have hL:tollbarref04_List.f k fs (⟨#[116,114,97,110,115,102,101,114,45,101,110,99,111,100,105,110,103]⟩:ByteArray)=some (listS teNm fs):=refList_f fs teNm hf (by decide) k (by omega)
 unfold tollbarref07_Coded.f chunkedS
 rw [hL,Option.bind_some]
 match hps:listS teNm fs with
 | []=>rw [if_neg (by simp)]
 | [p] =>
  rw [hps] at hlb
  have hb:=hlb.2 p List.mem_cons_self
  have hr0:rdOf ByteArray.empty [p] 0=p:=rdB_at [p] 0 (by simp)
  have hc:=fold_sameN p chunkedW (by decide +kernel)
  rw [show chunkedW.toList=[99,104,117,110,107,101,100] by rw [toList_data];rfl] at hc
  rw [if_pos (by simp),if_pos (by simp),hr0,refFold_f p (by omega) k (by omega),Fold_f p (by omega),Option.bind_some,hc]
 | p :: q :: r=>rw [if_neg (by simp only [List.length_cons];omega)]
theorem refFrameResp_f (method:ByteArray) (code:Int) (reason:ByteArray) (minor:Int) (fs:List (S55)) (b:List Int) (hf:FB fs) (k:Nat) (hk:1060000020 ≤ k):tollbarref07_Response.f k method code reason minor fs b=some (respLen method code minor fs):=by
 obtain ⟨k,rfl⟩ : ∃ m,k=m + 1 + 1 + 1:=⟨k - 3,by omega⟩
 have e1:tollbarref07_There.f (k + 1 + 1) fs (⟨#[99,111,110,116,101,110,116,45,108,101,110,103,116,104]⟩:ByteArray)=some (thereS lenNm fs):=refThere_f fs lenNm hf (by decide) (k + 1 + 1) (by omega)
 have e2:tollbarref07_There.f (k + 1 + 1) fs (⟨#[116,114,97,110,115,102,101,114,45,101,110,99,111,100,105,110,103]⟩:ByteArray)=some (thereS teNm fs):=refThere_f fs teNm hf (by decide) (k + 1 + 1) (by omega)
 have hj : ∀ x,tollbarref07_Response.j0 (k + 1 + 1 + 1) x code reason minor fs b=some (if x=true then (0,0,true) else if (reqLen fs minor).2.2=0 then (if (reqLen fs minor).2.1=true then (2,0,true) else if thereS lenNm fs=true then (1,(reqLen fs minor).1,true) else (3,0,true)) else (0,0,false)):=by
  intro x
  rw [tollbarref07_Response.j0,e1,Option.bind_some,e2,Option.bind_some,refLength_fs fs hf (k + 1 + 1) (by omega),Option.bind_some]
  cases x
  case true=>rfl
  simp only [Bool.false_eq_true,if_false]
  rw [tollbarref07_Response.j1,tollbarref07_Response.j1,refCoded_f fs hf (k + 1) (by omega),Option.bind_some]
  unfold reqLen
  obtain ⟨y,hy⟩ : ∃ y,y=lenS (listS lenNm fs):=⟨_,rfl⟩
  rw [← hy]
  simp only [tollbarref07_Response.j2]
  by_cases hm:minor=0 <;> by_cases h9:y.1 > 4096 <;> cases thereS teNm fs <;> cases thereS lenNm fs <;> cases chunkedS fs <;> cases h2:y.2 <;> simp [hm,h9,h2]
 unfold tollbarref07_Response.f respLen noBody
 by_cases h1:method.toList=[72,69,65,68]
 ·rw [if_pos h1,hj,if_pos rfl,beq_iff_eq.2 h1,Bool.true_or,if_pos rfl]
 ·rw [if_neg h1,beq_eq_false_iff_ne.2 h1,Bool.false_or]
  by_cases h2:code < 200
  ·rw [if_pos h2,hj,if_pos rfl,decide_eq_true h2,Bool.true_or,if_pos rfl]
  ·rw [if_neg h2,decide_eq_false h2,Bool.false_or]
   by_cases h3:code=204
   ·rw [if_pos h3,hj,if_pos rfl,beq_iff_eq.2 h3,Bool.true_or,if_pos rfl]
   ·rw [if_neg h3,hj,beq_eq_false_iff_ne.2 h3,Bool.false_or]
end Go.Proofs.YtfjeinnemimjoaaGreatDoor.Pure
namespace Go.Proofs.YtfjeinnemimjoaaGreatDoor.P
open Go.RowKit Go.Proofs.YtfjeinnemimjoaaGreatDoorW.PrintWords Go.Proofs.YtfjeinnemimjoaaGreatDoorW.PrintLast Go.Proofs.YtfjeinnemimjoaaGreatDoorW.PrintMore
attribute [local go_sem] max2_int min2_int max_two min_two max_three min_three max_four min_four
set_option linter.unusedVariables false
set_option linter.unusedSimpArgs false
end Go.Proofs.YtfjeinnemimjoaaGreatDoor.P
namespace Go.Proofs.YtfjeinnemimjoaaGreatDoor.Pure
open Go.RowKit Go.Proofs.YtfjeinnemimjoaaGreatDoor.P Go.Proofs.YtfjeinnemimjoaaGreatDoorW.PrintWords Go.Proofs.YtfjeinnemimjoaaGreatDoorW.PrintLast Go.Proofs.YtfjeinnemimjoaaGreatDoorW.PrintMore
set_option linter.unusedVariables false
set_option linter.unusedSimpArgs false
theorem refCut_l0 (l:List Int) (m:Int) (hm:0 ≤ m) (hn:l.length ≤ 140737488355328) (d:Nat) : ∀ (k:Nat) (i:Int),0 ≤ i → (l.length:Int) - i=d → 3 * d + 3 ≤ k →
  tollbarref05_Cut.l0 k l m i=some (cutAt l m d i):=by
 induction d with
 | zero =>
  intro k i h0 hd hk
  obtain ⟨k,rfl⟩ : ∃ m,k=m + 1:=⟨k - 1,by omega⟩
  simp only [tollbarref05_Cut.l0,cutAt];rw [if_neg (by omega)]
 | succ d ih =>
  intro k i h0 hd hk
  obtain ⟨k,rfl⟩ : ∃ m,k=m + 3:=⟨k - 3,by omega⟩
  have hlt:i < (l.length:Int):=by omega
  have hw1:wrap64 (i + 1)=i + 1:=w64 1 h0 hlt hn (by omega) (by omega)
  have hw2:wrap64 (i + 2)=i + 2:=w64 2 h0 hlt hn (by omega) (by omega)
  have hw3:wrap64 ((l.length:Int) - 1)=(l.length:Int) - 1:=by unfold wrap64;omega
  have ih' := ih k (i + 1) (by omega) (by omega) (by omega)
  have hle:i ≤ (l.length:Int):=by omega
  have h01:0 ≤ i + 1:=by omega
  unfold tollbarref05_Cut.l0
  rw [if_pos hlt]
  unfold tollbarref05_Cut.j2 tollbarref05_Cut.j4 tollbarref05_Cut.j3 tollbarref05_Cut.j5
  simp only [cutAt,hw1,hw2,hw3,ih']
  by_cases hlast:i=(l.length:Int) - 1
  ·have h1 : ¬ (i + 1 < (l.length:Int)):=by omega
   rw [if_pos hlast,if_pos h0]
   by_cases h10:rd l i=10
   ·simp [h10]
   ·by_cases h13:rd l i=13
    ·simp [h13,h1,h0,hlt]
    ·by_cases hm' : m ≤ i <;> simp [h10,h13,h0,hlt,hm']
  ·have h1:i + 1 < (l.length:Int):=by omega
   rw [if_neg hlast,if_pos h0]
   by_cases h10:rd l i=10
   ·simp [h10]
   ·by_cases h13:rd l i=13
    ·by_cases hr:rd l (i + 1)=10 <;> simp [h13,h1,h0,hlt,h01,hle,hr]
    ·by_cases hm' : m ≤ i <;> simp [h10,h13,h0,hlt,hm']
theorem refCut_f (l:List Int) (a:Int) (hn:l.length ≤ 140737488355328) (k:Nat) (hk:3 * l.length + 4 ≤ k):tollbarref05_Cut.f k l a=some (cutSpec l a):=by
 obtain ⟨k,rfl⟩ : ∃ m,k=m + 1:=⟨k - 1,by omega⟩
 unfold tollbarref05_Cut.f tollbarref05_Cut.j0 cutSpec mx
 by_cases h:a < 0
 ·rw [if_pos h,if_pos h]
  exact refCut_l0 l 0 (by omega) hn l.length k 0 (by omega) (by omega) (by omega)
 ·rw [if_neg h,if_neg h]
  exact refCut_l0 l a (by omega) hn l.length k 0 (by omega) (by omega) (by omega)
theorem One_f (a t:ByteArray) (ha:a.size ≤ 1000000) (ht:t.size ≤ 1000000) (k:Nat) (hk:2 * a.size + 2 * t.size + 5 ≤ k):tollbarref04_One.f k a t=some (rightB a t):=by
 unfold tollbarref04_One.f rightB
 rw [refToken_f a (by omega) k (by omega),Token_f a (by omega),Option.bind_some]
 cases hT:(!a.toList.isEmpty && (bytesOf a).all tokB)
 ·rw [if_neg (by simp),Bool.false_and,Bool.and_false]
 ·rw [if_pos rfl,Bool.true_and]
  by_cases h1:(a.size:Int) ≤ 100
  ·rw [if_pos h1,decide_eq_true (show a.size ≤ 100 by omega),Bool.true_and,refValue_f t (by omega) k (by omega),Value_f t (by omega),Option.bind_some]
   cases (bytesOf t).all valB
   ·rw [if_neg (by simp),Bool.false_and,Bool.and_false]
   ·rw [if_pos rfl,Bool.true_and,refTrim_f t (by omega) k (by omega),Trim_mk t (by omega),Option.bind_some]
    by_cases h2:(mkS (trm t.data.toList)).toList=t.toList
    ·rw [if_pos h2,beq_iff_eq.2 h2,Bool.and_true]
     congr 1
     exact decide_eq_decide.2 (by omega)
    ·rw [if_neg h2,beq_eq_false_iff_ne.2 h2,Bool.and_false]
  ·rw [if_neg h1,decide_eq_false (show ¬ a.size ≤ 100 by omega),Bool.false_and]
theorem colon (b:UInt8):((b.toNat:Int)=58) ↔ b=58:=⟨fun h=>UInt8.toNat_inj.1 (show b.toNat=58 by omega),fun h=>by rw [h];rfl⟩
theorem refField_no (l:List UInt8) (h:58 ∉ l) (hn:l.length ≤ 1000000) (d:Nat) : ∀ (k i:Nat),i + d=l.length → d < k → ∃ x y,tollbarref04_Parse.l0 k (mkS l) (i:Int)=some (x,y,false):=by
 have hs:(mkS l).size=l.length:=mkS_size l
 induction d with
 | zero =>
  intro k i hi hk
  obtain ⟨k,rfl⟩ : ∃ m,k=m + 1:=⟨k - 1,by omega⟩
  rw [tollbarref04_Parse.l0,if_neg (by omega)]
  exact ⟨_,_,rfl⟩
 | succ d ih =>
  intro k i hi hk
  obtain ⟨k,rfl⟩ : ∃ m,k=m + 1:=⟨k - 1,by omega⟩
  have hlt:i < l.length:=by omega
  rw [tollbarref04_Parse.l0,if_pos (by omega),if_pos (by omega),bt_mk l i hlt,if_neg (fun e=>h (by rw [← (colon _).1 e];exact List.getElem_mem hlt)),show wrap64 ((i:Int) + 1)=((i + 1:Nat):Int) by unfold wrap64;omega]
  exact ih k (i + 1) (by omega) (by omega)
theorem refField_yes (a b:List UInt8) (h:58 ∉ a) (hn:(a ++ 58 :: b).length ≤ 1000000) (d:Nat) : ∀ (k i:Nat),i + d=a.length → d + 4 * (a ++ 58 :: b).length + 20 ≤ k → ∃ x y,tollbarref04_Parse.l0 k (mkS (a ++ 58 :: b)) (i:Int)=some (x,y,rightB (mkS a) (mkS (trm b))):=by
 have hl:(a ++ 58 :: b).length=a.length + b.length + 1:=by rw [List.length_append,List.length_cons];omega
 have hs:(mkS (a ++ 58 :: b)).size=a.length + b.length + 1:=by rw [mkS_size,hl]
 induction d with
 | zero =>
  intro k i hi hk
  obtain ⟨k,rfl⟩ : ∃ m,k=m + 1:=⟨k - 1,by omega⟩
  obtain rfl:i=a.length:=by omega
  have e1:bt (mkS (a ++ 58 :: b)) (a.length:Int)=58:=by rw [bt_mk _ _ (by omega)];simp
  have e2:(mkS (a ++ 58 :: b)).extract (a.length + 1) (a.length + b.length + 1)=mkS b:=by
   rw [mkS_extract,List.drop_append,List.drop_of_length_le (by omega),show a.length + 1 - a.length=1 by omega]
   simp
  have e3:(mkS (a ++ 58 :: b)).extract 0 a.length=mkS a:=by rw [mkS_extract];simp
  have hb:(mkS b).size=b.length:=mkS_size b
  have ht:=trm_length b
  rw [tollbarref04_Parse.l0,if_pos (by omega),if_pos (by omega),e1,if_pos rfl,if_pos (by omega),show wrap64 ((a.length:Int) + 1)=((a.length + 1:Nat):Int) by unfold wrap64;omega,if_pos (by omega),if_pos (by omega),Int.toNat_natCast,Int.toNat_natCast,hs,e2,e3,
   refTrim_f (mkS b) (by omega) k (by omega),Trim_mk _ (by omega),Option.bind_some,mkS_data,One_f _ _ (by rw [mkS_size];omega) (by rw [mkS_size];omega) k (by rw [mkS_size,mkS_size];omega),Option.bind_some]
  cases rightB (mkS a) (mkS (trm b)) <;> exact ⟨_,_,rfl⟩
 | succ d ih =>
  intro k i hi hk
  obtain ⟨k,rfl⟩ : ∃ m,k=m + 1:=⟨k - 1,by omega⟩
  have hlt:i < (a ++ 58 :: b).length:=by omega
  have hla:i < a.length:=by omega
  have e1:(a ++ 58 :: b)[i]=a[i]:=List.getElem_append_left hla
  rw [tollbarref04_Parse.l0,if_pos (by omega),if_pos (by omega),bt_mk _ i hlt,if_neg (fun e=>h (by rw [← (colon _).1 e,e1];exact List.getElem_mem hla)),show wrap64 ((i:Int) + 1)=((i + 1:Nat):Int) by unfold wrap64;omega]
  exact ih k (i + 1) (by omega) (by omega)
theorem refField_f (l:List UInt8) (hn:l.length ≤ 1000000) (k:Nat) (hk:5 * l.length + 20 ≤ k) : ∃ x y,tollbarref04_Parse.f k (mkS l)=some (x,y,fieldOk l):=by
 unfold tollbarref04_Parse.f
 rcases split_first 58 l with h|⟨a,b,rfl,h⟩
 ·rw [fieldOk_no l h]
  exact refField_no l h hn l.length k 0 (by omega) (by omega)
 ·rw [fieldOk_yes a b h]
  exact refField_yes a b h hn a.length k 0 (by omega) (by rw [List.length_append] at hk ⊢;omega)
theorem refField_at (a b:List UInt8) (h:58 ∉ a) (hr:rightB (mkS a) (mkS (trm b))=true) (hn:(a ++ 58 :: b).length ≤ 1000000) (d:Nat) : ∀ (k i:Nat),i + d=a.length → d + 4 * (a ++ 58 :: b).length + 20 ≤ k → tollbarref04_Parse.l0 k (mkS (a ++ 58 :: b)) (i:Int)=some (mkS a,mkS (trm b),true):=by
 have hl:(a ++ 58 :: b).length=a.length + b.length + 1:=by rw [List.length_append,List.length_cons];omega
 have hs:(mkS (a ++ 58 :: b)).size=a.length + b.length + 1:=by rw [mkS_size,hl]
 induction d with
 | zero =>
  intro k i hi hk
  obtain ⟨k,rfl⟩ : ∃ m,k=m + 1:=⟨k - 1,by omega⟩
  obtain rfl:i=a.length:=by omega
  have e1:bt (mkS (a ++ 58 :: b)) (a.length:Int)=58:=by rw [bt_mk _ _ (by omega)];simp
  have e2:(mkS (a ++ 58 :: b)).extract (a.length + 1) (a.length + b.length + 1)=mkS b:=by
   rw [mkS_extract,List.drop_append,List.drop_of_length_le (by omega),show a.length + 1 - a.length=1 by omega]
   simp
  have e3:(mkS (a ++ 58 :: b)).extract 0 a.length=mkS a:=by rw [mkS_extract];simp
  have hb:(mkS b).size=b.length:=mkS_size b
  have ht:=trm_length b
  rw [tollbarref04_Parse.l0,if_pos (by omega),if_pos (by omega),e1,if_pos rfl,if_pos (by omega),show wrap64 ((a.length:Int) + 1)=((a.length + 1:Nat):Int) by unfold wrap64;omega,if_pos (by omega),if_pos (by omega),Int.toNat_natCast,Int.toNat_natCast,hs,e2,e3,
   refTrim_f (mkS b) (by omega) k (by omega),Trim_mk _ (by omega),Option.bind_some,mkS_data,One_f _ _ (by rw [mkS_size];omega) (by rw [mkS_size];omega) k (by rw [mkS_size,mkS_size];omega),Option.bind_some,hr]
  rfl
 | succ d ih =>
  intro k i hi hk
  obtain ⟨k,rfl⟩ : ∃ m,k=m + 1:=⟨k - 1,by omega⟩
  have hlt:i < (a ++ 58 :: b).length:=by omega
  have hla:i < a.length:=by omega
  have e1:(a ++ 58 :: b)[i]=a[i]:=List.getElem_append_left hla
  rw [tollbarref04_Parse.l0,if_pos (by omega),if_pos (by omega),bt_mk _ i hlt,if_neg (fun e=>h (by rw [← (colon _).1 e,e1];exact List.getElem_mem hla)),show wrap64 ((i:Int) + 1)=((i + 1:Nat):Int) by unfold wrap64;omega]
  exact ih k (i + 1) (by omega) (by omega)
theorem refField_ok (l:List UInt8) (hn:l.length ≤ 1000000) (hr:fieldOk l=true) (k:Nat) (hk:5 * l.length + 20 ≤ k):tollbarref04_Parse.f k (mkS l)=some ((fieldX l).f0,(fieldX l).f1,true):=by
 unfold tollbarref04_Parse.f
 rcases split_first 58 l with h|⟨a,b,rfl,h⟩
 ·rw [fieldOk_no l h] at hr;cases hr
 ·rw [fieldOk_yes a b h] at hr
  obtain ⟨e1,e2⟩:=take_first 58 a b h
  unfold fieldX
  rw [e1,e2]
  exact refField_at a b h hr hn a.length k 0 (by omega) (by rw [List.length_append] at hk ⊢;omega)
theorem refLines_l (l:List Int) (hl:l.length ≤ 1000000) : ∀ (d p k:Nat) (out:List ByteArray),0 < p → p ≤ (bdS l).length → (bdS l).length < p + d → 0 < out.length → out.length ≤ p → 2 * d + 6200 ≤ k →
  tollbarref08_Lines.l0 k l out (p:Int)=some (out ++ (tailS (bdS l) (extS l) d p).1,(tailS (bdS l) (extS l) d p).2):=by
 intro d
 induction d with
 | zero=>intro p k out _ h1 h2;omega
 | succ d ih =>
  intro p k out h0 hp hd ho hop hk
  obtain ⟨k,rfl⟩ : ∃ m,k=m + 2:=⟨k - 2,by omega⟩
  have hb:=bdS_length l
  have hsh:=cutS_shape ((bdS l).drop p) 2048
  have hdl:((bdS l).drop p).length=(bdS l).length - p:=List.length_drop ..
  have hbe:(bdS l).length=min 2048 l.length:=by unfold bdS;rw [List.length_take]
  have hj : ∀ x7:Int,0 ≤ x7 → x7 ≤ (l.length:Int) → l.take x7.toNat=bdS l → tollbarref08_Lines.j1 (k + 1) l out (p:Int) x7=some (out ++ (tailS (bdS l) (extS l) (d + 1) p).1,(tailS (bdS l) (extS l) (d + 1) p).2):=by
   intro x7 h7 h7l he
   have hx:(bdS l).length ≤ x7.toNat:=by rw [← he,List.length_take];omega
   rw [tollbarref08_Lines.j1,if_pos (by omega),if_pos (by omega),if_pos h7l,he,Int.toNat_natCast,refCut_f _ 2048 (by omega) k (by omega),Option.bind_some,tailS]
   obtain ⟨c,hc⟩ : ∃ c,c=cutSpec ((bdS l).drop p) 2048:=⟨_,rfl⟩
   rw [← hc] at hsh ⊢
   by_cases h1:c.2.2=20
   ·rw [if_pos h1,if_pos h1,List.append_nil]
   ·rw [if_neg h1,if_neg h1]
    by_cases h2:c.2.1=0
    ·rw [if_pos h2,if_pos h2,List.append_nil]
     unfold extS
     by_cases h4:2048 ≤ (l.length:Int)
     ·rw [if_pos h4,if_pos h4]
     ·rw [if_neg h4,if_neg (show ¬ (l.length:Int) ≥ 2048 from h4)]
    ·have hz:c.2.1 > 0∧c.2.1 ≤ ((bdS l).length:Int) - p:=by rcases hsh with h|h <;> omega
     have hw:wrap64 ((p:Int) + c.2.1)=((p + c.2.1.toNat:Nat):Int):=by unfold wrap64;omega
     have hw2:(p:Int) + c.2.1=((p + c.2.1.toNat:Nat):Int):=by omega
     rw [if_neg h2,if_neg h2,hw,hw2]
     by_cases h3:c.1.toList=[]
     ·rw [if_pos h3,if_pos h3,if_pos (by omega),List.append_nil]
     ·rw [if_neg h3,if_neg h3,if_pos (by omega)]
      have:=ih (p + c.2.1.toNat) k (out ++ [c.1]) (by omega) (by omega) (by omega) (by simp) (by simp only [List.length_append,List.length_cons,List.length_nil];omega) (by omega)
      rw [this,List.append_assoc]
      rfl
  rw [tollbarref08_Lines.l0]
  by_cases h:(l.length:Int) > 2048
  ·rw [if_pos h]
   exact hj 2048 (by omega) (by omega) rfl
  ·rw [if_neg h]
   exact hj (l.length:Int) (by omega) (by omega) (by rw [Int.toNat_natCast];unfold bdS;rw [List.take_of_length_le (Nat.le_refl _),List.take_of_length_le (by omega)])
theorem refLines_f (l:List Int) (hl:l.length ≤ 1000000) (k:Nat) (hk:20000 ≤ k):tollbarref08_Lines.f k l=some (linesS (bdS l) (extS l)):=by
 obtain ⟨k,rfl⟩ : ∃ m,k=m + 2:=⟨k - 2,by omega⟩
 have hb:=bdS_length l
 have hsh:=cutS_shape (bdS l) 2048
 have hj : ∀ x7:Int,0 ≤ x7 → x7 ≤ (l.length:Int) → l.take x7.toNat=bdS l → tollbarref08_Lines.j1 (k + 1) l [] 0 x7=some (linesS (bdS l) (extS l)):=by
  intro x7 h7 h7l he
  unfold linesS
  rw [tollbarref08_Lines.j1,if_pos (by omega),if_pos (by omega),if_pos h7l,he,show (0:Int).toNat=0 from rfl,List.drop_zero,refCut_f _ 2048 (by omega) k (by omega),Option.bind_some]
  obtain ⟨c,hc⟩ : ∃ c,c=cutSpec (bdS l) 2048:=⟨_,rfl⟩
  rw [← hc] at hsh ⊢
  by_cases h1:c.2.2=20
  ·rw [if_pos h1,if_pos h1]
  ·rw [if_neg h1,if_neg h1]
   by_cases h2:c.2.1=0
   ·rw [if_pos h2,if_pos h2]
    unfold extS
    by_cases h4:2048 ≤ (l.length:Int)
    ·rw [if_pos h4,if_pos h4]
    ·rw [if_neg h4,if_neg (show ¬ (l.length:Int) ≥ 2048 from h4)]
   ·have hz:c.2.1 > 0∧c.2.1 ≤ ((bdS l).length:Int):=by rcases hsh with h|h <;> omega
    have hw:wrap64 ((0:Int) + c.2.1)=((c.2.1.toNat:Nat):Int):=by unfold wrap64;omega
    rw [if_neg h2,if_neg h2,hw]
    have:=refLines_l l hl ((bdS l).length + 1) c.2.1.toNat k [c.1] (by omega) (by omega) (by omega) (by simp) (by simp only [List.length_cons,List.length_nil];omega) (by omega)
    by_cases h3:c.1.toList=[]
    ·rw [if_pos h3,if_neg (by simp),if_pos (by simp),List.nil_append,this];rfl
    ·rw [if_neg h3,if_pos (by simp),List.nil_append,this];rfl
 rw [tollbarref08_Lines.f,tollbarref08_Lines.l0]
 by_cases h:(l.length:Int) > 2048
 ·rw [if_pos h]
  exact hj 2048 (by omega) (by omega) rfl
 ·rw [if_neg h]
  exact hj (l.length:Int) (by omega) (by omega) (by rw [Int.toNat_natCast];unfold bdS;rw [List.take_of_length_le (Nat.le_refl _),List.take_of_length_le (by omega)])
theorem refFields_l (ss:List ByteArray) (hs : ∀ s ∈ ss,s.size ≤ 2048) (hn:ss.length ≤ 100000) : ∀ (d i k:Nat) (fs:List (S55)),i + d=ss.length → fs.length ≤ 40 → d + 20000 ≤ k →
  tollbarref08_fields.l0 k ss fs (i:Int)=some (if (fieldsS (ss.drop i) fs.length).2=0 then (fs ++ (fieldsS (ss.drop i) fs.length).1,0) else ([],(fieldsS (ss.drop i) fs.length).2)):=by
 intro d
 induction d with
 | zero =>
  intro i k fs hi hf hk
  obtain ⟨k,rfl⟩ : ∃ m,k=m + 1:=⟨k - 1,by omega⟩
  rw [tollbarref08_fields.l0,if_neg (by omega),List.drop_of_length_le (by omega),fieldsS,if_pos rfl,List.append_nil]
 | succ d ih =>
  intro i k fs hi hf hk
  obtain ⟨k,rfl⟩ : ∃ m,k=m + 1:=⟨k - 1,by omega⟩
  have hlt:i < ss.length:=by omega
  have hsz:=hs _ (List.getElem_mem hlt)
  have hdl:(ss[i]).data.toList.length ≤ 2048:=by rw [data_length];exact hsz
  rw [tollbarref08_fields.l0,if_pos (by omega),if_pos (by omega),rdB_at ss i hlt,List.drop_eq_getElem_cons hlt,fieldsS]
  cases hfo:fieldOk (ss[i]).data.toList
  ·obtain ⟨x,y,hxy⟩:=refField_f (ss[i]).data.toList (by omega) k (by omega)
   rw [mkS_self,hfo] at hxy
   rw [hxy,Option.bind_some,if_neg (by simp),if_neg (by simp),if_neg (by simp)]
  ·have hxy:=refField_ok (ss[i]).data.toList (by omega) hfo k (by omega)
   rw [mkS_self] at hxy
   rw [hxy,Option.bind_some,if_pos rfl,if_pos rfl]
   by_cases h4:fs.length=40
   ·rw [if_pos (show (fs.length:Int)=40 by omega),if_pos h4,if_neg (by simp)]
   ·rw [if_neg (show ¬ (fs.length:Int)=40 by omega),if_neg h4,if_pos (by omega),show wrap64 ((i:Int) + 1)=((i + 1:Nat):Int) by unfold wrap64;omega]
    have hlen:(fs ++ [fieldX (ss[i]).data.toList]).length=fs.length + 1:=by simp
    have:=ih (i + 1) k (fs ++ [fieldX (ss[i]).data.toList]) (by omega) (by omega) (by omega)
    rw [hlen] at this
    refine this.trans ?_
    obtain ⟨g,hg⟩ : ∃ g,g=fieldsS (ss.drop (i + 1)) (fs.length + 1):=⟨_,rfl⟩
    rw [← hg]
    by_cases h5:g.2=0
    ·rw [if_pos h5,if_pos h5,if_pos rfl,List.append_assoc];rfl
    ·rw [if_neg h5,if_neg h5,if_neg h5]
theorem refFields_f (ss:List ByteArray) (hs : ∀ s ∈ ss,s.size ≤ 2048) (hn:ss.length ≤ 100000) (k:Nat) (hk:120000 ≤ k):tollbarref08_fields.f k ss=some (fieldsS ss 0):=by
 have:=refFields_l ss hs hn ss.length 0 k [] (by omega) (by simp) (by omega)
 have he:=fieldsS_err ss 0
 unfold tollbarref08_fields.f
 rw [show ((0:Nat):Int)=0 from rfl] at this
 rw [this,List.drop_zero,List.length_nil,List.nil_append]
 obtain ⟨g,hg⟩ : ∃ g,g=fieldsS ss 0:=⟨_,rfl⟩
 rw [← hg] at he ⊢
 obtain ⟨g1,g2⟩:=g
 by_cases h:g2=0
 ·subst h;rfl
 ·rw [if_neg h];rw [show g1=[] from he h]
theorem tail_len (l:List Int) (e:Int) : ∀ (d p:Nat),(tailS l e d p).1.length ≤ d:=by
 intro d
 induction d with
 | zero=>intro p;exact Nat.le_refl _
 | succ d ih =>
  intro p
  rw [tailS]
  split
  ·exact Nat.zero_le _
  ·split
   ·exact Nat.zero_le _
   ·split
    ·exact Nat.zero_le _
    ·have:=ih (p + (cutSpec (l.drop p) 2048).2.1.toNat)
     simp only [List.length_cons]
     omega
theorem lines_len (l:List Int) (e:Int):(linesS l e).1.length ≤ l.length + 2:=by
 unfold linesS
 split
 ·exact Nat.zero_le _
 ·split
  ·exact Nat.zero_le _
  ·have:=tail_len l e (l.length + 1) (cutSpec l 2048).2.1.toNat
   simp only [List.length_cons]
   omega
end Go.Proofs.YtfjeinnemimjoaaGreatDoor.Pure
namespace Go.Proofs.YtfjeinnemimjoaaGreatDoor.P
open Go.RowKit Go.Proofs.YtfjeinnemimjoaaGreatDoorW.PrintWords Go.Proofs.YtfjeinnemimjoaaGreatDoorW.PrintLast Go.Proofs.YtfjeinnemimjoaaGreatDoorW.PrintMore
attribute [local go_sem] max2_int min2_int max_two min_two max_three min_three max_four min_four
set_option linter.unusedVariables false
set_option linter.unusedSimpArgs false
end Go.Proofs.YtfjeinnemimjoaaGreatDoor.P
namespace Go.Proofs.YtfjeinnemimjoaaGreatDoor.Pure
open Go.RowKit Go.Proofs.YtfjeinnemimjoaaGreatDoor.P Go.Proofs.YtfjeinnemimjoaaGreatDoorW.PrintWords Go.Proofs.YtfjeinnemimjoaaGreatDoorW.PrintLast Go.Proofs.YtfjeinnemimjoaaGreatDoorW.PrintMore
set_option linter.unusedVariables false
set_option linter.unusedSimpArgs false
theorem hdec_fact (c:Int) (h0:0 ≤ c) (h1:c ≤ 255):tollbarref02_Digit.f c=some (decide (0 ≤ digV c∧digV c < 10))∧((0 ≤ digV c∧digV c < 10) → (c - 48) % 256=digV c):=by
 obtain ⟨n,rfl⟩:=Int.eq_ofNat_of_zero_le h0
 have h : ∀ m:Fin 256,tollbarref02_Digit.f (m.val:Int)=some (decide (0 ≤ digV (m.val:Int)∧digV (m.val:Int) < 10))∧((0 ≤ digV (m.val:Int)∧digV (m.val:Int) < 10) → ((m.val:Int) - 48) % 256=digV (m.val:Int)):=by decide +kernel
 exact h ⟨n,by omega⟩
theorem hhex_fact (c:Int) (h0:0 ≤ c) (h1:c ≤ 255):((c ≥ 97∧c ≤ 102) → (c - 97) % 256 + 10=digV c)∧((c ≥ 65∧c ≤ 70) → (c - 65) % 256 + 10=digV c)∧(¬ (0 ≤ digV c∧digV c < 10) → ¬ (c ≥ 97∧c ≤ 102) → ¬ (c ≥ 65∧c ≤ 70) → digV c < 0):=by
 obtain ⟨n,rfl⟩:=Int.eq_ofNat_of_zero_le h0
 have h : ∀ m:Fin 256,(((m.val:Int) ≥ 97∧(m.val:Int) ≤ 102) → ((m.val:Int) - 97) % 256 + 10=digV (m.val:Int))∧(((m.val:Int) ≥ 65∧(m.val:Int) ≤ 70) → ((m.val:Int) - 65) % 256 + 10=digV (m.val:Int))∧(¬ (0 ≤ digV (m.val:Int)∧digV (m.val:Int) < 10) → ¬ ((m.val:Int) ≥ 97∧(m.val:Int) ≤ 102) → ¬ ((m.val:Int) ≥ 65∧(m.val:Int) ≤ 70) → digV (m.val:Int) < 0):=by decide +kernel
 exact h ⟨n,by omega⟩
/-- What a loop over digits tells. -/
def htold (r:Option Int):Int × Bool:=match r with|some v=>(v,true)|none=>(0,false)
theorem hrefHex_l0 (s:ByteArray) (hm:s.size ≤ 15) (d:Nat) : ∀ (k:Nat) (n:Int) (i:Nat),i + d=s.size → 2 * d + 1 ≤ k → 0 ≤ n → n + 1 ≤ 16 ^ i →
  tollbarref02_Hex.l0 k s n i=some (htold (numL 16 ((bytesOf s).drop i) n)):=by
 induction d with
 | zero =>
  intro k n i hi hk h0 hn
  obtain ⟨k,rfl⟩ : ∃ m,k=m + 1:=⟨k - 1,by omega⟩
  rw [List.drop_of_length_le (by rw [bytesOf_length];omega)]
  simp only [tollbarref02_Hex.l0,numL]
  rw [if_neg (by omega)]
  rfl
 | succ d ih =>
  intro k n i hi hk h0 hn
  obtain ⟨k,rfl⟩ : ∃ m,k=m + 1:=⟨k - 1,by omega⟩
  have hw:wrap64 ((i:Int) + 1)=((i + 1:Nat):Int):=by unfold wrap64;omega
  have hl:i < (bytesOf s).length:=by rw [bytesOf_length];omega
  have hg:(bytesOf s)[i]=bt s i:=by rw [← rd_bytesOf];simp [rd,List.getD_eq_getElem?_getD,List.getElem?_eq_getElem hl]
  have hr:=bt_range s i
  obtain ⟨f1,f2⟩:=hdec_fact _ hr.1 hr.2
  obtain ⟨g1,g2,g3⟩:=hhex_fact _ hr.1 hr.2
  have hlt:=digV_lt _ hr.1 hr.2
  have hP:(16:Int) ^ (i + 1)=16 ^ i * 16:=Int.pow_succ _ _
  have hle:=pow_mono' 16 (by decide) (i + 1) (15 - (i + 1))
  rw [show i + 1 + (15 - (i + 1))=15 by omega,hP] at hle
  have hc:(16:Int) ^ 15=1152921504606846976:=by decide
  have ih1:=fun k (hk:2 * d + 1 ≤ k) (h:0 ≤ digV (bt s i))=>ih k (n * 16 + digV (bt s i)) (i + 1) (by omega) hk (by omega) (by omega)
  rw [List.drop_eq_getElem_cons hl,hg]
  simp only [tollbarref02_Hex.l0,numL]
  rw [if_pos (by omega),if_pos (by omega),f1,Option.bind_some]
  by_cases hv:0 ≤ digV (bt s i)∧digV (bt s i) < 10
  ·have hp:0 ≤ digV (bt s i)∧digV (bt s i) < 16:=⟨hv.1,hlt⟩
   rw [decide_eq_true hv,if_pos rfl,if_pos hp,f2 hv,hw]
   have e1:wrap64 (wrap64 (n * 16) + digV (bt s i))=n * 16 + digV (bt s i):=by unfold wrap64;omega
   rw [e1]
   exact ih1 k (by omega) hv.1
  ·obtain ⟨k,rfl⟩ : ∃ m,k=m + 1:=⟨k - 1,by omega⟩
   rw [decide_eq_false hv,if_neg (by simp)]
   simp only [tollbarref02_Hex.j2]
   by_cases ha:bt s i ≥ 97∧bt s i ≤ 102
   ·have e:=g1 ha
    have hp:0 ≤ digV (bt s i)∧digV (bt s i) < 16:=⟨by omega,hlt⟩
    rw [if_pos ha.1,decide_eq_true ha.2,if_pos rfl,if_pos hp,hw]
    have e1:wrap64 (wrap64 (wrap64 (n * 16) + (bt s i - 97) % 256) + 10)=n * 16 + digV (bt s i):=by unfold wrap64;omega
    rw [e1]
    exact ih1 k (by omega) (by omega)
   ·by_cases hA:bt s i ≥ 65∧bt s i ≤ 70
    ·have e:=g2 hA
     have hp:0 ≤ digV (bt s i)∧digV (bt s i) < 16:=⟨by omega,hlt⟩
     have h97 : ¬ (bt s i ≥ 97):=by omega
     rw [if_neg h97,if_neg (by simp),if_pos hA.1,if_pos hA.2,if_pos hp,hw]
     have e1:wrap64 (wrap64 (wrap64 (n * 16) + (bt s i - 65) % 256) + 10)=n * 16 + digV (bt s i):=by unfold wrap64;omega
     rw [e1]
     exact ih1 k (by omega) (by omega)
    ·have e:=g3 hv ha hA
     have hp : ¬ (0 ≤ digV (bt s i)∧digV (bt s i) < 16):=by omega
     rw [if_neg hp]
     have ht:htold none=((0:Int),false):=rfl
     rw [ht]
     by_cases h97:bt s i ≥ 97
     ·rw [if_pos h97,decide_eq_false (by omega),if_neg (by simp)]
      repeat' split
      all_goals first|rfl|(exfalso;omega)
     ·rw [if_neg h97,if_neg (by simp)]
      repeat' split
      all_goals first|rfl|(exfalso;omega)
theorem hrefHex_f (s:ByteArray) (k:Nat) (hk:40 ≤ k) (hs:s.size ≤ 140737488355327):tollbarref02_Hex.f k s=some (numSpec s 16 15):=by
 obtain ⟨k,rfl⟩ : ∃ m,k=m + 1:=⟨k - 1,by omega⟩
 unfold tollbarref02_Hex.f numSpec
 by_cases h0:s.size=0
 ·rw [if_pos (by omega),if_pos (Or.inl h0)]
  simp only [tollbarref02_Hex.j0]
  rfl
 ·rw [if_neg (by omega)]
  by_cases h1:s.size > 15
  ·rw [decide_eq_true (by omega),if_pos (Or.inr h1)]
   simp only [tollbarref02_Hex.j0]
   rfl
  ·rw [decide_eq_false (by omega),if_neg (by omega)]
   simp only [tollbarref02_Hex.j0]
   rw [if_neg (by simp)]
   have:=hrefHex_l0 s (by omega) s.size k 0 0 (by omega) (by omega) (by omega) (by simp)
   rw [show ((0:Nat):Int)=0 from rfl,List.drop_zero] at this
   exact this
theorem semi (b:UInt8):((b.toNat:Int)=59) ↔ b=59:=⟨fun h=>UInt8.toNat_inj.1 (show b.toNat=59 by omega),fun h=>by rw [h];rfl⟩
theorem refsz_l1 (n:Nat) : ∀ (l:List UInt8) (k:Nat),l.length=n → n + 41 ≤ k → n ≤ 1000000 → tollbarref06_size.l1 k (mkS l)=some (numSpec (mkS (rtrim l)) 16 15):=by
 induction n with
 | zero =>
  intro l k hl hk _
  obtain ⟨k,rfl⟩ : ∃ m,k=m + 1:=⟨k - 1,by omega⟩
  obtain rfl:=List.eq_nil_of_length_eq_zero hl
  rw [tollbarref06_size.l1,if_neg (by rw [mkS_size];simp),hrefHex_f _ k (by omega) (by rw [mkS_size];simp),Option.bind_some]
  rfl
 | succ n ih =>
  intro l k hl hk hn
  obtain ⟨k,rfl⟩ : ∃ m,k=m + 1:=⟨k - 1,by omega⟩
  rcases List.eq_nil_or_concat l with rfl|⟨l',c,rfl⟩
  ·simp at hl
  ·rw [List.concat_eq_append] at hl ⊢
   rw [List.length_append] at hl
   have hsz:(l' ++ [c]).length=l'.length + 1:=by rw [List.length_append];rfl
   have hl' : l'.length=n:=by simpa using hl
   obtain ⟨h1,h2,h3,h4,h5⟩:=snoc_parts l' c (by omega)
   rw [tollbarref06_size.l1,if_pos h1,h2,if_pos (by omega),if_pos (by omega),h4,rtrim_snoc,if_pos (show (l'.length:Int) ≤ ((mkS (l' ++ [c])).size:Int) by omega),Int.toNat_natCast,h5,ih l' k hl' (by omega) (by omega),blk_iff]
   by_cases c1:(c.toNat:Int)=32
   ·have:c=32:=UInt8.toNat_inj.1 (show c.toNat=32 by omega)
    rw [if_pos c1,this,if_pos (by rfl)]
   ·have d1:c ≠ 32:=fun e=>c1 (by rw [e];rfl)
    rw [if_neg c1]
    by_cases c2:(c.toNat:Int)=9
    ·have:c=9:=UInt8.toNat_inj.1 (show c.toNat=9 by omega)
     rw [if_pos c2,this,if_pos (by rfl)]
    ·have d2:c ≠ 9:=fun e=>c2 (by rw [e];rfl)
     rw [if_neg c2,hrefHex_f _ k (by omega) (by rw [mkS_size];omega),Option.bind_some,decide_eq_false d1,decide_eq_false d2,if_neg (by simp)]
theorem refsz_down (u:List UInt8) (hu:u.length ≤ 1000000) (x4:Int) (R:Option (Int × Bool)) (K:Nat) (hR : ∀ k,K ≤ k → tollbarref06_size.l0 k (mkS u) x4 (-1)=R) :
  ∀ (d k:Nat),d ≤ u.length → 59 ∉ u.take d → K + d ≤ k → tollbarref06_size.l0 k (mkS u) x4 ((d:Int) - 1)=R:=by
 have hs:=mkS_size u
 intro d
 induction d with
 | zero=>intro k _ _ hk;exact hR k (by omega)
 | succ d ih =>
  intro k hd h hk
  obtain ⟨k,rfl⟩ : ∃ m,k=m + 1:=⟨k - 1,by omega⟩
  have hlt:d < u.length:=by omega
  have h2:59 ∉ u.take d:=fun e=>h (by rw [List.take_add_one];exact List.mem_append_left _ e)
  have h3:u[d] ≠ 59:=fun e=>h (by rw [← e];exact List.mem_take_iff_getElem.2 ⟨d,by omega,rfl⟩)
  rw [show ((d + 1:Nat):Int) - 1=(d:Int) by omega,tollbarref06_size.l0,if_pos (by omega),if_pos (by omega),if_pos (by omega),bt_mk u d hlt,if_neg (fun e=>h3 ((semi _).1 e)),show wrap64 ((d:Int) - 1)=(d:Int) - 1 by unfold wrap64;omega]
  exact ih k (by omega) h2 (by omega)
theorem refsz_up (a b:List UInt8) (hu:(a ++ 59 :: b).length ≤ 1000000) (R:Option (Int × Bool)) (K:Nat) (hR : ∀ k,K ≤ k → tollbarref06_size.l0 k (mkS (a ++ 59 :: b)) (a.length:Int) ((a.length:Int) - 1)=R) :
  ∀ (d k:Nat) (x4:Int),a.length + 1 + d ≤ (a ++ 59 :: b).length → K + d + 1 ≤ k → tollbarref06_size.l0 k (mkS (a ++ 59 :: b)) x4 ((a.length + d:Nat):Int)=R:=by
 have hs:=mkS_size (a ++ 59 :: b)
 intro d
 induction d with
 | zero =>
  intro k x4 hd hk
  obtain ⟨k,rfl⟩ : ∃ m,k=m + 1:=⟨k - 1,by omega⟩
  have e1:bt (mkS (a ++ 59 :: b)) ((a.length + 0:Nat):Int)=59:=by rw [bt_mk _ _ (by omega)];simp
  rw [tollbarref06_size.l0,if_pos (by omega),if_pos (by omega),if_pos (by omega),e1,if_pos rfl,show wrap64 (((a.length + 0:Nat):Int) - 1)=(a.length:Int) - 1 by unfold wrap64;omega]
  exact hR k (by omega)
 | succ d ih =>
  intro k x4 hd hk
  obtain ⟨k,rfl⟩ : ∃ m,k=m + 1:=⟨k - 1,by omega⟩
  rw [tollbarref06_size.l0,if_pos (by omega),if_pos (by omega),if_pos (by omega),show wrap64 (((a.length + (d + 1):Nat):Int) - 1)=((a.length + d:Nat):Int) by unfold wrap64;omega]
  split
  ·exact ih k _ (by omega) (by omega)
  ·exact ih k _ (by omega) (by omega)
theorem refSize_f (u:List UInt8) (hu:u.length ≤ 1000000) (k:Nat) (hk:4 * u.length + 100 ≤ k) : ∃ x,tollbarref06_size.f k (mkS u)=some (x,(sizeS u).2)∧((sizeS u).2=true → x=(sizeS u).1):=by
 have hs:=mkS_size u
 unfold tollbarref06_size.f
 rw [show wrap64 (((mkS u).size:Int) - 1)=(u.length:Int) - 1 by unfold wrap64;omega,hs]
 rcases split_first 59 u with h|⟨a,b,rfl,h⟩
 ·rw [sizeS_no u h]
  refine ⟨(numSpec (mkS (rtrim u)) 16 15).1,?_,fun _=>rfl⟩
  refine refsz_down u hu (u.length:Int) _ (u.length + 60) (fun k hk=>?_) u.length k (Nat.le_refl _) (by rw [List.take_length];exact h) (by omega)
  obtain ⟨k,rfl⟩ : ∃ m,k=m + 2:=⟨k - 2,by omega⟩
  rw [tollbarref06_size.l0,if_neg (by decide),if_neg (by omega),tollbarref06_size.j1,if_neg (by decide),if_pos (by omega),if_pos (by omega),Int.toNat_natCast,mkS_extract,List.drop_zero,Nat.sub_zero,List.take_length]
  exact refsz_l1 u.length u k rfl (by omega) hu
 ·have hl:(a ++ 59 :: b).length=a.length + b.length + 1:=by rw [List.length_append,List.length_cons];omega
  rw [sizeS_yes a b h]
  have e2:(mkS (a ++ 59 :: b)).extract (a.length + 1) (a ++ 59 :: b).length=mkS b:=by
   rw [mkS_extract,hl,List.drop_append,List.drop_of_length_le (by omega),show a.length + 1 - a.length=1 by omega]
   simp
  have e3:(mkS (a ++ 59 :: b)).extract 0 a.length=mkS a:=by rw [mkS_extract];simp
  have key : ∀ R:Option (Int × Bool),(if (bytesOf (mkS b)).all valB=true then some (numSpec (mkS (rtrim a)) 16 15) else some (0,false))=R → tollbarref06_size.l0 k (mkS (a ++ 59 :: b)) ((a ++ 59 :: b).length:Int) (((a ++ 59 :: b).length:Int) - 1)=R:=by
   intro R hR
   have:=refsz_up a b hu R (2 * a.length + b.length + 80) (fun k hk=>refsz_down (a ++ 59 :: b) hu (a.length:Int) R (a.length + b.length + 70) (fun k hk=>?_) a.length k (by omega) (by simpa using h) (by omega)) b.length k ((a ++ 59 :: b).length:Int) (by omega) (by omega)
   ·rw [show ((a.length + b.length:Nat):Int)=((a ++ 59 :: b).length:Int) - 1 by omega] at this
    exact this
   ·obtain ⟨k,rfl⟩ : ∃ m,k=m + 2:=⟨k - 2,by omega⟩
    have hb:(mkS b).size=b.length:=mkS_size b
    rw [tollbarref06_size.l0,if_neg (by decide),if_pos (by omega),show wrap64 ((a.length:Int) + 1)=((a.length + 1:Nat):Int) by unfold wrap64;omega,if_pos (by omega),if_pos (by omega),Int.toNat_natCast,hs,e2,refValue_f _ (by omega) _ (by omega),Value_f _ (by omega),Option.bind_some,tollbarref06_size.j1,← hR]
    cases (bytesOf (mkS b)).all valB
    ·rw [if_pos (by rfl),if_neg (by simp)]
    ·rw [if_neg (by decide),if_pos (by omega),if_pos (by omega),if_pos rfl,Int.toNat_natCast,e3]
     exact refsz_l1 a.length a k rfl (by omega) (by omega)
  have:=key _ rfl
  rw [this]
  cases (bytesOf (mkS b)).all valB
  ·exact ⟨0,by simp,by simp⟩
  ·exact ⟨_,by rw [if_pos rfl,Bool.and_true],fun _=>rfl⟩
theorem ref_trail (l:List Int) (hl:l.length ≤ 1000000) (out:List Int) : ∀ (d n p k:Nat),n + d=41 → 1 ≤ d → p ≤ l.length → 2 * d + 8 * l.length + 40 ≤ k →
  tollbarref06_Decode.l3 k l out p n=some (if (trailS l d p).2=0 then (if (trailS l d p).1=0 then ([],0,0) else (out,(trailS l d p).1,0)) else ([],0,(trailS l d p).2)):=by
 intro d
 induction d with
 | zero=>intro n p k _ h;omega
 | succ d ih =>
  intro n p k hn _ hp hk
  obtain ⟨k,rfl⟩ : ∃ m,k=m + 2:=⟨k - 2,by omega⟩
  have hsh:=cutS_shape (l.drop p) 256
  have hd:(l.drop p).length=l.length - p:=List.length_drop ..
  rw [tollbarref06_Decode.l3,if_pos (by omega),if_pos (by omega),Int.toNat_natCast,refCut_f _ _ (by omega) _ (by omega),Option.bind_some,trailS]
  obtain ⟨c,hc⟩ : ∃ c,c=cutSpec (l.drop p) 256:=⟨_,rfl⟩
  rw [← hc] at hsh ⊢
  by_cases h1:c.2.2=0
  ·rw [if_pos h1,if_pos h1,tollbarref06_Decode.j6]
   by_cases h2:c.2.1=0
   ·rw [if_pos h2,if_pos (by rw [h2];rfl),h1]
    rfl
   ·rw [if_neg h2,if_neg (by simpa using h2)]
    have hz:c.1.data.toList.length=c.1.size:=data_length _
    have hz2:c.2.1 > 0∧c.2.1 ≤ (l.length:Int) - p∧(c.1.size:Int)=c.2.1 - 2:=by rcases hsh with h|h <;> omega
    have hw:wrap64 ((p:Int) + c.2.1)=(p:Int) + c.2.1:=by unfold wrap64;omega
    by_cases h3:c.1.toList=[]
    ·rw [if_pos h3,if_pos h3,hw]
     simp only
     rw [if_pos trivial,if_neg (by omega)]
    ·rw [if_neg h3,if_neg h3]
     obtain ⟨x,y,hf⟩:=refField_f c.1.data.toList (by omega) k (by omega)
     rw [mkS_self] at hf
     rw [hf,Option.bind_some]
     simp only
     cases fieldOk c.1.data.toList
     ·rw [if_neg (by simp),if_neg (by simp)]
      rfl
     ·rw [if_pos rfl,if_pos rfl,show wrap64 ((n:Int) + 1)=((n + 1:Nat):Int) by unfold wrap64;omega]
      by_cases h4:n=40
      ·obtain rfl:d=0:=by omega
       rw [if_pos (by omega),trailS]
       rfl
      ·rw [if_neg (by omega),hw,show (p:Int) + c.2.1=((p + c.2.1.toNat:Nat):Int) by omega]
       exact ih (n + 1) (p + c.2.1.toNat) k (by omega) (by omega) (by omega) (by omega)
  ·rw [if_neg h1,if_neg h1,tollbarref06_Decode.j6,if_pos rfl]
   simp only
   rw [if_neg h1]
theorem ref_short (l:List Int) (hl:l.length ≤ 1000000) (most total n:Int) (hn:n ≤ 1152921504606846976) : ∀ (j k p:Nat) (i:Int) (out:List Int),p + j=l.length → 0 ≤ i → i + j < n → j + 1 ≤ k → out.length ≤ p → tollbarref06_Decode.l1 k l most out total p n i=some ([],0,0):=by
 intro j
 induction j with
 | zero =>
  intro k p i out hp h0 hi hk ho
  obtain ⟨k,rfl⟩ : ∃ m,k=m + 1:=⟨k - 1,by omega⟩
  rw [tollbarref06_Decode.l1,if_pos (by omega),if_pos (by omega)]
 | succ j ih =>
  intro k p i out hp h0 hi hk ho
  obtain ⟨k,rfl⟩ : ∃ m,k=m + 1:=⟨k - 1,by omega⟩
  rw [tollbarref06_Decode.l1,if_pos (by omega),if_neg (by omega),if_pos (by omega),if_pos (by omega),if_pos (by omega),show wrap64 ((p:Int) + 1)=((p + 1:Nat):Int) by unfold wrap64;omega,show wrap64 (i + 1)=i + 1 by unfold wrap64;omega]
  exact ih k (p + 1) (i + 1) _ (by omega) (by omega) (by omega) (by omega) (by rw [List.length_append];simp;omega)
theorem ref_long (l:List Int) (hl:l.length ≤ 1000000) (most total n:Int) (hn:n ≤ 1152921504606846976) : ∀ (j k p:Nat) (i:Int) (out:List Int),p + j ≤ l.length → 0 ≤ i → i + j=n → j + 1 ≤ k → out.length ≤ p → tollbarref06_Decode.l1 k l most out total p n i=tollbarref06_Decode.l2 (k - j - 1) l most (out ++ (l.drop p).take j) total ((p + j:Nat):Int) [13,10] 0:=by
 intro j
 induction j with
 | zero =>
  intro k p i out hp h0 hi hk ho
  obtain ⟨k,rfl⟩ : ∃ m,k=m + 1:=⟨k - 1,by omega⟩
  rw [tollbarref06_Decode.l1,if_neg (by omega),List.take_zero,List.append_nil]
  rfl
 | succ j ih =>
  intro k p i out hp h0 hi hk ho
  obtain ⟨k,rfl⟩ : ∃ m,k=m + 1:=⟨k - 1,by omega⟩
  have hlt:p < l.length:=by omega
  rw [tollbarref06_Decode.l1,if_pos (by omega),if_neg (by omega),if_pos (by omega),if_pos (by omega),if_pos (by omega),show wrap64 ((p:Int) + 1)=((p + 1:Nat):Int) by unfold wrap64;omega,show wrap64 (i + 1)=i + 1 by unfold wrap64;omega,
   ih k (p + 1) (i + 1) _ (by omega) (by omega) (by omega) (by omega) (by rw [List.length_append];simp;omega),List.drop_eq_getElem_cons hlt,List.take_succ_cons,List.append_assoc,show k + 1 - (j + 1) - 1=k - j - 1 by omega,show p + 1 + j=p + (j + 1) by omega]
  simp [rd,List.getD_eq_getElem?_getD,List.getElem?_eq_getElem hlt]
theorem ref_end (l:List Int) (hl:l.length ≤ 1000000) (most total:Int) (out:List Int) (p k:Nat) (hp:p ≤ l.length) (hk:3 ≤ k) :
  tollbarref06_Decode.l2 k l most out total p [13,10] 0=if p < l.length then (if rd l p=13 then (if p + 1 < l.length then (if rd l ((p:Int) + 1)=10 then tollbarref06_Decode.l0 (k - 3) l most out total ((p + 2:Nat):Int) else some ([],0,20)) else some ([],0,0)) else some ([],0,20)) else some ([],0,0):=by
 obtain ⟨k,rfl⟩ : ∃ m,k=m + 3:=⟨k - 3,by omega⟩
 rw [tollbarref06_Decode.l2,if_pos (by decide)]
 by_cases h1:p < l.length
 ·rw [if_pos h1,if_neg (by omega),if_pos (by omega),if_pos (by omega),if_pos (by decide),if_pos (by decide),show rd [13,10] 0=13 from rfl]
  by_cases h2:rd l p=13
  ·rw [if_pos h2,if_pos h2,show wrap64 ((p:Int) + 1)=(p:Int) + 1 by unfold wrap64;omega,show wrap64 ((0:Int) + 1)=1 by unfold wrap64;omega,tollbarref06_Decode.l2,if_pos (by decide)]
   by_cases h3:p + 1 < l.length
   ·rw [if_pos h3,if_neg (by omega),if_pos (by omega),if_pos (by omega),if_pos (by decide),if_pos (by decide),show rd [13,10] 1=10 from rfl]
    by_cases h4:rd l ((p:Int) + 1)=10
    ·rw [if_pos h4,if_pos h4,show wrap64 ((p:Int) + 1 + 1)=((p + 2:Nat):Int) by unfold wrap64;omega,show wrap64 ((1:Int) + 1)=2 by unfold wrap64;omega,tollbarref06_Decode.l2,if_neg (by decide)]
     rfl
    ·rw [if_neg h4,if_neg h4]
   ·rw [if_neg h3,if_pos (by omega)]
  ·rw [if_neg h2,if_neg h2]
 ·rw [if_neg h1,if_pos (by omega)]
theorem rd_drop (l:List Int) (p:Nat) (i:Int) (h0:0 ≤ i):rd (l.drop p) i=rd l ((p:Int) + i):=by
 unfold rd
 rw [List.getD_eq_getElem?_getD,List.getD_eq_getElem?_getD,List.getElem?_drop,show ((p:Int) + i).toNat=p + i.toNat by omega]
theorem refdec_f (l:List Int) (hl:l.length ≤ 1000000) (most:Int) (hm0:0 ≤ most) (hm:most ≤ 9223372036854775807) : ∀ (d p:Nat) (total:Int) (out:List Int) (k:Nat),p ≤ l.length → l.length < p + d → out.length ≤ p → 0 ≤ total → total ≤ most → 8 * d + 40 * l.length + (l.length - p) + 400 ≤ k →
  tollbarref06_Decode.l0 k l most out total p=some (decS l d p (most - total) out):=by
 intro d
 induction d with
 | zero=>intro p total out k h1 h2;omega
 | succ d ih =>
  intro p total out k hp hd ho ht0 ht1 hk
  obtain ⟨k,rfl⟩ : ∃ m,k=m + 2:=⟨k - 2,by omega⟩
  have hsh:=cutS_shape (l.drop p) 256
  have hdl:(l.drop p).length=l.length - p:=List.length_drop ..
  rw [tollbarref06_Decode.l0,if_pos (by omega),if_pos (by omega),Int.toNat_natCast,refCut_f _ _ (by omega) _ (by omega),Option.bind_some,decS]
  obtain ⟨c,hc⟩ : ∃ c,c=cutSpec (l.drop p) 256:=⟨_,rfl⟩
  rw [← hc] at hsh ⊢
  by_cases h1:c.2.2=0
  ·rw [if_pos h1,if_pos h1,tollbarref06_Decode.j2]
   by_cases h2:c.2.1=0
   ·rw [if_pos h2,if_pos (by rw [h2];rfl),h1]
   ·have hz2:c.2.1 > 0∧c.2.1 ≤ (l.length:Int) - p∧(c.1.size:Int)=c.2.1 - 2:=by rcases hsh with h|h <;> omega
    have hlen:c.1.data.toList.length=c.1.size:=data_length _
    rw [if_neg h2,if_neg (by simpa using h2)]
    obtain ⟨x,hx,hx2⟩:=refSize_f c.1.data.toList (by omega) k (by omega)
    rw [mkS_self] at hx
    rw [hx,Option.bind_some]
    obtain ⟨z,hz⟩ : ∃ z,z=sizeS c.1.data.toList:=⟨_,rfl⟩
    have hzb:=size_bound c.1.data.toList
    rw [← hz] at hzb hx2 ⊢
    obtain ⟨q,hq⟩ : ∃ q,q=p + c.2.1.toNat:=⟨_,rfl⟩
    have hq2:wrap64 ((p:Int) + c.2.1)=(q:Int):=by unfold wrap64;omega
    rw [← hq,hq2]
    by_cases h3:z.2=true
    ·obtain rfl:=hx2 h3
     simp only
     rw [if_pos h3,if_pos h3,show wrap64 (most - total)=most - total by unfold wrap64;omega]
     by_cases h4:z.1=0
     ·rw [if_pos h4,if_pos h4]
      exact ref_trail l hl out 41 0 q k (by omega) (by omega) (by omega) (by omega)
     ·rw [if_neg h4,if_neg h4]
      by_cases h5:z.1 > most - total
      ·rw [if_pos h5,if_pos h5]
      ·rw [if_neg h5,if_neg h5,show wrap64 (total + z.1)=total + z.1 by unfold wrap64;omega]
       have hdr:(l.drop q).length=l.length - q:=List.length_drop ..
       have hout:out.length ≤ q:=by omega
       unfold dataOf
       by_cases a0:z.1 ≤ ((l.drop q).length:Int)
       ·rw [ref_long l hl most _ z.1 hzb.2 z.1.toNat k q 0 out (by omega) (by omega) (by omega) (by omega) hout,ref_end l hl _ _ _ _ _ (by omega) (by omega),rd_drop l q z.1 hzb.1,rd_drop l q (z.1 + 1) (by omega),show (q:Int) + (z.1 + 1)=((q + z.1.toNat:Nat):Int) + 1 by omega,show (q:Int) + z.1=((q + z.1.toNat:Nat):Int) by omega]
        by_cases a1:z.1 < ((l.drop q).length:Int)
        ·rw [if_pos (by omega),if_pos a1]
         by_cases a2:rd l ((q + z.1.toNat:Nat):Int)=13
         ·rw [if_pos a2,if_pos a2]
          by_cases a3:z.1 + 1 < ((l.drop q).length:Int)
          ·rw [if_pos (by omega),if_pos a3]
           by_cases a4:rd l (((q + z.1.toNat:Nat):Int) + 1)=10
           ·rw [if_pos a4,if_pos a4]
            simp only
            rw [if_pos trivial,if_neg (by simp)]
            have htk:((l.drop q).take z.1.toNat).length ≤ z.1.toNat:=List.length_take_le ..
            have:=ih (q + z.1.toNat + 2) (total + z.1) (out ++ (l.drop q).take z.1.toNat) (k - z.1.toNat - 1 - 3) (by omega) (by omega) (by rw [List.length_append];omega) (by omega) (by omega) (by omega)
            rw [show most - (total + z.1)=most - total - z.1 by omega] at this
            exact this
           ·rw [if_neg a4,if_neg a4]
            rfl
          ·rw [if_neg (by omega),if_neg a3]
           rfl
         ·rw [if_neg a2,if_neg a2]
          rfl
        ·rw [if_neg (by omega),if_neg a1]
         rfl
       ·rw [ref_short l hl most _ z.1 hzb.2 (l.length - q) k q 0 out (by omega) (by omega) (by omega) (by omega) hout,if_neg (show ¬ (z.1 < ((l.drop q).length:Int)) by omega)]
        rfl
    ·rw [if_neg h3,if_neg h3]
  ·rw [if_neg h1,if_neg h1,tollbarref06_Decode.j2,if_pos rfl]
theorem refDecode_f (l:List Int) (most:Int) (hl:l.length ≤ 1000000) (hm:most ≤ 9223372036854775807) (k:Nat) (hk:50 * l.length + 500 ≤ k):tollbarref06_Decode.f k l most=some (decS l (l.length + 1) 0 (mx most 0) []):=by
 obtain ⟨k,rfl⟩ : ∃ m,k=m + 1:=⟨k - 1,by omega⟩
 unfold tollbarref06_Decode.f
 by_cases h:most < 0
 ·rw [if_pos h,tollbarref06_Decode.j0,show mx most 0=0 by unfold mx;rw [if_pos h]]
  have:=refdec_f l hl 0 (by omega) (by omega) (l.length + 1) 0 0 [] k (by omega) (by omega) (by simp) (by omega) (by omega) (by omega)
  simpa using this
 ·rw [if_neg h,tollbarref06_Decode.j0,show mx most 0=most by unfold mx;rw [if_neg h]]
  have:=refdec_f l hl most (by omega) hm (l.length + 1) 0 0 [] k (by omega) (by omega) (by simp) (by omega) (by omega) (by omega)
  simpa using this
theorem dec_err (l:List Int) : ∀ (d p:Nat) (left:Int) (out:List Int),(decS l d p left out).2.2 ≠ 0 → (decS l d p left out).2.1=0:=by
 intro d
 induction d with
 | zero=>intro p left out h;exact absurd rfl h
 | succ d ih =>
  intro p left out
  rw [decS]
  repeat' split
  all_goals intro h
  all_goals first|rfl|exact absurd rfl h|exact ih _ _ _ h
theorem refBody_f (b:List Int) (hb:b.length ≤ 1000000) (size:Int) (hs:0 ≤ size) (coded:Bool) (k:Nat) (hk:50000600 ≤ k) : ∃ z,tollbarref08_Body.f k b size coded=some z ∧
  ((z.2.2.2=2∧(bodyS b size coded).2.1 < 0∧(bodyS b size coded).2.2=413) ∨ (z.2.2.2 ≠ 2∧z.2.2.2 ≠ 0∧z.2.2.1=false∧(bodyS b size coded).2.1 < 0∧(bodyS b size coded).2.2=400) ∨ (z.2.2.2=0∧z.2.2.1=false∧(bodyS b size coded).2.1 < 0∧(bodyS b size coded).2.2=0) ∨
   (z.2.2.2=0∧z.2.2.1=true ∧ ¬ (bodyS b size coded).2.1 < 0∧(bodyS b size coded).2.2=0∧z.1=(bodyS b size coded).1∧z.2.1=(bodyS b size coded).2.1)):=by
 unfold tollbarref08_Body.f bodyS
 cases coded
 ·rw [if_neg (show ¬ (false=true) by simp),if_neg (show ¬ (false=true) by simp)]
  by_cases h:(b.length:Int) < size
  ·rw [if_pos h,if_pos h]
   exact ⟨_,rfl,Or.inr (Or.inr (Or.inl ⟨rfl,rfl,by decide,rfl⟩))⟩
  ·rw [if_neg h,if_neg h,if_pos hs,if_pos (by omega),Join_f _ [] k (by simp only [List.length_take,List.length_nil];omega) (by simp only [List.length_take,List.length_nil];omega),Option.bind_some,List.append_nil]
   exact ⟨_,rfl,Or.inr (Or.inr (Or.inr ⟨rfl,rfl,by simp only [];omega,rfl,rfl,rfl⟩))⟩
 ·rw [if_pos rfl,if_pos rfl,refDecode_f b 4096 hb (by decide) k (by omega),Option.bind_some,show mx 4096 0=4096 by decide]
  have hz:=dec_none' b (b.length + 1) 0 4096 []
  have hp:=dec_err b (b.length + 1) 0 4096 []
  obtain ⟨r,hr⟩ : ∃ r,r=decS b (b.length + 1) 0 4096 []:=⟨_,rfl⟩
  rw [← hr] at hz hp ⊢
  refine ⟨_,rfl,?_⟩
  simp only
  by_cases h1:r.2.2=2
  ·rw [if_pos h1]
   exact Or.inl ⟨h1,by decide,rfl⟩
  ·rw [if_neg h1]
   by_cases h2:r.2.2=0
   ·rw [if_pos h2]
    by_cases h3:r.2.1=0
    ·rw [if_pos h3]
     exact Or.inr (Or.inr (Or.inl ⟨h2,decide_eq_false (by omega),by decide,rfl⟩))
    ·rw [if_neg h3]
     have:r.2.1 > 0:=by
      by_cases h4:r.2.1 > 0
      ·exact h4
      ·exact absurd (hz h4 h2).2 h3
     exact Or.inr (Or.inr (Or.inr ⟨h2,decide_eq_true this,by simp only [];omega,rfl,rfl,rfl⟩))
   ·rw [if_neg h2]
    exact Or.inr (Or.inl ⟨h1,h2,decide_eq_false (by have:=hp h2;omega),by decide,rfl⟩)
theorem refStatus_end (p:List UInt8) (x a b c:UInt8) (tl:List UInt8) (hp:p.length=8) (n:Int) (hn:tl.length ≤ 140737488355300) (k:Nat) (hk:tl.length + 20 ≤ k) :
  tollbarref05_Status.l0 k (mkS (p ++ x :: a :: b :: c :: tl)) n 9=some (if dig3 a b c=true then statEnd n (code3 a b c) tl else statBad):=by
 obtain ⟨k,rfl⟩ : ∃ m,k=m + 4:=⟨k - 4,by omega⟩
 have hz:(mkS (p ++ x :: a :: b :: c :: tl)).size=tl.length + 12:=by rw [mkS_size,List.length_append,hp];simp only [List.length_cons];omega
 have b9:bt (mkS (p ++ x :: a :: b :: c :: tl)) 9=a.toNat:=by have:=bt_app p (x :: a :: b :: c :: tl) 1 (by simp);rw [hp] at this;exact this
 have b10:bt (mkS (p ++ x :: a :: b :: c :: tl)) 10=b.toNat:=by have:=bt_app p (x :: a :: b :: c :: tl) 2 (by simp);rw [hp] at this;exact this
 have b11:bt (mkS (p ++ x :: a :: b :: c :: tl)) 11=c.toNat:=by have:=bt_app p (x :: a :: b :: c :: tl) 3 (by simp);rw [hp] at this;exact this
 have e12 : ∀ y r,tl=y :: r → bt (mkS (p ++ x :: a :: b :: c :: tl)) 12=y.toNat∧(mkS (p ++ x :: a :: b :: c :: tl)).extract 13 (tl.length + 12)=mkS r:=by
  rintro y r rfl
  refine ⟨?_,?_⟩
  ·have:=bt_app p (x :: a :: b :: c :: y :: r) 4 (by simp);rw [hp] at this;exact this
  ·rw [mkS_extract,List.drop_append,hp,List.drop_of_length_le (by omega),List.nil_append]
   rw [show List.drop (13 - 8) (x :: a :: b :: c :: y :: r)=r from rfl,List.take_of_length_le (by simp only [List.length_cons];omega)]
 generalize mkS (p ++ x :: a :: b :: c :: tl)=s at hz b9 b10 b11 e12 ⊢
 have w9:wrap64 ((9:Int) + 1)=10:=by unfold wrap64;omega
 have w10:wrap64 ((10:Int) + 1)=11:=by unfold wrap64;omega
 have w11:wrap64 ((11:Int) + 1)=12:=by unfold wrap64;omega
 rw [tollbarref05_Status.l0,if_pos (by decide),if_pos (by decide),if_pos (by omega),b9,refDigit_f,← dig_host,Option.bind_some,w9]
 unfold dig3
 cases ha:digU a
 ·rw [if_neg (by simp)];rfl
 rw [if_pos rfl,Bool.true_and,tollbarref05_Status.l0,if_pos (by decide),if_pos (by decide),if_pos (by omega),b10,refDigit_f,← dig_host,Option.bind_some,w10]
 cases hb:digU b
 ·rw [if_neg (by simp)];rfl
 rw [if_pos rfl,Bool.true_and,tollbarref05_Status.l0,if_pos (by decide),if_pos (by decide),if_pos (by omega),b11,refDigit_f,← dig_host,Option.bind_some,w11]
 cases hc:digU c
 ·rw [if_neg (by simp)];rfl
 have hr:=code3_range (a:=a) (b:=b) (c:=c) (by unfold dig3;rw [ha,hb,hc];rfl)
 have hcode:((100 * (((a.toNat:Int) - 48) % 256)) + (10 * (((b.toNat:Int) - 48) % 256))) + (((c.toNat:Int) - 48) % 256)=code3 a b c:=by unfold code3;omega
 rw [if_pos rfl,if_pos rfl,tollbarref05_Status.l0,if_neg (by decide),if_pos (by omega),if_pos (by omega),if_pos (by omega),b9,b10,b11,hcode]
 cases tl with
 | nil =>
  rw [if_neg (by simp only [List.length_nil] at hz;omega)]
  by_cases c1:code3 a b c < 100
  ·rw [if_pos c1,statEnd_out (Or.inl c1)];rfl
  ·rw [if_neg c1]
   by_cases c2:code3 a b c > 599
   ·rw [if_pos c2,statEnd_out (Or.inr c2)];rfl
   ·rw [if_neg c2,statEnd_nil0 (show ¬ (code3 a b c < 100 ∨ 599 < code3 a b c) by omega),show (⟨#[]⟩:ByteArray)=mkS [] from rfl,refValue_f _ (by rw [mkS_size];simp) k (by rw [mkS_size];simp only [List.length_nil];omega),Value_f _ (by rw [mkS_size];simp),Option.bind_some,if_pos (by rfl),if_neg (by decide)]
 | cons y r =>
  obtain ⟨f1,f2⟩:=e12 y r rfl
  simp only [List.length_cons] at hz hn hk f2
  rw [if_pos (by omega),if_pos (by omega),f1]
  by_cases hy:y=32
  ·subst hy
   rw [if_pos (by rfl),if_pos (by omega),hz,f2]
   by_cases c1:code3 a b c < 100
   ·rw [if_pos c1,statEnd_out (Or.inl c1)];rfl
   ·rw [if_neg c1]
    by_cases c2:code3 a b c > 599
    ·rw [if_pos c2,statEnd_out (Or.inr c2)];rfl
    ·rw [if_neg c2,statEnd_cons (show ¬ (code3 a b c < 100 ∨ 599 < code3 a b c) by omega),refValue_f _ (by rw [mkS_size];omega) k (by rw [mkS_size];omega),Value_f _ (by rw [mkS_size];omega),Option.bind_some,mkS_size]
     cases hv:(bytesOf (mkS r)).all valB
     ·rw [if_neg (by simp),if_neg (fun h=>by cases h.2.1)];rfl
     ·by_cases h100:r.length ≤ 100
      ·rw [if_pos rfl,if_neg (by omega),if_pos ⟨rfl,rfl,h100⟩]
      ·rw [if_pos rfl,if_pos (by omega),if_neg (fun h=>h100 h.2.2)]
       rfl
  ·rw [if_neg (fun e=>hy (UInt8.toNat_inj.1 (by show _=32;omega)))]
   by_cases c3:code3 a b c < 100 ∨ 599 < code3 a b c
   ·rw [statEnd_out c3];rfl
   ·rw [statEnd_cons c3,if_neg (fun h=>hy h.1)]
    rfl
theorem refStatus_f (l : List UInt8) (hn : l.length ≤ 140737488355300) (k : Nat) (hk : l.length + 30 ≤ k) : tollbarref05_Status.f k (mkS l) = some (statSpec l) := by
  obtain ⟨k, rfl⟩ : ∃ m, k = m + 2 := ⟨k - 2, by omega⟩
  have hbad : ∀ x, tollbarref05_Status.j0 (k + 2) x true = some statBad := by intro x; simp only [tollbarref05_Status.j0]; rfl
  have hbad1 : ∀ x n, tollbarref05_Status.j1 (k + 1) x n true = some statBad := by intro x n; simp only [tollbarref05_Status.j1]; rfl
  unfold tollbarref05_Status.f
  rw [mkS_size]
  by_cases h12 : (l.length : Int) < 12
  · rw [if_pos h12, hbad, statSpec_no]
    intro a b c tl e
    have := congrArg List.length e
    rw [List.length_drop] at this
    simp only [List.length_cons] at this
    omega
  · rw [if_neg h12, if_pos (by omega)]
    obtain ⟨p, x, a, b, c, tl, rfl, hp⟩ : ∃ p x a b c tl, l = p ++ x :: a :: b :: c :: tl ∧ p.length = 8 := by
      have hd : (l.drop 8).length = l.length - 8 := List.length_drop ..
      match hq : l.drop 8, hd with
      | [], h => simp at h; omega
      | [_], h => simp at h; omega
      | [_, _], h => simp at h; omega
      | [_, _, _], h => simp at h; omega
      | x :: a :: b :: c :: tl, _ => exact ⟨l.take 8, x, a, b, c, tl, by rw [← hq, List.take_append_drop], by rw [List.length_take]; omega⟩
    have ht : (p ++ x :: a :: b :: c :: tl).take 8 = p := by rw [← hp, List.take_left]
    have hdr : (p ++ x :: a :: b :: c :: tl).drop 8 = x :: a :: b :: c :: tl := by rw [← hp, List.drop_left]
    have hl : (p ++ x :: a :: b :: c :: tl).length = tl.length + 12 := by rw [List.length_append, hp]; simp only [List.length_cons]; omega
    have b8 : bt (mkS (p ++ x :: a :: b :: c :: tl)) 8 = x.toNat := by have := bt_app p (x :: a :: b :: c :: tl) 0 (by simp); rw [hp] at this; exact this
    rw [b8]
    by_cases hx : x = 32
    · subst hx
      rw [show (((32 : UInt8).toNat : Int) != 32) = false from rfl]
      have hv := ver_min p
      have hex : (mkS (p ++ 32 :: a :: b :: c :: tl)).extract 0 8 = mkS p := by rw [mkS_extract, List.drop_zero, Nat.sub_zero, ht]
      simp only [tollbarref05_Status.j0]
      rw [if_neg (by simp), if_pos (by decide), mkS_size, if_pos (by rw [hl]; omega), hex, refVersion_f, Option.bind_some]
      cases hver : verL p with
      | none =>
        rw [hver] at hv
        rw [if_neg (by simp), hbad1, statSpec_min (by rw [ht]; exact hv)]
      | some q =>
        rw [hver] at hv
        simp only [if_true] at hv ⊢
        by_cases c5 : q.1 = 1 ∧ q.2 ≤ 1
        · rw [if_pos c5] at hv
          rw [if_pos c5.1, decide_eq_false (by omega)]
          simp only [tollbarref05_Status.j1]
          rw [if_neg (by simp), refStatus_end p 32 a b c tl hp q.2 (by omega) k (by omega), statSpec_yes (by rw [ht]; exact hv) hdr]
        · rw [if_neg c5] at hv
          rw [statSpec_min (by rw [ht]; exact hv)]
          by_cases c6 : q.1 = 1
          · rw [if_pos c6, decide_eq_true (by omega), hbad1]
          · rw [if_neg c6, hbad1]
    · have hb : ((x.toNat : Int) != 32) = true := by
        rw [bne_iff_ne]
        exact fun e => hx (UInt8.toNat_inj.1 (by show _ = 32; omega))
      rw [hb, hbad, statSpec_no]
      intro a' b' c' tl' e
      rw [hdr] at e
      injection e with e _
      exact hx e
theorem refResp_f (l:List Int) (hl:l.length ≤ 1000000) (m:ByteArray) (ended:Bool) (k:Nat) (hk:1070000100 ≤ k):tollbarref08_Response.f k l m ended=some (respS2 l m ended):=by
 have hb:=bdS_length l
 have hsz:=lines_sizes (bdS l) (extS l) hb.1
 have hln:=lines_len (bdS l) (extS l)
 have hla:=lines_at l
 unfold respS2 tollbarref08_Response.f
 rw [refLines_f l hl k (by omega),Option.bind_some]
 obtain ⟨L,hL⟩ : ∃ L,L=linesS (bdS l) (extS l):=⟨_,rfl⟩
 rw [← hL] at hsz hln hla ⊢
 obtain ⟨ss,n,c⟩:=L
 simp only at hsz hln hla ⊢
 cases ss with
 | nil=>rw [if_pos (by simp)];rfl
 | cons s ss =>
  have hs:=hsz s (List.mem_cons_self ..)
  have hq:=refStatus_f s.data.toList (by rw [data_length];omega) k (by rw [data_length];omega)
  rw [mkS_self] at hq
  have hr0:rdOf ByteArray.empty (s :: ss) 0=s:=rfl
  have hnil:=statSpec_bare s.data.toList
  rw [if_neg (by simp only [List.length_cons];omega),if_pos (by simp only [List.length_cons];omega),hr0,hq,Option.bind_some,respL]
  obtain ⟨q,hqq⟩ : ∃ q,q=statSpec s.data.toList:=⟨_,rfl⟩
  have hFB:=fields_FB ss
  rw [← hqq] at hnil ⊢
  by_cases h1:q.2.2.2.2.2=true
  ·rw [if_pos h1,if_pos h1,List.drop_succ_cons,List.drop_zero,refFields_f ss (fun t ht=>hsz t (List.mem_cons_of_mem _ ht)) (by simp only [List.length_cons] at hln;omega) k (by omega),Option.bind_some]
   obtain ⟨g,hg⟩ : ∃ g,g=fieldsS ss 0:=⟨_,rfl⟩
   rw [← hg] at hFB ⊢
   by_cases h2:g.2=0
   ·rw [if_pos h2,if_pos h2]
    by_cases h3:n=0
    ·rw [if_pos h3,if_pos h3];rfl
    ·have hy:=respLen_size m q.1 q.2.2.1 g.1
     have hfr:=refFrameResp_f m q.1 q.2.1 q.2.2.1 g.1 q.2.2.2.2.1 hFB k (by omega)
     rw [if_neg h3,if_neg h3,hfr,Option.bind_some]
     obtain ⟨y,hyy⟩ : ∃ y,y=respLen m q.1 q.2.2.1 g.1:=⟨_,rfl⟩
     rw [← hyy] at hy ⊢
     unfold respF
     by_cases h4:y.2.2=true
     ·have hdl:(l.drop n.toNat).length=l.length - n.toNat:=List.length_drop ..
      have hdi:((l.drop n.toNat).length:Int)=(l.length:Int) - n:=by omega
      rw [if_pos h4,if_pos h4,if_pos (by omega),if_pos (by omega)]
      unfold restS
      by_cases h5:y.1=3
      ·rw [if_pos h5,if_pos h5,show wrap64 ((l.length:Int) - n)=(l.length:Int) - n by unfold wrap64;omega,hdi]
       by_cases h6:(l.length:Int) - n > 4096
       ·rw [if_pos h6,if_pos h6,if_pos (by decide)];rfl
       ·rw [if_neg h6,if_neg h6]
        cases ended
        ·rw [if_neg (show ¬ (false=true) by simp),if_neg (show ¬ (false=true) by simp),if_pos (by decide)];rfl
        ·rw [if_pos rfl,if_pos rfl,if_neg (by simp only [];omega),if_pos rfl,Join_f _ [] k (by simp only [List.length_nil];omega) (by simp only [List.length_nil];omega),Option.bind_some,List.append_nil,show n + ((l.length:Int) - n)=(l.length:Int) by omega]
      ·obtain ⟨z,hz,hc⟩:=refBody_f (l.drop n.toNat) (by omega) y.2.1 hy (y.1 == 2) k (by omega)
       have hbl:=body_le (l.drop n.toNat) (by omega) y.2.1 hy (y.1 == 2)
       rw [if_neg h5,if_neg h5,hz,Option.bind_some]
       obtain ⟨B,hB⟩ : ∃ B,B=bodyS (l.drop n.toNat) y.2.1 (y.1 == 2):=⟨_,rfl⟩
       rw [← hB] at hc hbl ⊢
       simp only
       rcases hc with ⟨c1,c2,c3⟩|⟨c1,c2,c3,c4,c5⟩|⟨c1,c2,c3,c4⟩|⟨c1,c2,c3,c4,c5,c6⟩
       ·rw [if_neg (by omega),if_pos c2,c3];rfl
       ·rw [if_neg c2,if_pos c4,c5];rfl
       ·rw [if_pos c1,c2,if_neg (by simp),if_pos c3,c4]
        cases ended <;> rfl
       ·rw [if_pos c1,if_pos c2,if_neg c3,c4,if_pos (show ((0:Int) == 0)=true from rfl),c5,c6,show wrap64 (n + B.2.1)=n + B.2.1 by unfold wrap64;omega]
     ·rw [if_neg h4,if_neg h4];rfl
   ·rw [if_neg h2,if_neg h2];rfl
  ·rw [if_neg h1,if_neg h1];rfl
theorem sameB_l0 (xs:List Int) (hn:xs.length ≤ 4398046511104) (d:Nat) : ∀ (k:Nat) (i:Int),0 ≤ i → (xs.length:Int) - i=d → d + 1 ≤ k → tollbarref01_SameBytes.l0 k xs xs i=some true:=by
 induction d with
 | zero =>
  intro k i h0 hd hk
  obtain ⟨k,rfl⟩ : ∃ m,k=m + 1:=⟨k - 1,by omega⟩
  simp only [tollbarref01_SameBytes.l0]
  rw [if_neg (by omega)]
 | succ d ih =>
  intro k i h0 hd hk
  obtain ⟨k,rfl⟩ : ∃ m,k=m + 1:=⟨k - 1,by omega⟩
  simp only [tollbarref01_SameBytes.l0]
  rw [if_pos (by omega),if_pos h0,if_pos (by omega),if_pos trivial,show wrap64 (i + 1)=i + 1 by unfold wrap64;omega]
  exact ih k (i + 1) (by omega) (by omega) (by omega)
theorem sameB_eq (xs:List Int) (hn:xs.length ≤ 4398046511104) (k:Nat) (hk:xs.length + 1 ≤ k):tollbarref01_SameBytes.f k xs xs=some true:=by
 unfold tollbarref01_SameBytes.f
 rw [if_pos rfl]
 exact sameB_l0 xs hn xs.length k 0 (by omega) (by omega) hk
theorem sameF_l0 (xs:List (S55)) (hn:xs.length ≤ 1000000) (d:Nat) : ∀ (k i:Nat),i + d=xs.length → d < k → tollbarref04_Same.l0 k xs xs (i:Int)=some true:=by
 induction d with
 | zero =>
  intro k i hi hk
  obtain ⟨k,rfl⟩ : ∃ m,k=m + 1:=⟨k - 1,by omega⟩
  rw [tollbarref04_Same.l0,if_neg (by omega)]
 | succ d ih =>
  intro k i hi hk
  obtain ⟨k,rfl⟩ : ∃ m,k=m + 1:=⟨k - 1,by omega⟩
  rw [tollbarref04_Same.l0,if_pos (by omega),if_pos (by omega),if_pos (by omega),if_pos rfl,if_pos rfl,show wrap64 ((i:Int) + 1)=((i + 1:Nat):Int) by unfold wrap64;omega]
  exact ih k (i + 1) (by omega) (by omega)
theorem sameF_eq (xs:List (S55)) (hn:xs.length ≤ 1000000) (k:Nat) (hk:xs.length < k):tollbarref04_Same.f k xs xs=some true:=by
 unfold tollbarref04_Same.f
 rw [if_pos rfl]
 exact sameF_l0 xs hn xs.length k 0 (by omega) hk
theorem sameResp8_eq (c:Int) (r:ByteArray) (mi:Int) (fs:List (S55)) (b:List Int) (hf:fs.length ≤ 100000) (hb:b.length ≤ 1000000) (k:Nat) (hk:1000010 ≤ k):tollbarref08_SameResp.f k c r mi fs b c r mi fs b=some true:=by
 unfold tollbarref08_SameResp.f
 rw [if_pos rfl,if_pos rfl,if_pos rfl,sameF_eq _ (by omega) k (by omega),Option.bind_some,if_pos rfl,sameB_eq b (by omega) k (by omega),Option.bind_some]
theorem HttpResponses:tollbarlaw08_HttpResponses.Pure:=by
 intro l m ended
 intros
 by_cases h:(l.length:Int) > 8000
 ·refine ⟨0,?_⟩
  unfold tollbarlaw08_HttpResponses.f
  rw [show tollbarlaw08_answering.f=some true from rfl,Option.bind_some,if_pos rfl,if_pos h]
 ·refine ⟨1080000000,?_⟩
  have hl:l.length ≤ 1000000:=by omega
  have hle:=resp_le l m ended hl
  unfold tollbarlaw08_HttpResponses.f
  rw [show tollbarlaw08_answering.f=some true from rfl,Option.bind_some,if_pos rfl,if_neg h,http_Response_f l hl m ended _ (by omega),Option.bind_some,refResp_f l hl m ended _ (by omega),Option.bind_some,if_pos rfl,beq_self_eq_true,if_pos rfl,sameResp8_eq _ _ _ _ _ (by omega) (by omega) _ (by omega),Option.bind_some]
end Go.Proofs.YtfjeinnemimjoaaGreatDoor.Pure
