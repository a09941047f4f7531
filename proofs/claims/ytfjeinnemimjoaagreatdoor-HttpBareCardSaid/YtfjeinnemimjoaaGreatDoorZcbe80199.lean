/- Each function below answers as its Lean twin says; plain lemmas; a row where its theorem stands. No further condition. (Laid by this repo's pack.py out of its texts and of the print's words.) -/
import Derived.Test.YtfjeinnemimjoaaGreatDoorZc6af24e6
import Derived.Test.YtfjeinnemimjoaaGreatDoorZccbafcaa
import Derived.Test.YtfjeinnemimjoaaGreatDoorZd3f7ee2d
import Derived.Test.YtfjeinnemimjoaaGreatDoorZc563c9a8
namespace Go.Proofs.YtfjeinnemimjoaaGreatDoor.Pure
open Go.RowKit Go.Proofs.YtfjeinnemimjoaaGreatDoor.P Go.Proofs.YtfjeinnemimjoaaGreatDoorW.PrintWords Go.Proofs.YtfjeinnemimjoaaGreatDoorW.PrintLast Go.Proofs.YtfjeinnemimjoaaGreatDoorW.PrintMore
set_option linter.unusedVariables false
set_option linter.unusedSimpArgs false
theorem and_mask (x : Int) (j : Nat) (hj : j ≤ 62) : Go.bits .and .i64 x (2 ^ j - 1) = x % 2 ^ j := by
  have hpos : 0 < 2 ^ j := Nat.two_pow_pos j
  have hlt : 2 ^ j ≤ 2 ^ 62 := Nat.pow_le_pow_right (by decide) hj
  have hc : ((2 : Int) ^ j - 1) = ((2 ^ j - 1 : Nat) : Int) := by rw [Int.natCast_sub hpos]; simp
  have hb : (2 ^ j - 1) % 2 ^ 64 = 2 ^ j - 1 := Nat.mod_eq_of_lt (by omega)
  have hd : ((2 : Int) ^ j) ∣ 2 ^ 64 := ⟨2 ^ (64 - j), by rw [← Int.pow_add]; congr 1; omega⟩
  have hk : (BitVec.ofInt 64 x &&& BitVec.ofInt 64 ((2 ^ j - 1 : Nat) : Int)).toNat = (x % ((2 ^ 64 : Nat) : Int)).toNat % 2 ^ j := by
    rw [BitVec.toNat_and, BitVec.ofInt_natCast, BitVec.toNat_ofNat, hb, Nat.and_two_pow_sub_one_eq_mod, BitVec.toNat_ofInt]
  have hg : bits .and .i64 x (2 ^ j - 1) = IntKind.i64.wrap (((BitVec.ofInt 64 x &&& BitVec.ofInt 64 ((2 ^ j - 1 : Nat) : Int)).toNat : Nat) : Int) := by rw [hc]; rfl
  have hx : (((x % ((2 ^ 64 : Nat) : Int)).toNat % 2 ^ j : Nat) : Int) = x % 2 ^ j := by
    rw [Int.natCast_emod, Int.toNat_of_nonneg (Int.emod_nonneg _ (by decide))]
    have := Int.emod_emod_of_dvd x hd
    simpa using this
  rw [hg, hk, hx, IntKind.wrap_i64]
  have h1 : 0 ≤ x % (2 : Int) ^ j := Int.emod_nonneg _ (by have : (0 : Int) < 2 ^ j := by exact_mod_cast hpos
                                                           omega)
  have h2 : x % (2 : Int) ^ j < 2 ^ j := Int.emod_lt_of_pos _ (by exact_mod_cast hpos)
  have h3 : (2 : Int) ^ j ≤ 2 ^ 62 := by exact_mod_cast hlt
  have h4 : (2 : Int) ^ 62 = 4611686018427387904 := by decide
  omega
def headEnd (t:List ByteArray × Int × Int) (g:List (S55) × Int) (fs:List (S55)) (st:Option ByteArray):List (S55) × Int × Int × Option ByteArray :=
 if g.2=0 then (if t.2.1=0 then ([],0,t.2.2,st) else (fs ++ g.1,t.2.1,0,st)) else ([],0,g.2,st)
theorem head_l (fst:Nat → ByteArray → Option Int) (l:List Int) (hl:l.length ≤ 4398046511104) (st:Option ByteArray) : ∀ (d p k:Nat) (fs:List (S55)),0 < p → p ≤ (bdS l).length → (bdS l).length < p + d → fs.length ≤ 40 → d + 6200 ≤ k →
 http_head.l fst k l fs (p:Int) st=some (headEnd (tailS (bdS l) (extS l) d p) (fieldsS (tailS (bdS l) (extS l) d p).1 fs.length) fs st):=by
 intro d
 induction d with
 | zero=>intro p k fs _ h1 h2;omega
 | succ d ih =>
  intro p k fs h0 hp hd hf hk
  obtain ⟨k,rfl⟩ : ∃ m,k=m + 1:=⟨k - 1,by omega⟩
  have hb:=bdS_length l
  have hsh:=cutS_shape ((bdS l).drop p) 2048
  have hdl:((bdS l).drop p).length=(bdS l).length - p:=List.length_drop ..
  have hcl:=cut_len ((bdS l).drop p) (by omega)
  rw [http_head.l,mn_take,if_pos (by omega),if_pos (by omega),Int.toNat_natCast,cut_f _ 2048 (by omega) k (by omega),Option.bind_some,tailS]
  obtain ⟨c,hc⟩ : ∃ c,c=cutSpec ((bdS l).drop p) 2048:=⟨_,rfl⟩
  rw [← hc] at hsh hcl ⊢
  by_cases h1:c.2.2=20
  ·rw [if_pos h1,if_pos h1];rfl
  ·rw [if_neg h1,if_neg h1]
   by_cases h2:c.2.1=0
   ·rw [if_pos h2,if_pos h2]
    unfold extS
    split <;> rfl
   ·have hz:c.2.1 > 0∧c.2.1 ≤ ((bdS l).length:Int) - p:=by rcases hsh with h|h <;> omega
    have hw:wrap64 ((p:Int) + c.2.1)=((p + c.2.1.toNat:Nat):Int):=by unfold wrap64;omega
    have hw2:(p:Int) + c.2.1=((p + c.2.1.toNat:Nat):Int):=by omega
    rw [if_neg h2,if_neg h2,if_neg (show ¬ (p:Int)=0 by omega),hw,hw2]
    by_cases h3:c.1.toList=[]
    ·rw [if_pos h3,if_pos h3]
     unfold headEnd
     rw [fieldsS,if_pos rfl,if_neg (show ¬ ((p + c.2.1.toNat:Nat):Int)=0 by omega),List.append_nil]
    ·rw [if_neg h3,if_neg h3]
     have hcn:c.1.data.toList.length ≤ 2048:=by rw [data_length];exact hcl
     simp only [fieldsS]
     cases hfo:fieldOk c.1.data.toList
     ·obtain ⟨x,y,hxy⟩:=field_no c.1.data.toList (by omega) hfo
      rw [mkS_self] at hxy
      rw [hxy,Option.bind_some,if_neg (show ¬ ((20:Int)=0) by decide),if_neg (by simp)]
      rfl
     ·have hxy:=field_ok c.1.data.toList (by omega) hfo
      rw [mkS_self] at hxy
      rw [hxy,Option.bind_some,if_pos rfl,if_pos rfl]
      by_cases h4:fs.length=40
      ·rw [if_pos (show (fs.length:Int)=40 by omega),if_pos h4];rfl
      ·rw [if_neg (show ¬ (fs.length:Int)=40 by omega),if_neg h4,if_pos (by omega)]
       have hlen:(fs ++ [fieldX c.1.data.toList]).length=fs.length + 1:=by simp
       have:=ih (p + c.2.1.toNat) k (fs ++ [fieldX c.1.data.toList]) (by omega) (by omega) (by omega) (by omega) (by omega)
       rw [hlen] at this
       refine this.trans ?_
       obtain ⟨t,ht⟩ : ∃ t,t=tailS (bdS l) (extS l) d (p + c.2.1.toNat):=⟨_,rfl⟩
       rw [← ht]
       obtain ⟨g,hg⟩ : ∃ g,g=fieldsS t.1 (fs.length + 1):=⟨_,rfl⟩
       rw [← hg]
       unfold headEnd
       by_cases h5:g.2=0
       ·rw [if_pos h5,if_pos h5,if_pos rfl]
        by_cases h6:t.2.1=0
        ·rw [if_pos h6,if_pos h6]
        ·rw [if_neg h6,if_neg h6,List.append_assoc];rfl
       ·rw [if_neg h5,if_neg h5,if_neg h5]
theorem head_nil (fst:Nat → ByteArray → Option Int) (l:List Int) (k:Nat) (hk:8300 ≤ k) (h:(linesS (bdS l) (extS l)).1=[]):http_head.f fst (k + 1) l=some ([],0,(linesS (bdS l) (extS l)).2.2,none):=by
 have hb:=bdS_length l
 unfold linesS at h ⊢
 rw [http_head.f,http_head.l,mn_take,if_pos (by omega),if_pos (by omega),show (0:Int).toNat=0 from rfl,List.drop_zero,cut_f _ 2048 (by omega) k (by omega),Option.bind_some]
 obtain ⟨c,hc⟩ : ∃ c,c=cutSpec (bdS l) 2048:=⟨_,rfl⟩
 rw [← hc] at h ⊢
 by_cases h1:c.2.2=20
 ·rw [if_pos h1,if_pos h1]
 ·rw [if_neg h1] at h ⊢
  rw [if_neg h1]
  by_cases h2:c.2.1=0
  ·rw [if_pos h2,if_pos h2]
   unfold extS
   split <;> rfl
  ·rw [if_neg h2] at h;cases h
theorem head_cons (fst:Nat → ByteArray → Option Int) (l:List Int) (hl:l.length ≤ 4398046511104) (k:Nat) (hk:8300 ≤ k) (s:ByteArray) (ss:List ByteArray) (h:(linesS (bdS l) (extS l)).1=s :: ss) :
 http_head.f fst (k + 1) l=(fst k s).bind fun code=>if code=0 then some (headEnd (ss,(linesS (bdS l) (extS l)).2) (fieldsS ss 0) [] (some s)) else some ([],0,code,some s):=by
 have hb:=bdS_length l
 have hsh:=cutS_shape (bdS l) 2048
 unfold linesS at h ⊢
 rw [http_head.f,http_head.l,mn_take,if_pos (by omega),if_pos (by omega),show (0:Int).toNat=0 from rfl,List.drop_zero,cut_f _ 2048 (by omega) k (by omega),Option.bind_some]
 obtain ⟨c,hc⟩ : ∃ c,c=cutSpec (bdS l) 2048:=⟨_,rfl⟩
 rw [← hc] at h hsh ⊢
 by_cases h1:c.2.2=20
 ·rw [if_pos h1] at h;cases h
 ·rw [if_neg h1] at h ⊢
  rw [if_neg h1]
  by_cases h2:c.2.1=0
  ·rw [if_pos h2] at h;cases h
  ·have hz:c.2.1 > 0∧c.2.1 ≤ ((bdS l).length:Int):=by rcases hsh with h|h <;> omega
   have hw:wrap64 ((0:Int) + c.2.1)=((c.2.1.toNat:Nat):Int):=by unfold wrap64;omega
   rw [if_neg h2] at h ⊢
   rw [if_neg h2,if_pos rfl,hw,head_l fst l hl (some c.1) ((bdS l).length + 1) c.2.1.toNat k [] (by omega) (by omega) (by omega) (by simp) (by omega)]
   simp only [List.cons.injEq] at h
   rw [← h.1,← h.2]
   rfl
theorem hosts_f (m t:ByteArray) (mi:Int) (fs:List (S55)) (b:List Int) (hf:FB fs) (k:Nat) (hk:1001 ≤ k):http_hosts.f k m t mi fs b=some (hostsOk (getS hostNm fs) mi):=by
 have hfl:=hf.1
 have hg:=Get_f fs hostNM hf (by decide) k (by omega)
 rw [getS_nm hostNM hostNm host_nm] at hg
 have hb:=get_bounds fs hostNm hf
 unfold http_hosts.f
 rw [show (⟨#[72,111,115,116]⟩:ByteArray)=hostNM from rfl,hg,Option.bind_some]
 cases hs:getS hostNm fs with
 | nil=>rfl
 | cons p r =>
  rw [hs] at hb
  have hp:=hb.2 p (List.mem_cons_self ..)
  have hr0:rdOf ByteArray.empty (p :: r) 0=p:=rfl
  rw [if_neg (by simp only [List.length_cons];omega),if_pos (by simp only [List.length_cons];omega),hr0,hostT_f p (by omega),Option.bind_some]
  cases r with
  | nil =>
   rw [hostsOk]
   cases (hostT p).2
   ·rw [if_neg (by simp)]
   ·rw [if_pos rfl];rfl
  | cons q s =>
   rw [hostsOk]
   have:(((p :: q :: s).length:Int) == 1)=false:=beq_eq_false_iff_ne.2 (by simp only [List.length_cons];omega)
   rw [this]
   split <;> rfl
theorem tail_sizes (l:List Int) (e:Int) (hl:l.length ≤ 2048) : ∀ (d p:Nat),∀ s ∈ (tailS l e d p).1,s.size ≤ 2048:=by
 intro d
 induction d with
 | zero=>intro p s hs;cases hs
 | succ d ih =>
  intro p s hs
  have hdl:(l.drop p).length=l.length - p:=List.length_drop ..
  have hc:=cut_len (l.drop p) (by omega)
  rw [tailS] at hs
  split at hs
  ·cases hs
  ·split at hs
   ·cases hs
   ·split at hs
    ·cases hs
    ·rcases List.mem_cons.1 hs with rfl|hs
     ·exact hc
     ·exact ih _ s hs
theorem lines_sizes (l:List Int) (e:Int) (hl:l.length ≤ 2048) : ∀ s ∈ (linesS l e).1,s.size ≤ 2048:=by
 intro s hs
 have hc:=cut_len l hl
 unfold linesS at hs
 split at hs
 ·cases hs
 ·split at hs
  ·cases hs
  ·rcases List.mem_cons.1 hs with rfl|hs
   ·exact hc
   ·exact tail_sizes l e hl _ _ s hs
theorem http_open_f (l:List Int) (hl:l.length ≤ 1000000) (k:Nat) (hk:1070000000 ≤ k) : ∃ o,http_open.f (k + 1) l=some o∧(o=openS l ∨ (o.2.2.2.2.2.2.2.2 ≠ 0∧openS l=openBad o.2.2.2.2.2.2.2.2)):=by
 have hb:=bdS_length l
 have hsz:=lines_sizes (bdS l) (extS l) hb.1
 have hn1:=head_nil reqFst l k (by omega)
 have hn2:=head_cons reqFst l (by omega) k (by omega)
 unfold openS http_open.f
 obtain ⟨L,hL⟩ : ∃ L,L=linesS (bdS l) (extS l):=⟨_,rfl⟩
 rw [← hL] at hsz hn1 hn2 ⊢
 obtain ⟨ss,n,c⟩:=L
 cases ss with
 | nil =>
  rw [hn1 rfl,Option.bind_some]
  exact ⟨_,rfl,Or.inl rfl⟩
 | cons s ss =>
  have hs:=hsz s (List.mem_cons_self ..)
  have hq : ∀ k,1000000 ≤ k → line_Request.f k s=some (reqSpec s.data.toList):=fun k hk=>by
   have:=Request_f s.data.toList (by rw [data_length];omega) k (by rw [data_length];omega)
   rw [mkS_self] at this
   exact this
  have hr:reqFst k s=some (reqSpec s.data.toList).2.2.2.2.2:=by unfold reqFst;rw [hq k (by omega),Option.bind_some]
  rw [hn2 s ss rfl,hr,Option.bind_some,openL]
  obtain ⟨q,hqq⟩ : ∃ q,q=reqSpec s.data.toList:=⟨_,rfl⟩
  have hFB:=fields_FB ss
  rw [← hqq] at hq ⊢
  obtain ⟨g,hg⟩ : ∃ g,g=fieldsS ss 0:=⟨_,rfl⟩
  rw [← hg] at hFB ⊢
  by_cases h1:q.2.2.2.2.2=0
  ·rw [if_pos h1,if_pos h1]
   unfold headEnd
   by_cases h2:g.2=0
   ·rw [if_pos h2,if_pos h2]
    simp only
    by_cases h3:n=0
    ·rw [if_pos h3,if_pos h3,Option.bind_some]
     exact ⟨_,rfl,Or.inl rfl⟩
    ·rw [if_neg h3,if_neg h3,Option.bind_some,if_neg h3,Option.bind_some,hq _ (by omega),Option.bind_some,List.nil_append]
     rw [hosts_f q.1 q.2.1 q.2.2.1 g.1 [] hFB _ (by omega),Option.bind_some]
     unfold openF
     by_cases h4:hostsOk (getS hostNm g.1) q.2.2.1=true
     ·rw [if_pos h4,if_pos h4,frameReq_f g.1 q.2.2.1 hFB _ (by omega),Option.bind_some]
      refine ⟨_,rfl,?_⟩
      by_cases h5:(reqLen g.1 q.2.2.1).2.2=0
      ·rw [if_pos h5]
       exact Or.inl (by rw [h5])
      ·rw [if_neg h5]
       exact Or.inr ⟨h5,rfl⟩
     ·rw [if_neg h4,if_neg h4]
      exact ⟨_,rfl,Or.inl rfl⟩
   ·rw [if_neg h2,if_neg h2,Option.bind_some]
    exact ⟨_,rfl,Or.inl rfl⟩
  ·rw [if_neg h1,if_neg h1,Option.bind_some]
   exact ⟨_,rfl,Or.inl rfl⟩
theorem trail_le (l:List Int) : ∀ (d p:Nat),p ≤ l.length → (trailS l d p).1 ≤ (l.length:Int):=by
 intro d
 induction d with
 | zero=>intro p _;exact Int.natCast_nonneg _
 | succ d ih =>
  intro p hp
  have hsh:=cutS_shape (l.drop p) 256
  have hdl:(l.drop p).length=l.length - p:=List.length_drop ..
  rw [trailS]
  obtain ⟨c,hc⟩ : ∃ c,c=cutSpec (l.drop p) 256:=⟨_,rfl⟩
  rw [← hc] at hsh ⊢
  by_cases h1:c.2.2=0
  ·rw [if_pos h1]
   by_cases h2:c.2.1=0
   ·rw [if_pos h2];exact Int.natCast_nonneg _
   ·have hz2:c.2.1 > 0∧c.2.1 ≤ (l.length:Int) - p:=by rcases hsh with h|h <;> omega
    rw [if_neg h2]
    by_cases h3:c.1.toList=[]
    ·rw [if_pos h3];show (p:Int) + c.2.1 ≤ _;omega
    ·rw [if_neg h3]
     by_cases h4:fieldOk c.1.data.toList=true
     ·rw [if_pos h4];exact ih _ (by omega)
     ·rw [if_neg h4];exact Int.natCast_nonneg _
  ·rw [if_neg h1];exact Int.natCast_nonneg _
theorem dec_le (l:List Int) (hl:l.length ≤ 1000000) : ∀ (d p:Nat) (left:Int) (out:List Int),p ≤ l.length → (decS l d p left out).2.1 ≤ (l.length:Int):=by
 intro d
 induction d with
 | zero=>intro p left out _;exact Int.natCast_nonneg _
 | succ d ih =>
  intro p left out hp
  have hsh:=cutS_shape (l.drop p) 256
  have hdl:(l.drop p).length=l.length - p:=List.length_drop ..
  have hz0:(0:Int) ≤ (l.length:Int):=Int.natCast_nonneg _
  rw [decS]
  obtain ⟨c,hc⟩ : ∃ c,c=cutSpec (l.drop p) 256:=⟨_,rfl⟩
  rw [← hc] at hsh ⊢
  have hzb:=size_bound c.1.data.toList
  obtain ⟨z,hz⟩ : ∃ z,z=sizeS c.1.data.toList:=⟨_,rfl⟩
  obtain ⟨q,hq⟩ : ∃ q,q=p + c.2.1.toNat:=⟨_,rfl⟩
  rw [← hz] at hzb
  rw [← hz,← hq]
  by_cases h1:c.2.2=0
  ·rw [if_pos h1]
   by_cases h2:c.2.1=0
   ·rw [if_pos h2];exact hz0
   ·have hz2:c.2.1 > 0∧c.2.1 ≤ (l.length:Int) - p:=by rcases hsh with h|h <;> omega
    have hqd:(l.drop q).length=l.length - q:=List.length_drop ..
    rw [if_neg h2]
    by_cases h3:z.2=true
    ·rw [if_pos h3]
     by_cases h4:z.1=0
     ·rw [if_pos h4]
      by_cases h5:(trailS l 41 q).2=0
      ·rw [if_pos h5]
       by_cases h6:(trailS l 41 q).1=0
       ·rw [if_pos h6];exact hz0
       ·rw [if_neg h6];exact trail_le l 41 q (by omega)
      ·rw [if_neg h5];exact hz0
     ·rw [if_neg h4]
      by_cases h5:z.1 > left
      ·rw [if_pos h5];exact hz0
      ·rw [if_neg h5]
       by_cases h6:(dataOf (l.drop q) (q:Int) z.1 false).2.1=0
       ·rw [if_pos h6]
        by_cases h7:(dataOf (l.drop q) (q:Int) z.1 false).2.2.2=true
        ·rw [if_pos h7];exact hz0
        ·rw [if_neg h7]
         obtain ⟨_,_,e3,_,_⟩:=data_ok (l.drop q) q z.1 (by omega) (by omega) hzb.1 (by omega) h6 h7
         exact ih _ _ _ (by omega)
       ·rw [if_neg h6];exact hz0
    ·rw [if_neg h3];exact hz0
  ·rw [if_neg h1];exact hz0
theorem decS_size (l:List Int) (hb:l.length ≤ 1000000) : ∀ (d p:Nat) (left:Int) (out:List Int),p ≤ l.length → out.length ≤ l.length → l.length < p + d → out.length ≤ p → (decS l d p left out).1.length ≤ l.length:=by
 intro d
 induction d with
 | zero=>intro p left out h1 h2 h3;omega
 | succ d ih =>
  intro p left out hp ho hd hop
  have hsh:=cutS_shape (l.drop p) 256
  have hdl:(l.drop p).length=l.length - p:=List.length_drop ..
  rw [decS]
  obtain ⟨c,hc⟩ : ∃ c,c=cutSpec (l.drop p) 256:=⟨_,rfl⟩
  rw [← hc] at hsh ⊢
  by_cases h1:c.2.2=0
  ·rw [if_pos h1]
   by_cases h2:c.2.1=0
   ·rw [if_pos h2];simp
   ·have hz2:c.2.1 > 0∧c.2.1 ≤ (l.length:Int) - p:=by rcases hsh with h|h <;> omega
    have hzb:=size_bound c.1.data.toList
    have hdq:(l.drop (p + c.2.1.toNat)).length=l.length - (p + c.2.1.toNat):=List.length_drop ..
    rw [if_neg h2]
    split
    ·split
     ·split
      ·split
       ·simp
       ·exact ho
      ·simp
     ·split
      ·simp
      ·split
       ·split
        ·simp
        ·rename_i h6 h7
         obtain ⟨_,_,e3,_,_⟩:=data_ok (l.drop (p + c.2.1.toNat)) ((p + c.2.1.toNat:Nat):Int) (sizeS c.1.data.toList).1 (by omega) (by omega) hzb.1 (by omega) h6 h7
         have htk:((l.drop (p + c.2.1.toNat)).take (sizeS c.1.data.toList).1.toNat).length ≤ (sizeS c.1.data.toList).1.toNat:=List.length_take_le ..
         exact ih _ _ _ (by omega) (by rw [List.length_append];omega) (by omega) (by rw [List.length_append];omega)
       ·simp
    ·simp
  ·rw [if_neg h1];simp
theorem trail_pos (l:List Int) : ∀ (d p:Nat),0 ≤ (trailS l d p).1:=by
 intro d
 induction d with
 | zero=>intro p;exact Int.le_refl _
 | succ d ih =>
  intro p
  have hsh:=cutS_shape (l.drop p) 256
  rw [trailS]
  repeat' split
  ·exact Int.le_refl _
  ·show 0 ≤ (p:Int) + _
   rcases hsh with h|h <;> omega
  ·exact ih _
  ·exact Int.le_refl _
  ·exact Int.le_refl _
theorem dec_none' (l:List Int) : ∀ (d p:Nat) (left:Int) (out:List Int),¬ (decS l d p left out).2.1 > 0 → (decS l d p left out).2.2=0 → (decS l d p left out).1=[]∧(decS l d p left out).2.1=0:=by
 intro d
 induction d with
 | zero=>intro p left out _ _;exact ⟨rfl,rfl⟩
 | succ d ih =>
  intro p left out g1 g2
  rw [decS] at g1 g2 ⊢
  obtain ⟨c,hc⟩ : ∃ c,c=cutSpec (l.drop p) 256:=⟨_,rfl⟩
  rw [← hc] at g1 g2 ⊢
  obtain ⟨z,hz⟩ : ∃ z,z=sizeS c.1.data.toList:=⟨_,rfl⟩
  obtain ⟨q,hq⟩ : ∃ q,q=p + c.2.1.toNat:=⟨_,rfl⟩
  rw [← hz,← hq] at g1 g2 ⊢
  by_cases h1:c.2.2=0
  ·rw [if_pos h1] at g1 g2 ⊢
   by_cases h2:c.2.1=0
   ·rw [if_pos h2];exact ⟨rfl,rfl⟩
   ·rw [if_neg h2] at g1 g2 ⊢
    by_cases h3:z.2=true
    ·rw [if_pos h3] at g1 g2 ⊢
     by_cases h4:z.1=0
     ·rw [if_pos h4] at g1 g2 ⊢
      by_cases h5:(trailS l 41 q).2=0
      ·rw [if_pos h5] at g1 g2 ⊢
       by_cases h6:(trailS l 41 q).1=0
       ·rw [if_pos h6];exact ⟨rfl,rfl⟩
       ·rw [if_neg h6] at g1
        have:=trail_pos l 41 q
        exact absurd (show (trailS l 41 q).1 > 0 by omega) g1
      ·rw [if_neg h5];exact ⟨rfl,rfl⟩
     ·rw [if_neg h4] at g1 g2 ⊢
      by_cases h5:z.1 > left
      ·rw [if_pos h5];exact ⟨rfl,rfl⟩
      ·rw [if_neg h5] at g1 g2 ⊢
       by_cases h6:(dataOf (l.drop q) (q:Int) z.1 false).2.1=0
       ·rw [if_pos h6] at g1 g2 ⊢
        by_cases h7:(dataOf (l.drop q) (q:Int) z.1 false).2.2.2=true
        ·rw [if_pos h7];exact ⟨rfl,rfl⟩
        ·rw [if_neg h7] at g1 g2 ⊢
         exact ih _ _ _ g1 g2
       ·rw [if_neg h6];exact ⟨rfl,rfl⟩
    ·rw [if_neg h3];exact ⟨rfl,rfl⟩
  ·rw [if_neg h1];exact ⟨rfl,rfl⟩
theorem body_le (b:List Int) (hb:b.length ≤ 1000000) (size:Int) (hs:0 ≤ size) (coded:Bool):(bodyS b size coded).2.1 ≤ (b.length:Int)∧(-1 ≤ (bodyS b size coded).2.1)∧(bodyS b size coded).1.length ≤ b.length∧(0 ≤ (bodyS b size coded).2.1 → (bodyS b size coded).2.2=0):=by
 unfold bodyS
 cases coded
 ·rw [if_neg (show ¬ (false=true) by simp)]
  by_cases h:(b.length:Int) < size
  ·rw [if_pos h];exact ⟨by simp only [];omega,by decide,by simp,fun _=>rfl⟩
  ·rw [if_neg h];exact ⟨by simp only [];omega,by simp only [];omega,by simp only [List.length_take];omega,fun _=>rfl⟩
 ·rw [if_pos rfl]
  have hle:=dec_le b hb (b.length + 1) 0 4096 [] (by omega)
  have hsz:=decS_size b hb (b.length + 1) 0 4096 [] (by omega) (by simp) (by omega) (by simp)
  have hz:=dec_none' b (b.length + 1) 0 4096 []
  obtain ⟨r,hr⟩ : ∃ r,r=decS b (b.length + 1) 0 4096 []:=⟨_,rfl⟩
  rw [← hr] at hle hsz hz ⊢
  by_cases h1:r.2.2=2
  ·rw [if_pos h1];exact ⟨by simp only [];omega,by decide,by simp,fun h=>absurd h (by decide)⟩
  ·rw [if_neg h1]
   by_cases h2:r.2.2=0
   ·rw [if_pos h2]
    by_cases h3:r.2.1=0
    ·rw [if_pos h3];exact ⟨by simp only [];omega,by decide,by simp,fun _=>rfl⟩
    ·rw [if_neg h3]
     have:r.2.1 > 0:=by
      by_cases h4:r.2.1 > 0
      ·exact h4
      ·exact absurd (hz h4 h2).2 h3
     exact ⟨hle,by simp only [];omega,hsz,fun _=>rfl⟩
   ·rw [if_neg h2];exact ⟨by simp only [];omega,by decide,by simp,fun h=>absurd h (by decide)⟩
theorem body_code (b:List Int) (size:Int) (coded:Bool):(bodyS b size coded).2.2=0 ∨ (bodyS b size coded).2.2=400 ∨ (bodyS b size coded).2.2=413:=by
 unfold bodyS
 repeat' split
 all_goals first|exact Or.inl rfl|exact Or.inr (Or.inl rfl)|exact Or.inr (Or.inr rfl)
theorem req_le (l:List Int) (hl:l.length ≤ 1000000):(reqS l).2.2.2.2.2.1 ≤ (l.length:Int)∧0 ≤ (reqS l).2.2.2.2.2.1∧((reqS l).2.2.2.2.2.1 ≠ 0 → (reqS l).2.2.2.2.2.2=0)∧(reqS l).2.2.2.1.length ≤ 40∧(reqS l).2.2.2.2.1.length ≤ l.length:=by
 rcases open_cases l with ⟨c,hc⟩|ho
 ·unfold reqS
  rw [hc]
  exact ⟨by show (0:Int) ≤ _;omega,Int.le_refl _,fun h=>absurd rfl h,Nat.zero_le _,Nat.zero_le _⟩
 ·unfold reqS
  obtain ⟨o,hoo⟩ : ∃ o,o=openS l:=⟨_,rfl⟩
  rw [← hoo] at ho ⊢
  have h1:=ho.pos
  have h2:=ho.le
  rw [if_neg (by omega)]
  have hdl:(l.drop o.2.2.2.2.2.1.toNat).length=l.length - o.2.2.2.2.2.1.toNat:=List.length_drop ..
  have hb:=body_le (l.drop o.2.2.2.2.2.1.toNat) (by omega) o.2.2.2.2.2.2.1 ho.size.1 o.2.2.2.2.2.2.2.1
  split
  ·exact ⟨by show (0:Int) ≤ _;omega,Int.le_refl _,fun h=>absurd rfl h,Nat.zero_le _,Nat.zero_le _⟩
  ·exact ⟨by show o.2.2.2.2.2.1 + _ ≤ _;omega,by show (0:Int) ≤ o.2.2.2.2.2.1 + _;omega,fun _=>rfl,ho.fields.1,by show (bodyS _ _ _).1.length ≤ _;omega⟩
theorem body_f (b:List Int) (hb:b.length ≤ 1000000) (size:Int) (hs:0 ≤ size) (coded:Bool) (k:Nat) (hk:4000100 ≤ k):http_body.f k b size coded=some (bodyS b size coded):=by
 unfold http_body.f bodyS
 cases coded
 ·rw [if_neg (show ¬ (false=true) by simp),if_neg (show ¬ (false=true) by simp)]
  by_cases h:(b.length:Int) < size
  ·rw [if_pos h,if_pos h]
  ·unfold bytes_Clone.f
   rw [if_neg h,if_neg h,if_pos hs,if_pos (by omega),if_pos (by rw [List.length_take];omega),Option.bind_some]
 ·rw [if_pos rfl,if_pos rfl,Decode_f b 4096 hb (by decide) k (by omega),Option.bind_some,show mx 4096 0=4096 by decide]
  obtain ⟨r,hr⟩ : ∃ r,r=decS b (b.length + 1) 0 4096 []:=⟨_,rfl⟩
  rw [← hr]
  by_cases h1:r.2.2=2
  ·rw [if_pos h1,if_pos h1]
  ·rw [if_neg h1,if_neg h1]
   by_cases h2:r.2.2=0
   ·rw [if_pos h2,if_pos h2]
    by_cases h3:r.2.1=0
    ·rw [if_pos h3,if_pos h3]
    ·rw [if_neg h3,if_neg h3]
   ·rw [if_neg h2,if_neg h2]
theorem http_Request_f (l:List Int) (hl:l.length ≤ 1000000) (k:Nat) (hk:1070000010 ≤ k):http_Request.f k l=some (reqS l):=by
 obtain ⟨k,rfl⟩ : ∃ m,k=m + 1:=⟨k - 1,by omega⟩
 obtain ⟨o,ho,hs⟩:=http_open_f l hl k (by omega)
 unfold http_Request.f reqS
 rw [ho,Option.bind_some]
 have hbad : ∀ x6 x7 x8 x9 a b c d e,http_Request.j0 (k + 1) l x6 x7 x8 x9 true a b c d e=some (⟨#[]⟩,⟨#[]⟩,0,[],[],0,x9):=by
  intros
  rw [http_Request.j0,if_pos rfl]
 rcases hs with hs|⟨h1,hs⟩
 ·rw [← hs]
  rcases open_cases l with ⟨c,hc⟩|hok
  ·rw [hc] at hs
   subst hs
   rw [if_pos (show (openBad c).2.2.2.2.2.1=0 from rfl),if_pos (show (openBad c).2.2.2.2.2.1=0 from rfl),hbad]
  ·rw [← hs] at hok
   have p1:=hok.pos
   have hne : ¬ o.2.2.2.2.2.1=0:=by omega
   have p2:=hok.le
   have hdl:(l.drop o.2.2.2.2.2.1.toNat).length=l.length - o.2.2.2.2.2.1.toNat:=List.length_drop ..
   have hbl:=body_le (l.drop o.2.2.2.2.2.1.toNat) (by omega) o.2.2.2.2.2.2.1 hok.size.1 o.2.2.2.2.2.2.2.1
   rw [if_neg hne,if_neg hne,hok.code,show ((0:Int) != 0)=false from rfl,http_Request.j0,if_neg (by simp),if_pos (by omega),if_pos (by omega),body_f _ (by omega) _ hok.size.1 _ k (by omega),Option.bind_some]
   by_cases h3:(bodyS (l.drop o.2.2.2.2.2.1.toNat) o.2.2.2.2.2.2.1 o.2.2.2.2.2.2.2.1).2.1 < 0
   ·rw [if_pos h3,if_pos h3]
   ·rw [if_neg h3,if_neg h3]
    have hw:wrap64 (o.2.2.2.2.2.1 + (bodyS (l.drop o.2.2.2.2.2.1.toNat) o.2.2.2.2.2.2.1 o.2.2.2.2.2.2.2.1).2.1)=o.2.2.2.2.2.1 + (bodyS (l.drop o.2.2.2.2.2.1.toNat) o.2.2.2.2.2.2.1 o.2.2.2.2.2.2.2.1).2.1:=by unfold wrap64;omega
    rw [hw]
 ·rw [hs,if_pos (show (openBad o.2.2.2.2.2.2.2.2).2.2.2.2.2.1=0 from rfl)]
  by_cases h2:o.2.2.2.2.2.1=0
  ·rw [if_pos h2,hbad];rfl
  ·rw [if_neg h2,bne_iff_ne.2 h1,hbad];rfl
/-- The head with which bytes begin. -/
def headQ (l:List Int):ByteArray × ByteArray × Int × List (S55) × List Int × Int × Int:=((openS l).1,(openS l).2.1,(openS l).2.2.1,(openS l).2.2.2.1,(openS l).2.2.2.2.1,(openS l).2.2.2.2.2.1,(openS l).2.2.2.2.2.2.2.2)
def hostS (fs:List (S55)):ByteArray:=match getS hostNm fs with
 | []=>⟨#[]⟩
 | h :: _=>(hostT h).1
theorem http_Host_f (m t:ByteArray) (mi:Int) (fs:List (S55)) (b:List Int) (hf:FB fs) (k:Nat) (hk:1002 ≤ k):http_Host.f k m t mi fs b=some (hostS fs):=by
 have hfl:=hf.1
 obtain ⟨k,rfl⟩ : ∃ m,k=m + 1:=⟨k - 1,by omega⟩
 have hg:=Get_f fs hostNM hf (by decide) (k + 1) (by omega)
 rw [getS_nm hostNM hostNm host_nm] at hg
 have hb:=get_bounds fs hostNm hf
 unfold http_Host.f hostS
 rw [show (⟨#[72,111,115,116]⟩:ByteArray)=hostNM from rfl,hg,Option.bind_some,http_Host.l0]
 cases hs:getS hostNm fs with
 | nil=>rfl
 | cons p r =>
  rw [hs] at hb
  have hp:=hb.2 p (List.mem_cons_self ..)
  have hr0:rdOf ByteArray.empty (p :: r) 0=p:=rfl
  rw [if_pos (by simp only [List.length_cons];omega),if_pos (by omega),if_pos (by simp only [List.length_cons];omega),hr0,hostT_f p (by omega),Option.bind_some]
theorem http_Head_f (l:List Int) (hl:l.length ≤ 1000000) (k:Nat) (hk:1070000010 ≤ k):http_Head.f k l=some (headQ l):=by
 obtain ⟨k,rfl⟩ : ∃ m,k=m + 1:=⟨k - 1,by omega⟩
 obtain ⟨o,ho,hs⟩:=http_open_f l hl k (by omega)
 unfold http_Head.f headQ
 rw [ho,Option.bind_some]
 rcases hs with hs|⟨h1,hs⟩
 ·rw [← hs]
  rcases open_cases l with ⟨c,hc⟩|hok
  ·rw [hc] at hs
   subst hs
   rw [if_pos (show (openBad c).2.2.2.2.2.1=0 from rfl)]
   rfl
  ·rw [← hs] at hok
   have p1:=hok.pos
   have hne : ¬ o.2.2.2.2.2.1=0:=by omega
   rw [if_neg hne,if_pos hok.code,hok.code]
 ·rw [hs]
  by_cases h2:o.2.2.2.2.2.1=0
  ·rw [if_pos h2];rfl
  ·rw [if_neg h2,if_neg h1];rfl
theorem open_text (l:List Int) (ho:OpenOk l (openS l)) : ∃ s ss r,bdS l=s ++ ([13,10] ++ (flatL ss ++ ([13,10] ++ r)))∧(openS l).2.2.2.2.2.1=(s.length:Int) + ((flatL ss).length:Int) + 4∧1 ≤ s.length:=by
 have hpos:=ho.pos
 unfold openS at hpos ⊢
 have hsp:=lines_split (bdS l) (extS l)
 have hn:(linesS (bdS l) (extS l)).2.1 ≠ 0:=by
  intro hz
  obtain ⟨L,hL⟩ : ∃ L,L=linesS (bdS l) (extS l):=⟨_,rfl⟩
  rw [← hL] at hz hpos
  obtain ⟨ss,n,cc⟩:=L
  simp only at hz
  subst hz
  cases ss with
  | nil=>exact (Int.lt_irrefl 0 hpos).elim
  | cons s ss =>
   rw [openL] at hpos
   split at hpos
   ·split at hpos
    ·rw [if_pos rfl] at hpos;exact (Int.lt_irrefl 0 hpos).elim
    ·exact (Int.lt_irrefl 0 hpos).elim
   ·exact (Int.lt_irrefl 0 hpos).elim
 obtain ⟨s,ss,r,e1,e2,e3,e4⟩:=hsp hn
 have hlt:=lines_text (bdS l) (extS l) s ss r e1 e2 e3 e4
 refine ⟨s,ss,r,e1,?_⟩
 rw [hlt,openL] at hpos ⊢
 have hs1:(reqSpec (strOfNums s).data.toList).2.2.2.2.2=0 → 1 ≤ s.length:=fun h=>by
  cases s with
  | nil=>exact absurd h (by decide +kernel)
  | cons a t=>simp only [List.length_cons];omega
 split at hpos
 ·rename_i h1
  rw [if_pos h1]
  split at hpos
  ·rename_i h2
   rw [if_pos h2]
   split at hpos
   ·exact (Int.lt_irrefl 0 hpos).elim
   ·rename_i h3
    rw [if_neg h3]
    unfold openF at hpos ⊢
    split at hpos
    ·rename_i h4
     rw [if_pos h4]
     split at hpos
     ·rename_i h5
      rw [if_pos h5]
      exact ⟨rfl,hs1 h1⟩
     ·exact (Int.lt_irrefl 0 hpos).elim
    ·exact (Int.lt_irrefl 0 hpos).elim
  ·exact (Int.lt_irrefl 0 hpos).elim
 ·exact (Int.lt_irrefl 0 hpos).elim
theorem open_end (l:List Int) (ho:OpenOk l (openS l)):4 ≤ (openS l).2.2.2.2.2.1∧(strOfNums ((l.take (openS l).2.2.2.2.2.1.toNat).drop ((openS l).2.2.2.2.2.1 - 4).toNat)).toList=([13,10,13,10]:List UInt8):=by
 obtain ⟨s,ss,r,h1,h2,_⟩:=open_text l ho
 obtain ⟨pre,hp⟩:=flat_end ss s
 have hle:=ho.le
 rw [h2] at hle ⊢
 have hlen:(s ++ ([13,10] ++ flatL ss)).length=pre.length + 2:=by rw [hp];simp
 have hlen2:(s ++ ([13,10] ++ flatL ss)).length=s.length + 2 + (flatL ss).length:=by simp only [List.length_append,List.length_cons,List.length_nil];omega
 have hb:bdS l=pre ++ ([13,10,13,10] ++ r):=by
  rw [h1,← List.append_assoc [13,10] (flatL ss),← List.append_assoc s,hp]
  simp only [List.append_assoc,List.cons_append,List.nil_append]
 have ht:l.take ((s.length:Int) + ((flatL ss).length:Int) + 4).toNat=pre ++ [13,10,13,10]:=by
  have e:(l.take 2048).take ((s.length:Int) + ((flatL ss).length:Int) + 4).toNat=l.take ((s.length:Int) + ((flatL ss).length:Int) + 4).toNat:=by rw [List.take_take];congr 1;omega
  rw [← e]
  show (bdS l).take _=_
  rw [hb,← List.append_assoc,List.take_append_of_le_length (by simp;omega),List.take_of_length_le (by simp;omega)]
 refine ⟨by omega,?_⟩
 rw [ht,show ((s.length:Int) + ((flatL ss).length:Int) + 4 - 4).toNat=pre.length by omega,List.drop_left,toList_data]
 rfl
theorem open_first (l:List Int) (ho:OpenOk l (openS l)):5 ≤ (openS l).2.2.2.2.2.1:=by
 obtain ⟨s,ss,r,h1,h2,h3⟩:=open_text l ho
 omega
theorem bare_req (l:List Int) (hl:l.length ≤ 2000) (c:Int) (hc:c=10 ∨ c=13) (hn:(reqS l).2.2.2.2.2.1 ≠ 0) (i:Nat) (hi:(i:Int) < (openS l).2.2.2.2.2.1 - 2) (h10:rd l (i:Int) ≠ 10) (h13:c=13 → rd l (i:Int) ≠ 13) :
 reqS (l.take i ++ (c :: l.drop i))=(⟨#[]⟩,⟨#[]⟩,0,[],[],0,400):=by
 rcases open_cases l with ⟨e,he⟩|ho
 ·refine absurd ?_ hn
  unfold reqS
  rw [he]
  rfl
 ·unfold reqS
  rw [bare_open l hl c hc ho i hi h10 h13]
  rfl
theorem bare_rest (l:List Int) (hl:l.length ≤ 2000) (hn:(reqS l).2.2.2.2.2.1 ≠ 0) (a1:Int) (a2:Bool) (n e j:Int) (he:e ≠ 0) (h0:0 ≤ e) (hle:e ≤ (openS l).2.2.2.2.2.1 - 4) (hol:(openS l).2.2.2.2.2.1 ≤ (l.length:Int)) (k:Nat) (hk:1070000020 ≤ k) :
 tollbarlaw08_HttpBare.j1 k l a1 a2 n e j false=some true:=by
 obtain ⟨k,rfl⟩ : ∃ m,k=m + 1:=⟨k - 1,by omega⟩
 have hm:Go.bits .and .i64 a1 1048575=a1 % 1048576:=and_mask a1 20 (by decide)
 have hm0:0 ≤ a1 % 1048576:=Int.emod_nonneg _ (by decide)
 rw [tollbarlaw08_HttpBare.j1,if_neg (by simp),if_neg he,hm,Int.tmod_eq_emod_of_nonneg hm0]
 have hi0:0 ≤ a1 % 1048576 % e:=Int.emod_nonneg _ he
 have hi1:a1 % 1048576 % e < e:=Int.emod_lt_of_pos _ (by omega)
 obtain ⟨i,hi⟩ : ∃ i:Int,i=a1 % 1048576 % e:=⟨_,rfl⟩
 rw [← hi] at hi0 hi1 ⊢
 obtain ⟨i,rfl⟩ : ∃ q:Nat,i=(q:Int):=⟨i.toNat,by omega⟩
 have htk:(l.take i).length ≤ 2000:=by rw [List.length_take];omega
 have hdr:(l.drop i).length ≤ 2000:=by rw [List.length_drop];omega
 have hreq : ∀ c:Int,(c=10 ∨ c=13) → rd l (i:Int) ≠ 10 → (c=13 → rd l (i:Int) ≠ 13) → http_Request.f k ((([]:List Int) ++ l.take i ++ [c]) ++ l.drop i)=some (⟨#[]⟩,⟨#[]⟩,0,[],[],0,400):=by
  intro c hc h10 h13
  rw [List.nil_append,List.append_assoc,List.cons_append,List.nil_append,http_Request_f _ (by simp only [List.length_append,List.length_cons];omega) k (by omega),bare_req l hl c hc hn i (by omega) h10 h13]
 rw [if_pos hi0,if_pos (by omega),Int.toNat_natCast]
 by_cases c1:rd l (i:Int)=10
 ·rw [if_pos c1]
 ·rw [if_neg c1]
  cases a2
  ·rw [if_neg (by simp)]
   have hr:=hreq 10 (Or.inl rfl) c1 (fun h=>absurd h (by decide))
   by_cases c2:(i:Int) > 0
   ·rw [if_pos c2,show wrap64 ((i:Int) - 1)=(i:Int) - 1 by unfold wrap64;omega,if_pos (by omega),if_pos (by omega)]
    by_cases c3:rd l ((i:Int) - 1)=13
    ·rw [if_pos c3]
    ·rw [if_neg c3,Option.bind_some,if_pos (by omega),if_pos (by simp only [List.length_nil];omega),Option.bind_some,Option.bind_some,if_pos (by simp only [List.length_append,List.length_cons,List.length_nil];omega),Option.bind_some,if_pos (by simp only [List.length_append,List.length_cons,List.length_nil];omega),hr,Option.bind_some]
     rfl
   ·rw [if_neg c2,Option.bind_some,if_pos (by omega),if_pos (by simp only [List.length_nil];omega),Option.bind_some,Option.bind_some,if_pos (by simp only [List.length_append,List.length_cons,List.length_nil];omega),Option.bind_some,if_pos (by simp only [List.length_append,List.length_cons,List.length_nil];omega),hr,Option.bind_some]
    rfl
  ·rw [if_pos rfl]
   by_cases c3:rd l (i:Int)=13
   ·rw [if_pos c3]
   ·have hr:=hreq 13 (Or.inr rfl) c1 (fun _=>c3)
    rw [if_neg c3,Option.bind_some,if_pos (by omega),if_pos (by simp only [List.length_nil];omega),Option.bind_some,Option.bind_some,if_pos (by simp only [List.length_append,List.length_cons,List.length_nil];omega),Option.bind_some,if_pos (by simp only [List.length_append,List.length_cons,List.length_nil];omega),hr,Option.bind_some]
    rfl
theorem bare_find (l:List Int) (hl:l.length ≤ 2000) (hn:(reqS l).2.2.2.2.2.1 ≠ 0) (a1:Int) (a2:Bool) (n H:Int) (hnl:n ≤ (l.length:Int)) (hHn:H ≤ n) (hH:H=(openS l).2.2.2.2.2.1) (h5:5 ≤ H) (hat:(strOfNums ((l.take H.toNat).drop (H - 4).toNat)).toList=([13,10,13,10]:List UInt8)) :
 ∀ (d j:Nat) (e:Int) (k:Nat),(j:Int) + d=H → 0 ≤ e → e ≤ H - 4 → (H - 4 < (j:Int) → e ≠ 0) → 1070000030 + 2 * d ≤ k → tollbarlaw08_HttpBare.l0 k l a1 a2 n e (j:Int)=some true:=by
 intro d
 induction d with
 | zero =>
  intro j e k hj h0 he hz hk
  obtain ⟨k,rfl⟩ : ∃ m,k=m + 1:=⟨k - 1,by omega⟩
  have hne:=hz (by omega)
  have hr:=bare_rest l hl hn a1 a2 n e (j:Int) hne h0 (by omega) (by omega) k (by omega)
  rw [tollbarlaw08_HttpBare.l0,beq_eq_false_iff_ne.2 hne,hr]
  split <;> rfl
 | succ d ih =>
  intro j e k hj h0 he hz hk
  obtain ⟨k,rfl⟩ : ∃ m,k=m + 2:=⟨k - 2,by omega⟩
  by_cases hne:e=0
  ·subst hne
   have hjl:(j:Int) ≤ H - 4:=by
    rcases Int.lt_or_le (H - 4) j with h|h
    ·exact absurd rfl (hz h)
    ·exact h
   rw [tollbarlaw08_HttpBare.l0,show wrap64 ((j:Int) + 3)=(j:Int) + 3 by unfold wrap64;omega,if_pos (by omega),show ((0:Int) == 0)=true from rfl,tollbarlaw08_HttpBare.j1,if_pos rfl,if_pos (by omega),show wrap64 ((j:Int) + 4)=(j:Int) + 4 by unfold wrap64;omega,if_pos (by omega),if_pos (by omega),show wrap64 ((j:Int) + 1)=((j + 1:Nat):Int) by unfold wrap64;omega]
   by_cases hm:(strOfNums ((l.take ((j:Int) + 4).toNat).drop (j:Int).toNat)).toList=([13,10,13,10]:List UInt8)
   ·rw [if_pos hm]
    by_cases hj0:j=0
    ·subst hj0
     exact ih 1 0 k (by omega) (by omega) (by omega) (fun h=>by omega) (by omega)
    ·exact ih (j + 1) (j:Int) k (by omega) (by omega) (by omega) (fun _=>by omega) (by omega)
   ·rw [if_neg hm]
    refine ih (j + 1) 0 k (by omega) (by omega) (by omega) (fun h=>?_) (by omega)
    have hje:(j:Int)=H - 4:=by omega
    rw [hje,show H - 4 + 4=H by omega] at hm
    exact absurd hat hm
  ·have hr:=bare_rest l hl hn a1 a2 n e (j:Int) hne h0 (by omega) (by omega) (k + 1) (by omega)
   rw [tollbarlaw08_HttpBare.l0,beq_eq_false_iff_ne.2 hne,hr]
   split <;> rfl
theorem HttpBare:tollbarlaw08_HttpBare.Pure:=by
 intro l a1 a2
 intros
 by_cases h:(l.length:Int) > 2000
 ·refine ⟨0,?_⟩
  unfold tollbarlaw08_HttpBare.f
  rw [show tollbarlaw08_asking.f=some true from rfl,Option.bind_some,if_pos rfl,if_pos h]
 ·refine ⟨1080000000,?_⟩
  have hl:l.length ≤ 1000000:=by omega
  have hle:=req_le l hl
  unfold tollbarlaw08_HttpBare.f
  rw [show tollbarlaw08_asking.f=some true from rfl,Option.bind_some,if_pos rfl,if_neg h,http_Request_f l hl _ (by omega),Option.bind_some]
  by_cases hn:(reqS l).2.2.2.2.2.1=0
  ·rw [if_pos hn]
  ·rw [if_neg hn]
   rcases open_cases l with ⟨c,hc⟩|ho
   ·refine absurd ?_ hn
    unfold reqS
    rw [hc]
    rfl
   ·have hend:=open_end l ho
    have hge:(openS l).2.2.2.2.2.1 ≤ (reqS l).2.2.2.2.2.1:=by
     unfold reqS at hn ⊢
     have p1:=ho.pos
     rw [if_neg (by omega)] at hn ⊢
     split at hn
     ·exact absurd rfl hn
     ·rename_i h3
      rw [if_neg h3]
      show _ ≤ (openS l).2.2.2.2.2.1 + _
      omega
    have h5:=open_first l ho
    exact bare_find l (by omega) hn a1 a2 _ (openS l).2.2.2.2.2.1 hle.1 hge rfl h5 hend.2 (openS l).2.2.2.2.2.1.toNat 0 0 1080000000 (by omega) (by omega) (by omega) (fun h=>by omega) (by have:=ho.le;omega)
end Go.Proofs.YtfjeinnemimjoaaGreatDoor.Pure
