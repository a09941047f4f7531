/- Each function below answers as its Lean twin says; plain lemmas; a row where its theorem stands. No further condition. (Laid by this repo's pack.py out of its texts and of the print's words.) -/
import Derived.Test.YtagffbblalldiaaDoorZc54eb124
import Derived.Test.YtagffbblalldiaaDoorZcf838b10
import Derived.Shelf.Abstract
import Derived.Deep.AppendSrc
import Derived.Deep.MidRow
import Derived.Lib.ConvBytes
import Derived.Deep.RegionHeld3
namespace Go.Proofs.YtagffbblalldiaaDoor.P
open Go.RowKit Go.Proofs.YtagffbblalldiaaDoorW.PrintWords Go.Proofs.YtagffbblalldiaaDoorW.PrintLast Go.Proofs.YtagffbblalldiaaDoorW.PrintMore
attribute [local go_sem] max2_int min2_int max_two min_two max_three min_three max_four min_four
set_option linter.unusedVariables false
set_option linter.unusedSimpArgs false
/-- What size tells: the size,the error,the new place,whether more bytes are needed. -/
def chunk_reader_size.f (k:Nat) (l:List Int) (p:Int):Option (Int × Int × Int × Bool) :=
 (chunk_reader_line.f k l p).bind fun x=>if x.2.1=0 then (if x.2.2.2=true then some (0,0,x.2.2.1,true) else
  (strings_Cut.f x.1 (⟨#[59]⟩:ByteArray)).bind fun c=>(strings_TrimRight.f c.1 (⟨#[32,9]⟩:ByteArray)).bind fun t=>(sign_Hex.f k t).bind fun h =>
   if h.2=true then ((sign_Value.f c.2.1).bind fun v=>if v=true then some (h.1,0,x.2.2.1,false) else some (0,30,x.2.2.1,false)) else some (0,30,x.2.2.1,false))
  else some (0,x.2.1,x.2.2.1,x.2.2.2)
set_option maxHeartbeats 4000000 in
set_option maxRecDepth 100000 in
theorem chunk_reader_size.calls (k:Nat) (g:Nat) (A:Option Addr) (c:Nat) (l:List Int) (p:Int) (m:Bool) (n e q:Int) (m' : Bool) (w:World) (hr:Rdr w g A l.length c p m) (hC:Kd.C (Kd.int .u8) w A l.length l) (hc:l.length ≤ c) (h:chunk_reader_size.f k l p=some (n,e,q,m')) :
 Calls Tryd.prog 49 #[.pointer (some ⟨g,0,none⟩)] w fun E w' => E = .returned (.tuple #[.int .i64 n,.int .i64 e])∧Went w w' g A l.length c q m' := by
 unfold chunk_reader_size.f at h
 obtain ⟨⟨s,e1,q1,m1⟩,hl,h⟩:=Option.bind_eq_some_iff.1 h
 simp only at h
 have HL:=Aside0.mk hl
 have HR:=Aside0.mk hr
 have HC:=Aside0.mk hC
 clear hl hr hC
 by_cases c1:e1=0;rotate_left
 ·rw [if_neg c1] at h
  simp only [Option.some.injEq,Prod.mk.injEq] at h
  obtain ⟨rfl,rfl,rfl,rfl⟩:=h
  have d1:(e1 == 0)=false:=beq_eq_false_iff_ne.2 c1
  have d2:(e1 != 0)=true:=bne_iff_ne.2 c1
  clear c1
  go_enter Tryd.func49,Tryd.ntmps49
  go_wp2_with (first|(go_at_call 67;(with_reducible refine (chunk_reader_line.calls k g A c l p m s e1 q1 m1 _ HR.out HC.out hc HL.out).mono ?_);rintro E w1 ⟨rfl,hw⟩;have hm:=hw.more;have W1:=Aside0.mk hw;clear hw))
  go_ret2
  exact ⟨rfl,W1.out⟩
 subst c1
 rw [if_pos rfl] at h
 cases m1
 ·rw [if_neg zb30] at h
  obtain ⟨⟨s1,r1,b1⟩,h1,h⟩:=Option.bind_eq_some_iff.1 h
  obtain ⟨t,h2,h⟩:=Option.bind_eq_some_iff.1 h
  obtain ⟨⟨n1,o1⟩,h3,h⟩:=Option.bind_eq_some_iff.1 h
  simp only at h h1 h2 h3
  have H1:=Aside0.mk h1
  have H2:=Aside0.mk h2
  have H3:=Aside0.mk h3
  clear h1 h2 h3
  cases o1
  ·rw [if_neg zb30] at h
   simp only [Option.some.injEq,Prod.mk.injEq] at h
   obtain ⟨rfl,rfl,rfl,rfl⟩:=h
   go_enter Tryd.func49,Tryd.ntmps49
   go_wp2_with (first|(go_at_call 67;(with_reducible refine (chunk_reader_line.calls k g A c l p m s 0 q1 false _ HR.out HC.out hc HL.out).mono ?_);rintro E w1 ⟨rfl,hw⟩;have hm:=hw.more;have W1:=Aside0.mk hw;clear hw)|(go_at_call 18;(with_reducible refine (strings_Cut.calls s _ s1 r1 b1 _ H1.out).mono ?_);rintro E w2 ⟨rfl,hd⟩;have W2:=Aside0.mk (W1.out.step hd.below);clear hd)|(go_at_call 69;(with_reducible refine (strings_TrimRight.calls s1 _ t _ H2.out).mono ?_);rintro E w3 ⟨rfl,hd⟩;have W3:=Aside0.mk (W2.out.step hd);clear hd)|(go_at_call 68;(with_reducible refine (sign_Hex.calls k t n1 false _ H3.out).mono ?_);rintro E w4 ⟨rfl,hd⟩;have W4:=Aside0.mk (W3.out.step hd);clear hd))
   go_ret2
   exact ⟨rfl,W4.out⟩
  rw [if_pos rfl] at h
  obtain ⟨v,h4,h⟩:=Option.bind_eq_some_iff.1 h
  have H4:=Aside0.mk h4
  clear h4
  cases v
  ·rw [if_neg zb30] at h
   simp only [Option.some.injEq,Prod.mk.injEq] at h
   obtain ⟨rfl,rfl,rfl,rfl⟩:=h
   go_enter Tryd.func49,Tryd.ntmps49
   go_wp2_with (first|(go_at_call 67;(with_reducible refine (chunk_reader_line.calls k g A c l p m s 0 q1 false _ HR.out HC.out hc HL.out).mono ?_);rintro E w1 ⟨rfl,hw⟩;have hm:=hw.more;have W1:=Aside0.mk hw;clear hw)|(go_at_call 18;(with_reducible refine (strings_Cut.calls s _ s1 r1 b1 _ H1.out).mono ?_);rintro E w2 ⟨rfl,hd⟩;have W2:=Aside0.mk (W1.out.step hd.below);clear hd)|(go_at_call 69;(with_reducible refine (strings_TrimRight.calls s1 _ t _ H2.out).mono ?_);rintro E w3 ⟨rfl,hd⟩;have W3:=Aside0.mk (W2.out.step hd);clear hd)|(go_at_call 68;(with_reducible refine (sign_Hex.calls k t n1 true _ H3.out).mono ?_);rintro E w4 ⟨rfl,hd⟩;have W4:=Aside0.mk (W3.out.step hd);clear hd)|(go_at_call 22;(with_reducible refine (sign_Value.calls r1 false _ H4.out).mono ?_);rintro E w5 ⟨rfl,hd⟩;have W5:=Aside0.mk (W4.out.step hd.below);clear hd))
   go_ret2
   exact ⟨rfl,W5.out⟩
  rw [if_pos rfl] at h
  simp only [Option.some.injEq,Prod.mk.injEq] at h
  obtain ⟨rfl,rfl,rfl,rfl⟩:=h
  go_enter Tryd.func49,Tryd.ntmps49
  go_wp2_with (first|(go_at_call 67;(with_reducible refine (chunk_reader_line.calls k g A c l p m s 0 q1 false _ HR.out HC.out hc HL.out).mono ?_);rintro E w1 ⟨rfl,hw⟩;have hm:=hw.more;have W1:=Aside0.mk hw;clear hw)|(go_at_call 18;(with_reducible refine (strings_Cut.calls s _ s1 r1 b1 _ H1.out).mono ?_);rintro E w2 ⟨rfl,hd⟩;have W2:=Aside0.mk (W1.out.step hd.below);clear hd)|(go_at_call 69;(with_reducible refine (strings_TrimRight.calls s1 _ t _ H2.out).mono ?_);rintro E w3 ⟨rfl,hd⟩;have W3:=Aside0.mk (W2.out.step hd);clear hd)|(go_at_call 68;(with_reducible refine (sign_Hex.calls k t n1 true _ H3.out).mono ?_);rintro E w4 ⟨rfl,hd⟩;have W4:=Aside0.mk (W3.out.step hd);clear hd)|(go_at_call 22;(with_reducible refine (sign_Value.calls r1 true _ H4.out).mono ?_);rintro E w5 ⟨rfl,hd⟩;have W5:=Aside0.mk (W4.out.step hd.below);clear hd))
  go_ret2
  exact ⟨rfl,W5.out⟩
 ·rw [if_pos rfl] at h
  simp only [Option.some.injEq,Prod.mk.injEq] at h
  obtain ⟨rfl,rfl,rfl,rfl⟩:=h
  go_enter Tryd.func49,Tryd.ntmps49
  go_wp2_with (first|(go_at_call 67;(with_reducible refine (chunk_reader_line.calls k g A c l p m s 0 q1 true _ HR.out HC.out hc HL.out).mono ?_);rintro E w1 ⟨rfl,hw⟩;have hm:=hw.more;have W1:=Aside0.mk hw;clear hw))
  go_ret2
  exact ⟨rfl,W1.out⟩
/-- What trailer tells from the n-th line on: the error,the new place,whether more bytes are needed. -/
def chunk_reader_trailer.l:Nat → List Int → Int → Int → Option (Int × Int × Bool)
 | 0,_,_,_=>none
 | k + 1,l,p,n=>(chunk_reader_line.f k l p).bind fun x=>if x.2.1=0 then (if x.2.2.2=true then some (0,x.2.2.1,true) else if x.1.toList=([]:List UInt8) then some (0,x.2.2.1,false) else
  (field_Parse.f x.1).bind fun y=>if y.2.2=0 then (if n=40 then some (3,x.2.2.1,false) else chunk_reader_trailer.l k l x.2.2.1 (n + 1)) else some (y.2.2,x.2.2.1,false))
  else some (x.2.1,x.2.2.1,x.2.2.2)
def chunk_reader_trailer.f (k:Nat) (l:List Int) (p:Int):Option (Int × Int × Bool):=chunk_reader_trailer.l k l p 0
set_option maxHeartbeats 8000000 in
set_option maxRecDepth 100000 in
theorem chunk_reader_trailer.calls (k:Nat) (g:Nat) (A:Option Addr) (c:Nat) (l:List Int) (p:Int) (m:Bool) (e q:Int) (m' : Bool) (w0 w:World) (hr:Rdr w g A l.length c p m) (hC:Kd.C (Kd.int .u8) w0 A l.length l) (hB0:Below w0.heap.size w0 w) (hg0:w0.heap.size ≤ g) (hc:l.length ≤ c) (h:chunk_reader_trailer.f k l p=some (e,q,m')) :
 Calls Tryd.prog 51 #[.pointer (some ⟨g,0,none⟩)] w fun E w' => E = .returned (.int .i64 e)∧Went w w' g A l.length c q m' := by
 unfold chunk_reader_trailer.f at h
 have hu:=Tryd.underlying48
 have HR:=Aside0.mk hr
 have HC:=Aside0.mk hC
 have H:=Aside0.mk h
 have hg:=blk_lt hr
 clear hr hC h
 go_enter Tryd.func51,Tryd.ntmps51
 go_wp2_with fail
 go_loopg [3,4,5,6,7] k (fun kq v3 _ _ _ _ wr => ∃ (n p:Int) (m:Bool),v3 = .int .i64 n∧Aside0 (0 ≤ n∧n ≤ 40)∧Aside0 (chunk_reader_trailer.l kq l p n=some (e,q,m'))∧Aside0 (Went w wr g A l.length c p m))
 case atStart=>exact ⟨0,p,m,rfl,⟨zb26⟩,H,⟨HR.out,Below.refl _ _,keep_below g (Below.refl _ _)⟩⟩
 case round =>
  obtain ⟨n,p,m,rfl,HN,H,W⟩:=hrel
  cases gk with
  | zero=>exact absurd H.out (by simp [chunk_reader_trailer.l])
  | succ k =>
   have h:=H.out
   clear H
   simp only [chunk_reader_trailer.l] at h
   obtain ⟨⟨s,e1,q1,m1⟩,hl,h⟩:=Option.bind_eq_some_iff.1 h
   simp only at h
   have HL:=Aside0.mk hl
   have HC' := Aside0.mk (Kd.C_below HC.out (hB0.trans (below_base hg0 W.out.2.1)))
   have hm0:=W.out.more
   clear hl
   have call:=fun (v:Unit)=>chunk_reader_line.calls k g A c l p m s e1 q1 m1 wr W.out.1 HC'.out hc HL.out
   have CALL:=Aside0.mk call
   clear call hm0
   have hN:=HN.out
   by_cases c1:e1=0;rotate_left
   ·rw [if_neg c1] at h
    simp only [Option.some.injEq,Prod.mk.injEq] at h
    obtain ⟨rfl,rfl,rfl⟩:=h
    have d1:(e1 == 0)=false:=beq_eq_false_iff_ne.2 c1
    have d2:(e1 != 0)=true:=bne_iff_ne.2 c1
    clear c1
    go_wp2_with (go_at_call 67;(with_reducible refine (CALL.out ()).mono ?_);rintro E w1 ⟨rfl,hw⟩;have hm:=hw.more;have W1:=Aside0.mk (W.out.then_ hw);clear hw)
    go_ret
    exact ⟨rfl,W1.out⟩
   subst c1
   rw [if_pos rfl] at h
   cases m1
   ·rw [if_neg zb30] at h
    by_cases c2:s.toList=[]
    ·rw [if_pos c2] at h
     simp only [Option.some.injEq,Prod.mk.injEq] at h
     obtain ⟨rfl,rfl,rfl⟩:=h
     have d2:s.toList.isEmpty=true:=List.isEmpty_iff.2 c2
     go_wp2_with (go_at_call 67;(with_reducible refine (CALL.out ()).mono ?_);rintro E w1 ⟨rfl,hw⟩;have hm:=hw.more;have W1:=Aside0.mk (W.out.then_ hw);clear hw)
     go_ret
     exact ⟨rfl,W1.out⟩
    rw [if_neg c2] at h
    have d2:s.toList.isEmpty=false:=by rw [Bool.eq_false_iff];exact fun e=>c2 (List.isEmpty_iff.1 e)
    have d3:(s.toList=[])=False:=eq_false c2
    clear c2
    obtain ⟨⟨y1,y2,y3⟩,hp,h⟩:=Option.bind_eq_some_iff.1 h
    simp only at h
    have HP:=Aside0.mk hp
    clear hp
    by_cases c3:y3=0;rotate_left
    ·rw [if_neg c3] at h
     simp only [Option.some.injEq,Prod.mk.injEq] at h
     obtain ⟨rfl,rfl,rfl⟩:=h
     have d4:(y3 == 0)=false:=beq_eq_false_iff_ne.2 c3
     have d5:(y3 != 0)=true:=bne_iff_ne.2 c3
     clear c3
     go_wp2_with (first|(go_at_call 67;(with_reducible refine (CALL.out ()).mono ?_);rintro E w1 ⟨rfl,hw⟩;have hm:=hw.more;have W1:=Aside0.mk (W.out.then_ hw);clear hw)|(go_at_call 17;(with_reducible refine (field_Parse.calls s y1 y2 y3 _ HP.out).mono ?_);rintro E w2 ⟨rfl,hd⟩;have W2:=Aside0.mk (W1.out.step hd);clear hd))
     go_ret
     exact ⟨rfl,W2.out.step (below_alloc (Below.refl _ _) _)⟩
    subst c3
    rw [if_pos rfl] at h
    by_cases c4:n=40
    ·subst c4
     rw [if_pos rfl] at h
     simp only [Option.some.injEq,Prod.mk.injEq] at h
     obtain ⟨rfl,rfl,rfl⟩:=h
     go_wp2_with (first|(go_at_call 67;(with_reducible refine (CALL.out ()).mono ?_);rintro E w1 ⟨rfl,hw⟩;have hm:=hw.more;have W1:=Aside0.mk (W.out.then_ hw);clear hw)|(go_at_call 17;(with_reducible refine (field_Parse.calls s y1 y2 0 _ HP.out).mono ?_);rintro E w2 ⟨rfl,hd⟩;have W2:=Aside0.mk (W1.out.step hd);clear hd))
     go_ret
     exact ⟨rfl,W2.out.step (below_alloc (Below.refl _ _) _)⟩
    rw [if_neg c4] at h
    have d4:(n == 40)=false:=beq_eq_false_iff_ne.2 c4
    have H2:=Aside0.mk h
    have hw:wrap64 (n + 1)=n + 1:=by unfold wrap64;omega
    have HN2:Aside0 (0 ≤ n + 1∧n + 1 ≤ 40):=⟨zb26⟩
    clear h c4
    go_wp2_with (first|(go_at_call 67;(with_reducible refine (CALL.out ()).mono ?_);rintro E w1 ⟨rfl,hw⟩;have hm:=hw.more;have W1:=Aside0.mk (W.out.then_ hw);clear hw)|(go_at_call 17;(with_reducible refine (field_Parse.calls s y1 y2 0 _ HP.out).mono ?_);rintro E w2 ⟨rfl,hd⟩;have W2:=Aside0.mk (W1.out.step hd);clear hd))
    go_roundg k
    case rel=>exact ⟨n + 1,q1,false,rfl,HN2,H2,⟨W2.out.step (below_alloc (Below.refl _ _) _)⟩⟩
    case measure=>exact Nat.lt_succ_self k
   ·rw [if_pos rfl] at h
    simp only [Option.some.injEq,Prod.mk.injEq] at h
    obtain ⟨rfl,rfl,rfl⟩:=h
    go_wp2_with (go_at_call 67;(with_reducible refine (CALL.out ()).mono ?_);rintro E w1 ⟨rfl,hw⟩;have hm:=hw.more;have W1:=Aside0.mk (W.out.then_ hw);clear hw)
    go_ret
    exact ⟨rfl,W1.out⟩
def chunk_Decode.l:Nat → List Int → Int → Int → List Int → Option (List Int × Int × Int)
 | 0,_,_,_,_=>none
 | k + 1,l,p,left,out=>(chunk_reader_size.f k l p).bind fun x=>if x.2.1=0 then (if x.2.2.2=true then some ([],0,0) else
  if x.1=0 then ((chunk_reader_trailer.f k l x.2.2.1).bind fun y=>if y.1=0 then (if y.2.2=true then some ([],0,0) else some (out,y.2.1,0)) else some ([],0,y.1))
  else if x.1 > left then some ([],0,2)
  else (chunk_reader_data.f l x.2.2.1 x.1 false).bind fun d=>if d.2.1=0 then (if d.2.2.2=true then some ([],0,0) else if out.length + d.1.length ≤ 140737488355328 then chunk_Decode.l k l d.2.2.1 (wrap64 (left - x.1)) (out ++ d.1) else none) else some ([],0,d.2.1))
  else some ([],0,x.2.1)
def chunk_Decode.f (k:Nat) (l0:List Int) (a1:Int):Option (List Int × Int × Int):=chunk_Decode.l k l0 0 (mx a1 0) []
theorem went_rdr {w w' : World} {g:Nat} {A:Option Addr} {n c:Nat} {p:Int} {m:Bool} (h:Went w w' g A n c p m):Rdr w' g A n c p m:=h.1
theorem dec_blk_grown {w w1:World} {g:Nat} {o:Obj} {row:Option Nat} (h:w.heap[g]? = some o) (hg:w.grownBy w1 row) (hne:some g ≠ row):w1.heap[g]? = some o:=(hg.block g (blk_lt h) hne).trans h
/-- What Decode hands back. -/
def DecPost (w:World) (r1:List Int) (r2 r3:Int) (E:Ending) (w' : World):Prop := ∃ v0_:Value,E = .returned (.tuple #[v0_,.int .i64 r2,.int .i64 r3])∧Kd.R (Kd.int .u8) 5 w' w.heap.size (fun _=>True) v0_ r1∧Below w.heap.size w w'
theorem dec_none {w w' : World} {r2 r3:Int} (h:Below w.heap.size w w'):DecPost w [] r2 r3 (.returned (.tuple #[.slice none 0 0,.int .i64 r2,.int .i64 r3])) w' := ⟨_,rfl,Kd.R_nil _ _ _ _ _,h⟩
/-- The reader and what was collected,beside it. -/
def Dec (w wr:World) (g:Nat) (A:Option Addr) (n c:Nat) (p:Int) (v:Value) (out:List Int):Prop:=Rdr wr g A n c p false∧Below w.heap.size w wr∧w.heap.size ≤ g∧Kd.R (Kd.int .u8) 5 wr w.heap.size (fun k=>k ≠ g) v out
theorem Dec.went {w wr w1:World} {g:Nat} {A:Option Addr} {n c:Nat} {p q:Int} {v:Value} {out:List Int} (h:Dec w wr g A n c p v out) (k:Went wr w1 g A n c q false):Dec w w1 g A n c q v out :=
 ⟨k.1,h.2.1.trans (below_base h.2.2.1 k.2.1),h.2.2.1,Kd.R_keep h.2.2.2 k.2.2 (fun _ hk=>hk)⟩
theorem Dec.below {w wr w1:World} {g:Nat} {A:Option Addr} {n c:Nat} {p q:Int} {m:Bool} {v:Value} {out:List Int} (h:Dec w wr g A n c p v out) (k:Went wr w1 g A n c q m):Below w.heap.size w w1:=h.2.1.trans (below_base h.2.2.1 k.2.1)
set_option maxHeartbeats 16000000 in
set_option maxRecDepth 100000 in
theorem chunk_Decode.calls (k:Nat) (A0:Option Addr) (c0:Nat) (l0:List Int) (a1:Int) (r1:List Int) (r2:Int) (r3:Int) (w:World) (hr0:Kd.C (Kd.int .u8) w A0 l0.length l0) (hc0:l0.length ≤ c0) (h:chunk_Decode.f k l0 a1=some (r1,r2,r3)) :
 Calls Tryd.prog 39 #[.slice A0 l0.length c0,.int .i64 a1] w fun e w' => ∃ v0_:Value,e = .returned (.tuple #[v0_,.int .i64 r2,.int .i64 r3])∧Kd.R (Kd.int .u8) 5 w' w.heap.size (fun _=>True) v0_ r1∧Below w.heap.size w w' := by
 show Calls Tryd.prog 39 #[.slice A0 l0.length c0,.int .i64 a1] w (DecPost w r1 r2 r3)
 have hu:=Tryd.underlying85
 have HC:=Aside0.mk hr0
 have H:=Aside0.mk h
 clear hr0 h
 have HD0:Aside0 (Dec w ((w.alloc (.cells #[.slice A0 l0.length c0,.int .i64 0,.bool false] 85)).alloc (.cells #[] 5)) w.heap.size A0 l0.length c0 0 (.slice (some ⟨w.heap.size + 1,0,none⟩) 0 0) []):=⟨by
  refine ⟨?_,?_,Nat.le_refl _,?_⟩
  ·exact blk_alloc (blk_new w _) _
  ·exact below_alloc (below_alloc (Below.refl _ _) _) _
  have ho:=own_lit (w.alloc (.cells #[.slice A0 l0.length c0,.int .i64 0,.bool false] 85)) w.heap.size 5 .u8 [] zb30 zb30
  have hz:(w.alloc (.cells #[.slice A0 l0.length c0,.int .i64 0,.bool false] 85)).heap.size=w.heap.size + 1:=by simp
  rw [hz] at ho
  exact Kd.R_of_own (h1:=fun _=>rfl) ho (fun k hk=>by
   have:w.heap.size + 1=k:=by simpa [Value.ownBlock] using hk
   omega)⟩
 obtain ⟨mm,hmm⟩ : ∃ mm,mm=mx a1 0:=⟨_,rfl⟩
 unfold chunk_Decode.f at H
 rw [← hmm] at H
 have hmx:=hmm.symm
 clear hmm
 go_enter Tryd.func39,Tryd.ntmps39
 go_wp2_with fail
 all_goals
  go_loopg [8,9,10,11,12] k (fun kq v8 v9 _ _ _ wr => ∃ (p left:Int) (out:List Int),v8 = .int .i64 left∧Aside0 (chunk_Decode.l kq l0 p left out=some (r1,r2,r3))∧Aside0 (Dec w wr w.heap.size A0 l0.length c0 p v9 out))
  case atStart=>first|exact ⟨0,0,[],rfl,⟨(show mm=0 by rw [← hmx];unfold mx;split <;> omega) ▸ H.out⟩,HD0⟩|exact ⟨0,a1,[],rfl,⟨(show mm=a1 by rw [← hmx];unfold mx;split <;> omega) ▸ H.out⟩,HD0⟩
  case round =>
   obtain ⟨p,left,out,rfl,H,D⟩:=hrel
   cases gk with
   | zero=>exact absurd H.out (by simp [chunk_Decode.l])
   | succ k =>
    clear HD0 hmx
    have h:=H.out
    clear H
    simp only [chunk_Decode.l] at h
    obtain ⟨⟨n1,e1,q1,m1⟩,hl,h⟩:=Option.bind_eq_some_iff.1 h
    simp only at h
    have call:=fun (v:Unit)=>chunk_reader_size.calls k w.heap.size A0 c0 l0 p false n1 e1 q1 m1 wr D.out.1 (Kd.C_below HC.out D.out.2.1) hc0 hl
    have CALL:=Aside0.mk call
    clear call hl
    by_cases c1:e1=0;rotate_left
    ·rw [if_neg c1] at h
     simp only [Option.some.injEq,Prod.mk.injEq] at h
     obtain ⟨rfl,rfl,rfl⟩:=h
     have d1:(e1 == 0)=false:=beq_eq_false_iff_ne.2 c1
     have d2:(e1 != 0)=true:=bne_iff_ne.2 c1
     clear c1
     go_wp2_with (first|(go_at_call 49;(with_reducible refine (CALL.out ()).mono ?_);rintro E w1 ⟨rfl,hw⟩;have hm:=hw.more;have W1:=Aside0.mk hw;clear hw))
     go_ret3
     exact dec_none (D.out.below W1.out)
    subst c1
    rw [if_pos rfl] at h
    cases m1
    ·rw [if_neg zb30] at h
     by_cases c2:n1=0
     ·subst c2
      rw [if_pos rfl] at h
      obtain ⟨⟨e2,q2,m2⟩,ht,h⟩:=Option.bind_eq_some_iff.1 h
      simp only at h
      have HT:=Aside0.mk ht
      clear ht
      by_cases c3:e2=0;rotate_left
      ·rw [if_neg c3] at h
       simp only [Option.some.injEq,Prod.mk.injEq] at h
       obtain ⟨rfl,rfl,rfl⟩:=h
       have d1:(e2 == 0)=false:=beq_eq_false_iff_ne.2 c3
       have d2:(e2 != 0)=true:=bne_iff_ne.2 c3
       clear c3
       go_wp2_with (first|(go_at_call 49;(with_reducible refine (CALL.out ()).mono ?_);rintro E w1 ⟨rfl,hw⟩;have hm:=hw.more;have W1:=Aside0.mk hw;clear hw)|(go_at_call 51;(with_reducible refine (chunk_reader_trailer.calls k w.heap.size A0 c0 l0 q1 false _ _ _ w w1 (went_rdr W1.out) HC.out (D.out.below W1.out) (Nat.le_refl _) hc0 HT.out).mono ?_);rintro E w2 ⟨rfl,hw⟩;have hm2:=hw.more;have hp2:=hw.place;have W2:=Aside0.mk hw;clear hw))
       go_ret3
       exact dec_none ((D.out.went W1.out).below W2.out)
      subst c3
      rw [if_pos rfl] at h
      cases m2
      ·rw [if_neg zb30] at h
       simp only [Option.some.injEq,Prod.mk.injEq] at h
       obtain ⟨rfl,rfl,rfl⟩:=h
       go_wp2_with (first|(go_at_call 49;(with_reducible refine (CALL.out ()).mono ?_);rintro E w1 ⟨rfl,hw⟩;have hm:=hw.more;have W1:=Aside0.mk hw;clear hw)|(go_at_call 51;(with_reducible refine (chunk_reader_trailer.calls k w.heap.size A0 c0 l0 q1 false _ _ _ w w1 (went_rdr W1.out) HC.out (D.out.below W1.out) (Nat.le_refl _) hc0 HT.out).mono ?_);rintro E w2 ⟨rfl,hw⟩;have hm2:=hw.more;have hp2:=hw.place;have W2:=Aside0.mk hw;clear hw))
       have D3:=Aside0.mk ((D.out.went W1.out).went W2.out)
       go_quiet (fail)
       go_wp2_with fail
       go_ret3
       exact ⟨_,rfl,Kd.R_mono (Kd.R_below D3.out.2.2.2 (pw_below_drewN (Below.refl _ _) _)) (fun _ _=>trivial),pw_below_drewN D3.out.2.1 _⟩
      ·rw [if_pos rfl] at h
       simp only [Option.some.injEq,Prod.mk.injEq] at h
       obtain ⟨rfl,rfl,rfl⟩:=h
       go_wp2_with (first|(go_at_call 49;(with_reducible refine (CALL.out ()).mono ?_);rintro E w1 ⟨rfl,hw⟩;have hm:=hw.more;have W1:=Aside0.mk hw;clear hw)|(go_at_call 51;(with_reducible refine (chunk_reader_trailer.calls k w.heap.size A0 c0 l0 q1 false _ _ _ w w1 (went_rdr W1.out) HC.out (D.out.below W1.out) (Nat.le_refl _) hc0 HT.out).mono ?_);rintro E w2 ⟨rfl,hw⟩;have hm2:=hw.more;have hp2:=hw.place;have W2:=Aside0.mk hw;clear hw))
       go_ret3
       exact dec_none ((D.out.went W1.out).below W2.out)
     rw [if_neg c2] at h
     have d2:(n1 == 0)=false:=beq_eq_false_iff_ne.2 c2
     clear c2
     by_cases c3:n1 > left
     ·rw [if_pos c3] at h
      simp only [Option.some.injEq,Prod.mk.injEq] at h
      obtain ⟨rfl,rfl,rfl⟩:=h
      have d3:decide (n1 > left)=true:=decide_eq_true c3
      have d4:(left < n1)=True:=eq_true c3
      clear c3
      go_wp2_with (first|(go_at_call 49;(with_reducible refine (CALL.out ()).mono ?_);rintro E w1 ⟨rfl,hw⟩;have hm:=hw.more;have W1:=Aside0.mk hw;clear hw))
      go_ret3
      exact dec_none (D.out.below W1.out)
     rw [if_neg c3] at h
     have d3:decide (n1 > left)=false:=decide_eq_false c3
     have d4:(left < n1)=False:=eq_false c3
     clear c3
     obtain ⟨⟨r3',e3,q3,m3⟩,ht,h⟩:=Option.bind_eq_some_iff.1 h
     simp only at h
     have HT:=Aside0.mk ht
     clear ht
     by_cases c4:e3=0;rotate_left
     ·rw [if_neg c4] at h
      simp only [Option.some.injEq,Prod.mk.injEq] at h
      obtain ⟨rfl,rfl,rfl⟩:=h
      have d5:(e3 == 0)=false:=beq_eq_false_iff_ne.2 c4
      have d6:(e3 != 0)=true:=bne_iff_ne.2 c4
      clear c4
      go_wp2_with (first|(go_at_call 49;(with_reducible refine (CALL.out ()).mono ?_);rintro E w1 ⟨rfl,hw⟩;have hm:=hw.more;have W1:=Aside0.mk hw;clear hw)|(go_at_call 50;(with_reducible refine (chunk_reader_data.calls w.heap.size A0 c0 l0 q1 n1 false r3' _ _ _ w w1 (went_rdr W1.out) HC.out (D.out.below W1.out) (Nat.le_refl _) hc0 HT.out).mono ?_);rintro E w2 ⟨A2,c2,rfl,hCr,hcr,hw⟩;have hm2:=hw.more;have W2:=Aside0.mk hw;have HCr:=Aside0.mk hCr;have Hcr:=Aside0.mk hcr;clear hw hCr hcr))
      go_ret3
      exact dec_none ((D.out.went W1.out).below W2.out)
     subst c4
     rw [if_pos rfl] at h
     cases m3
     ·rw [if_neg zb30] at h
      by_cases c5:out.length + r3'.length ≤ 140737488355328
      ·rw [if_pos c5] at h
       have HLEN:=Aside0.mk c5
       have H2:=Aside0.mk h
       clear c5 h
       go_wp2_with (first|(go_at_call 49;(with_reducible refine (CALL.out ()).mono ?_);rintro E w1 ⟨rfl,hw⟩;have hm:=hw.more;have W1:=Aside0.mk hw;clear hw)|(go_at_call 50;(with_reducible refine (chunk_reader_data.calls w.heap.size A0 c0 l0 q1 n1 false r3' _ _ _ w w1 (went_rdr W1.out) HC.out (D.out.below W1.out) (Nat.le_refl _) hc0 HT.out).mono ?_);rintro E w2 ⟨A2,c2,rfl,hCr,hcr,hw⟩;have hm2:=hw.more;have W2:=Aside0.mk hw;have HCr:=Aside0.mk hCr;have Hcr:=Aside0.mk hcr;clear hw hCr hcr;have D2:=Aside0.mk ((D.out.went W1.out).went W2.out))|((with_reducible refine gate_builtin (b:=.append) (xs:=#[.tmp 57,.tmp 58]) rfl ?_);at_builtin;refine Kd.R_append_rows (Kd.int .u8) (w0:=w) w.heap.size rfl (.tmp 57) (.tmp 58) 22 5 (.int .u8 0) 1 rfl Tryd.underlying22 info5 rfl zb51 zb26 u9 out r3' _ _ _ (fun k_=>k_ ≠ w.heap.size) (fun _=>False) rfl rfl ?aO ?aR (fun _ _ h=>h) (fun _ h=>h.elim) ?aF ?aB ?aS ?aL ?_;(case aO=>exact (D2.out).2.2.2);(case aR=>exact Kd.C_below HCr.out D2.out.2.1);(case aF=>intro k_ hk e_;have:=blk_lt D2.out.1;omega);(case aB=>exact D2.out.2.1);(case aS=>exact D2.out.2.1.size);(case aL=>have:=HLEN.out;omega);intro v3 w3 ho hb3 hg3 hat;have D3:=Aside0.mk (show Dec w w3 w.heap.size A0 l0.length c0 q3 v3 (out ++ r3') from ⟨dec_blk_grown D2.out.1 hg3 (fun e=>(D2.out).2.2.2.1 _ e.symm rfl),hb3,Nat.le_refl _,ho⟩);clear ho hb3 hg3 hat))
       go_roundg k
       case rel=>exact ⟨q3,wrap64 (left - n1),out ++ r3',rfl,H2,D3⟩
       case measure=>exact Nat.lt_succ_self k
      ·rw [if_neg c5] at h
       cases h
     ·rw [if_pos rfl] at h
      simp only [Option.some.injEq,Prod.mk.injEq] at h
      obtain ⟨rfl,rfl,rfl⟩:=h
      go_wp2_with (first|(go_at_call 49;(with_reducible refine (CALL.out ()).mono ?_);rintro E w1 ⟨rfl,hw⟩;have hm:=hw.more;have W1:=Aside0.mk hw;clear hw)|(go_at_call 50;(with_reducible refine (chunk_reader_data.calls w.heap.size A0 c0 l0 q1 n1 false r3' _ _ _ w w1 (went_rdr W1.out) HC.out (D.out.below W1.out) (Nat.le_refl _) hc0 HT.out).mono ?_);rintro E w2 ⟨A2,c2,rfl,hCr,hcr,hw⟩;have hm2:=hw.more;have W2:=Aside0.mk hw;have HCr:=Aside0.mk hCr;have Hcr:=Aside0.mk hcr;clear hw hCr hcr))
      go_ret3
      exact dec_none ((D.out.went W1.out).below W2.out)
    ·rw [if_pos rfl] at h
     simp only [Option.some.injEq,Prod.mk.injEq] at h
     obtain ⟨rfl,rfl,rfl⟩:=h
     go_wp2_with (first|(go_at_call 49;(with_reducible refine (CALL.out ()).mono ?_);rintro E w1 ⟨rfl,hw⟩;have hm:=hw.more;have W1:=Aside0.mk hw;clear hw))
     go_ret3
     exact dec_none (D.out.below W1.out)
def http_body.f (k:Nat) (l0:List Int) (a1:Int) (a2:Bool):Option (List Int × Int × Int):=if a2=true then ((chunk_Decode.f k l0 4096).bind fun bt221=>(if bt221.2.2=2 then (some (([]:List Int),(-1),413)) else (if bt221.2.2=0 then (if bt221.2.1=0 then (some (([]:List Int),(-1),0)) else (some (bt221.1,bt221.2.1,0))) else (some (([]:List Int),(-1),400))))) else (if (l0.length:Int) < a1 then (some (([]:List Int),(-1),0)) else (if 0 ≤ a1 then (if a1 ≤ (l0.length:Int) then ((bytes_Clone.f (l0.take (a1:Int).toNat)).bind fun t218=>(some (t218,a1,0))) else (none)) else (none)))
set_option maxHeartbeats 8000000 in
set_option maxRecDepth 100000 in
theorem http_body.calls (k:Nat) (A0:Option Addr) (c0:Nat) (l0:List Int) (a1:Int) (a2:Bool) (r1:List Int) (r2:Int) (r3:Int) (w:World) (hr0:Kd.C (Kd.int .u8) w A0 l0.length l0) (hc0:l0.length ≤ c0) (h:http_body.f k l0 a1 a2=some (r1,r2,r3)) :
 Calls Tryd.prog 25 #[.slice A0 l0.length c0,.int .i64 a1,.bool a2] w fun e w' => ∃ v0_:Value,e = .returned (.tuple #[v0_,.int .i64 r2,.int .i64 r3])∧Kd.R (Kd.int .u8) 5 w' w.heap.size (fun _=>True) v0_ r1∧Below w.heap.size w w' := by
 have HR0:=Aside0.mk hr0
 have HC0:=Aside0.mk hc0
 clear hr0 hc0
 have HB:=Aside0.mk (Below.refl w.heap.size w)
 unfold http_body.f at h
 have H:=h
 clear h
 by_cases c4:a2=true;rotate_left
 ·replace c4:=Bool.eq_false_iff.mpr c4
  subst c4
  rw [if_neg (show ¬ (false=true) by decide)] at H
  by_cases c13:(l0.length:Int) < a1
  ·rw [if_pos c13] at H
   have c13b0:=decide_eq_true c13
   clear c13
   simp only [Option.some.injEq,Prod.mk.injEq] at H
   obtain ⟨rfl,rfl,rfl⟩:=H
   go_enter Tryd.func25,Tryd.ntmps25
   go_wp2
   go_ret3
   exact ⟨_,zb3,zb4,zb0⟩
  rw [if_neg c13] at H
  have c13b0:=decide_eq_false c13
  clear c13
  by_cases c14:0 ≤ a1;rotate_left
  ·rw [if_neg c14] at H
   exact absurd H zb30
  rw [if_pos c14] at H
  have c14b0:=eq_true c14
  have c14b1:=decide_eq_true c14
  clear c14
  by_cases c15:a1 ≤ (l0.length:Int);rotate_left
  ·rw [if_neg c15] at H
   exact absurd H zb30
  rw [if_pos c15] at H
  have c15b0:=eq_true c15
  have c15b1:=decide_eq_true c15
  clear c15
  replace H:=Option.bind_eq_some_iff.mp H
  obtain ⟨t218,A160,H⟩:=H
  try dsimp only at H
  have A16:=Aside0.mk A160
  clear A160
  simp only [Option.some.injEq,Prod.mk.injEq] at H
  obtain ⟨rfl,rfl,rfl⟩:=H
  obtain ⟨i017,hi017,_,hsz17,_⟩:=info_parts info5
  obtain ⟨hcut17,hA17,hC17⟩:=print_take_of (P:=Tryd.prog) (Value.int .u8) 0 22 5 .i64 Tryd.underlying22 hi017 hsz17 A0 c0 l0 a1 (of_decide_eq_true zb7) (of_decide_eq_true zb7) HC0.out
  have HR217:=Aside0.mk (Kd.C_of_reads (h1:=fun _=>rfl) (hA17 _ (Kd.reads_of_C HR0.out)))
  have HC217:=Aside0.mk hC17
  clear hA17 hC17 hi017 hsz17
  go_enter Tryd.func25,Tryd.ntmps25
  go_wp2_with (first|((with_reducible refine gate_callee (f:=26) rfl ?_);refine goesL_ (some 21) rfl rfl Tryd.func26 zb8 rfl #[.slice A0 (l0.take (a1:Int).toNat).length c0] rfl (by (try simp only [List.map_toArray,List.map_cons,List.map_nil]);first|done|(rw [show (l0.take (a1:Int).toNat).length=a1.toNat from (by rw [List.length_take];have h_:(a1:Int) ≤ (l0.length:Int):=of_decide_eq_true (by first|(with_reducible assumption)|assumption);omega)] <;> rfl)|rfl|(simp only [List.length_drop,List.length_take];rfl)) ?_;(with_reducible refine (bytes_Clone.calls _ _ (l0.take (a1:Int).toNat) t218 _ ?side1 ?side2 A16.out).mono ?_);(case side1=>repeat (first|exact HR217.out|(with_reducible refine Kd.C_alloc ?_ _)|(with_reducible refine Kd.C_drewN ?_ _)|(with_reducible refine Kd.C_drew ?_)));(case side2=>exact HC217.out);rintro e w18 ⟨v219,rfl,ho0,hb⟩;(try clear A16);refine ⟨_,rfl,?_⟩;have HO220:=Aside0.mk (Kd.R_lower ho0 (below_size zb0));replace HB:=Aside0.mk (below_step zb0 hb);try clear hb ho0))
  go_ret3
  exact ⟨_,zb3,by (with_reducible repeat (first|apply Kd.R_alloc|apply Kd.R_drewN|apply Kd.R_drew));exact HO220.out,zb0⟩
 subst c4
 rw [if_pos rfl] at H
 replace H:=Option.bind_eq_some_iff.mp H
 obtain ⟨⟨t221,t222,t223⟩,A50,H⟩:=H
 try dsimp only at H
 have A5:=Aside0.mk A50
 clear A50
 by_cases c6:t223=2
 ·rw [if_pos c6] at H
  have c6b0:=beq_iff_eq.mpr c6
  have c6b1:=bne_eq_false_iff_eq.mpr c6
  clear c6
  simp only [Option.some.injEq,Prod.mk.injEq] at H
  obtain ⟨rfl,rfl,rfl⟩:=H
  go_enter Tryd.func25,Tryd.ntmps25
  go_wp2_with (first|((with_reducible refine gate_callee (f:=39) rfl ?_);refine goesL_ (some 25) rfl rfl Tryd.func39 zb8 rfl #[.slice A0 l0.length c0,.int .i64 4096] rfl zb1 ?_;(with_reducible refine (chunk_Decode.calls k _ _ l0 4096 t221 t222 t223 _ ?side1 ?side2 A5.out).mono ?_);(case side1=>exact zb14);(case side2=>exact HC0.out);rintro e w7 ⟨v224,rfl,ho0,hb⟩;(try clear A5);refine ⟨_,rfl,?_⟩;have HO225:=Aside0.mk (Kd.R_lower ho0 (below_size zb0));replace HB:=Aside0.mk (below_step zb0 hb);try clear hb ho0))
  go_ret3
  exact ⟨_,zb3,zb4,zb0⟩
 ·rw [if_neg c6] at H
  have c6b0:=beq_eq_false_iff_ne.mpr c6
  have c6b1:=bne_iff_ne.mpr c6
  by_cases c8:t223=0
  ·rw [if_pos c8] at H
   have c8b0:=beq_iff_eq.mpr c8
   have c8b1:=bne_eq_false_iff_eq.mpr c8
   clear c8
   by_cases c9:t222=0
   ·rw [if_pos c9] at H
    have c9b0:=beq_iff_eq.mpr c9
    have c9b1:=bne_eq_false_iff_eq.mpr c9
    clear c9
    simp only [Option.some.injEq,Prod.mk.injEq] at H
    obtain ⟨rfl,rfl,rfl⟩:=H
    go_enter Tryd.func25,Tryd.ntmps25
    go_wp2_with (first|((with_reducible refine gate_callee (f:=39) rfl ?_);refine goesL_ (some 25) rfl rfl Tryd.func39 zb8 rfl #[.slice A0 l0.length c0,.int .i64 4096] rfl zb1 ?_;(with_reducible refine (chunk_Decode.calls k _ _ l0 4096 t221 t222 t223 _ ?side1 ?side2 A5.out).mono ?_);(case side1=>exact zb14);(case side2=>exact HC0.out);rintro e w10 ⟨v224,rfl,ho0,hb⟩;(try clear A5);refine ⟨_,rfl,?_⟩;have HO225:=Aside0.mk (Kd.R_lower ho0 (below_size zb0));replace HB:=Aside0.mk (below_step zb0 hb);try clear hb ho0))
    go_ret3
    exact ⟨_,zb3,zb4,zb0⟩
   ·rw [if_neg c9] at H
    have c9b0:=beq_eq_false_iff_ne.mpr c9
    have c9b1:=bne_iff_ne.mpr c9
    simp only [Option.some.injEq,Prod.mk.injEq] at H
    obtain ⟨rfl,rfl,rfl⟩:=H
    go_enter Tryd.func25,Tryd.ntmps25
    go_wp2_with (first|((with_reducible refine gate_callee (f:=39) rfl ?_);refine goesL_ (some 25) rfl rfl Tryd.func39 zb8 rfl #[.slice A0 l0.length c0,.int .i64 4096] rfl zb1 ?_;(with_reducible refine (chunk_Decode.calls k _ _ l0 4096 t221 t222 t223 _ ?side1 ?side2 A5.out).mono ?_);(case side1=>exact zb14);(case side2=>exact HC0.out);rintro e w11 ⟨v224,rfl,ho0,hb⟩;(try clear A5);refine ⟨_,rfl,?_⟩;have HO225:=Aside0.mk (Kd.R_lower ho0 (below_size zb0));replace HB:=Aside0.mk (below_step zb0 hb);try clear hb ho0))
    go_ret3
    exact ⟨_,zb3,by (with_reducible repeat (first|apply Kd.R_alloc|apply Kd.R_drewN|apply Kd.R_drew));exact HO225.out,zb0⟩
  ·rw [if_neg c8] at H
   have c8b0:=beq_eq_false_iff_ne.mpr c8
   have c8b1:=bne_iff_ne.mpr c8
   simp only [Option.some.injEq,Prod.mk.injEq] at H
   obtain ⟨rfl,rfl,rfl⟩:=H
   go_enter Tryd.func25,Tryd.ntmps25
   go_wp2_with (first|((with_reducible refine gate_callee (f:=39) rfl ?_);refine goesL_ (some 25) rfl rfl Tryd.func39 zb8 rfl #[.slice A0 l0.length c0,.int .i64 4096] rfl zb1 ?_;(with_reducible refine (chunk_Decode.calls k _ _ l0 4096 t221 t222 t223 _ ?side1 ?side2 A5.out).mono ?_);(case side1=>exact zb14);(case side2=>exact HC0.out);rintro e w12 ⟨v224,rfl,ho0,hb⟩;(try clear A5);refine ⟨_,rfl,?_⟩;have HO225:=Aside0.mk (Kd.R_lower ho0 (below_size zb0));replace HB:=Aside0.mk (below_step zb0 hb);try clear hb ho0))
   go_ret3
   exact ⟨_,zb3,zb4,zb0⟩
def http_rest.f (k:Nat) (l0:List Int) (a1:Int) (a2:Int) (a3:Bool):Option (List Int × Int × Bool):=if a1=3 then (if (l0.length:Int) > 4096 then (some (([]:List Int),(-1),false)) else (if a3=true then ((bytes_Clone.f l0).bind fun t231=>(some (t231,(l0.length:Int),true))) else (some (([]:List Int),(-1),true)))) else ((http_body.f k l0 a2 (a1 == 2)).bind fun bt226=>(some (bt226.1,bt226.2.1,(bt226.2.2 == 0))))
set_option maxHeartbeats 8000000 in
set_option maxRecDepth 100000 in
theorem http_rest.calls (k:Nat) (A0:Option Addr) (c0:Nat) (l0:List Int) (a1:Int) (a2:Int) (a3:Bool) (r1:List Int) (r2:Int) (r3:Bool) (w:World) (hr0:Kd.C (Kd.int .u8) w A0 l0.length l0) (hc0:l0.length ≤ c0) (h:http_rest.f k l0 a1 a2 a3=some (r1,r2,r3)) :
 Calls Tryd.prog 13 #[.slice A0 l0.length c0,.int .i64 a1,.int .i64 a2,.bool a3] w fun e w' => ∃ v0_:Value,e = .returned (.tuple #[v0_,.int .i64 r2,.bool r3])∧Kd.R (Kd.int .u8) 5 w' w.heap.size (fun _=>True) v0_ r1∧Below w.heap.size w w' := by
 have HR0:=Aside0.mk hr0
 have HC0:=Aside0.mk hc0
 clear hr0 hc0
 have HB:=Aside0.mk (Below.refl w.heap.size w)
 unfold http_rest.f at h
 have H:=h
 clear h
 by_cases c5:a1=3;rotate_left
 ·rw [if_neg c5] at H
  have c5b0:=beq_eq_false_iff_ne.mpr c5
  have c5b1:=bne_iff_ne.mpr c5
  replace H:=Option.bind_eq_some_iff.mp H
  obtain ⟨⟨t226,t227,t228⟩,A100,H⟩:=H
  try dsimp only at H
  have A10:=Aside0.mk A100
  clear A100
  simp only [Option.some.injEq,Prod.mk.injEq] at H
  obtain ⟨rfl,rfl,rfl⟩:=H
  go_enter Tryd.func13,Tryd.ntmps13
  go_wp2_with (first|((with_reducible refine gate_callee (f:=25) rfl ?_);refine goesL_ (some 21) rfl rfl Tryd.func25 zb8 rfl #[.slice A0 l0.length c0,.int .i64 a2,.bool (a1 == 2)] rfl zb1 ?_;(with_reducible refine (http_body.calls k _ _ l0 a2 (a1 == 2) t226 t227 t228 _ ?side1 ?side2 A10.out).mono ?_);(case side1=>exact zb14);(case side2=>exact HC0.out);rintro e w11 ⟨v229,rfl,ho0,hb⟩;(try clear A10);refine ⟨_,rfl,?_⟩;have HO230:=Aside0.mk (Kd.R_lower ho0 (below_size zb0));replace HB:=Aside0.mk (below_step zb0 hb);try clear hb ho0))
  go_ret3
  exact ⟨_,zb3,by (with_reducible repeat (first|apply Kd.R_alloc|apply Kd.R_drewN|apply Kd.R_drew));exact HO230.out,zb0⟩
 rw [if_pos c5] at H
 have c5b0:=beq_iff_eq.mpr c5
 have c5b1:=bne_eq_false_iff_eq.mpr c5
 clear c5
 by_cases c6:(l0.length:Int) > 4096
 ·rw [if_pos c6] at H
  have c6b0:decide (4096 < (l0.length:Int))=true:=decide_eq_true c6
  have c6b1:decide (4096 < l0.length)=true:=decide_eq_true zb26
  clear c6
  simp only [Option.some.injEq,Prod.mk.injEq] at H
  obtain ⟨rfl,rfl,rfl⟩:=H
  go_enter Tryd.func13,Tryd.ntmps13
  go_wp2
  go_ret3
  exact ⟨_,zb3,zb4,zb0⟩
 rw [if_neg c6] at H
 have c6b0:decide (4096 < (l0.length:Int))=false:=decide_eq_false c6
 have c6b1:decide (4096 < l0.length)=false:=decide_eq_false zb26
 clear c6
 by_cases c7:a3=true
 ·subst c7
  rw [if_pos rfl] at H
  replace H:=Option.bind_eq_some_iff.mp H
  obtain ⟨t231,A80,H⟩:=H
  try dsimp only at H
  have A8:=Aside0.mk A80
  clear A80
  simp only [Option.some.injEq,Prod.mk.injEq] at H
  obtain ⟨rfl,rfl,rfl⟩:=H
  go_enter Tryd.func13,Tryd.ntmps13
  go_wp2_with (first|((with_reducible refine gate_callee (f:=26) rfl ?_);refine goesL_ (some 35) rfl rfl Tryd.func26 zb8 rfl #[.slice A0 l0.length c0] rfl zb1 ?_;(with_reducible refine (bytes_Clone.calls _ _ l0 t231 _ ?side1 ?side2 A8.out).mono ?_);(case side1=>exact zb14);(case side2=>exact HC0.out);rintro e w9 ⟨v232,rfl,ho0,hb⟩;(try clear A8);refine ⟨_,rfl,?_⟩;have HO233:=Aside0.mk (Kd.R_lower ho0 (below_size zb0));replace HB:=Aside0.mk (below_step zb0 hb);try clear hb ho0))
  go_ret3
  exact ⟨_,zb3,by (with_reducible repeat (first|apply Kd.R_alloc|apply Kd.R_drewN|apply Kd.R_drew));exact HO233.out,zb0⟩
 ·replace c7:=Bool.eq_false_iff.mpr c7
  subst c7
  rw [if_neg (show ¬ (false=true) by decide)] at H
  simp only [Option.some.injEq,Prod.mk.injEq] at H
  obtain ⟨rfl,rfl,rfl⟩:=H
  go_enter Tryd.func13,Tryd.ntmps13
  go_wp2
  go_ret3
  exact ⟨_,zb3,zb4,zb0⟩
def http_Response.f (k:Nat) (l0:List Int) (a1:ByteArray) (a2:Bool):Option (Int × ByteArray × Int × List (S48) × List Int × Int × Bool) :=
 (http_head.f statusFst k l0).bind fun h=>if h.2.1=0 then some (0,⟨#[]⟩,0,[],[],0,h.2.2.1 == 0 && !a2) else (h.2.2.2).bind fun s=>(line_Status.f k s).bind fun x=>(frame_Response.f k a1 x.1 x.2.1 x.2.2.1 h.1 []).bind fun y =>
  if y.2.2=true then (if 0 ≤ h.2.1 then (if h.2.1 ≤ (l0.length:Int) then ((http_rest.f k (l0.drop h.2.1.toNat) y.1 y.2.1 a2).bind fun z=>if z.2.1 < 0 then some (0,⟨#[]⟩,0,[],[],0,z.2.2 && !a2) else if z.2.2=true then some (x.1,x.2.1,x.2.2.1,h.1,z.1,wrap64 (h.2.1 + z.2.1),true) else some (0,⟨#[]⟩,0,[],[],0,false)) else none) else none) else some (0,⟨#[]⟩,0,[],[],0,false)
/-- What it hands back. -/
def RespPost (w:World) (r1:Int) (r2:ByteArray) (r3:Int) (r4:List (S48)) (r5:List Int) (r6:Int) (r7:Bool) (e:Ending) (w' : World):Prop := ∃ v4_ v5_:Value,e = .returned (.tuple #[.agg #[.int .i64 r1,.string r2,.int .i64 r3,v4_,v5_],.int .i64 r6,.bool r7])∧Kd.R k48 48 w' w.heap.size (fun _=>True) v4_ r4∧Kd.R (Kd.int .u8) 5 w' w.heap.size (fun _=>True) v5_ r5∧Below w.heap.size w w'
theorem lsDet {k k' : Nat} {s:ByteArray} {a b:Int × ByteArray × Int × List (S48) × List Int × Bool} (h:line_Status.f k s=some a) (h' : line_Status.f k' s=some b):a=b:=by
 have lup : ∀ {n:Nat} {r},line_Status.f n s=some r → ∀ d,line_Status.f (n + d) s=some r:=by
  intro n r h d
  induction d with
  | zero=>exact h
  | succ d ih=>exact line_Status.mono s _ _ ih
 have h1:=lup h k'
 have h2:=lup h' k
 rw [Nat.add_comm] at h2
 exact Option.some.inj (h1.symm.trans h2)
theorem resp_none {w w' : World} {r7:Bool} (hb:Below w.heap.size w w'):RespPost w 0 ⟨#[]⟩ 0 [] [] 0 r7 (.returned (.tuple #[.agg #[.int .i64 0,.string (⟨#[]⟩:ByteArray),.int .i64 0,.slice none 0 0,.slice none 0 0],.int .i64 0,.bool r7])) w' := ⟨_,_,rfl,Kd.R_nil _ _ _ _ _,Kd.R_nil _ _ _ _ _,hb⟩
theorem put5 {w W:World} {R:Nat} (h:Below w.heap.size w W) (hR:w.heap.size ≤ R) (a b c d e:Value):Below w.heap.size w (((((W.setCell ⟨R,0,none⟩ a).setCell ⟨R,1,none⟩ b).setCell ⟨R,2,none⟩ c).setCell ⟨R,3,none⟩ d).setCell ⟨R,4,none⟩ e) :=
 ((((h.setCell hR a).setCell hR b).setCell hR c).setCell hR d).setCell hR e
theorem blk5 {W:World} {R t:Nat} {x0 x1 x2 x3 x4:Value} (h:W.heap[R]? = some (.cells #[x0,x1,x2,x3,x4] t (0,0))) (a b c d e:Value):(((((W.setCell ⟨R,0,none⟩ a).setCell ⟨R,1,none⟩ b).setCell ⟨R,2,none⟩ c).setCell ⟨R,3,none⟩ d).setCell ⟨R,4,none⟩ e).heap[R]? = some (.cells #[a,b,c,d,e] t (0,0)) :=
 blk_put (blk_put (blk_put (blk_put (blk_put h 0 _ rfl) 1 _ rfl) 2 _ rfl) 3 _ rfl) 4 _ rfl
theorem R_put5 {α:Type} {dd:Kd α} {ty base G R:Nat} {W:World} {v:Value} {xs:List α} (h:dd.R ty W base (fun k=>k ≠ G∧k ≠ R) v xs) (a b c d e:Value):dd.R ty (((((W.setCell ⟨R,0,none⟩ a).setCell ⟨R,1,none⟩ b).setCell ⟨R,2,none⟩ c).setCell ⟨R,3,none⟩ d).setCell ⟨R,4,none⟩ e) base (fun k=>k ≠ G∧k ≠ R) v xs :=
 Kd.R_far (Kd.R_far (Kd.R_far (Kd.R_far (Kd.R_far h (fun _ hk=>hk.2) a) (fun _ hk=>hk.2) b) (fun _ hk=>hk.2) c) (fun _ hk=>hk.2) d) (fun _ hk=>hk.2) e
set_option maxRecDepth 100000 in
set_option maxHeartbeats 0 in
theorem http_Response_leaf {p:Prop} (h:p:=by
 go_enter Tryd.func6,Tryd.ntmps6
 go_wp2_with (first
  | ((with_reducible refine gate_dst (N:=6) rfl ?_);refine box_event ?hg (N:=6) ?hd (cs:=#[.int .i64 0,.string (⟨#[]⟩:ByteArray),.int .i64 0,.slice none 0 0,.slice none 0 0]) (t:=27) ?hr ?_;(case hd=>rfl);(case hg=>rfl);(case hr=>first|(go_simp;done)|(go_simp;rfl));intro R hR w5 hBR hbR;have BR:=Aside0.mk hBR;have LR:=Aside0.mk hbR;have ER:=Aside0.mk hR;clear hBR hbR hR)
  | ((with_reducible refine gate_dst (N:=9) rfl ?_);refine box_event ?hg (N:=9) ?hd (cs:=#[.int .i64 0,.string (⟨#[]⟩:ByteArray),.int .i64 0,.slice none 0 0,.slice none 0 0]) (t:=27) ?hr ?_;(case hd=>rfl);(case hg=>rfl);(case hr=>first|(go_simp;done)|(go_simp;rfl));intro G hG w6 hBG hbG;have BG:=Aside0.mk hBG;have LG:=Aside0.mk hbG;have EG2:=Aside0.mk hG;clear hBG hbG hG)
  | (have _:=M0;go_at_call 9;refine (http_head.callsOf statusFst 10 #[.pointer (some ⟨G,0,none⟩)] EG.out G 27 StatusVal w5 k A0 c0 l0 h1 _ _ _ w6 (Kd.C_below HC.out LR.out) HCC.out (Nat.le_of_eq EG2.out.symm) ⟨_,rfl,BG.out⟩ LG.out (http_Response_1.callsOf G) HH.out).mono ?_;rintro E w7 ⟨v0,rfl,hS⟩;obtain ⟨Af,cf,rfl⟩:=Kd.R_slice hS.2.2;have HS:=Aside0.mk hS;have BR7:=Aside0.mk (blk_below BR.out hS.2.1);have fR0:=blk_frozen BR7.out 0;have qR0:w7.cell? ⟨R,0,none⟩=some (.int .i64 0):=(blk_cell BR7.out 0).trans rfl;have fR1:=blk_frozen BR7.out 1;have qR1:w7.cell? ⟨R,1,none⟩=some (.string (⟨#[]⟩:ByteArray)):=(blk_cell BR7.out 1).trans rfl;have fR2:=blk_frozen BR7.out 2;have qR2:w7.cell? ⟨R,2,none⟩=some (.int .i64 0):=(blk_cell BR7.out 2).trans rfl;have fR3:=blk_frozen BR7.out 3;have qR3:w7.cell? ⟨R,3,none⟩=some (.slice none 0 0):=(blk_cell BR7.out 3).trans rfl;have fR4:=blk_frozen BR7.out 4;have qR4:w7.cell? ⟨R,4,none⟩=some (.slice none 0 0):=(blk_cell BR7.out 4).trans rfl;clear hS)
  | (have _:=M1;go_at_call 9;refine (http_head.callsOf statusFst 10 #[.pointer (some ⟨G,0,none⟩)] EG.out G 27 StatusVal w5 k A0 c0 l0 h1 _ _ _ w6 (Kd.C_below HC.out LR.out) HCC.out (Nat.le_of_eq EG2.out.symm) ⟨_,rfl,BG.out⟩ LG.out (http_Response_1.callsOf G) HH.out).mono ?_;rintro E w7 ⟨v0,rfl,hS⟩;obtain ⟨Af,cf,rfl⟩:=Kd.R_slice hS.2.2;have HS:=Aside0.mk hS;have BR7:=Aside0.mk (blk_below BR.out hS.2.1);obtain ⟨cs,⟨k2,s1,s2,s3,s6,B3,d3,B4,d4,hst,rfl⟩,hBG⟩:=hS.1;have e:=lsDet HX.out hst;simp only [Prod.mk.injEq] at e;obtain ⟨rfl,rfl,rfl,rfl,rfl,rfl⟩:=e;have BG7:=Aside0.mk hBG;have S7:=Aside0.mk (Kd.R_mono (Kd.R_bound hS.2.2) (fun q hq=>(⟨hq.1,fun e=>by have z1:=hq.2.1;have z2:=blk_lt BR.out;omega⟩:q ≠ G∧q ≠ R)));have fR0:=blk_frozen BR7.out 0;have qR0:w7.cell? ⟨R,0,none⟩=some (.int .i64 0):=(blk_cell BR7.out 0).trans rfl;have fR1:=blk_frozen BR7.out 1;have qR1:w7.cell? ⟨R,1,none⟩=some (.string (⟨#[]⟩:ByteArray)):=(blk_cell BR7.out 1).trans rfl;have fR2:=blk_frozen BR7.out 2;have qR2:w7.cell? ⟨R,2,none⟩=some (.int .i64 0):=(blk_cell BR7.out 2).trans rfl;have fR3:=blk_frozen BR7.out 3;have qR3:w7.cell? ⟨R,3,none⟩=some (.slice none 0 0):=(blk_cell BR7.out 3).trans rfl;have fR4:=blk_frozen BR7.out 4;have qR4:w7.cell? ⟨R,4,none⟩=some (.slice none 0 0):=(blk_cell BR7.out 4).trans rfl;have fG0:=blk_frozen BG7.out 0;have qG0:w7.cell? ⟨G,0,none⟩=some (.int .i64 x1):=(blk_cell BG7.out 0).trans rfl;have fG1:=blk_frozen BG7.out 1;have qG1:w7.cell? ⟨G,1,none⟩=some (.string x2):=(blk_cell BG7.out 1).trans rfl;have fG2:=blk_frozen BG7.out 2;have qG2:w7.cell? ⟨G,2,none⟩=some (.int .i64 x3):=(blk_cell BG7.out 2).trans rfl;have fG3:=blk_frozen BG7.out 3;have qG3:w7.cell? ⟨G,3,none⟩=some (.slice B3 0 d3):=(blk_cell BG7.out 3).trans rfl;have fG4:=blk_frozen BG7.out 4;have qG4:w7.cell? ⟨G,4,none⟩=some (.slice B4 0 d4):=(blk_cell BG7.out 4).trans rfl;clear hst hBG;clear hS)
  | (go_at_call 12;refine (frame_Response.calls k a1 x1 x2 x3 Af cf h1 B4 d4 [] y1 y2 _ _ (Kd.R_reads' (Kd.R_far (p:=⟨G,3,none⟩) S7.out (fun q hq=>hq.1) _)).2.2 (Kd.R_reads' S7.out).2.1 ⟨rfl,by simp,fun h=>absurd h (Nat.lt_irrefl 0)⟩ (Nat.zero_le _) HY.out).mono ?_;rintro E w9 ⟨rfl,hb9⟩;have S9:=Aside0.mk (Kd.R_below (Kd.R_far (p:=⟨G,3,none⟩) S7.out (fun q hq=>hq.1) (.slice Af h1.length cf)) hb9);have BG9:=Aside0.mk (blk_below (blk_put BG7.out 3 _ rfl) hb9);have BR9:=Aside0.mk (blk_below ((Below.heap_setCell w7 ⟨G,3,none⟩ (.slice Af h1.length cf) R (by have z1:=EG2.out;have z2:=blk_lt BR.out;show R ≠ G;omega)).trans BR7.out) hb9);have L9:=Aside0.mk ((LR.out.trans (hbase LR.out.size (HS.out.2.1.setCell (p:=⟨G,3,none⟩) (Nat.le_of_eq EG2.out.symm) (.slice Af h1.length cf)))).trans (hbase (by simpa [World.setCell] using Nat.le_trans LR.out.size HS.out.2.1.size) hb9));have fR0:=blk_frozen BR9.out 0;have qR0:w9.cell? ⟨R,0,none⟩=some (.int .i64 0):=(blk_cell BR9.out 0).trans rfl;have fR1:=blk_frozen BR9.out 1;have qR1:w9.cell? ⟨R,1,none⟩=some (.string (⟨#[]⟩:ByteArray)):=(blk_cell BR9.out 1).trans rfl;have fR2:=blk_frozen BR9.out 2;have qR2:w9.cell? ⟨R,2,none⟩=some (.int .i64 0):=(blk_cell BR9.out 2).trans rfl;have fR3:=blk_frozen BR9.out 3;have qR3:w9.cell? ⟨R,3,none⟩=some (.slice none 0 0):=(blk_cell BR9.out 3).trans rfl;have fR4:=blk_frozen BR9.out 4;have qR4:w9.cell? ⟨R,4,none⟩=some (.slice none 0 0):=(blk_cell BR9.out 4).trans rfl;have fG0:=blk_frozen BG9.out 0;have qG0:w9.cell? ⟨G,0,none⟩=some (.int .i64 x1):=(blk_cell BG9.out 0).trans rfl;have fG1:=blk_frozen BG9.out 1;have qG1:w9.cell? ⟨G,1,none⟩=some (.string x2):=(blk_cell BG9.out 1).trans rfl;have fG2:=blk_frozen BG9.out 2;have qG2:w9.cell? ⟨G,2,none⟩=some (.int .i64 x3):=(blk_cell BG9.out 2).trans rfl;have fG3:=blk_frozen BG9.out 3;have qG3:w9.cell? ⟨G,3,none⟩=some (.slice Af h1.length cf):=(blk_cell BG9.out 3).trans rfl;have fG4:=blk_frozen BG9.out 4;have qG4:w9.cell? ⟨G,4,none⟩=some (.slice B4 0 d4):=(blk_cell BG9.out 4).trans rfl;clear hb9)
  | (have _:=M2;go_at_call 13;(try rw [← List.length_drop]);(with_reducible refine (CALL.out _ L9.out).mono ?_);rintro E w10 ⟨vb,rfl,hRb,hb10⟩;obtain ⟨Ab,cb,rfl⟩:=Kd.R_slice hRb;have SB:=Aside0.mk (Kd.R_mono (Kd.R_bound hRb) (fun q hq=>(⟨fun e=>by have z1:=hq.2.1;have z2:=blk_lt BG9.out;omega,fun e=>by have z1:=hq.2.1;have z2:=blk_lt BR9.out;omega⟩:q ≠ G∧q ≠ R)));have S10:=Aside0.mk (Kd.R_below S9.out hb10);have BG10:=Aside0.mk (blk_below BG9.out hb10);have BR10:=Aside0.mk (blk_below BR9.out hb10);have L10:=Aside0.mk (L9.out.trans (hbase L9.out.size hb10));have fR0:=blk_frozen BR10.out 0;have qR0:w10.cell? ⟨R,0,none⟩=some (.int .i64 0):=(blk_cell BR10.out 0).trans rfl;have fR1:=blk_frozen BR10.out 1;have qR1:w10.cell? ⟨R,1,none⟩=some (.string (⟨#[]⟩:ByteArray)):=(blk_cell BR10.out 1).trans rfl;have fR2:=blk_frozen BR10.out 2;have qR2:w10.cell? ⟨R,2,none⟩=some (.int .i64 0):=(blk_cell BR10.out 2).trans rfl;have fR3:=blk_frozen BR10.out 3;have qR3:w10.cell? ⟨R,3,none⟩=some (.slice none 0 0):=(blk_cell BR10.out 3).trans rfl;have fR4:=blk_frozen BR10.out 4;have qR4:w10.cell? ⟨R,4,none⟩=some (.slice none 0 0):=(blk_cell BR10.out 4).trans rfl;have fG0:=blk_frozen BG10.out 0;have qG0:w10.cell? ⟨G,0,none⟩=some (.int .i64 x1):=(blk_cell BG10.out 0).trans rfl;have fG1:=blk_frozen BG10.out 1;have qG1:w10.cell? ⟨G,1,none⟩=some (.string x2):=(blk_cell BG10.out 1).trans rfl;have fG2:=blk_frozen BG10.out 2;have qG2:w10.cell? ⟨G,2,none⟩=some (.int .i64 x3):=(blk_cell BG10.out 2).trans rfl;have fG3:=blk_frozen BG10.out 3;have qG3:w10.cell? ⟨G,3,none⟩=some (.slice Af h1.length cf):=(blk_cell BG10.out 3).trans rfl;have fG4:=blk_frozen BG10.out 4;have qG4:w10.cell? ⟨G,4,none⟩=some (.slice B4 0 d4):=(blk_cell BG10.out 4).trans rfl;clear hRb hb10)
  | (have _:=M3;go_at_call 13;(try rw [← List.length_drop]);(with_reducible refine (CALL.out _ L9.out).mono ?_);rintro E w10 ⟨vb,rfl,hRb,hb10⟩;obtain ⟨Ab,cb,rfl⟩:=Kd.R_slice hRb;have SB:=Aside0.mk (Kd.R_mono (Kd.R_bound hRb) (fun q hq=>(⟨fun e=>by have z1:=hq.2.1;have z2:=blk_lt BG9.out;omega,fun e=>by have z1:=hq.2.1;have z2:=blk_lt BR9.out;omega⟩:q ≠ G∧q ≠ R)));have S10:=Aside0.mk (Kd.R_below S9.out hb10);have BG10:=Aside0.mk (blk_below BG9.out hb10);have BR10:=Aside0.mk (blk_below BR9.out hb10);have L10:=Aside0.mk (L9.out.trans (hbase L9.out.size hb10));have fR0:=blk_frozen BR10.out 0;have qR0:w10.cell? ⟨R,0,none⟩=some (.int .i64 0):=(blk_cell BR10.out 0).trans rfl;have fR1:=blk_frozen BR10.out 1;have qR1:w10.cell? ⟨R,1,none⟩=some (.string (⟨#[]⟩:ByteArray)):=(blk_cell BR10.out 1).trans rfl;have fR2:=blk_frozen BR10.out 2;have qR2:w10.cell? ⟨R,2,none⟩=some (.int .i64 0):=(blk_cell BR10.out 2).trans rfl;have fR3:=blk_frozen BR10.out 3;have qR3:w10.cell? ⟨R,3,none⟩=some (.slice none 0 0):=(blk_cell BR10.out 3).trans rfl;have fR4:=blk_frozen BR10.out 4;have qR4:w10.cell? ⟨R,4,none⟩=some (.slice none 0 0):=(blk_cell BR10.out 4).trans rfl;have fG0:=blk_frozen BG10.out 0;have qG0:w10.cell? ⟨G,0,none⟩=some (.int .i64 x1):=(blk_cell BG10.out 0).trans rfl;have fG1:=blk_frozen BG10.out 1;have qG1:w10.cell? ⟨G,1,none⟩=some (.string x2):=(blk_cell BG10.out 1).trans rfl;have fG2:=blk_frozen BG10.out 2;have qG2:w10.cell? ⟨G,2,none⟩=some (.int .i64 x3):=(blk_cell BG10.out 2).trans rfl;have fG3:=blk_frozen BG10.out 3;have qG3:w10.cell? ⟨G,3,none⟩=some (.slice Af h1.length cf):=(blk_cell BG10.out 3).trans rfl;have fG4:=blk_frozen BG10.out 4;have qG4:w10.cell? ⟨G,4,none⟩=some (.slice B4 0 d4):=(blk_cell BG10.out 4).trans rfl;have BRX:=Aside0.mk ((Below.heap_setCell w10 ⟨G,4,none⟩ (.slice Ab z1.length cb) R (by have z1:=EG2.out;have z2:=blk_lt BR.out;show R ≠ G;omega)).trans BR10.out);have BGX:=Aside0.mk (blk_put BG10.out 4 (.slice Ab z1.length cb) rfl);have fR0:=blk_frozen BRX.out 0;have qR0:(w10.setCell ⟨G,4,none⟩ (.slice Ab z1.length cb)).cell? ⟨R,0,none⟩=some (.int .i64 0):=(blk_cell BRX.out 0).trans rfl;have fR1:=blk_frozen BRX.out 1;have qR1:(w10.setCell ⟨G,4,none⟩ (.slice Ab z1.length cb)).cell? ⟨R,1,none⟩=some (.string (⟨#[]⟩:ByteArray)):=(blk_cell BRX.out 1).trans rfl;have fR2:=blk_frozen BRX.out 2;have qR2:(w10.setCell ⟨G,4,none⟩ (.slice Ab z1.length cb)).cell? ⟨R,2,none⟩=some (.int .i64 0):=(blk_cell BRX.out 2).trans rfl;have fR3:=blk_frozen BRX.out 3;have qR3:(w10.setCell ⟨G,4,none⟩ (.slice Ab z1.length cb)).cell? ⟨R,3,none⟩=some (.slice none 0 0):=(blk_cell BRX.out 3).trans rfl;have fR4:=blk_frozen BRX.out 4;have qR4:(w10.setCell ⟨G,4,none⟩ (.slice Ab z1.length cb)).cell? ⟨R,4,none⟩=some (.slice none 0 0):=(blk_cell BRX.out 4).trans rfl;have fG0:=blk_frozen BGX.out 0;have qG0:(w10.setCell ⟨G,4,none⟩ (.slice Ab z1.length cb)).cell? ⟨G,0,none⟩=some (.int .i64 x1):=(blk_cell BGX.out 0).trans rfl;have fG1:=blk_frozen BGX.out 1;have qG1:(w10.setCell ⟨G,4,none⟩ (.slice Ab z1.length cb)).cell? ⟨G,1,none⟩=some (.string x2):=(blk_cell BGX.out 1).trans rfl;have fG2:=blk_frozen BGX.out 2;have qG2:(w10.setCell ⟨G,4,none⟩ (.slice Ab z1.length cb)).cell? ⟨G,2,none⟩=some (.int .i64 x3):=(blk_cell BGX.out 2).trans rfl;have fG3:=blk_frozen BGX.out 3;have qG3:(w10.setCell ⟨G,4,none⟩ (.slice Ab z1.length cb)).cell? ⟨G,3,none⟩=some (.slice Af h1.length cf):=(blk_cell BGX.out 3).trans rfl;have fG4:=blk_frozen BGX.out 4;have qG4:(w10.setCell ⟨G,4,none⟩ (.slice Ab z1.length cb)).cell? ⟨G,4,none⟩=some (.slice Ab z1.length cb):=(blk_cell BGX.out 4).trans rfl;clear hRb hb10))
 first
  | (have _:=E0;refine bodyPost_ret (results_ctt rfl _ _ R 27 #[.int .i64 0,.string (⟨#[]⟩:ByteArray),.int .i64 0,.slice none 0 0,.slice none 0 0] (0,0) _ rfl (blk5 BR7.out _ _ _ _ _) hu rfl (by kernel_rfl)) rfl ?_;exact resp_none (put5 (LR.out.trans (hbase LR.out.size HS.out.2.1)) (Nat.le_of_eq ER.out.symm) _ _ _ _ _))
  | (have _:=E1;refine bodyPost_ret (results_ctt rfl _ _ R 27 #[.int .i64 0,.string (⟨#[]⟩:ByteArray),.int .i64 0,.slice none 0 0,.slice none 0 0] (0,0) _ rfl (blk5 BR9.out _ _ _ _ _) hu rfl (by kernel_rfl)) rfl ?_;exact resp_none (put5 L9.out (Nat.le_of_eq ER.out.symm) _ _ _ _ _))
  | (have _:=E2;refine bodyPost_ret (results_ctt rfl _ _ R 27 #[.int .i64 0,.string (⟨#[]⟩:ByteArray),.int .i64 0,.slice none 0 0,.slice none 0 0] (0,0) _ rfl (blk5 BR10.out _ _ _ _ _) hu rfl (by kernel_rfl)) rfl ?_;exact resp_none (put5 L10.out (Nat.le_of_eq ER.out.symm) _ _ _ _ _))
  | (have _:=E3;refine bodyPost_ret (results_ctt rfl _ _ R 27 #[.int .i64 x1,.string x2,.int .i64 x3,.slice Af h1.length cf,.slice Ab z1.length cb] (0,0) _ rfl (blk5 BRX.out _ _ _ _ _) hu rfl (by kernel_rfl)) rfl ?_;exact ⟨_,_,rfl,Kd.R_lower (Kd.R_mono (R_put5 (Kd.R_far (p:=⟨G,4,none⟩) S10.out (fun q hq=>hq.1) _) _ _ _ _ _) (fun _ _=>trivial)) LR.out.size,Kd.R_lower (Kd.R_mono (R_put5 (Kd.R_far (p:=⟨G,4,none⟩) SB.out (fun q hq=>hq.1) _) _ _ _ _ _) (fun _ _=>trivial)) L9.out.size,put5 (L10.out.setCell (p:=⟨G,4,none⟩) (by have z1:=EG2.out;have z2:=LR.out.size;show _ ≤ G;omega) _) (Nat.le_of_eq ER.out.symm) _ _ _ _ _⟩)):p:=h
set_option maxHeartbeats 8000000 in
set_option maxRecDepth 100000 in
theorem http_Response.calls (k:Nat) (A0:Option Addr) (c0:Nat) (l0:List Int) (a1:ByteArray) (a2:Bool) (r1:Int) (r2:ByteArray) (r3:Int) (r4:List (S48)) (r5:List Int) (r6:Int) (r7:Bool) (w:World) (hr0:Kd.C (Kd.int .u8) w A0 l0.length l0) (hc0:l0.length ≤ c0) (h:http_Response.f k l0 a1 a2=some (r1,r2,r3,r4,r5,r6,r7)) :
 Calls Tryd.prog 6 #[.slice A0 l0.length c0,.string a1,.bool a2] w fun e w' => ∃ v4_ v5_:Value,e = .returned (.tuple #[.agg #[.int .i64 r1,.string r2,.int .i64 r3,v4_,v5_],.int .i64 r6,.bool r7])∧Kd.R k48 48 w' w.heap.size (fun _=>True) v4_ r4∧Kd.R (Kd.int .u8) 5 w' w.heap.size (fun _=>True) v5_ r5∧Below w.heap.size w w' := by
 show Calls _ _ _ _ (RespPost w r1 r2 r3 r4 r5 r6 r7)
 unfold http_Response.f at h
 obtain ⟨⟨h1,h2,h3,h4⟩,hh,h'⟩:=Option.bind_eq_some_iff.1 h
 clear h
 have h:=h'
 clear h'
 simp only at h
 have hu:=Tryd.underlying27
 have HC:=Aside0.mk hr0
 have HCC:=Aside0.mk hc0
 have HH:=Aside0.mk hh
 have eg : ∀ args w,(callFunc 10 args).run Tryd.prog w = .ok (.enter 10 args) w:=enters_of Tryd.func10 zb8 rfl
 have EG:=Aside0.mk eg
 clear hr0 hc0 hh eg
 by_cases b0:h2=0
 ·rw [if_pos b0] at h
  simp only [Option.some.injEq,Prod.mk.injEq] at h
  obtain ⟨rfl,rfl,rfl,rfl,rfl,rfl,e7⟩:=h
  subst b0
  by_cases b1:h3=0;rotate_left
  ·have d3:(h3 == 0)=false:=beq_eq_false_iff_ne.2 b1
   clear b1
   rw [d3,Bool.false_and] at e7
   subst e7
   have M0:=trivial;have E0:=trivial;exact http_Response_leaf
  subst b1
  cases a2
  ·subst e7
   have M0:=trivial;have E0:=trivial;exact http_Response_leaf
  ·subst e7
   have M0:=trivial;have E0:=trivial;exact http_Response_leaf
 rw [if_neg b0] at h
 have d2:(h2 == 0)=false:=beq_eq_false_iff_ne.2 b0
 clear b0
 obtain ⟨s,e4,h'⟩:=Option.bind_eq_some_iff.1 h
 subst e4
 clear h
 obtain ⟨⟨x1,x2,x3,x4,x5,x6⟩,hx,h⟩:=Option.bind_eq_some_iff.1 h'
 clear h'
 obtain ⟨⟨y1,y2,y3⟩,hy,h'⟩:=Option.bind_eq_some_iff.1 h
 clear h
 simp only at h'
 have h:=h'
 clear h'
 have HX:=Aside0.mk hx
 have HY:=Aside0.mk hy
 clear hx hy
 cases y3
 ·rw [if_neg zb30] at h
  simp only [Option.some.injEq,Prod.mk.injEq] at h
  obtain ⟨rfl,rfl,rfl,rfl,rfl,rfl,rfl⟩:=h
  have M1:=trivial;have E1:=trivial;exact http_Response_leaf
 rw [if_pos rfl] at h
 by_cases b1:0 ≤ h2;rotate_left
 ·rw [if_neg b1] at h
  cases h
 rw [if_pos b1] at h
 by_cases b2:h2 ≤ (l0.length:Int)
 ·rw [if_pos b2] at h
  obtain ⟨⟨z1,z2,z3⟩,hz,h'⟩:=Option.bind_eq_some_iff.1 h
  clear h
  simp only at h'
  have h:=h'
  clear h'
  obtain ⟨i0,hi0,_,hsz,_⟩:=info_parts info5
  obtain ⟨A',hsl,hrd,hcc'⟩:=print_drop_of (P:=Tryd.prog) (Value.int .u8) 0 22 5 .i64 Tryd.underlying22 hi0 hsz A0 c0 l0 h2 b1 b2 HCC.out
  have CALL:=Aside0.mk (fun (W:World) (hW:Below w.heap.size w W)=>http_rest.calls k A' _ (l0.drop h2.toNat) y1 y2 a2 z1 z2 z3 W (Kd.C_of_reads (h1:=fun _=>rfl) (hrd W (Kd.reads_of_C (Kd.C_below HC.out hW)))) hcc' hz)
  clear hrd hcc' hz b1 b2 hi0 hsz
  by_cases c1:z2 < 0
  ·rw [if_pos c1] at h
   simp only [Option.some.injEq,Prod.mk.injEq] at h
   obtain ⟨rfl,rfl,rfl,rfl,rfl,rfl,e7⟩:=h
   have m1:(z2 < 0)=True:=eq_true c1
   clear c1
   cases z3 <;> cases a2 <;> subst e7
   all_goals
    have M1:=trivial;have M2:=trivial;have E2:=trivial;exact http_Response_leaf
  rw [if_neg c1] at h
  have m1:(z2 < 0)=False:=eq_false c1
  clear c1
  cases z3
  ·rw [if_neg zb30] at h
   simp only [Option.some.injEq,Prod.mk.injEq] at h
   obtain ⟨rfl,rfl,rfl,rfl,rfl,rfl,rfl⟩:=h
   have M1:=trivial;have M2:=trivial;have E2:=trivial;exact http_Response_leaf
  rw [if_pos rfl] at h
  simp only [Option.some.injEq,Prod.mk.injEq] at h
  obtain ⟨rfl,rfl,rfl,rfl,rfl,rfl,rfl⟩:=h
  have M1:=trivial;have M3:=trivial;have E3:=trivial;exact http_Response_leaf
 ·rw [if_neg b2] at h
  cases h
def field_Line.f (a0_0:ByteArray) (a0_1:ByteArray):Option (ByteArray):=if a0_0.size + 2 ≤ 9223372036854775807 then (if (a0_0 ++ (⟨#[58,32]⟩:ByteArray)).size + a0_1.size ≤ 9223372036854775807 then (if ((a0_0 ++ (⟨#[58,32]⟩:ByteArray)) ++ a0_1).size + 2 ≤ 9223372036854775807 then (some (((a0_0 ++ (⟨#[58,32]⟩:ByteArray)) ++ a0_1) ++ (⟨#[13,10]⟩:ByteArray))) else (none)) else (none)) else (none)
set_option maxHeartbeats 8000000 in
set_option maxRecDepth 100000 in
theorem field_Line.calls (a0_0:ByteArray) (a0_1:ByteArray) (r:ByteArray) (w:World) (h:field_Line.f a0_0 a0_1=some r) :
 Calls Tryd.prog 27 #[.agg #[.string a0_0,.string a0_1]] w fun e w' => e = .returned (.string r)∧Below w.heap.size w w' := by
 have hu48:=Tryd.underlying48
 have HB:=Aside0.mk (Below.refl w.heap.size w)
 unfold field_Line.f at h
 have H:=h
 clear h
 by_cases c2:a0_0.size + 2 ≤ 9223372036854775807;rotate_left
 ·rw [if_neg c2] at H
  exact absurd H zb30
 rw [if_pos c2] at H
 have c2b0:=eq_true c2
 have c2b1:=decide_eq_true c2
 try have c2b2:(9223372036854775807 < a0_0.size + 2)=False:=eq_false (Nat.not_lt.2 c2)
 by_cases c3:(a0_0 ++ (⟨#[58,32]⟩:ByteArray)).size + a0_1.size ≤ 9223372036854775807
 ·rw [if_pos c3] at H
  have c3b0:=eq_true c3
  have c3b1:=decide_eq_true c3
  try have c3b2:(9223372036854775807 < (a0_0 ++ (⟨#[58,32]⟩:ByteArray)).size + a0_1.size)=False:=eq_false (Nat.not_lt.2 c3)
  try (have c3b3:=c3b0;simp only [ByteArray.size_append] at c3b3;have c3b4:=c3b2;simp only [ByteArray.size_append] at c3b4)
  try have c3b5:(9223372036854775807 < a0_0.size + 2 + a0_1.size)=False:=eq_false (by have q_:=c3;simp only [ByteArray.size_append] at q_;have e0_:(⟨#[58,32]⟩:ByteArray).size=2:=rfl;omega)
  try have c3b6:(a0_0.size + 2 + a0_1.size ≤ 9223372036854775807)=True:=eq_true (by have q_:=c3;simp only [ByteArray.size_append] at q_;have e0_:(⟨#[58,32]⟩:ByteArray).size=2:=rfl;omega)
  by_cases c4:((a0_0 ++ (⟨#[58,32]⟩:ByteArray)) ++ a0_1).size + 2 ≤ 9223372036854775807;rotate_left
  ·rw [if_neg c4] at H
   exact absurd H zb30
  rw [if_pos c4] at H
  have c4b0:=eq_true c4
  have c4b1:=decide_eq_true c4
  try have c4b2:(9223372036854775807 < ((a0_0 ++ (⟨#[58,32]⟩:ByteArray)) ++ a0_1).size + 2)=False:=eq_false (Nat.not_lt.2 c4)
  try (have c4b3:=c4b0;simp only [ByteArray.size_append] at c4b3;have c4b4:=c4b2;simp only [ByteArray.size_append] at c4b4)
  try have c4b5:(9223372036854775807 < a0_0.size + 2 + a0_1.size + 2)=False:=eq_false (by have q_:=c4;simp only [ByteArray.size_append] at q_;have e0_:(⟨#[58,32]⟩:ByteArray).size=2:=rfl;omega)
  try have c4b6:(a0_0.size + 2 + a0_1.size + 2 ≤ 9223372036854775807)=True:=eq_true (by have q_:=c4;simp only [ByteArray.size_append] at q_;have e0_:(⟨#[58,32]⟩:ByteArray).size=2:=rfl;omega)
  obtain rfl:=Option.some.inj H
  go_enter Tryd.func27,Tryd.ntmps27
  go_wp2_with (first|((with_reducible refine gate_dst (N:=1) rfl ?_);refine box_event rfl (N:=1) rfl (cs:=#[.string a0_0,.string a0_1]) (t:=48) zS ?_;intro gb236 hg w5 hbox hb;have GW236:=zG hg zb0;have GE236:=GW236;have BK236:=Aside0.mk hbox;replace HB:=Aside0.mk (below_step zb0 hb);clear hb hbox hg;obtain ⟨hcz6_0,hcz6_1,hfz6_0,hfz6_1⟩:=zq2 BK236.out))
  go_ret
  exact ⟨zb3,by repeat (first|(with_reducible first|exact HB.out|apply below_alloc|apply pw_below_drewN|apply below_drew1|refine below_set ?_ GE236.out)|exact HB.out)⟩
 ·rw [if_neg c3] at H
  exact absurd H zb30
/-- A slice of bytes that this call made,whatever stands behind its row: its cells can be written. -/
def BufM (w:World) (base:Nat) (v:Value) (xs:List Int):Prop := ∃ g cap,v = .slice (some ⟨g,0,none⟩) xs.length cap∧base ≤ g∧xs.length ≤ cap∧(∀ j u,xs[j]? = some u → w.cell? ⟨g,j,none⟩=some (.int .u8 u))∧(∀ j,j < cap → (w.cell? ⟨g,j,none⟩).isSome=true∧w.frozen? ⟨g,j,none⟩=false)
theorem BufM.form {w:World} {base:Nat} {v:Value} {xs:List Int} (h:BufM w base v xs) : ∃ A c,v = .slice A xs.length c:=by obtain ⟨g,cap,rfl,_⟩:=h;exact ⟨_,_,rfl⟩
theorem BufM.lower {w:World} {base b:Nat} {v:Value} {xs:List Int} (h:BufM w base v xs) (hb:b ≤ base):BufM w b v xs:=by obtain ⟨g,cap,e,hg,r⟩:=h;exact ⟨g,cap,e,Nat.le_trans hb hg,r⟩
theorem BufM.lt {w:World} {g j:Nat} (h:(w.cell? ⟨g,j,none⟩).isSome=true):g < w.heap.size:=by
 obtain ⟨u,hu⟩:=Option.isSome_iff_exists.1 h
 exact World.block_lt_of_cell? w _ hu
theorem BufM.below {w w1:World} {base:Nat} {v:Value} {xs:List Int} (h:BufM w base v xs) (hb:Below w.heap.size w w1):BufM w1 base v xs:=by
 obtain ⟨g,cap,e,hg,hc,h1,h2⟩:=h
 have hs : ∀ j,j < cap → w1.heap[g]? = w.heap[g]?:=fun j hj=>hb.block g (BufM.lt (h2 j hj).1)
 refine ⟨g,cap,e,hg,hc,fun j u hj=>?_,fun j hj=>?_⟩
 ·have hl:j < xs.length:=(List.getElem?_eq_some_iff.1 hj).1
  rw [World.cell?_of_block (a:=⟨g,j,none⟩) (hs j (by omega))]
  exact h1 j u hj
 rw [World.cell?_of_block (a:=⟨g,j,none⟩) (hs j hj),World.frozen?_of_block (a:=⟨g,j,none⟩) (hs j hj)]
 exact h2 j hj
theorem BufM.reads {w:World} {base:Nat} {v:Value} {xs:List Int} (h:BufM w base v xs) (hl:xs.length ≤ 9223372036854775807) : ∃ A c,v = .slice A xs.length c∧xs.length ≤ c∧Kd.C (Kd.int .u8) w A xs.length xs:=by
 obtain ⟨g,cap,e,hg,hc,h1,h2⟩:=h
 refine ⟨_,cap,e,hc,Kd.C_of_reads (h1:=fun _=>rfl) (d:=0) ⟨rfl,hl,fun _=>⟨_,rfl,fun j hj=>?_⟩⟩⟩
 have hadd:(⟨g,0,none⟩:Addr).add j=⟨g,j,none⟩:=by unfold Addr.add;split <;> simp_all
 rw [hadd,List.getD_eq_getElem?_getD,List.getElem?_eq_getElem (by omega)]
 exact h1 j _ (List.getElem?_eq_getElem (by omega))
theorem BufM.reads' {w:World} {base n c:Nat} {A:Option Addr} {xs:List Int} (h:BufM w base (.slice A n c) xs) (hl:xs.length ≤ 9223372036854775807):n=xs.length∧xs.length ≤ c∧Kd.C (Kd.int .u8) w A xs.length xs:=by
 obtain ⟨A',c',e,hc,hC⟩:=h.reads hl
 injection e with e1 e2 e3
 subst e1 e2 e3
 exact ⟨rfl,hc,hC⟩
/-- A slice of bytes that a call made out of a text: it is read,and stays. -/
def Kd.B (w:World) (base:Nat) (ok:Nat → Prop) (v:Value) (xs:List Int):Prop:=(∀ k,v.ownBlock=some k → ok k)∧BufM w base v xs∧0 < xs.length∧xs.length ≤ 9223372036854775807
theorem hbase2 {w w1:World} {b g:Nat} (hg:b ≤ g) (h:Below g w w1):Below b w w1:=⟨h.os,h.tape,h.output,h.size,fun i hi=>h.block i (Nat.lt_of_lt_of_le hi hg)⟩
theorem below_cells {a:World} {B g:Nat} (hg:B ≤ g) : ∀ (vs:List Value) (o:Nat) (w:World),Below B a w → Below B a (w.setCells g o vs)
 | [],_,_,h=>h
 | v :: r,o,w,h=>below_cells hg r (o + 1) (w.setCell ⟨g,o,none⟩ v) (h.setCell hg v)
theorem ints_cells (w:World) (g:Nat) (xs:List Int) (h1 : ∀ j u,xs[j]? = some u → w.cell? ⟨g,j,none⟩=some (.int .u8 u)) : ∀ j u,(xs.map (Value.int .u8))[j]? = some u → w.cell? ((⟨g,0,none⟩:Addr).add j)=some u:=by
 intro j u hj
 have hadd:(⟨g,0,none⟩:Addr).add j=⟨g,j,none⟩:=by unfold Addr.add;split <;> simp_all
 rw [List.getElem?_map] at hj
 obtain ⟨x,hx,rfl⟩:=Option.map_eq_some_iff.1 hj
 rw [hadd]
 exact h1 j x hx
/-- 'append' onto it,of a string's bytes or of a slice's. -/
theorem run_bufM {P:Program} (w:World) (base:Nat) (t tx ty e:TypeId) (i:TypeInfo) (ht:P.underlying t=some (.slice e)) (hi:P.info? e=some i) (hz:i.zero=some (.int .u8 0)) (hs1:i.size=1) (hb1:i.bytes=1)
 (v x:Value) (xs ys:List Int) (h:BufM w base v xs) (hs:Src P 1 tx x ys.length (ys.map (Value.int .u8)) w) (hn:xs.length + ys.length ≤ 140737488355328) (hbase:base ≤ w.heap.size) :
 ∃ v' w',(Builtin.append_ #[t,tx] ty #[v,x]).run P w = .ok v' w' ∧ BufM w' base v' (xs ++ ys)∧Below base w w' := by
 obtain ⟨g,cap,rfl,hg,hc,h1,h2⟩:=h
 have hs' : Src P i.size tx x ys.length (ys.map (Value.int .u8)) w:=by rw [hs1];exact hs
 by_cases hroom:xs.length + ys.length ≤ cap;rotate_left
 ·have hold:=run_firstCells_some (P:=P) w.drew 1 xs.length ⟨g,0,none⟩ xs.length cap (xs.map (Value.int .u8)) (by simp) (by intro j u hj;have:=ints_cells w g xs h1 j u hj;simpa using this)
  have hr:=run_append_grow_src (P:=P) w t tx ty e i (.int .u8 0) ht hi hz (some ⟨g,0,none⟩) xs.length cap (xs.map (Value.int .u8)) (by rw [hs1];exact hold) x ys.length (ys.map (Value.int .u8)) hs' (by omega) (by omega) (by rw [hb1];exact growslice_fits (by omega) (by omega))
  have hge:=grownCap_ge w (xs.length + ys.length) cap e
  have hnb : ∀ ob,(w.drew.alloc ob).heap[w.heap.size]? = some ob:=fun ob=>blk_new w.drew ob
  refine ⟨_,_,hr,⟨w.heap.size,_,by rw [List.length_append],hbase,by rw [List.length_append];exact hge,fun j u hj=>?_,fun j hj=>?_⟩,(below_drew (Below.refl _ _)).alloc hbase _⟩
  ·rw [blk_cell (hnb _) j,Array.getElem?_append_left (by simp;have:=(List.getElem?_eq_some_iff.1 hj).1;simp at this;omega)]
   simp only [List.getElem?_toArray]
   rw [← List.map_append,List.getElem?_map,hj]
   rfl
  refine ⟨?_,blk_frozen (hnb _) j⟩
  have hz1:(Value.int IntKind.u8 0).cells.size=1:=rfl
  rw [blk_cell (hnb _) j,Array.getElem?_eq_getElem (by simp only [Array.size_append,List.size_toArray,size_zeroCells,hz1,List.length_append,List.length_map];omega)]
  rfl
 have hr:=run_append_room_src (P:=P) w t tx ty e i ht hi g 0 xs.length cap x ys.length (ys.map (Value.int .u8)) hs' hroom
  (fun j hj=>by rw [hs1];simp only [List.length_map] at hj;exact (h2 (0 + xs.length * 1 + j) (by omega)).1) (fun j hj=>by rw [hs1];simp only [List.length_map] at hj;exact (h2 (0 + xs.length * 1 + j) (by omega)).2)
 rw [hs1,show 0 + xs.length * 1=xs.length by omega] at hr
 refine ⟨_,_,hr,⟨g,cap,by rw [List.length_append],hg,by rw [List.length_append];exact hroom,fun j u hj=>?_,fun j hj=>?_⟩,below_cells hg _ _ _ (Below.refl _ _)⟩
 ·by_cases hl:j < xs.length
  ·rw [List.getElem?_append_left hl] at hj
   rw [World.cell?_setCells_out g _ _ w ⟨g,j,none⟩ (fun _ _=>.inl hl)]
   exact h1 j u hj
  ·rw [List.getElem?_append_right (by omega)] at hj
   obtain ⟨hl2,e2⟩:=List.getElem?_eq_some_iff.1 hj
   have:=World.cell?_setCells_in g (ys.map (Value.int .u8)) xs.length w (fun q hq=>by simp only [List.length_map] at hq;exact (h2 _ (by omega)).1) (j - xs.length) (by simpa using hl2)
   rw [show xs.length + (j - xs.length)=j by omega] at this
   rw [this,List.getElem_map,e2]
 ·exact ⟨World.isSome_setCells g _ _ w _ (h2 j hj).1,by rw [World.frozen?_setCells];exact (h2 j hj).2⟩
theorem wp_bufM {P:Program} {ops:Array Oper} {rest:List Oper} {o:Oper} {a:Act} {Q:Exit → Act → World → Prop} {w:World} (hgd:o.guard=none) (sl x:Operand) (t tx:TypeId) (ho:o.op = .call { callee:=.builtin .append,args:=#[sl,x],argTypes:=#[t,tx] })
 (base:Nat) (e:TypeId) (i:TypeInfo) (ht:P.underlying t=some (.slice e)) (hi:P.info? e=some i) (hz:i.zero=some (.int .u8 0)) (hs1:i.size=1) (hb1:i.bytes=1) (v xv:Value) (xs ys:List Int) (hsl:a.eval sl=v) (hx:a.eval x=xv)
 (h:BufM w base v xs) (hs:Src P 1 tx xv ys.length (ys.map (Value.int .u8)) w) (hn:xs.length + ys.length ≤ 140737488355328) (hbase:base ≤ w.heap.size)
 (K : ∀ v' w',BufM w' base v' (xs ++ ys) → Below base w w' → wpList P ops Q rest (a.put o.dst v') w'):wpList P ops Q (o :: rest) a w:=by
 refine wpList_plain hgd fun K' hK=>?_
 obtain ⟨v',w',hr,h2,h3⟩:=run_bufM (P:=P) w base t tx o.type e i ht hi hz hs1 hb1 v xv xs ys h hs hn hbase
 unfold Oper.wp execOp
 simp only [ho,resolve,invoke,builtin,Sem.run_bind,Sem.run_pure,Result.andThen_ok,List.map_toArray,List.map_cons,List.map_nil,hsl,hx,hr]
 exact hK _ _ (K v' w' h2 h3)
theorem bufM_len (s:ByteArray):(bytesOf s).length=s.size:=by
 unfold bytesOf
 rw [List.length_map,Array.length_toList]
 rfl
theorem src_bytes {P:Program} (w:World) {tx:TypeId} (hk:P.underlying tx=some .string) (s:ByteArray):Src P 1 tx (.string s) (bytesOf s).length ((bytesOf s).map (Value.int .u8)) w:=by
 have h:=Src.ofString (P:=P) w hk s
 have e:(bytesOf s).map (Value.int .u8)=byteCells s:=by unfold bytesOf byteCells;rw [List.map_map];rfl
 rw [e,bufM_len]
 exact h
theorem src_ints {P:Program} {w:World} {tx e' : TypeId} (hk:P.underlying tx=some (.slice e')) {A:Option Addr} {c:Nat} {l:List Int} (h:Kd.C (Kd.int .u8) w A l.length l):Src P 1 tx (.slice A l.length c) l.length (l.map (Value.int .u8)) w:=by
 cases l with
 | nil=>cases A with
  | none=>exact Src.ofNil w hk c
  | some ad=>exact Src.ofSlice w hk ad 0 c [] rfl (fun j u hj=>by simp at hj) (fun u hu=>by cases hu)
 | cons x r =>
  obtain ⟨ad,rfl,hc⟩:=(Kd.reads_of_C (d:=0) h).2.2 (by simp)
  refine Src.ofSlice w hk ad _ c _ (by simp) (fun j u hj=>?_) (fun u hu=>by obtain ⟨_,_,rfl⟩:=List.mem_map.1 hu;rfl)
  rw [List.getElem?_map] at hj
  obtain ⟨y,hy,rfl⟩:=Option.map_eq_some_iff.1 hj
  obtain ⟨hl,e2⟩:=List.getElem?_eq_some_iff.1 hy
  have:=hc j hl
  rw [List.getD_eq_getElem?_getD,List.getElem?_eq_getElem hl,e2] at this
  exact this
theorem bufM_conv (w:World) (e:TypeId) (s:ByteArray):BufM (Lib.bytesWorld w e s) w.heap.size (.slice (some ⟨w.heap.size,0,none⟩) s.size (grownCap w s.size 0 e)) (bytesOf s):=by
 have hge:=grownCap_ge w s.size 0 e
 have hsz:(Lib.bytesCells w e s).size=grownCap w s.size 0 e:=by
  have h1:s.data.size=s.size:=rfl
  simp only [Lib.bytesCells,Array.size_append,Array.size_map,Array.size_replicate,h1];omega
 refine ⟨w.heap.size,_,by rw [bufM_len],Nat.le_refl _,by rw [bufM_len];exact hge,fun j u hj=>?_,fun j hj=>⟨?_,?_⟩⟩
 ·have hl:j < s.size:=by have:=(List.getElem?_eq_some_iff.1 hj).1;rw [bufM_len] at this;exact this
  rw [Lib.bytesWorld_cell w e s j hl]
  unfold bytesOf at hj
  rw [List.getElem?_map] at hj
  obtain ⟨y,hy,rfl⟩:=Option.map_eq_some_iff.1 hj
  rw [List.getD_eq_getElem?_getD,hy]
  rfl
 ·simp only [World.cell?,Lib.bytesWorld_at_new]
  rw [Array.getElem?_eq_getElem (by rw [hsz];exact hj)]
  rfl
 simp only [World.frozen?,Lib.bytesWorld_at_new,Bool.and_eq_false_iff,decide_eq_false_iff_not]
 left
 rw [hsz]
 omega
def http_write.l:Nat → List (S48) → List Int → Int → List Int → Option (List Int)
 | 0,_,_,_,_=>none
 | k + 1,fs,b,i,out=>if i < (fs.length:Int) then (if 0 ≤ i then ((field_Line.f (rd_T48 fs i).f0 (rd_T48 fs i).f1).bind fun s=>if out.length + s.size ≤ 140737488355328 then http_write.l k fs b (wrap64 (i + 1)) (out ++ bytesOf s) else none) else none) else (if out.length + 2 + b.length ≤ 140737488355328 then some ((out ++ [13,10]) ++ b) else none)
def http_write.f (k:Nat) (a0:ByteArray) (l1:List (S48)) (l2:List Int):Option (List Int):=http_write.l k l1 l2 0 (bytesOf a0)
set_option maxHeartbeats 8000000 in
set_option maxRecDepth 100000 in
theorem http_write.callsB (k:Nat) (a0:ByteArray) (A1:Option Addr) (c1:Nat) (l1:List (S48)) (A2:Option Addr) (c2:Nat) (l2:List Int) (r:List Int) (w:World) (hr1:Kd.C k48 w A1 l1.length l1) (hc1:l1.length ≤ c1) (hr2:Kd.C (Kd.int .u8) w A2 l2.length l2) (hc2:l2.length ≤ c2) (h:http_write.f k a0 l1 l2=some r) :
 Calls Tryd.prog 14 #[.string a0,.slice A1 l1.length c1,.slice A2 l2.length c2] w fun e w' => ∃ v,e = .returned v∧BufM w' w.heap.size v r∧Below w.heap.size w w' := by
 have hu:=Tryd.underlying48
 have hconv : ∀ W:World,(convert 9 22 (.string a0)).run Tryd.prog W = .ok (.slice (some ⟨W.heap.size,0,none⟩) a0.size (grownCap W a0.size 0 5)) (Lib.bytesWorld W 5 a0):=fun W=>Lib.run_convert_string_bytes W _ _ _ a0 Tryd.underlying9 Tryd.underlying22 Tryd.underlying5
 obtain ⟨i0,hi0,hz0,hsz0,hby0⟩:=info_parts info5
 have HI:=Aside0.mk (And.intro hi0 (And.intro hz0 (And.intro hsz0 hby0)))
 have HR1:=Aside0.mk hr1
 have HR2:=Aside0.mk hr2
 have H' := Aside0.mk (show http_write.l k l1 l2 0 (bytesOf a0)=some r from h)
 clear hr1 hc1 hr2 hc2 h hi0 hz0 hsz0 hby0
 go_enter Tryd.func14,Tryd.ntmps14
 go_wp2
 go_loopg [7,14] k (fun kq v7 v14 w' => ∃ (i:Int) (out:List Int),v14 = .int .i64 i∧Aside0 (http_write.l kq l1 l2 i out=some r)∧Aside0 (BufM w' w.heap.size v7 out)∧Aside0 (Below w.heap.size w w'))
 case atStart=>exact ⟨0,bytesOf a0,rfl,H',⟨bufM_conv w _ a0⟩,⟨bytes_below (Below.refl _ _) (Nat.le_refl _) _ _⟩⟩
 case round =>
  clear H'
  obtain ⟨i,out,rfl,HA,BU,HB⟩:=hrel
  cases gk with
  | zero=>exact absurd HA.out (by simp [http_write.l])
  | succ k =>
   have h:=HA.out
   clear HA
   simp only [http_write.l] at h
   obtain ⟨Ab,cb,eb⟩:=BU.out.form
   subst eb
   by_cases b0:i < (l1.length:Int);rotate_left
   ·rw [if_neg b0] at h
    have d0:decide (i < (l1.length:Int))=false:=decide_eq_false b0
    replace b0:=eq_false b0
    by_cases b2:out.length + 2 + l2.length ≤ 140737488355328;rotate_left
    ·rw [if_neg b2] at h
     cases h
    rw [if_pos b2] at h
    simp only [Option.some.injEq] at h
    subst h
    have LM:=Aside0.mk b2
    clear b2
    go_wp2_with (first
     | ((with_reducible refine gate_builtin (b:=.append) (xs:=#[.tmp 23,.const (.string ⟨#[13,10]⟩)]) rfl ?_);at_builtin;refine wp_bufM rfl (.tmp 23) (.const (.string ⟨#[13,10]⟩)) 22 9 rfl w.heap.size 5 i0 Tryd.underlying22 HI.out.1 HI.out.2.1 HI.out.2.2.1 HI.out.2.2.2 _ (.string ⟨#[13,10]⟩) out [13,10] rfl rfl BU.out (src_bytes _ Tryd.underlying9 ⟨#[13,10]⟩) (by have z:=LM.out;simp only [List.length_cons,List.length_nil];omega) HB.out.size ?_;intro v3 w3 hB3 hb3;obtain ⟨y3,hy3⟩ : ∃ y,y=out ++ [13,10]:=⟨_,rfl⟩;rw [← hy3] at hB3;have HY:=Aside0.mk hy3;obtain ⟨A3,c3,e3⟩:=hB3.form;subst e3;clear hy3;have B3:=Aside0.mk hB3;have L3:=Aside0.mk (HB.out.trans hb3);clear hB3 hb3)
     | ((with_reducible refine gate_builtin (b:=.append) (xs:=#[.tmp 24,.tmp 25]) rfl ?_);at_builtin;refine wp_bufM rfl (.tmp 24) (.tmp 25) 22 22 rfl w.heap.size 5 i0 Tryd.underlying22 HI.out.1 HI.out.2.1 HI.out.2.2.1 HI.out.2.2.2 _ (.slice A2 l2.length c2) y3 l2 rfl rfl B3.out (src_ints Tryd.underlying22 (Kd.C_below HR2.out L3.out)) (by have z:=LM.out;rw [HY.out];simp only [List.length_append,List.length_cons,List.length_nil];omega) L3.out.size ?_;intro v4 w4 hB4 hb4;have B4:=Aside0.mk hB4;have L4:=Aside0.mk (L3.out.trans hb4);clear hB4 hb4))
    go_ret
    exact ⟨_,rfl,by rw [← HY.out];exact B4.out,L4.out⟩
   rw [if_pos b0] at h
   by_cases b1:0 ≤ i
   ·rw [if_pos b1] at h
    obtain ⟨s,hl,h'⟩:=Option.bind_eq_some_iff.1 h
    clear h
    by_cases b2:out.length + s.size ≤ 140737488355328
    ·rw [if_pos b2] at h'
     have H2:=Aside0.mk h'
     have HL:=Aside0.mk hl
     have LM:=Aside0.mk b2
     clear h' hl b2
     obtain ⟨ad,e1,hx0,hx1⟩:=at_T48 HR1.out i b1 b0
     cases e1
     replace hx0:=(HB.out.cell (World.block_lt_of_cell? w _ hx0)).trans hx0
     replace hx1:=(HB.out.cell (World.block_lt_of_cell? w _ hx1)).trans hx1
     have d0:decide (i < (l1.length:Int))=true:=decide_eq_true b0
     replace b0:=eq_true b0
     replace b1:=eq_true b1
     go_wp2_with (first
      | (go_at_call 27;refine (field_Line.calls _ _ s _ HL.out).mono ?_;rintro E w2 ⟨rfl,hb2⟩;have B2:=Aside0.mk ((BU.out.below (below_alloc (Below.refl _ _) _)).below hb2);have L2:=Aside0.mk ((below_alloc HB.out _).trans (hbase2 (below_alloc HB.out _).size hb2));clear hb2)
      | ((with_reducible refine gate_builtin (b:=.append) (xs:=#[.tmp 18,.tmp 20]) rfl ?_);at_builtin;refine wp_bufM rfl (.tmp 18) (.tmp 20) 22 9 rfl w.heap.size 5 i0 Tryd.underlying22 HI.out.1 HI.out.2.1 HI.out.2.2.1 HI.out.2.2.2 _ (.string s) out (bytesOf s) rfl rfl B2.out (src_bytes _ Tryd.underlying9 s) (by rw [bufM_len];exact LM.out) L2.out.size ?_;intro v3 w3 hB3 hb3;have B3:=Aside0.mk hB3;have L3:=Aside0.mk (L2.out.trans hb3);clear hB3 hb3))
     go_roundg k
     case rel=>exact ⟨wrap64 (i + 1),out ++ bytesOf s,(by first|rfl|(simp;done)),H2,B3,L3⟩
     case measure=>exact Nat.lt_succ_self k
    ·rw [if_neg b2] at h'
     cases h'
   ·rw [if_neg b1] at h
    cases h
theorem tz64_16 (w:World) (ht:Tabs w):Calls Tryd.prog 91 #[.int .u64 16] w fun e w' => e = .returned (.int .i64 4)∧Drawn0 w w' := by
 have hc:w.cell? ⟨5,15,none⟩=some (.int .u8 4):=ht.2.cell globalDeBruijn64 15 (by decide)
 have hb:Go.bits .and .u64 16 18446744073709551600=16:=by decide +kernel
 have hw1:IntKind.u64.wrap (-16)=18446744073709551600:=by decide +kernel
 have hw2:IntKind.u64.wrap (16 * 285870213051353865)=4573923408821661840:=by decide +kernel
 have hw3:IntKind.u64.wrap 4573923408821661840=4573923408821661840:=by decide +kernel
 have hw4:(4573923408821661840:Int) / 288230376151711744=15:=by decide +kernel
 clear ht
 go_enter Tryd.func91,Tryd.ntmps91
 go_wp2
 go_ret
 exact ⟨rfl,by repeat (first|exact Drawn0.refl _|apply Drawn0.step)⟩
theorem tz_16 (w:World) (ht:Tabs w):Calls Tryd.prog 85 #[.int .u64 16] w fun e w' => e = .returned (.int .i64 4)∧Drawn0 w w' := by
 go_enter Tryd.func85,Tryd.ntmps85
 go_wp2_with (go_at_call 91;(with_reducible refine (tz64_16 _ ht).mono ?_);rintro e w' ⟨rfl,⟨nd,rfl⟩⟩)
 go_ret
 exact ⟨rfl,by repeat (first|exact Drawn0.refl _|apply Drawn0.step)⟩
def strconv_isPowerOfTwo.f (a0:Int):Option (Bool):=some ((Go.bits .and .i64 a0 (wrap64 (a0 - 1))) == 0)
set_option maxHeartbeats 8000000 in
set_option maxRecDepth 100000 in
theorem strconv_isPowerOfTwo.calls (a0:Int) (r:Bool) (w:World) (h:strconv_isPowerOfTwo.f a0=some r) :
 Calls Tryd.prog 84 #[.int .i64 a0] w fun e w' => e = .returned (.bool r)∧Drawn0 w w' := by
 unfold strconv_isPowerOfTwo.f at h
 have H:=h
 clear h
 obtain rfl:=Option.some.inj H
 go_enter Tryd.func84,Tryd.ntmps84
 go_wp2
 go_ret
 exact ⟨zb6,zb13⟩
/-- A digit of the base 16. -/
def hexd (d:Nat):Int:=if d < 10 then 48 + d else 87 + d
/-- The digits of the base 16. -/
def hexD (u:Nat):List Int:=if h:u < 16 then [hexd u] else hexD (u / 16) ++ [hexd (u % 16)]
termination_by u
decreasing_by omega
theorem hexD_small (u:Nat) (h:u < 16):hexD u=[hexd u]:=by rw [hexD,dif_pos h]
theorem hexD_big (u:Nat) (h:16 ≤ u):hexD u=hexD (u / 16) ++ [hexd (u % 16)]:=by rw [hexD,dif_neg (by omega)]
/-- The last cells of the array of 65. -/
def Row65 (w:World) (g:Nat) (suf:List Int):Prop := ∃ cs,w.heap[g]? = some (.cells cs 119 (0,0))∧cs.size=65∧cs.toList.drop (65 - suf.length)=nums .u8 suf
theorem Row65.cell {w:World} {g:Nat} {suf:List Int} (h:Row65 w g suf) (j:Nat) (hj:j < 65) : ∃ v,w.cell? ⟨g,j,none⟩=some v:=by
 obtain ⟨cs,hb,hs,_⟩:=h
 rw [cell_of_row _ _ _ _ _ _ hb]
 exact ⟨_,Array.getElem?_eq_getElem (by omega)⟩
theorem Row65.free {w:World} {g:Nat} {suf:List Int} (h:Row65 w g suf) (j:Nat):w.frozen? ⟨g,j,none⟩=false:=by
 obtain ⟨cs,hb,_,_⟩:=h
 simp [World.frozen?,hb]
theorem Row65.set {w:World} {g:Nat} {suf:List Int} (h:Row65 w g suf) (hl:suf.length < 65) (v:Int):Row65 (w.setCell ⟨g,64 - suf.length,none⟩ (.int .u8 v)) g (v :: suf):=by
 obtain ⟨cs,hb,hs,hd⟩:=h
 refine ⟨cs.setIfInBounds (64 - suf.length) (.int .u8 v),by simp [World.setCell,Array.getElem?_modify,hb],by simpa using hs,?_⟩
 have hlen:cs.toList.length=65:=by rw [Array.length_toList];exact hs
 rw [Array.toList_setIfInBounds,List.length_cons,show 65 - (suf.length + 1)=64 - suf.length by omega,List.drop_set,if_neg (by omega),Nat.sub_self,List.drop_eq_getElem_cons (by omega),List.set_cons_zero,show 64 - suf.length + 1=65 - suf.length by omega,hd]
 rfl
theorem Row65.reads {w:World} {g:Nat} {suf:List Int} (h:Row65 w g suf) (hl:suf.length ≤ 65):ReadsInt w .u8 (some ⟨g,65 - suf.length,none⟩) suf.length suf:=by
 obtain ⟨cs,hb,hs,hd⟩:=h
 refine ⟨rfl,by omega,fun _=>⟨_,rfl,fun j hj=>?_⟩⟩
 have ha:(⟨g,65 - suf.length,none⟩:Addr).add j=⟨g,65 - suf.length + j,none⟩:=by
  unfold Addr.add;split <;> simp_all
 rw [ha,cell_of_row _ _ _ _ _ _ hb]
 have h1:(cs.toList.drop (65 - suf.length))[j]? = (nums .u8 suf)[j]?:=by rw [hd]
 rw [List.getElem?_drop] at h1
 rw [← Array.getElem?_toList,h1]
 simp [nums,List.getD_eq_getElem?_getD,List.getElem?_eq_getElem hj]
theorem pow_step (u l:Nat) (hl:l ≤ 15) (h:u < 16 ^ (16 - l)) (hu:16 ≤ u):l ≤ 14∧u / 16 < 16 ^ (16 - (l + 1)):=by
 have h14:l ≤ 14:=by
  rcases Nat.lt_or_ge l 15 with h1|h1
  ·omega
  obtain rfl:l=15:=by omega
  simp at h
  omega
 refine ⟨h14,?_⟩
 have e:16 ^ (16 - l)=16 ^ (16 - (l + 1)) * 16:=by rw [← Nat.pow_succ];congr 1;omega
 rw [e] at h
 exact (Nat.div_lt_iff_lt_mul (by decide)).2 h
theorem hexd_at (d:Int) (h0:0 ≤ d) (h1:d < 16):bt (⟨#[48,49,50,51,52,53,54,55,56,57,97,98,99,100,101,102,103,104,105,106,107,108,109,110,111,112,113,114,115,116,117,118,119,120,121,122]⟩:ByteArray) d=hexd d.toNat:=by
 obtain ⟨n,rfl⟩:=Int.eq_ofNat_of_zero_le h0
 have h : ∀ m:Fin 16,bt (⟨#[48,49,50,51,52,53,54,55,56,57,97,98,99,100,101,102,103,104,105,106,107,108,109,110,111,112,113,114,115,116,117,118,119,120,121,122]⟩:ByteArray) (m.val:Int)=hexd m.val:=by decide +kernel
 exact h ⟨n,by omega⟩
set_option maxHeartbeats 8000000 in
set_option maxRecDepth 100000 in
theorem formatBits_16 (n:Nat) (hn:n < 18446744073709551616) (w:World) (ht:Tabs w) :
 Calls Tryd.prog 73 #[.slice none 0 0,.int .u64 n,.int .i64 16,.bool false,.bool false] w fun e w' => e = .returned (.tuple #[.slice none 0 0,.string (strOfNums (hexD n))])∧Below w.heap.size w w' := by
 have HT:=Aside0.mk ht
 clear ht
 have HB:=Aside0.mk (Below.refl w.heap.size w)
 have HN:=Aside0.mk hn
 clear hn
 go_enter Tryd.func73,Tryd.ntmps73
 go_wp2_with (first
  | (go_at_call 84;(with_reducible refine (strconv_isPowerOfTwo.calls 16 true _ (by decide +kernel)).mono ?_);rintro e w1 ⟨rfl,⟨nd,rfl⟩⟩)
  | (go_at_call 85;(with_reducible refine (tz_16 _ ?ht).mono ?_);(case ht=>exact HT.out.below (by repeat (first|exact HB.out|apply below_alloc|apply pw_below_drewN)));rintro e w2 ⟨rfl,⟨nd2,rfl⟩⟩))
 go_loopw [1,13] (fun v1 v13 wr => ∃ (u i:Int) (suf:List Int),v1 = .int .u64 u∧v13 = .int .i64 i∧Aside0 (0 ≤ u∧i=65 - suf.length∧suf.length ≤ 15∧u.toNat < 16 ^ (16 - suf.length))∧Aside0 (hexD n=hexD u.toNat ++ suf)∧Aside0 (Row65 wr w.heap.size suf)∧Aside0 (Below w.heap.size w wr)) (fun v1 _ _=>(intOf v1).toNat)
 case atStart =>
  refine ⟨n,65,[],rfl,rfl,⟨by omega,by simp,by simp,by have:=HN.out;simpa using this⟩,⟨by simp⟩,⟨⟨Tryd.zeroCells119,?_,by kernel_rfl,by kernel_rfl⟩⟩,⟨by repeat (first|exact HB.out|apply below_alloc|apply pw_below_drewN)⟩⟩
  show (w.heap.push _)[w.heap.size]? = _
  simp
 case round =>
  obtain ⟨u,i,suf,rfl,rfl,HU,HE,HR,HB2⟩:=hrel
  clear HB
  have hu0:0 ≤ u:=HU.out.1
  have hi0:1 ≤ i:=by have:=HU.out;omega
  have hi1:i ≤ 65:=by have:=HU.out;omega
  have hu1:u ≤ 18446744073709551615:=by
   have h1:=HU.out.2.2.2
   have h2:16 ^ (16 - suf.length) ≤ 16 ^ 16:=Nat.pow_le_pow_right (by decide) (by omega)
   have h3:(16:Nat) ^ 16=18446744073709551616:=by decide
   omega
  have hj:i - 1=((64 - suf.length:Nat):Int):=by have:=HU.out;omega
  obtain ⟨cv,hc⟩:=HR.out.cell (64 - suf.length) (by omega)
  have hf:=HR.out.free (64 - suf.length)
  have hjt:i.toNat - 1=64 - suf.length:=by omega
  rw [← hjt] at hc hf
  by_cases hb:16 ≤ u
  ·have hb1:decide (16 ≤ u)=true:=decide_eq_true hb
   have hb2:decide (u ≥ 16)=true:=decide_eq_true hb
   obtain ⟨D,hD⟩ : ∃ D,Go.bits .and .u64 u 15=D:=⟨_,rfl⟩
   have hDm:D=u % 16:=by rw [← hD];exact bits_mask .u64 64 (by decide) (by intro x h0 h1;simp [IntKind.wrap,IntKind.bits,IntKind.signed];omega) 4 (by decide) u hu0 (by omega)
   have hD0:0 ≤ D:=by omega
   have hD1:D < 16:=by omega
   have hx:=bt_at (⟨#[48,49,50,51,52,53,54,55,56,57,97,98,99,100,101,102,103,104,105,106,107,108,109,110,111,112,113,114,115,116,117,118,119,120,121,122]⟩:ByteArray) D
   have HD:=Aside0.mk hDm
   have HX:=hexd_at D hD0 hD1
   have HX' := Aside0.mk HX
   have HJ:=Aside0.mk (And.intro hj hjt)
   have HB' := Aside0.mk hb
   clear HX hDm hj hjt hb
   go_wp2
   refine ⟨⟨u / 16,i - 1,hexd D.toNat :: suf,rfl,rfl,?_,⟨?_⟩,⟨?_⟩,⟨HB2.out.setCell (Nat.le_refl _) _⟩⟩,?_⟩
   ·obtain ⟨h14,hp⟩:=pow_step u.toNat suf.length HU.out.2.2.1 HU.out.2.2.2 (by have:=HB'.out;omega)
    have hq:(u / 16).toNat=u.toNat / 16:=by omega
    exact ⟨by omega,by have:=HU.out;rw [List.length_cons];omega,by rw [List.length_cons];omega,by rw [hq,List.length_cons];exact hp⟩
   ·rw [HE.out,hexD_big u.toNat (by have:=HB'.out;omega),show (u / 16).toNat=u.toNat / 16 by omega,show D.toNat=u.toNat % 16 by have:=HD.out;omega,List.append_assoc]
    rfl
   ·rw [HJ.out.2,HX'.out]
    exact HR.out.set (by have:=HU.out;omega) _
   have:=HB'.out
   simp only [intOf]
   omega
  have hb1:decide (16 ≤ u)=false:=decide_eq_false hb
  have hb2:decide (u ≥ 16)=false:=decide_eq_false hb
  have hu2:u < 16:=by omega
  have hx:=bt_at (⟨#[48,49,50,51,52,53,54,55,56,57,97,98,99,100,101,102,103,104,105,106,107,108,109,110,111,112,113,114,115,116,117,118,119,120,121,122]⟩:ByteArray) u
  have HX' := Aside0.mk (hexd_at u hu0 hu2)
  have HJ:=Aside0.mk (And.intro hj hjt)
  have HB' := Aside0.mk hb
  have hal:Tryd.prog.arrayLen 119=65:=by simp [Program.arrayLen,Tryd.underlying119]
  have hsl : ∀ W,(Instr.sliceAt 119 (.pointer (some ⟨w.heap.size,0,none⟩)) (some (.int .i64 (i - 1))) none none).run Tryd.prog W = .ok (.slice (some ⟨w.heap.size,64 - suf.length,none⟩) (suf.length + 1) (suf.length + 1)) W:=by
   intro W
   have hl65:64 - suf.length + (suf.length + 1)=65:=by have:=HU.out;omega
   rw [hj,run_sliceAt_array_l W 119 ⟨w.heap.size,0,none⟩ (by simp [Program.arrayLen,Program.elem,Tryd.underlying119]) .i64 _ (by omega) (by rw [hal];omega),hal,Int.toNat_natCast]
   have he:Tryd.prog.elem 119=5:=by simp [Program.elem,Tryd.underlying119]
   rw [he,(show (sizeOf 5).run Tryd.prog W = .ok 1 W by kernel_rfl)]
   show Result.ok (slicedAt ⟨w.heap.size,0,none⟩ (64 - suf.length) 65 65 1) W=_
   unfold slicedAt
   rw [if_neg (by omega),Nat.mul_one,add_plain,show 65 - (64 - suf.length)=suf.length + 1 by omega]
  have hR2:=(HR.out.set (by have:=HU.out;omega) (bt (⟨#[48,49,50,51,52,53,54,55,56,57,97,98,99,100,101,102,103,104,105,106,107,108,109,110,111,112,113,114,115,116,117,118,119,120,121,122]⟩:ByteArray) u)).reads (by rw [List.length_cons];have:=HU.out;omega)
  rw [List.length_cons,show 65 - (suf.length + 1)=64 - suf.length by omega,← hjt] at hR2
  have hcv:=string_of_reads (P:=Tryd.prog) (src:=22) (dst:=9) (c:=suf.length + 1) Tryd.underlying22 Tryd.underlying5 Tryd.underlying9 hR2
  rw [hjt] at hcv
  rw [← hjt] at hsl hcv
  have HE2:=Aside0.mk (show strOfNums (bt (⟨#[48,49,50,51,52,53,54,55,56,57,97,98,99,100,101,102,103,104,105,106,107,108,109,110,111,112,113,114,115,116,117,118,119,120,121,122]⟩:ByteArray) u :: suf)=strOfNums (hexD n) by rw [HE.out,hexD_small u.toNat (by omega),HX'.out];rfl)
  have q3:(u < 36)=True:=eq_true (by omega)
  have q4:(36 ≤ u)=False:=eq_false (by omega)
  clear hj hjt hb hR2 hal hu2
  go_wp2
  go_ret2
  exact ⟨by first|rfl|(rw [HE2.out];rfl),HB2.out.setCell (Nat.le_refl _) _⟩
/-- At the base 10,and of a number from 0 on at the base 16. -/
def strconv_FormatInt_52.f (a0 a1:Int):Option ByteArray :=
 if a1=10 then (if -9223372036854775808 ≤ a0∧a0 ≤ 9223372036854775807 then some ⟨(Lib.itoa a0).toArray⟩ else none)
 else if a1=16 then (if 0 ≤ a0∧a0 ≤ 9223372036854775807 then some (strOfNums (hexD a0.toNat)) else none)
 else none
theorem below_grow {w:World} (k:Nat) (os:Array Obj):Below w.heap.size w (Go.Sort.grow (w.drewN k) os) :=
 ⟨rfl,rfl,rfl,by simp [Go.Sort.grow],fun b hb=>by simp only [Go.Sort.grow];rw [Array.getElem?_append_left (by simpa using hb)];rfl⟩
set_option maxHeartbeats 4000000 in
theorem formatInt_16 (a0:Int) (h0:0 ≤ a0) (h1:a0 ≤ 9223372036854775807) (w:World) (ht:Tabs w) :
 Calls Tryd.prog 52 #[.int .i64 a0,.int .i64 16] w fun e w' => e = .returned (.string (strOfNums (hexD a0.toNat)))∧Below w.heap.size w w' := by
 have HT:=Aside0.mk ht
 clear ht
 have hw:IntKind.u64.wrap a0=a0:=by simp [IntKind.wrap,IntKind.bits,IntKind.signed];omega
 have HF:=Aside0.mk (formatBits_16 a0.toNat (by omega))
 have hn:((a0.toNat:Nat):Int)=a0:=by omega
 rw [hn] at HF
 clear hn
 have hneg:decide (a0 < 0)=false:=decide_eq_false (by omega)
 go_enter Tryd.func52,Tryd.ntmps52
 go_wp2_with (go_at_call 73;(with_reducible refine (HF.out _ HT.out).mono ?_);rintro e w1 ⟨rfl,hb⟩)
 go_ret
 exact ⟨rfl,hb⟩
theorem strconv_FormatInt_52.calls (a0 a1:Int) (r:ByteArray) (w:World) (h:strconv_FormatInt_52.f a0 a1=some r) (ht:Tabs w) :
 Calls Tryd.prog 52 #[.int .i64 a0,.int .i64 a1] w fun e w' => e = .returned (.string r)∧Below w.heap.size w w' := by
 unfold strconv_FormatInt_52.f at h
 split at h
 ·rename_i h10
  subst h10
  split at h
  ·rename_i hr
   obtain rfl:=Option.some.inj h
   refine (Tryd.internal_strconv_FormatInt_10 a0 hr.1 hr.2 w ht.1).mono ?_
   rintro e w' ⟨rfl,k,os,rfl⟩
   exact ⟨rfl,below_grow k os⟩
  cases h
 split at h
 ·rename_i h16
  subst h16
  split at h
  ·rename_i hr
   obtain rfl:=Option.some.inj h
   exact formatInt_16 a0 hr.1 hr.2 w ht
  cases h
 cases h
def strconv_FormatInt_40.f (a0:Int) (a1:Int):Option (ByteArray):=(strconv_FormatInt_52.f a0 a1).bind fun t255=>(some t255)
set_option maxHeartbeats 8000000 in
set_option maxRecDepth 100000 in
theorem strconv_FormatInt_40.calls (a0:Int) (a1:Int) (r:ByteArray) (w:World) (h:strconv_FormatInt_40.f a0 a1=some r) (ht:Tabs w) :
 Calls Tryd.prog 40 #[.int .i64 a0,.int .i64 a1] w fun e w' => e = .returned (.string r)∧Below w.heap.size w w' := by
 have HTB:=Aside0.mk ht
 clear ht
 have HB:=Aside0.mk (Below.refl w.heap.size w)
 unfold strconv_FormatInt_40.f at h
 have H:=h
 clear h
 replace H:=Option.bind_eq_some_iff.mp H
 obtain ⟨t255,A30,H⟩:=H
 try dsimp only at H
 have A3:=Aside0.mk A30
 clear A30
 obtain rfl:=Option.some.inj H
 go_enter Tryd.func40,Tryd.ntmps40
 go_wp2_with (first|((with_reducible refine gate_callee (f:=52) rfl ?_);refine goesL_ (some 7) rfl rfl Tryd.func52 zb8 rfl #[.int .i64 a0,.int .i64 a1] rfl zb1 ?_;(with_reducible refine (strconv_FormatInt_52.calls a0 a1 t255 _ A3.out ?hT).mono ?_);(case hT=>exact HTB.out.below zb0);rintro e w4 ⟨rfl,hb⟩;(try clear A3);refine ⟨_,rfl,?_⟩;replace HB:=Aside0.mk (below_step zb0 hb);(try clear hb)))
 go_ret
 exact ⟨zb3,zb0⟩
def sign_Text.f (a0:Int):Option (ByteArray):=(strconv_FormatInt_40.f a0 10).bind fun t256=>(some t256)
set_option maxHeartbeats 8000000 in
set_option maxRecDepth 100000 in
theorem sign_Text.calls (a0:Int) (r:ByteArray) (w:World) (h:sign_Text.f a0=some r) (ht:Tabs w) :
 Calls Tryd.prog 28 #[.int .i64 a0] w fun e w' => e = .returned (.string r)∧Below w.heap.size w w' := by
 have HTB:=Aside0.mk ht
 clear ht
 have HB:=Aside0.mk (Below.refl w.heap.size w)
 unfold sign_Text.f at h
 have H:=h
 clear h
 replace H:=Option.bind_eq_some_iff.mp H
 obtain ⟨t256,A20,H⟩:=H
 try dsimp only at H
 have A2:=Aside0.mk A20
 clear A20
 obtain rfl:=Option.some.inj H
 go_enter Tryd.func28,Tryd.ntmps28
 go_wp2_with (first|((with_reducible refine gate_callee (f:=40) rfl ?_);refine goesL_ (some 4) rfl rfl Tryd.func40 zb8 rfl #[.int .i64 a0,.int .i64 10] rfl zb1 ?_;(with_reducible refine (strconv_FormatInt_40.calls a0 10 t256 _ A2.out ?hT).mono ?_);(case hT=>exact HTB.out.below zb0);rintro e w3 ⟨rfl,hb⟩;(try clear A2);refine ⟨_,rfl,?_⟩;replace HB:=Aside0.mk (below_step zb0 hb);(try clear hb)))
 go_ret
 exact ⟨zb3,zb0⟩
def line_StatusLine.l0:Nat → ByteArray → Int → ByteArray → Int → List (S48) → List Int → Option (ByteArray)
 | 0,_,_,_,_,_,_=>none
 | k + 1,x3,x258000,x258001,x258002,x258003,x258004=>if (x3.size:Int) < 3 then (if 1 + x3.size ≤ 9223372036854775807 then (line_StatusLine.l0 k ((⟨#[48]⟩:ByteArray) ++ x3) x258000 x258001 x258002 x258003 x258004) else (none)) else ((sign_Text.f x258002).bind fun t259=>(if 7 + t259.size ≤ 9223372036854775807 then (if ((⟨#[72,84,84,80,47,49,46]⟩:ByteArray) ++ t259).size + 1 ≤ 9223372036854775807 then (if (((⟨#[72,84,84,80,47,49,46]⟩:ByteArray) ++ t259) ++ (⟨#[32]⟩:ByteArray)).size + x3.size ≤ 9223372036854775807 then (if ((((⟨#[72,84,84,80,47,49,46]⟩:ByteArray) ++ t259) ++ (⟨#[32]⟩:ByteArray)) ++ x3).size + 1 ≤ 9223372036854775807 then (if (((((⟨#[72,84,84,80,47,49,46]⟩:ByteArray) ++ t259) ++ (⟨#[32]⟩:ByteArray)) ++ x3) ++ (⟨#[32]⟩:ByteArray)).size + x258001.size ≤ 9223372036854775807 then (if ((((((⟨#[72,84,84,80,47,49,46]⟩:ByteArray) ++ t259) ++ (⟨#[32]⟩:ByteArray)) ++ x3) ++ (⟨#[32]⟩:ByteArray)) ++ x258001).size + 2 ≤ 9223372036854775807 then (some (((((((⟨#[72,84,84,80,47,49,46]⟩:ByteArray) ++ t259) ++ (⟨#[32]⟩:ByteArray)) ++ x3) ++ (⟨#[32]⟩:ByteArray)) ++ x258001) ++ (⟨#[13,10]⟩:ByteArray))) else (none)) else (none)) else (none)) else (none)) else (none)) else (none)))
def line_StatusLine.f (k:Nat) (a0_0:Int) (a0_1:ByteArray) (a0_2:Int) (l0_3:List (S48)) (l0_4:List Int):Option (ByteArray):=(sign_Text.f a0_0).bind fun t258=>(line_StatusLine.l0 k t258 a0_0 a0_1 a0_2 l0_3 l0_4)
def line_StatusLine.T4:Bool × List (List Nat × List Nat):=(true,[([],[]),([0],[0]),([1],[1]),([2],[2]),([3],[3]),([],[]),([4,5],[4,5]),([6],[6]),([],[]),([8],[8]),([7,9],[7,9]),([10],[10]),([11,2,0,1,2,3,4,5,6,7,8,9,10,11],[11])])
def line_StatusLine.B4:List Nat:=[0,1,3,7,15,0,63,127,0,256,1023,2047,4095]
theorem line_StatusLine.tab4:rtab .any (opsOf Tryd.f15 4)=line_StatusLine.T4:=by kernel_rfl
theorem line_StatusLine.bits4:waitsOk line_StatusLine.T4.2 line_StatusLine.B4=true:=by kernel_rfl
set_option maxHeartbeats 8000000 in
set_option maxRecDepth 100000 in
theorem line_StatusLine.calls (k:Nat) (a0_0:Int) (a0_1:ByteArray) (a0_2:Int) (A0_3:Option Addr) (c0_3:Nat) (l0_3:List (S48)) (A0_4:Option Addr) (c0_4:Nat) (l0_4:List Int) (r:ByteArray) (w:World) (hr0_3:Kd.C k48 w A0_3 l0_3.length l0_3) (hc0_3:l0_3.length ≤ c0_3) (hr0_4:Kd.C (Kd.int .u8) w A0_4 l0_4.length l0_4) (hc0_4:l0_4.length ≤ c0_4) (h:line_StatusLine.f k a0_0 a0_1 a0_2 l0_3 l0_4=some r) (ht:Tabs w) :
 Calls Tryd.prog 15 #[.agg #[.int .i64 a0_0,.string a0_1,.int .i64 a0_2,.slice A0_3 l0_3.length c0_3,.slice A0_4 l0_4.length c0_4]] w fun e w' => e = .returned (.string r)∧Below w.heap.size w w' := by
 have HTB:=Aside0.mk ht
 clear ht
 have hu27:=Tryd.underlying27
 have HR0_3:=Aside0.mk hr0_3
 have HC0_3:=Aside0.mk hc0_3
 clear hr0_3 hc0_3
 have HR0_4:=Aside0.mk hr0_4
 have HC0_4:=Aside0.mk hc0_4
 clear hr0_4 hc0_4
 have HB:=Aside0.mk (Below.refl w.heap.size w)
 unfold line_StatusLine.f at h
 have H:=h
 clear h
 replace H:=Option.bind_eq_some_iff.mp H
 obtain ⟨t19,A20,H⟩:=H
 try dsimp only at H
 have A2:=Aside0.mk A20
 clear A20
 have H' := Aside0.mk H
 clear H
 go_enter Tryd.func15,Tryd.ntmps15
 go_wp2_with (first|((with_reducible refine gate_dst (N:=1) rfl ?_);refine box_event rfl (N:=1) rfl (cs:=#[.int .i64 a0_0,.string a0_1,.int .i64 a0_2,.slice A0_3 l0_3.length c0_3,.slice A0_4 l0_4.length c0_4]) (t:=27) zS ?_;intro gb17 hg w3 hbox hb;have GW17:=zG hg zb0;have GE17:=GW17;have BK17:=Aside0.mk hbox;replace HB:=Aside0.mk (below_step zb0 hb);clear hb hbox hg;obtain ⟨hcz4_0,hcz4_1,hcz4_2,hcz4_3,hcz4_4,hfz4_0,hfz4_1,hfz4_2,hfz4_3,hfz4_4⟩:=zq5 BK17.out)|((with_reducible refine gate_callee (f:=28) rfl ?_);refine goesL_ (some 6) rfl rfl Tryd.func28 zb8 rfl #[.int .i64 a0_0] rfl zb1 ?_;(with_reducible refine (sign_Text.calls a0_0 t19 _ A2.out ?hT).mono ?_);(case hT=>exact HTB.out.below zb19);rintro e w5 ⟨rfl,hb⟩;(try clear A2);refine ⟨_,rfl,?_⟩;replace BK17:=Aside0.mk (blk_below (g:=gb17) (o:=.cells #[.int .i64 a0_0,.string a0_1,.int .i64 a0_2,.slice A0_3 l0_3.length c0_3,.slice A0_4 l0_4.length c0_4] 27 (0,0)) zb35 hb);replace HB:=Aside0.mk (below_step zb19 hb);(try clear hb)))
 go_loopg [3] k (fun kq v3 w' => ∃ (x3_1:ByteArray),v3 = .string x3_1∧Aside0 (line_StatusLine.l0 kq x3_1 a0_0 a0_1 a0_2 l0_3 l0_4=some r)∧Aside0 (kq ≤ k)∧Aside0 (w'.heap[gb17]? = some (.cells #[.int .i64 a0_0,.string a0_1,.int .i64 a0_2,(.slice A0_3 l0_3.length c0_3),(.slice A0_4 l0_4.length c0_4)] 27 (0,0)))∧Aside0 (Below w.heap.size w w'))
 case atStart=>exact ⟨(t19),zb6,H',⟨Nat.le_refl _⟩,⟨zb35⟩,⟨zb19⟩⟩
 case round =>
  clear H'
  try clear c1
  try clear c2
  try clear p2
  try clear hcz4_0
  try clear hcz4_1
  try clear hcz4_2
  try clear hcz4_3
  try clear hcz4_4
  try clear hfz4_0
  try clear hfz4_1
  try clear hfz4_2
  try clear hfz4_3
  try clear hfz4_4
  obtain ⟨x3_1,rfl,HA,HK1,BK17,HB⟩:=hrel
  cases gk with
  | zero=>exact absurd HA.out (by simp [line_StatusLine.l0])
  | succ k1 =>
   have H:=HA.out
   clear HA
   simp only [line_StatusLine.l0] at H
   by_cases c6:(x3_1.size:Int) < 3
   ·rw [if_pos c6] at H
    have c6b0:=decide_eq_true c6
    have c6b1:decide (x3_1.size < 3)=true:=decide_eq_true zb26
    clear c6
    by_cases c7:1 + x3_1.size ≤ 9223372036854775807;rotate_left
    ·rw [if_neg c7] at H
     exact absurd H zb30
    rw [if_pos c7] at H
    have c7b0:=eq_true c7
    have c7b1:=decide_eq_true c7
    try have c7b2:(9223372036854775807 < 1 + x3_1.size)=False:=eq_false (Nat.not_lt.2 c7)
    have H' := Aside0.mk H
    clear H
    go_wp2
    go_roundg k1
    case measure=>have:=HK1.out;omega
    case rel=>exact ⟨((⟨#[48]⟩:ByteArray) ++ x3_1),zb6,H',⟨zb50⟩,⟨zb35⟩,⟨zb19⟩⟩
   rw [if_neg c6] at H
   have c6b0:=decide_eq_false c6
   have c6b1:decide (x3_1.size < 3)=false:=decide_eq_false zb26
   clear c6
   replace H:=Option.bind_eq_some_iff.mp H
   obtain ⟨t18,A80,H⟩:=H
   try dsimp only at H
   have A8:=Aside0.mk A80
   clear A80
   by_cases c9:7 + t18.size ≤ 9223372036854775807;rotate_left
   ·rw [if_neg c9] at H
    exact absurd H zb30
   rw [if_pos c9] at H
   have c9b0:=eq_true c9
   have c9b1:=decide_eq_true c9
   try have c9b2:(9223372036854775807 < 7 + t18.size)=False:=eq_false (Nat.not_lt.2 c9)
   by_cases c10:((⟨#[72,84,84,80,47,49,46]⟩:ByteArray) ++ t18).size + 1 ≤ 9223372036854775807
   ·rw [if_pos c10] at H
    have c10b0:=eq_true c10
    have c10b1:=decide_eq_true c10
    try have c10b2:(9223372036854775807 < ((⟨#[72,84,84,80,47,49,46]⟩:ByteArray) ++ t18).size + 1)=False:=eq_false (Nat.not_lt.2 c10)
    try (have c10b3:=c10b0;simp only [ByteArray.size_append] at c10b3;have c10b4:=c10b2;simp only [ByteArray.size_append] at c10b4)
    try have c10b5:(9223372036854775807 < 7 + t18.size + 1)=False:=eq_false zb49
    try have c10b6:(7 + t18.size + 1 ≤ 9223372036854775807)=True:=eq_true zb49
    by_cases c11:(((⟨#[72,84,84,80,47,49,46]⟩:ByteArray) ++ t18) ++ (⟨#[32]⟩:ByteArray)).size + x3_1.size ≤ 9223372036854775807;rotate_left
    ·rw [if_neg c11] at H
     exact absurd H zb30
    rw [if_pos c11] at H
    have c11b0:=eq_true c11
    have c11b1:=decide_eq_true c11
    try have c11b2:(9223372036854775807 < (((⟨#[72,84,84,80,47,49,46]⟩:ByteArray) ++ t18) ++ (⟨#[32]⟩:ByteArray)).size + x3_1.size)=False:=eq_false (Nat.not_lt.2 c11)
    try (have c11b3:=c11b0;simp only [ByteArray.size_append] at c11b3;have c11b4:=c11b2;simp only [ByteArray.size_append] at c11b4)
    try have c11b5:(9223372036854775807 < 7 + t18.size + 1 + x3_1.size)=False:=eq_false zb40
    try have c11b6:(7 + t18.size + 1 + x3_1.size ≤ 9223372036854775807)=True:=eq_true zb40
    by_cases c12:((((⟨#[72,84,84,80,47,49,46]⟩:ByteArray) ++ t18) ++ (⟨#[32]⟩:ByteArray)) ++ x3_1).size + 1 ≤ 9223372036854775807
    ·rw [if_pos c12] at H
     have c12b0:=eq_true c12
     have c12b1:=decide_eq_true c12
     try have c12b2:(9223372036854775807 < ((((⟨#[72,84,84,80,47,49,46]⟩:ByteArray) ++ t18) ++ (⟨#[32]⟩:ByteArray)) ++ x3_1).size + 1)=False:=eq_false (Nat.not_lt.2 c12)
     try (have c12b3:=c12b0;simp only [ByteArray.size_append] at c12b3;have c12b4:=c12b2;simp only [ByteArray.size_append] at c12b4)
     try have c12b5:(9223372036854775807 < 7 + t18.size + 1 + x3_1.size + 1)=False:=eq_false zb41
     try have c12b6:(7 + t18.size + 1 + x3_1.size + 1 ≤ 9223372036854775807)=True:=eq_true zb41
     by_cases c13:(((((⟨#[72,84,84,80,47,49,46]⟩:ByteArray) ++ t18) ++ (⟨#[32]⟩:ByteArray)) ++ x3_1) ++ (⟨#[32]⟩:ByteArray)).size + a0_1.size ≤ 9223372036854775807;rotate_left
     ·rw [if_neg c13] at H
      exact absurd H zb30
     rw [if_pos c13] at H
     have c13b0:=eq_true c13
     have c13b1:=decide_eq_true c13
     try have c13b2:(9223372036854775807 < (((((⟨#[72,84,84,80,47,49,46]⟩:ByteArray) ++ t18) ++ (⟨#[32]⟩:ByteArray)) ++ x3_1) ++ (⟨#[32]⟩:ByteArray)).size + a0_1.size)=False:=eq_false (Nat.not_lt.2 c13)
     try (have c13b3:=c13b0;simp only [ByteArray.size_append] at c13b3;have c13b4:=c13b2;simp only [ByteArray.size_append] at c13b4)
     try have c13b5:(9223372036854775807 < 7 + t18.size + 1 + x3_1.size + 1 + a0_1.size)=False:=eq_false zb42
     try have c13b6:(7 + t18.size + 1 + x3_1.size + 1 + a0_1.size ≤ 9223372036854775807)=True:=eq_true zb42
     by_cases c14:((((((⟨#[72,84,84,80,47,49,46]⟩:ByteArray) ++ t18) ++ (⟨#[32]⟩:ByteArray)) ++ x3_1) ++ (⟨#[32]⟩:ByteArray)) ++ a0_1).size + 2 ≤ 9223372036854775807
     ·rw [if_pos c14] at H
      have c14b0:=eq_true c14
      have c14b1:=decide_eq_true c14
      try have c14b2:(9223372036854775807 < ((((((⟨#[72,84,84,80,47,49,46]⟩:ByteArray) ++ t18) ++ (⟨#[32]⟩:ByteArray)) ++ x3_1) ++ (⟨#[32]⟩:ByteArray)) ++ a0_1).size + 2)=False:=eq_false (Nat.not_lt.2 c14)
      try (have c14b3:=c14b0;simp only [ByteArray.size_append] at c14b3;have c14b4:=c14b2;simp only [ByteArray.size_append] at c14b4)
      try have c14b5:(9223372036854775807 < 7 + t18.size + 1 + x3_1.size + 1 + a0_1.size + 2)=False:=eq_false zb43
      try have c14b6:(7 + t18.size + 1 + x3_1.size + 1 + a0_1.size + 2 ≤ 9223372036854775807)=True:=eq_true zb43
      obtain rfl:=Option.some.inj H
      try go_wp2
      replace BK17:=Aside0.mk (blk_drew BK17.out)
      replace HB:=Aside0.mk (below_drew1 HB.out)
      refine start_ (n:=13) (S:=fun w' => w'.cell? ⟨gb17,0,none⟩=some (.int .i64 a0_0)∧w'.cell? ⟨gb17,1,none⟩=some (.string a0_1)∧w'.cell? ⟨gb17,2,none⟩=some (.int .i64 a0_2)∧w'.cell? ⟨gb17,3,none⟩=some (.slice A0_3 l0_3.length c0_3)∧w'.cell? ⟨gb17,4,none⟩=some (.slice A0_4 l0_4.length c0_4)) (ds:=[]) (zl 13 0) zb8 rfl rfl ⟨(blk_cell BK17.out 0).trans rfl,(blk_cell BK17.out 1).trans rfl,(blk_cell BK17.out 2).trans rfl,(blk_cell BK17.out 3).trans rfl,(blk_cell BK17.out 4).trans rfl⟩ (fun hHeld=>?_);refine with_tabW line_StatusLine.tab4 line_StatusLine.bits4 (fun HT_ HW_=>?_)
      generalize wr.drew=w15 at BK17 HB hHeld ⊢
      refine zpu 0 (N:=some 12) (zl 13 1) HT_.out rfl rfl ?_
      refine zpu 5 (N:=some 17) (zl 13 33) HT_.out rfl rfl ?_
      refine zpu 8 (N:=some 20) (zl 13 289) HT_.out rfl rfl ?_
      refine take_ (i:=1) (N:=some 13) (v:=?_) (a' := ?_) (zl 13 291) rfl rfl (take_ofW HT_.out HW_.out zb8) (fun _ _ _ h=>h) (Or.inl ⟨by rfl,?_⟩) hHeld ?_ ?_
      rotate_left
      ·rintro w' ⟨s0,s1,s2,s3,s4⟩;go_simp;with_reducible rfl
      rotate_left
      ·simp only [Act.put,zqA,zqB,zqC,i64_w,i32_w];rfl
      refine take_ (i:=9) (N:=some 21) (v:=?_) (a' := ?_) (zl 13 803) rfl rfl (take_ofW HT_.out HW_.out zb8) (fun _ _ _ h=>h) (Or.inl ⟨by rfl,?_⟩) hHeld ?_ ?_
      rotate_left
      ·rintro w' ⟨s0,s1,s2,s3,s4⟩;go_simp;with_reducible rfl
      rotate_left
      ·simp only [Act.put,zqA,zqB,zqC,i64_w,i32_w];rfl
      refine one_ (i:=2) (N:=some 14) (zl 13 807) rfl rfl (one_of HT_.out zb8) zb51 (fun K hK=>?_)
      refine goes_ Tryd.func28 zb8 rfl #[.int .i64 a0_2] (by rfl) rfl rfl zb1 ?_
      with_reducible refine (sign_Text.calls a0_2 t18 _ A8.out ?hT).mono ?_;(case hT=>exact HTB.out.below zb19)
      rintro e w16 ⟨rfl,hb⟩
      refine ⟨_,rfl,?_⟩
      replace BK17:=Aside0.mk (blk_below (g:=gb17) (o:=.cells #[.int .i64 a0_0,.string a0_1,.int .i64 a0_2,.slice A0_3 l0_3.length c0_3,.slice A0_4 l0_4.length c0_4] 27 (0,0)) zb35 hb)
      replace HB:=Aside0.mk (below_step zb19 hb)
      (try clear hb)
      (try clear hb2)
      (try clear hk)
      (try clear hi)
      refine hK.out _ _ ⟨(blk_cell BK17.out 0).trans rfl,(blk_cell BK17.out 1).trans rfl,(blk_cell BK17.out 2).trans rfl,(blk_cell BK17.out 3).trans rfl,(blk_cell BK17.out 4).trans rfl⟩ (fun hHeld=>?_)
      clear hK K
      refine norm_ (a' := ?_) ?_ ?_
      rotate_left
      ·show Act.put _ (some 14) _=_
       simp only [Act.put,zqA,zqB,zqC,i64_w,i32_w]
       rfl
      refine zpu 3 (N:=some 15) (zl 13 815) HT_.out rfl rfl ?_
      refine zpu 4 (N:=some 16) (zl 13 831) HT_.out rfl rfl ?_
      refine zpu 6 (N:=some 18) (zl 13 895) HT_.out rfl rfl ?_
      refine zpu 7 (N:=some 19) (zl 13 1023) HT_.out rfl rfl ?_
      refine zpu 10 (N:=some 22) (zl 13 2047) HT_.out rfl rfl ?_
      refine zpu 11 (N:=some 23) (zl 13 4095) HT_.out rfl rfl ?_
      refine zpu 12 (N:=some 2) (zl 13 8191) HT_.out rfl rfl ?_
      refine done_ (done_of HT_.out zb8) ?_
      try go_wp2
      go_ret
      exact ⟨zb3,zb19⟩
     ·rw [if_neg c14] at H
      exact absurd H zb30
    ·rw [if_neg c12] at H
     exact absurd H zb30
   ·rw [if_neg c10] at H
    exact absurd H zb30
def http_WriteResponse.f (k:Nat) (a0:Int) (a1:ByteArray) (a2:Int) (l3:List (S48)) (l4:List Int):Option (List Int):=(line_StatusLine.f k a0 a1 a2 l3 l4).bind fun s=>http_write.f k s l3 l4
set_option maxHeartbeats 8000000 in
set_option maxRecDepth 100000 in
theorem http_WriteResponse.callsB (k:Nat) (a0:Int) (a1:ByteArray) (a2:Int) (A3:Option Addr) (c3:Nat) (l3:List (S48)) (A4:Option Addr) (c4:Nat) (l4:List Int) (r:List Int) (w:World) (hr3:Kd.C k48 w A3 l3.length l3) (hc3:l3.length ≤ c3) (hr4:Kd.C (Kd.int .u8) w A4 l4.length l4) (hc4:l4.length ≤ c4) (h:http_WriteResponse.f k a0 a1 a2 l3 l4=some r) (ht:Tabs w) :
 Calls Tryd.prog 8 #[.agg #[.int .i64 a0,.string a1,.int .i64 a2,.slice A3 l3.length c3,.slice A4 l4.length c4]] w fun e w' => ∃ v,e = .returned v∧BufM w' w.heap.size v r∧Below w.heap.size w w' := by
 have hu:=Tryd.underlying27
 unfold http_WriteResponse.f at h
 obtain ⟨s,hs,h'⟩:=Option.bind_eq_some_iff.1 h
 have HS:=Aside0.mk hs
 have HW:=Aside0.mk h'
 have R3:=Aside0.mk hr3
 have R4:=Aside0.mk hr4
 have C3:=Aside0.mk hc3
 have C4:=Aside0.mk hc4
 have HT:=Aside0.mk ht
 clear h hs h' hr3 hr4 hc3 hc4 ht
 go_enter Tryd.func8,Tryd.ntmps8
 go_wp2_with (first
  | ((with_reducible refine gate_dst (N:=1) rfl ?_);refine box_event ?hg (N:=1) ?hd (cs:=#[.int .i64 a0,.string a1,.int .i64 a2,.slice A3 l3.length c3,.slice A4 l4.length c4]) (t:=27) ?hr ?_;(case hd=>rfl);(case hg=>rfl);(case hr=>first|(go_simp;done)|(go_simp;rfl));intro X hX w5 hBX hb5;have BX:=Aside0.mk hBX;have L5:=Aside0.mk hb5;have EX:=Aside0.mk hX;have q0:w5.cell? ⟨X,0,none⟩=some (.int .i64 a0):=(blk_cell BX.out 0).trans rfl;have q1:w5.cell? ⟨X,1,none⟩=some (.string a1):=(blk_cell BX.out 1).trans rfl;have q2:w5.cell? ⟨X,2,none⟩=some (.int .i64 a2):=(blk_cell BX.out 2).trans rfl;have q3:w5.cell? ⟨X,3,none⟩=some (.slice A3 l3.length c3):=(blk_cell BX.out 3).trans rfl;have q4:w5.cell? ⟨X,4,none⟩=some (.slice A4 l4.length c4):=(blk_cell BX.out 4).trans rfl;clear hBX hb5 hX))
 go_region_held3 (fun w' => w'.cell? ⟨X,0,none⟩=some (.int .i64 a0)∧w'.cell? ⟨X,1,none⟩=some (.string a1)∧w'.cell? ⟨X,2,none⟩=some (.int .i64 a2)∧w'.cell? ⟨X,3,none⟩=some (.slice A3 l3.length c3)∧w'.cell? ⟨X,4,none⟩=some (.slice A4 l4.length c4)) (go_keep)
  (first
   | (go_at_call 15;refine (line_StatusLine.calls k a0 a1 a2 A3 c3 l3 A4 c4 l4 s _ (Kd.C_drew (Kd.C_below R3.out L5.out)) C3.out (Kd.C_drew (Kd.C_below R4.out L5.out)) C4.out HS.out (Tabs.below HT.out (below_drew1 L5.out))).mono ?_;rintro E w6 ⟨rfl,hb6⟩;have BX6:=Aside0.mk (blk_below (blk_drew BX.out) hb6);have L6:=Aside0.mk ((below_drew1 L5.out).trans (hbase2 (below_drew1 L5.out).size hb6));have q0:w6.cell? ⟨X,0,none⟩=some (.int .i64 a0):=(blk_cell BX6.out 0).trans rfl;have q1:w6.cell? ⟨X,1,none⟩=some (.string a1):=(blk_cell BX6.out 1).trans rfl;have q2:w6.cell? ⟨X,2,none⟩=some (.int .i64 a2):=(blk_cell BX6.out 2).trans rfl;have q3:w6.cell? ⟨X,3,none⟩=some (.slice A3 l3.length c3):=(blk_cell BX6.out 3).trans rfl;have q4:w6.cell? ⟨X,4,none⟩=some (.slice A4 l4.length c4):=(blk_cell BX6.out 4).trans rfl;clear hb6)
   | (go_at_call 14;refine (http_write.callsB k s A3 c3 l3 A4 c4 l4 r _ (Kd.C_below R3.out L6.out) C3.out (Kd.C_below R4.out L6.out) C4.out HW.out).mono ?_;rintro E w7 ⟨v7,rfl,hB7,hb7⟩;obtain ⟨A7,c7,e7⟩:=hB7.form;subst e7;have B7:=Aside0.mk hB7;have L7:=Aside0.mk hb7;have BX7:=Aside0.mk (blk_below BX6.out hb7);have q0:w7.cell? ⟨X,0,none⟩=some (.int .i64 a0):=(blk_cell BX7.out 0).trans rfl;have q1:w7.cell? ⟨X,1,none⟩=some (.string a1):=(blk_cell BX7.out 1).trans rfl;have q2:w7.cell? ⟨X,2,none⟩=some (.int .i64 a2):=(blk_cell BX7.out 2).trans rfl;have q3:w7.cell? ⟨X,3,none⟩=some (.slice A3 l3.length c3):=(blk_cell BX7.out 3).trans rfl;have q4:w7.cell? ⟨X,4,none⟩=some (.slice A4 l4.length c4):=(blk_cell BX7.out 4).trans rfl;clear hB7 hb7))
 go_wp2
 go_ret
 exact ⟨_,rfl,BufM.lower B7.out L6.out.size,L6.out.trans (hbase2 L6.out.size L7.out)⟩
end Go.Proofs.YtagffbblalldiaaDoor.P
