/- Each function below answers as its Lean twin says; plain lemmas; a row where its theorem stands. No further condition. (Laid by this repo's pack.py out of its texts and of the print's words.) -/
import Derived.Test.YtagffbblalldiaaGreatDoorZe19cbdcb
import Derived.Test.YtagffbblalldiaaGreatDoorZ7d4f9367
import Derived.Shelf.Abstract
import Derived.Deep.AppendSrc
import Derived.Deep.MidRow
import Derived.Lib.ConvBytes
import Derived.Deep.RegionHeld3
import Derived.WalkSpells
namespace Go.Proofs.YtagffbblalldiaaGreatDoor.P
open Go.RowKit Go.Proofs.YtagffbblalldiaaGreatDoorW.PrintWords Go.Proofs.YtagffbblalldiaaGreatDoorW.PrintLast Go.Proofs.YtagffbblalldiaaGreatDoorW.PrintMore
attribute [local go_sem] max2_int min2_int max_two min_two max_three min_three max_four min_four
set_option linter.unusedVariables false
set_option linter.unusedSimpArgs false
/-- What size tells: the size,the error,the new place,whether more bytes are needed. -/
def chunk_reader_size.f (k:Nat) (l:List Int) (p:Int):Option (Int × Int × Int × Bool) :=
 (chunk_reader_line.f k l p).bind fun x=>if x.2.1=0 then (if x.2.2.2=true then some (0,0,x.2.2.1,true) else
  (strings_Cut.f x.1 (⟨#[59]⟩:ByteArray)).bind fun c=>(strings_TrimRight.f c.1 (⟨#[32,9]⟩:ByteArray)).bind fun t=>(sign_Hex.f k t).bind fun h =>
   if h.2=true then ((sign_Value.f c.2.1).bind fun v=>if v=true then some (h.1,0,x.2.2.1,false) else some (0,30,x.2.2.1,false)) else some (0,30,x.2.2.1,false))
  else some (0,x.2.1,x.2.2.1,x.2.2.2)
set_option maxHeartbeats 4000000 in
set_option maxRecDepth 100000 in
theorem chunk_reader_size.calls (k:Nat) (g:Nat) (A:Option Addr) (c:Nat) (l:List Int) (p:Int) (m:Bool) (n e q:Int) (m' : Bool) (w:World) (hr:Rdr w g A l.length c p m) (hC:Kd.C (Kd.int .u8) w A l.length l) (hc:l.length ≤ c) (h:chunk_reader_size.f k l p=some (n,e,q,m')) :
 Calls Tryz.prog 122 #[.pointer (some ⟨g,0,none⟩)] w fun E w' => E = .returned (.tuple #[.int .i64 n,.int .i64 e])∧Went w w' g A l.length c q m' := by
 unfold chunk_reader_size.f at h
 obtain ⟨⟨s,e1,q1,m1⟩,hl,h⟩:=Option.bind_eq_some_iff.1 h
 simp only at h
 have HL:=Aside0.mk hl
 have HR:=Aside0.mk hr
 have HC:=Aside0.mk hC
 clear hl hr hC
 by_cases c1:e1=0;rotate_left
 ·rw [if_neg c1] at h
  simp only [Option.some.injEq,Prod.mk.injEq] at h
  obtain ⟨rfl,rfl,rfl,rfl⟩:=h
  have d1:(e1 == 0)=false:=beq_eq_false_iff_ne.2 c1
  have d2:(e1 != 0)=true:=bne_iff_ne.2 c1
  clear c1
  go_enter Tryz.func122,Tryz.ntmps122
  go_wp2_with (first|(go_at_call 165;(with_reducible refine (chunk_reader_line.calls k g A c l p m s e1 q1 m1 _ HR.out HC.out hc HL.out).mono ?_);rintro E w1 ⟨rfl,hw⟩;have hm:=hw.more;have W1:=Aside0.mk hw;clear hw))
  go_ret2
  exact ⟨rfl,W1.out⟩
 subst c1
 rw [if_pos rfl] at h
 cases m1
 ·rw [if_neg zb55] at h
  obtain ⟨⟨s1,r1,b1⟩,h1,h⟩:=Option.bind_eq_some_iff.1 h
  obtain ⟨t,h2,h⟩:=Option.bind_eq_some_iff.1 h
  obtain ⟨⟨n1,o1⟩,h3,h⟩:=Option.bind_eq_some_iff.1 h
  simp only at h h1 h2 h3
  have H1:=Aside0.mk h1
  have H2:=Aside0.mk h2
  have H3:=Aside0.mk h3
  clear h1 h2 h3
  cases o1
  ·rw [if_neg zb55] at h
   simp only [Option.some.injEq,Prod.mk.injEq] at h
   obtain ⟨rfl,rfl,rfl,rfl⟩:=h
   go_enter Tryz.func122,Tryz.ntmps122
   go_wp2_with (first|(go_at_call 165;(with_reducible refine (chunk_reader_line.calls k g A c l p m s 0 q1 false _ HR.out HC.out hc HL.out).mono ?_);rintro E w1 ⟨rfl,hw⟩;have hm:=hw.more;have W1:=Aside0.mk hw;clear hw)|(go_at_call 110;(with_reducible refine (strings_Cut.calls s _ s1 r1 b1 _ H1.out).mono ?_);rintro E w2 ⟨rfl,hd⟩;have W2:=Aside0.mk (W1.out.step hd.below);clear hd)|(go_at_call 167;(with_reducible refine (strings_TrimRight.calls s1 _ t _ H2.out).mono ?_);rintro E w3 ⟨rfl,hd⟩;have W3:=Aside0.mk (W2.out.step hd);clear hd)|(go_at_call 166;(with_reducible refine (sign_Hex.calls k t n1 false _ H3.out).mono ?_);rintro E w4 ⟨rfl,hd⟩;have W4:=Aside0.mk (W3.out.step hd);clear hd))
   go_ret2
   exact ⟨rfl,W4.out⟩
  rw [if_pos rfl] at h
  obtain ⟨v,h4,h⟩:=Option.bind_eq_some_iff.1 h
  have H4:=Aside0.mk h4
  clear h4
  cases v
  ·rw [if_neg zb55] at h
   simp only [Option.some.injEq,Prod.mk.injEq] at h
   obtain ⟨rfl,rfl,rfl,rfl⟩:=h
   go_enter Tryz.func122,Tryz.ntmps122
   go_wp2_with (first|(go_at_call 165;(with_reducible refine (chunk_reader_line.calls k g A c l p m s 0 q1 false _ HR.out HC.out hc HL.out).mono ?_);rintro E w1 ⟨rfl,hw⟩;have hm:=hw.more;have W1:=Aside0.mk hw;clear hw)|(go_at_call 110;(with_reducible refine (strings_Cut.calls s _ s1 r1 b1 _ H1.out).mono ?_);rintro E w2 ⟨rfl,hd⟩;have W2:=Aside0.mk (W1.out.step hd.below);clear hd)|(go_at_call 167;(with_reducible refine (strings_TrimRight.calls s1 _ t _ H2.out).mono ?_);rintro E w3 ⟨rfl,hd⟩;have W3:=Aside0.mk (W2.out.step hd);clear hd)|(go_at_call 166;(with_reducible refine (sign_Hex.calls k t n1 true _ H3.out).mono ?_);rintro E w4 ⟨rfl,hd⟩;have W4:=Aside0.mk (W3.out.step hd);clear hd)|(go_at_call 114;(with_reducible refine (sign_Value.calls r1 false _ H4.out).mono ?_);rintro E w5 ⟨rfl,hd⟩;have W5:=Aside0.mk (W4.out.step hd.below);clear hd))
   go_ret2
   exact ⟨rfl,W5.out⟩
  rw [if_pos rfl] at h
  simp only [Option.some.injEq,Prod.mk.injEq] at h
  obtain ⟨rfl,rfl,rfl,rfl⟩:=h
  go_enter Tryz.func122,Tryz.ntmps122
  go_wp2_with (first|(go_at_call 165;(with_reducible refine (chunk_reader_line.calls k g A c l p m s 0 q1 false _ HR.out HC.out hc HL.out).mono ?_);rintro E w1 ⟨rfl,hw⟩;have hm:=hw.more;have W1:=Aside0.mk hw;clear hw)|(go_at_call 110;(with_reducible refine (strings_Cut.calls s _ s1 r1 b1 _ H1.out).mono ?_);rintro E w2 ⟨rfl,hd⟩;have W2:=Aside0.mk (W1.out.step hd.below);clear hd)|(go_at_call 167;(with_reducible refine (strings_TrimRight.calls s1 _ t _ H2.out).mono ?_);rintro E w3 ⟨rfl,hd⟩;have W3:=Aside0.mk (W2.out.step hd);clear hd)|(go_at_call 166;(with_reducible refine (sign_Hex.calls k t n1 true _ H3.out).mono ?_);rintro E w4 ⟨rfl,hd⟩;have W4:=Aside0.mk (W3.out.step hd);clear hd)|(go_at_call 114;(with_reducible refine (sign_Value.calls r1 true _ H4.out).mono ?_);rintro E w5 ⟨rfl,hd⟩;have W5:=Aside0.mk (W4.out.step hd.below);clear hd))
  go_ret2
  exact ⟨rfl,W5.out⟩
 ·rw [if_pos rfl] at h
  simp only [Option.some.injEq,Prod.mk.injEq] at h
  obtain ⟨rfl,rfl,rfl,rfl⟩:=h
  go_enter Tryz.func122,Tryz.ntmps122
  go_wp2_with (first|(go_at_call 165;(with_reducible refine (chunk_reader_line.calls k g A c l p m s 0 q1 true _ HR.out HC.out hc HL.out).mono ?_);rintro E w1 ⟨rfl,hw⟩;have hm:=hw.more;have W1:=Aside0.mk hw;clear hw))
  go_ret2
  exact ⟨rfl,W1.out⟩
/-- What trailer tells from the n-th line on: the error,the new place,whether more bytes are needed. -/
def chunk_reader_trailer.l:Nat → List Int → Int → Int → Option (Int × Int × Bool)
 | 0,_,_,_=>none
 | k + 1,l,p,n=>(chunk_reader_line.f k l p).bind fun x=>if x.2.1=0 then (if x.2.2.2=true then some (0,x.2.2.1,true) else if x.1.toList=([]:List UInt8) then some (0,x.2.2.1,false) else
  (field_Parse.f x.1).bind fun y=>if y.2.2=0 then (if n=40 then some (3,x.2.2.1,false) else chunk_reader_trailer.l k l x.2.2.1 (n + 1)) else some (y.2.2,x.2.2.1,false))
  else some (x.2.1,x.2.2.1,x.2.2.2)
def chunk_reader_trailer.f (k:Nat) (l:List Int) (p:Int):Option (Int × Int × Bool):=chunk_reader_trailer.l k l p 0
set_option maxHeartbeats 8000000 in
set_option maxRecDepth 100000 in
theorem chunk_reader_trailer.calls (k:Nat) (g:Nat) (A:Option Addr) (c:Nat) (l:List Int) (p:Int) (m:Bool) (e q:Int) (m' : Bool) (w0 w:World) (hr:Rdr w g A l.length c p m) (hC:Kd.C (Kd.int .u8) w0 A l.length l) (hB0:Below w0.heap.size w0 w) (hg0:w0.heap.size ≤ g) (hc:l.length ≤ c) (h:chunk_reader_trailer.f k l p=some (e,q,m')) :
 Calls Tryz.prog 124 #[.pointer (some ⟨g,0,none⟩)] w fun E w' => E = .returned (.int .i64 e)∧Went w w' g A l.length c q m' := by
 unfold chunk_reader_trailer.f at h
 have hu:=Tryz.underlying36
 have HR:=Aside0.mk hr
 have HC:=Aside0.mk hC
 have H:=Aside0.mk h
 have hg:=blk_lt hr
 clear hr hC h
 go_enter Tryz.func124,Tryz.ntmps124
 go_wp2_with fail
 go_loopg [3,4,5,6,7] k (fun kq v3 _ _ _ _ wr => ∃ (n p:Int) (m:Bool),v3 = .int .i64 n∧Aside0 (0 ≤ n∧n ≤ 40)∧Aside0 (chunk_reader_trailer.l kq l p n=some (e,q,m'))∧Aside0 (Went w wr g A l.length c p m))
 case atStart=>exact ⟨0,p,m,rfl,⟨zb62⟩,H,⟨HR.out,Below.refl _ _,keep_below g (Below.refl _ _)⟩⟩
 case round =>
  obtain ⟨n,p,m,rfl,HN,H,W⟩:=hrel
  cases gk with
  | zero=>exact absurd H.out (by simp [chunk_reader_trailer.l])
  | succ k =>
   have h:=H.out
   clear H
   simp only [chunk_reader_trailer.l] at h
   obtain ⟨⟨s,e1,q1,m1⟩,hl,h⟩:=Option.bind_eq_some_iff.1 h
   simp only at h
   have HL:=Aside0.mk hl
   have HC' := Aside0.mk (Kd.C_below HC.out (hB0.trans (below_base hg0 W.out.2.1)))
   have hm0:=W.out.more
   clear hl
   have call:=fun (v:Unit)=>chunk_reader_line.calls k g A c l p m s e1 q1 m1 wr W.out.1 HC'.out hc HL.out
   have CALL:=Aside0.mk call
   clear call hm0
   have hN:=HN.out
   by_cases c1:e1=0;rotate_left
   ·rw [if_neg c1] at h
    simp only [Option.some.injEq,Prod.mk.injEq] at h
    obtain ⟨rfl,rfl,rfl⟩:=h
    have d1:(e1 == 0)=false:=beq_eq_false_iff_ne.2 c1
    have d2:(e1 != 0)=true:=bne_iff_ne.2 c1
    clear c1
    go_wp2_with (go_at_call 165;(with_reducible refine (CALL.out ()).mono ?_);rintro E w1 ⟨rfl,hw⟩;have hm:=hw.more;have W1:=Aside0.mk (W.out.then_ hw);clear hw)
    go_ret
    exact ⟨rfl,W1.out⟩
   subst c1
   rw [if_pos rfl] at h
   cases m1
   ·rw [if_neg zb55] at h
    by_cases c2:s.toList=[]
    ·rw [if_pos c2] at h
     simp only [Option.some.injEq,Prod.mk.injEq] at h
     obtain ⟨rfl,rfl,rfl⟩:=h
     have d2:s.toList.isEmpty=true:=List.isEmpty_iff.2 c2
     go_wp2_with (go_at_call 165;(with_reducible refine (CALL.out ()).mono ?_);rintro E w1 ⟨rfl,hw⟩;have hm:=hw.more;have W1:=Aside0.mk (W.out.then_ hw);clear hw)
     go_ret
     exact ⟨rfl,W1.out⟩
    rw [if_neg c2] at h
    have d2:s.toList.isEmpty=false:=by rw [Bool.eq_false_iff];exact fun e=>c2 (List.isEmpty_iff.1 e)
    have d3:(s.toList=[])=False:=eq_false c2
    clear c2
    obtain ⟨⟨y1,y2,y3⟩,hp,h⟩:=Option.bind_eq_some_iff.1 h
    simp only at h
    have HP:=Aside0.mk hp
    clear hp
    by_cases c3:y3=0;rotate_left
    ·rw [if_neg c3] at h
     simp only [Option.some.injEq,Prod.mk.injEq] at h
     obtain ⟨rfl,rfl,rfl⟩:=h
     have d4:(y3 == 0)=false:=beq_eq_false_iff_ne.2 c3
     have d5:(y3 != 0)=true:=bne_iff_ne.2 c3
     clear c3
     go_wp2_with (first|(go_at_call 165;(with_reducible refine (CALL.out ()).mono ?_);rintro E w1 ⟨rfl,hw⟩;have hm:=hw.more;have W1:=Aside0.mk (W.out.then_ hw);clear hw)|(go_at_call 109;(with_reducible refine (field_Parse.calls s y1 y2 y3 _ HP.out).mono ?_);rintro E w2 ⟨rfl,hd⟩;have W2:=Aside0.mk (W1.out.step hd);clear hd))
     go_ret
     exact ⟨rfl,W2.out.step (below_alloc (Below.refl _ _) _)⟩
    subst c3
    rw [if_pos rfl] at h
    by_cases c4:n=40
    ·subst c4
     rw [if_pos rfl] at h
     simp only [Option.some.injEq,Prod.mk.injEq] at h
     obtain ⟨rfl,rfl,rfl⟩:=h
     go_wp2_with (first|(go_at_call 165;(with_reducible refine (CALL.out ()).mono ?_);rintro E w1 ⟨rfl,hw⟩;have hm:=hw.more;have W1:=Aside0.mk (W.out.then_ hw);clear hw)|(go_at_call 109;(with_reducible refine (field_Parse.calls s y1 y2 0 _ HP.out).mono ?_);rintro E w2 ⟨rfl,hd⟩;have W2:=Aside0.mk (W1.out.step hd);clear hd))
     go_ret
     exact ⟨rfl,W2.out.step (below_alloc (Below.refl _ _) _)⟩
    rw [if_neg c4] at h
    have d4:(n == 40)=false:=beq_eq_false_iff_ne.2 c4
    have H2:=Aside0.mk h
    have hw:wrap64 (n + 1)=n + 1:=by unfold wrap64;omega
    have HN2:Aside0 (0 ≤ n + 1∧n + 1 ≤ 40):=⟨zb62⟩
    clear h c4
    go_wp2_with (first|(go_at_call 165;(with_reducible refine (CALL.out ()).mono ?_);rintro E w1 ⟨rfl,hw⟩;have hm:=hw.more;have W1:=Aside0.mk (W.out.then_ hw);clear hw)|(go_at_call 109;(with_reducible refine (field_Parse.calls s y1 y2 0 _ HP.out).mono ?_);rintro E w2 ⟨rfl,hd⟩;have W2:=Aside0.mk (W1.out.step hd);clear hd))
    go_roundg k
    case rel=>exact ⟨n + 1,q1,false,rfl,HN2,H2,⟨W2.out.step (below_alloc (Below.refl _ _) _)⟩⟩
    case measure=>exact Nat.lt_succ_self k
   ·rw [if_pos rfl] at h
    simp only [Option.some.injEq,Prod.mk.injEq] at h
    obtain ⟨rfl,rfl,rfl⟩:=h
    go_wp2_with (go_at_call 165;(with_reducible refine (CALL.out ()).mono ?_);rintro E w1 ⟨rfl,hw⟩;have hm:=hw.more;have W1:=Aside0.mk (W.out.then_ hw);clear hw)
    go_ret
    exact ⟨rfl,W1.out⟩
def chunk_Decode.l:Nat → List Int → Int → Int → List Int → Option (List Int × Int × Int)
 | 0,_,_,_,_=>none
 | k + 1,l,p,left,out=>(chunk_reader_size.f k l p).bind fun x=>if x.2.1=0 then (if x.2.2.2=true then some ([],0,0) else
  if x.1=0 then ((chunk_reader_trailer.f k l x.2.2.1).bind fun y=>if y.1=0 then (if y.2.2=true then some ([],0,0) else some (out,y.2.1,0)) else some ([],0,y.1))
  else if x.1 > left then some ([],0,2)
  else (chunk_reader_data.f l x.2.2.1 x.1 false).bind fun d=>if d.2.1=0 then (if d.2.2.2=true then some ([],0,0) else if out.length + d.1.length ≤ 140737488355328 then chunk_Decode.l k l d.2.2.1 (wrap64 (left - x.1)) (out ++ d.1) else none) else some ([],0,d.2.1))
  else some ([],0,x.2.1)
def chunk_Decode.f (k:Nat) (l0:List Int) (a1:Int):Option (List Int × Int × Int):=chunk_Decode.l k l0 0 (mx a1 0) []
theorem went_rdr {w w' : World} {g:Nat} {A:Option Addr} {n c:Nat} {p:Int} {m:Bool} (h:Went w w' g A n c p m):Rdr w' g A n c p m:=h.1
theorem dec_blk_grown {w w1:World} {g:Nat} {o:Obj} {row:Option Nat} (h:w.heap[g]? = some o) (hg:w.grownBy w1 row) (hne:some g ≠ row):w1.heap[g]? = some o:=(hg.block g (blk_lt h) hne).trans h
/-- What Decode hands back. -/
def DecPost (w:World) (r1:List Int) (r2 r3:Int) (E:Ending) (w' : World):Prop := ∃ v0_:Value,E = .returned (.tuple #[v0_,.int .i64 r2,.int .i64 r3])∧Kd.R (Kd.int .u8) 5 w' w.heap.size (fun _=>True) v0_ r1∧Below w.heap.size w w'
theorem dec_none {w w' : World} {r2 r3:Int} (h:Below w.heap.size w w'):DecPost w [] r2 r3 (.returned (.tuple #[.slice none 0 0,.int .i64 r2,.int .i64 r3])) w' := ⟨_,rfl,Kd.R_nil _ _ _ _ _,h⟩
/-- The reader and what was collected,beside it. -/
def Dec (w wr:World) (g:Nat) (A:Option Addr) (n c:Nat) (p:Int) (v:Value) (out:List Int):Prop:=Rdr wr g A n c p false∧Below w.heap.size w wr∧w.heap.size ≤ g∧Kd.R (Kd.int .u8) 5 wr w.heap.size (fun k=>k ≠ g) v out
theorem Dec.went {w wr w1:World} {g:Nat} {A:Option Addr} {n c:Nat} {p q:Int} {v:Value} {out:List Int} (h:Dec w wr g A n c p v out) (k:Went wr w1 g A n c q false):Dec w w1 g A n c q v out :=
 ⟨k.1,h.2.1.trans (below_base h.2.2.1 k.2.1),h.2.2.1,Kd.R_keep h.2.2.2 k.2.2 (fun _ hk=>hk)⟩
theorem Dec.below {w wr w1:World} {g:Nat} {A:Option Addr} {n c:Nat} {p q:Int} {m:Bool} {v:Value} {out:List Int} (h:Dec w wr g A n c p v out) (k:Went wr w1 g A n c q m):Below w.heap.size w w1:=h.2.1.trans (below_base h.2.2.1 k.2.1)
set_option maxHeartbeats 16000000 in
set_option maxRecDepth 100000 in
theorem chunk_Decode.calls (k:Nat) (A0:Option Addr) (c0:Nat) (l0:List Int) (a1:Int) (r1:List Int) (r2:Int) (r3:Int) (w:World) (hr0:Kd.C (Kd.int .u8) w A0 l0.length l0) (hc0:l0.length ≤ c0) (h:chunk_Decode.f k l0 a1=some (r1,r2,r3)) :
 Calls Tryz.prog 79 #[.slice A0 l0.length c0,.int .i64 a1] w fun e w' => ∃ v0_:Value,e = .returned (.tuple #[v0_,.int .i64 r2,.int .i64 r3])∧Kd.R (Kd.int .u8) 5 w' w.heap.size (fun _=>True) v0_ r1∧Below w.heap.size w w' := by
 show Calls Tryz.prog 79 #[.slice A0 l0.length c0,.int .i64 a1] w (DecPost w r1 r2 r3)
 have hu:=Tryz.underlying150
 have HC:=Aside0.mk hr0
 have H:=Aside0.mk h
 clear hr0 h
 have HD0:Aside0 (Dec w ((w.alloc (.cells #[.slice A0 l0.length c0,.int .i64 0,.bool false] 150)).alloc (.cells #[] 5)) w.heap.size A0 l0.length c0 0 (.slice (some ⟨w.heap.size + 1,0,none⟩) 0 0) []):=⟨by
  refine ⟨?_,?_,Nat.le_refl _,?_⟩
  ·exact blk_alloc (blk_new w _) _
  ·exact below_alloc (below_alloc (Below.refl _ _) _) _
  have ho:=own_lit (w.alloc (.cells #[.slice A0 l0.length c0,.int .i64 0,.bool false] 150)) w.heap.size 5 .u8 [] zb55 zb55
  have hz:(w.alloc (.cells #[.slice A0 l0.length c0,.int .i64 0,.bool false] 150)).heap.size=w.heap.size + 1:=by simp
  rw [hz] at ho
  exact Kd.R_of_own (h1:=fun _=>rfl) ho (fun k hk=>by
   have:w.heap.size + 1=k:=by simpa [Value.ownBlock] using hk
   omega)⟩
 obtain ⟨mm,hmm⟩ : ∃ mm,mm=mx a1 0:=⟨_,rfl⟩
 unfold chunk_Decode.f at H
 rw [← hmm] at H
 have hmx:=hmm.symm
 clear hmm
 go_enter Tryz.func79,Tryz.ntmps79
 go_wp2_with fail
 all_goals
  go_loopg [8,9,10,11,12] k (fun kq v8 v9 _ _ _ wr => ∃ (p left:Int) (out:List Int),v8 = .int .i64 left∧Aside0 (chunk_Decode.l kq l0 p left out=some (r1,r2,r3))∧Aside0 (Dec w wr w.heap.size A0 l0.length c0 p v9 out))
  case atStart=>first|exact ⟨0,0,[],rfl,⟨(show mm=0 by rw [← hmx];unfold mx;split <;> omega) ▸ H.out⟩,HD0⟩|exact ⟨0,a1,[],rfl,⟨(show mm=a1 by rw [← hmx];unfold mx;split <;> omega) ▸ H.out⟩,HD0⟩
  case round =>
   obtain ⟨p,left,out,rfl,H,D⟩:=hrel
   cases gk with
   | zero=>exact absurd H.out (by simp [chunk_Decode.l])
   | succ k =>
    clear HD0 hmx
    have h:=H.out
    clear H
    simp only [chunk_Decode.l] at h
    obtain ⟨⟨n1,e1,q1,m1⟩,hl,h⟩:=Option.bind_eq_some_iff.1 h
    simp only at h
    have call:=fun (v:Unit)=>chunk_reader_size.calls k w.heap.size A0 c0 l0 p false n1 e1 q1 m1 wr D.out.1 (Kd.C_below HC.out D.out.2.1) hc0 hl
    have CALL:=Aside0.mk call
    clear call hl
    by_cases c1:e1=0;rotate_left
    ·rw [if_neg c1] at h
     simp only [Option.some.injEq,Prod.mk.injEq] at h
     obtain ⟨rfl,rfl,rfl⟩:=h
     have d1:(e1 == 0)=false:=beq_eq_false_iff_ne.2 c1
     have d2:(e1 != 0)=true:=bne_iff_ne.2 c1
     clear c1
     go_wp2_with (first|(go_at_call 122;(with_reducible refine (CALL.out ()).mono ?_);rintro E w1 ⟨rfl,hw⟩;have hm:=hw.more;have W1:=Aside0.mk hw;clear hw))
     go_ret3
     exact dec_none (D.out.below W1.out)
    subst c1
    rw [if_pos rfl] at h
    cases m1
    ·rw [if_neg zb55] at h
     by_cases c2:n1=0
     ·subst c2
      rw [if_pos rfl] at h
      obtain ⟨⟨e2,q2,m2⟩,ht,h⟩:=Option.bind_eq_some_iff.1 h
      simp only at h
      have HT:=Aside0.mk ht
      clear ht
      by_cases c3:e2=0;rotate_left
      ·rw [if_neg c3] at h
       simp only [Option.some.injEq,Prod.mk.injEq] at h
       obtain ⟨rfl,rfl,rfl⟩:=h
       have d1:(e2 == 0)=false:=beq_eq_false_iff_ne.2 c3
       have d2:(e2 != 0)=true:=bne_iff_ne.2 c3
       clear c3
       go_wp2_with (first|(go_at_call 122;(with_reducible refine (CALL.out ()).mono ?_);rintro E w1 ⟨rfl,hw⟩;have hm:=hw.more;have W1:=Aside0.mk hw;clear hw)|(go_at_call 124;(with_reducible refine (chunk_reader_trailer.calls k w.heap.size A0 c0 l0 q1 false _ _ _ w w1 (went_rdr W1.out) HC.out (D.out.below W1.out) (Nat.le_refl _) hc0 HT.out).mono ?_);rintro E w2 ⟨rfl,hw⟩;have hm2:=hw.more;have hp2:=hw.place;have W2:=Aside0.mk hw;clear hw))
       go_ret3
       exact dec_none ((D.out.went W1.out).below W2.out)
      subst c3
      rw [if_pos rfl] at h
      cases m2
      ·rw [if_neg zb55] at h
       simp only [Option.some.injEq,Prod.mk.injEq] at h
       obtain ⟨rfl,rfl,rfl⟩:=h
       go_wp2_with (first|(go_at_call 122;(with_reducible refine (CALL.out ()).mono ?_);rintro E w1 ⟨rfl,hw⟩;have hm:=hw.more;have W1:=Aside0.mk hw;clear hw)|(go_at_call 124;(with_reducible refine (chunk_reader_trailer.calls k w.heap.size A0 c0 l0 q1 false _ _ _ w w1 (went_rdr W1.out) HC.out (D.out.below W1.out) (Nat.le_refl _) hc0 HT.out).mono ?_);rintro E w2 ⟨rfl,hw⟩;have hm2:=hw.more;have hp2:=hw.place;have W2:=Aside0.mk hw;clear hw))
       have D3:=Aside0.mk ((D.out.went W1.out).went W2.out)
       go_quiet (fail)
       go_wp2_with fail
       go_ret3
       exact ⟨_,rfl,Kd.R_mono (Kd.R_below D3.out.2.2.2 (pw_below_drewN (Below.refl _ _) _)) (fun _ _=>trivial),pw_below_drewN D3.out.2.1 _⟩
      ·rw [if_pos rfl] at h
       simp only [Option.some.injEq,Prod.mk.injEq] at h
       obtain ⟨rfl,rfl,rfl⟩:=h
       go_wp2_with (first|(go_at_call 122;(with_reducible refine (CALL.out ()).mono ?_);rintro E w1 ⟨rfl,hw⟩;have hm:=hw.more;have W1:=Aside0.mk hw;clear hw)|(go_at_call 124;(with_reducible refine (chunk_reader_trailer.calls k w.heap.size A0 c0 l0 q1 false _ _ _ w w1 (went_rdr W1.out) HC.out (D.out.below W1.out) (Nat.le_refl _) hc0 HT.out).mono ?_);rintro E w2 ⟨rfl,hw⟩;have hm2:=hw.more;have hp2:=hw.place;have W2:=Aside0.mk hw;clear hw))
       go_ret3
       exact dec_none ((D.out.went W1.out).below W2.out)
     rw [if_neg c2] at h
     have d2:(n1 == 0)=false:=beq_eq_false_iff_ne.2 c2
     clear c2
     by_cases c3:n1 > left
     ·rw [if_pos c3] at h
      simp only [Option.some.injEq,Prod.mk.injEq] at h
      obtain ⟨rfl,rfl,rfl⟩:=h
      have d3:decide (n1 > left)=true:=decide_eq_true c3
      have d4:(left < n1)=True:=eq_true c3
      clear c3
      go_wp2_with (first|(go_at_call 122;(with_reducible refine (CALL.out ()).mono ?_);rintro E w1 ⟨rfl,hw⟩;have hm:=hw.more;have W1:=Aside0.mk hw;clear hw))
      go_ret3
      exact dec_none (D.out.below W1.out)
     rw [if_neg c3] at h
     have d3:decide (n1 > left)=false:=decide_eq_false c3
     have d4:(left < n1)=False:=eq_false c3
     clear c3
     obtain ⟨⟨r3',e3,q3,m3⟩,ht,h⟩:=Option.bind_eq_some_iff.1 h
     simp only at h
     have HT:=Aside0.mk ht
     clear ht
     by_cases c4:e3=0;rotate_left
     ·rw [if_neg c4] at h
      simp only [Option.some.injEq,Prod.mk.injEq] at h
      obtain ⟨rfl,rfl,rfl⟩:=h
      have d5:(e3 == 0)=false:=beq_eq_false_iff_ne.2 c4
      have d6:(e3 != 0)=true:=bne_iff_ne.2 c4
      clear c4
      go_wp2_with (first|(go_at_call 122;(with_reducible refine (CALL.out ()).mono ?_);rintro E w1 ⟨rfl,hw⟩;have hm:=hw.more;have W1:=Aside0.mk hw;clear hw)|(go_at_call 123;(with_reducible refine (chunk_reader_data.calls w.heap.size A0 c0 l0 q1 n1 false r3' _ _ _ w w1 (went_rdr W1.out) HC.out (D.out.below W1.out) (Nat.le_refl _) hc0 HT.out).mono ?_);rintro E w2 ⟨A2,c2,rfl,hCr,hcr,hw⟩;have hm2:=hw.more;have W2:=Aside0.mk hw;have HCr:=Aside0.mk hCr;have Hcr:=Aside0.mk hcr;clear hw hCr hcr))
      go_ret3
      exact dec_none ((D.out.went W1.out).below W2.out)
     subst c4
     rw [if_pos rfl] at h
     cases m3
     ·rw [if_neg zb55] at h
      by_cases c5:out.length + r3'.length ≤ 140737488355328
      ·rw [if_pos c5] at h
       have HLEN:=Aside0.mk c5
       have H2:=Aside0.mk h
       clear c5 h
       go_wp2_with (first|(go_at_call 122;(with_reducible refine (CALL.out ()).mono ?_);rintro E w1 ⟨rfl,hw⟩;have hm:=hw.more;have W1:=Aside0.mk hw;clear hw)|(go_at_call 123;(with_reducible refine (chunk_reader_data.calls w.heap.size A0 c0 l0 q1 n1 false r3' _ _ _ w w1 (went_rdr W1.out) HC.out (D.out.below W1.out) (Nat.le_refl _) hc0 HT.out).mono ?_);rintro E w2 ⟨A2,c2,rfl,hCr,hcr,hw⟩;have hm2:=hw.more;have W2:=Aside0.mk hw;have HCr:=Aside0.mk hCr;have Hcr:=Aside0.mk hcr;clear hw hCr hcr;have D2:=Aside0.mk ((D.out.went W1.out).went W2.out))|((with_reducible refine gate_builtin (b:=.append) (xs:=#[.tmp 57,.tmp 58]) rfl ?_);at_builtin;refine Kd.R_append_rows (Kd.int .u8) (w0:=w) w.heap.size rfl (.tmp 57) (.tmp 58) 22 5 (.int .u8 0) 1 rfl Tryz.underlying22 info5 rfl zb33 zb62 u9 out r3' _ _ _ (fun k_=>k_ ≠ w.heap.size) (fun _=>False) rfl rfl ?aO ?aR (fun _ _ h=>h) (fun _ h=>h.elim) ?aF ?aB ?aS ?aL ?_;(case aO=>exact (D2.out).2.2.2);(case aR=>exact Kd.C_below HCr.out D2.out.2.1);(case aF=>intro k_ hk e_;have:=blk_lt D2.out.1;omega);(case aB=>exact D2.out.2.1);(case aS=>exact D2.out.2.1.size);(case aL=>have:=HLEN.out;omega);intro v3 w3 ho hb3 hg3 hat;have D3:=Aside0.mk (show Dec w w3 w.heap.size A0 l0.length c0 q3 v3 (out ++ r3') from ⟨dec_blk_grown D2.out.1 hg3 (fun e=>(D2.out).2.2.2.1 _ e.symm rfl),hb3,Nat.le_refl _,ho⟩);clear ho hb3 hg3 hat))
       go_roundg k
       case rel=>exact ⟨q3,wrap64 (left - n1),out ++ r3',rfl,H2,D3⟩
       case measure=>exact Nat.lt_succ_self k
      ·rw [if_neg c5] at h
       cases h
     ·rw [if_pos rfl] at h
      simp only [Option.some.injEq,Prod.mk.injEq] at h
      obtain ⟨rfl,rfl,rfl⟩:=h
      go_wp2_with (first|(go_at_call 122;(with_reducible refine (CALL.out ()).mono ?_);rintro E w1 ⟨rfl,hw⟩;have hm:=hw.more;have W1:=Aside0.mk hw;clear hw)|(go_at_call 123;(with_reducible refine (chunk_reader_data.calls w.heap.size A0 c0 l0 q1 n1 false r3' _ _ _ w w1 (went_rdr W1.out) HC.out (D.out.below W1.out) (Nat.le_refl _) hc0 HT.out).mono ?_);rintro E w2 ⟨A2,c2,rfl,hCr,hcr,hw⟩;have hm2:=hw.more;have W2:=Aside0.mk hw;have HCr:=Aside0.mk hCr;have Hcr:=Aside0.mk hcr;clear hw hCr hcr))
      go_ret3
      exact dec_none ((D.out.went W1.out).below W2.out)
    ·rw [if_pos rfl] at h
     simp only [Option.some.injEq,Prod.mk.injEq] at h
     obtain ⟨rfl,rfl,rfl⟩:=h
     go_wp2_with (first|(go_at_call 122;(with_reducible refine (CALL.out ()).mono ?_);rintro E w1 ⟨rfl,hw⟩;have hm:=hw.more;have W1:=Aside0.mk hw;clear hw))
     go_ret3
     exact dec_none (D.out.below W1.out)
def http_body.f (k:Nat) (l0:List Int) (a1:Int) (a2:Bool):Option (List Int × Int × Int):=if a2=true then ((chunk_Decode.f k l0 4096).bind fun bt251=>(if bt251.2.2=2 then (some (([]:List Int),(-1),413)) else (if bt251.2.2=0 then (if bt251.2.1=0 then (some (([]:List Int),(-1),0)) else (some (bt251.1,bt251.2.1,0))) else (some (([]:List Int),(-1),400))))) else (if (l0.length:Int) < a1 then (some (([]:List Int),(-1),0)) else (if 0 ≤ a1 then (if a1 ≤ (l0.length:Int) then ((bytes_Clone.f (l0.take (a1:Int).toNat)).bind fun t248=>(some (t248,a1,0))) else (none)) else (none)))
set_option maxHeartbeats 8000000 in
set_option maxRecDepth 100000 in
theorem http_body.calls (k:Nat) (A0:Option Addr) (c0:Nat) (l0:List Int) (a1:Int) (a2:Bool) (r1:List Int) (r2:Int) (r3:Int) (w:World) (hr0:Kd.C (Kd.int .u8) w A0 l0.length l0) (hc0:l0.length ≤ c0) (h:http_body.f k l0 a1 a2=some (r1,r2,r3)) :
 Calls Tryz.prog 45 #[.slice A0 l0.length c0,.int .i64 a1,.bool a2] w fun e w' => ∃ v0_:Value,e = .returned (.tuple #[v0_,.int .i64 r2,.int .i64 r3])∧Kd.R (Kd.int .u8) 5 w' w.heap.size (fun _=>True) v0_ r1∧Below w.heap.size w w' := by
 have HR0:=Aside0.mk hr0
 have HC0:=Aside0.mk hc0
 clear hr0 hc0
 have HB:=Aside0.mk (Below.refl w.heap.size w)
 unfold http_body.f at h
 have H:=h
 clear h
 by_cases c4:a2=true;rotate_left
 ·replace c4:=Bool.eq_false_iff.mpr c4
  subst c4
  rw [if_neg (show ¬ (false=true) by decide)] at H
  by_cases c13:(l0.length:Int) < a1
  ·rw [if_pos c13] at H
   have c13b0:=decide_eq_true c13
   clear c13
   simp only [Option.some.injEq,Prod.mk.injEq] at H
   obtain ⟨rfl,rfl,rfl⟩:=H
   go_enter Tryz.func45,Tryz.ntmps45
   go_wp2
   go_ret3
   exact ⟨_,zb3,zb7,zb0⟩
  rw [if_neg c13] at H
  have c13b0:=decide_eq_false c13
  clear c13
  by_cases c14:0 ≤ a1;rotate_left
  ·rw [if_neg c14] at H
   exact absurd H zb55
  rw [if_pos c14] at H
  have c14b0:=eq_true c14
  have c14b1:=decide_eq_true c14
  clear c14
  by_cases c15:a1 ≤ (l0.length:Int);rotate_left
  ·rw [if_neg c15] at H
   exact absurd H zb55
  rw [if_pos c15] at H
  have c15b0:=eq_true c15
  have c15b1:=decide_eq_true c15
  clear c15
  replace H:=Option.bind_eq_some_iff.mp H
  obtain ⟨t248,A160,H⟩:=H
  try dsimp only at H
  have A16:=Aside0.mk A160
  clear A160
  simp only [Option.some.injEq,Prod.mk.injEq] at H
  obtain ⟨rfl,rfl,rfl⟩:=H
  obtain ⟨i017,hi017,_,hsz17,_⟩:=info_parts info5
  obtain ⟨hcut17,hA17,hC17⟩:=print_take_of (P:=Tryz.prog) (Value.int .u8) 0 22 5 .i64 Tryz.underlying22 hi017 hsz17 A0 c0 l0 a1 (of_decide_eq_true zb10) (of_decide_eq_true zb10) HC0.out
  have HR247:=Aside0.mk (Kd.C_of_reads (h1:=fun _=>rfl) (hA17 _ (Kd.reads_of_C HR0.out)))
  have HC247:=Aside0.mk hC17
  clear hA17 hC17 hi017 hsz17
  go_enter Tryz.func45,Tryz.ntmps45
  go_wp2_with (first|((with_reducible refine gate_callee (f:=62) rfl ?_);refine goesL_ (some 21) rfl rfl Tryz.func62 zb9 rfl #[.slice A0 (l0.take (a1:Int).toNat).length c0] rfl (by (try simp only [List.map_toArray,List.map_cons,List.map_nil]);first|done|(rw [show (l0.take (a1:Int).toNat).length=a1.toNat from (by rw [List.length_take];have h_:(a1:Int) ≤ (l0.length:Int):=of_decide_eq_true (by first|(with_reducible assumption)|assumption);omega)] <;> rfl)|rfl|(simp only [List.length_drop,List.length_take];rfl)) ?_;(with_reducible refine (bytes_Clone.calls _ _ (l0.take (a1:Int).toNat) t248 _ ?side1 ?side2 A16.out).mono ?_);(case side1=>repeat (first|exact HR247.out|(with_reducible refine Kd.C_alloc ?_ _)|(with_reducible refine Kd.C_drewN ?_ _)|(with_reducible refine Kd.C_drew ?_)));(case side2=>exact HC247.out);rintro e w18 ⟨v249,rfl,ho0,hb⟩;(try clear A16);refine ⟨_,rfl,?_⟩;have HO250:=Aside0.mk (Kd.R_lower ho0 (below_size zb0));replace HB:=Aside0.mk (below_step zb0 hb);try clear hb ho0))
  go_ret3
  exact ⟨_,zb3,by (with_reducible repeat (first|apply Kd.R_alloc|apply Kd.R_drewN|apply Kd.R_drew));exact HO250.out,zb0⟩
 subst c4
 rw [if_pos rfl] at H
 replace H:=Option.bind_eq_some_iff.mp H
 obtain ⟨⟨t251,t252,t253⟩,A50,H⟩:=H
 try dsimp only at H
 have A5:=Aside0.mk A50
 clear A50
 by_cases c6:t253=2
 ·rw [if_pos c6] at H
  have c6b0:=beq_iff_eq.mpr c6
  have c6b1:=bne_eq_false_iff_eq.mpr c6
  clear c6
  simp only [Option.some.injEq,Prod.mk.injEq] at H
  obtain ⟨rfl,rfl,rfl⟩:=H
  go_enter Tryz.func45,Tryz.ntmps45
  go_wp2_with (first|((with_reducible refine gate_callee (f:=79) rfl ?_);refine goesL_ (some 25) rfl rfl Tryz.func79 zb9 rfl #[.slice A0 l0.length c0,.int .i64 4096] rfl zb1 ?_;(with_reducible refine (chunk_Decode.calls k _ _ l0 4096 t251 t252 t253 _ ?side1 ?side2 A5.out).mono ?_);(case side1=>exact zb23);(case side2=>exact HC0.out);rintro e w7 ⟨v254,rfl,ho0,hb⟩;(try clear A5);refine ⟨_,rfl,?_⟩;have HO255:=Aside0.mk (Kd.R_lower ho0 (below_size zb0));replace HB:=Aside0.mk (below_step zb0 hb);try clear hb ho0))
  go_ret3
  exact ⟨_,zb3,zb7,zb0⟩
 ·rw [if_neg c6] at H
  have c6b0:=beq_eq_false_iff_ne.mpr c6
  have c6b1:=bne_iff_ne.mpr c6
  by_cases c8:t253=0
  ·rw [if_pos c8] at H
   have c8b0:=beq_iff_eq.mpr c8
   have c8b1:=bne_eq_false_iff_eq.mpr c8
   clear c8
   by_cases c9:t252=0
   ·rw [if_pos c9] at H
    have c9b0:=beq_iff_eq.mpr c9
    have c9b1:=bne_eq_false_iff_eq.mpr c9
    clear c9
    simp only [Option.some.injEq,Prod.mk.injEq] at H
    obtain ⟨rfl,rfl,rfl⟩:=H
    go_enter Tryz.func45,Tryz.ntmps45
    go_wp2_with (first|((with_reducible refine gate_callee (f:=79) rfl ?_);refine goesL_ (some 25) rfl rfl Tryz.func79 zb9 rfl #[.slice A0 l0.length c0,.int .i64 4096] rfl zb1 ?_;(with_reducible refine (chunk_Decode.calls k _ _ l0 4096 t251 t252 t253 _ ?side1 ?side2 A5.out).mono ?_);(case side1=>exact zb23);(case side2=>exact HC0.out);rintro e w10 ⟨v254,rfl,ho0,hb⟩;(try clear A5);refine ⟨_,rfl,?_⟩;have HO255:=Aside0.mk (Kd.R_lower ho0 (below_size zb0));replace HB:=Aside0.mk (below_step zb0 hb);try clear hb ho0))
    go_ret3
    exact ⟨_,zb3,zb7,zb0⟩
   ·rw [if_neg c9] at H
    have c9b0:=beq_eq_false_iff_ne.mpr c9
    have c9b1:=bne_iff_ne.mpr c9
    simp only [Option.some.injEq,Prod.mk.injEq] at H
    obtain ⟨rfl,rfl,rfl⟩:=H
    go_enter Tryz.func45,Tryz.ntmps45
    go_wp2_with (first|((with_reducible refine gate_callee (f:=79) rfl ?_);refine goesL_ (some 25) rfl rfl Tryz.func79 zb9 rfl #[.slice A0 l0.length c0,.int .i64 4096] rfl zb1 ?_;(with_reducible refine (chunk_Decode.calls k _ _ l0 4096 t251 t252 t253 _ ?side1 ?side2 A5.out).mono ?_);(case side1=>exact zb23);(case side2=>exact HC0.out);rintro e w11 ⟨v254,rfl,ho0,hb⟩;(try clear A5);refine ⟨_,rfl,?_⟩;have HO255:=Aside0.mk (Kd.R_lower ho0 (below_size zb0));replace HB:=Aside0.mk (below_step zb0 hb);try clear hb ho0))
    go_ret3
    exact ⟨_,zb3,by (with_reducible repeat (first|apply Kd.R_alloc|apply Kd.R_drewN|apply Kd.R_drew));exact HO255.out,zb0⟩
  ·rw [if_neg c8] at H
   have c8b0:=beq_eq_false_iff_ne.mpr c8
   have c8b1:=bne_iff_ne.mpr c8
   simp only [Option.some.injEq,Prod.mk.injEq] at H
   obtain ⟨rfl,rfl,rfl⟩:=H
   go_enter Tryz.func45,Tryz.ntmps45
   go_wp2_with (first|((with_reducible refine gate_callee (f:=79) rfl ?_);refine goesL_ (some 25) rfl rfl Tryz.func79 zb9 rfl #[.slice A0 l0.length c0,.int .i64 4096] rfl zb1 ?_;(with_reducible refine (chunk_Decode.calls k _ _ l0 4096 t251 t252 t253 _ ?side1 ?side2 A5.out).mono ?_);(case side1=>exact zb23);(case side2=>exact HC0.out);rintro e w12 ⟨v254,rfl,ho0,hb⟩;(try clear A5);refine ⟨_,rfl,?_⟩;have HO255:=Aside0.mk (Kd.R_lower ho0 (below_size zb0));replace HB:=Aside0.mk (below_step zb0 hb);try clear hb ho0))
   go_ret3
   exact ⟨_,zb3,zb7,zb0⟩
def http_rest.f (k:Nat) (l0:List Int) (a1:Int) (a2:Int) (a3:Bool):Option (List Int × Int × Bool):=if a1=3 then (if (l0.length:Int) > 4096 then (some (([]:List Int),(-1),false)) else (if a3=true then ((bytes_Clone.f l0).bind fun t898=>(some (t898,(l0.length:Int),true))) else (some (([]:List Int),(-1),true)))) else ((http_body.f k l0 a2 (a1 == 2)).bind fun bt893=>(some (bt893.1,bt893.2.1,(bt893.2.2 == 0))))
set_option maxHeartbeats 8000000 in
set_option maxRecDepth 100000 in
theorem http_rest.calls (k:Nat) (A0:Option Addr) (c0:Nat) (l0:List Int) (a1:Int) (a2:Int) (a3:Bool) (r1:List Int) (r2:Int) (r3:Bool) (w:World) (hr0:Kd.C (Kd.int .u8) w A0 l0.length l0) (hc0:l0.length ≤ c0) (h:http_rest.f k l0 a1 a2 a3=some (r1,r2,r3)) :
 Calls Tryz.prog 71 #[.slice A0 l0.length c0,.int .i64 a1,.int .i64 a2,.bool a3] w fun e w' => ∃ v0_:Value,e = .returned (.tuple #[v0_,.int .i64 r2,.bool r3])∧Kd.R (Kd.int .u8) 5 w' w.heap.size (fun _=>True) v0_ r1∧Below w.heap.size w w' := by
 have HR0:=Aside0.mk hr0
 have HC0:=Aside0.mk hc0
 clear hr0 hc0
 have HB:=Aside0.mk (Below.refl w.heap.size w)
 unfold http_rest.f at h
 have H:=h
 clear h
 by_cases c5:a1=3;rotate_left
 ·rw [if_neg c5] at H
  have c5b0:=beq_eq_false_iff_ne.mpr c5
  have c5b1:=bne_iff_ne.mpr c5
  replace H:=Option.bind_eq_some_iff.mp H
  obtain ⟨⟨t893,t894,t895⟩,A100,H⟩:=H
  try dsimp only at H
  have A10:=Aside0.mk A100
  clear A100
  simp only [Option.some.injEq,Prod.mk.injEq] at H
  obtain ⟨rfl,rfl,rfl⟩:=H
  go_enter Tryz.func71,Tryz.ntmps71
  go_wp2_with (first|((with_reducible refine gate_callee (f:=45) rfl ?_);refine goesL_ (some 21) rfl rfl Tryz.func45 zb9 rfl #[.slice A0 l0.length c0,.int .i64 a2,.bool (a1 == 2)] rfl zb1 ?_;(with_reducible refine (http_body.calls k _ _ l0 a2 (a1 == 2) t893 t894 t895 _ ?side1 ?side2 A10.out).mono ?_);(case side1=>exact zb23);(case side2=>exact HC0.out);rintro e w11 ⟨v896,rfl,ho0,hb⟩;(try clear A10);refine ⟨_,rfl,?_⟩;have HO897:=Aside0.mk (Kd.R_lower ho0 (below_size zb0));replace HB:=Aside0.mk (below_step zb0 hb);try clear hb ho0))
  go_ret3
  exact ⟨_,zb3,by (with_reducible repeat (first|apply Kd.R_alloc|apply Kd.R_drewN|apply Kd.R_drew));exact HO897.out,zb0⟩
 rw [if_pos c5] at H
 have c5b0:=beq_iff_eq.mpr c5
 have c5b1:=bne_eq_false_iff_eq.mpr c5
 clear c5
 by_cases c6:(l0.length:Int) > 4096
 ·rw [if_pos c6] at H
  have c6b0:decide (4096 < (l0.length:Int))=true:=decide_eq_true c6
  have c6b1:decide (4096 < l0.length)=true:=decide_eq_true zb62
  clear c6
  simp only [Option.some.injEq,Prod.mk.injEq] at H
  obtain ⟨rfl,rfl,rfl⟩:=H
  go_enter Tryz.func71,Tryz.ntmps71
  go_wp2
  go_ret3
  exact ⟨_,zb3,zb7,zb0⟩
 rw [if_neg c6] at H
 have c6b0:decide (4096 < (l0.length:Int))=false:=decide_eq_false c6
 have c6b1:decide (4096 < l0.length)=false:=decide_eq_false zb62
 clear c6
 by_cases c7:a3=true
 ·subst c7
  rw [if_pos rfl] at H
  replace H:=Option.bind_eq_some_iff.mp H
  obtain ⟨t898,A80,H⟩:=H
  try dsimp only at H
  have A8:=Aside0.mk A80
  clear A80
  simp only [Option.some.injEq,Prod.mk.injEq] at H
  obtain ⟨rfl,rfl,rfl⟩:=H
  go_enter Tryz.func71,Tryz.ntmps71
  go_wp2_with (first|((with_reducible refine gate_callee (f:=62) rfl ?_);refine goesL_ (some 35) rfl rfl Tryz.func62 zb9 rfl #[.slice A0 l0.length c0] rfl zb1 ?_;(with_reducible refine (bytes_Clone.calls _ _ l0 t898 _ ?side1 ?side2 A8.out).mono ?_);(case side1=>exact zb23);(case side2=>exact HC0.out);rintro e w9 ⟨v899,rfl,ho0,hb⟩;(try clear A8);refine ⟨_,rfl,?_⟩;have HO900:=Aside0.mk (Kd.R_lower ho0 (below_size zb0));replace HB:=Aside0.mk (below_step zb0 hb);try clear hb ho0))
  go_ret3
  exact ⟨_,zb3,by (with_reducible repeat (first|apply Kd.R_alloc|apply Kd.R_drewN|apply Kd.R_drew));exact HO900.out,zb0⟩
 ·replace c7:=Bool.eq_false_iff.mpr c7
  subst c7
  rw [if_neg (show ¬ (false=true) by decide)] at H
  simp only [Option.some.injEq,Prod.mk.injEq] at H
  obtain ⟨rfl,rfl,rfl⟩:=H
  go_enter Tryz.func71,Tryz.ntmps71
  go_wp2
  go_ret3
  exact ⟨_,zb3,zb7,zb0⟩
def http_Response.f (k:Nat) (l0:List Int) (a1:ByteArray) (a2:Bool):Option (Int × ByteArray × Int × List (S36) × List Int × Int × Bool) :=
 (http_head.f statusFst k l0).bind fun h=>if h.2.1=0 then some (0,⟨#[]⟩,0,[],[],0,h.2.2.1 == 0 && !a2) else (h.2.2.2).bind fun s=>(line_Status.f k s).bind fun x=>(frame_Response.f k a1 x.1 x.2.1 x.2.2.1 h.1 []).bind fun y =>
  if y.2.2=true then (if 0 ≤ h.2.1 then (if h.2.1 ≤ (l0.length:Int) then ((http_rest.f k (l0.drop h.2.1.toNat) y.1 y.2.1 a2).bind fun z=>if z.2.1 < 0 then some (0,⟨#[]⟩,0,[],[],0,z.2.2 && !a2) else if z.2.2=true then some (x.1,x.2.1,x.2.2.1,h.1,z.1,wrap64 (h.2.1 + z.2.1),true) else some (0,⟨#[]⟩,0,[],[],0,false)) else none) else none) else some (0,⟨#[]⟩,0,[],[],0,false)
/-- What it hands back. -/
def RespPost (w:World) (r1:Int) (r2:ByteArray) (r3:Int) (r4:List (S36)) (r5:List Int) (r6:Int) (r7:Bool) (e:Ending) (w' : World):Prop := ∃ v4_ v5_:Value,e = .returned (.tuple #[.agg #[.int .i64 r1,.string r2,.int .i64 r3,v4_,v5_],.int .i64 r6,.bool r7])∧Kd.R k36 36 w' w.heap.size (fun _=>True) v4_ r4∧Kd.R (Kd.int .u8) 5 w' w.heap.size (fun _=>True) v5_ r5∧Below w.heap.size w w'
theorem lsDet {k k' : Nat} {s:ByteArray} {a b:Int × ByteArray × Int × List (S36) × List Int × Bool} (h:line_Status.f k s=some a) (h' : line_Status.f k' s=some b):a=b:=by
 have lup : ∀ {n:Nat} {r},line_Status.f n s=some r → ∀ d,line_Status.f (n + d) s=some r:=by
  intro n r h d
  induction d with
  | zero=>exact h
  | succ d ih=>exact line_Status.mono s _ _ ih
 have h1:=lup h k'
 have h2:=lup h' k
 rw [Nat.add_comm] at h2
 exact Option.some.inj (h1.symm.trans h2)
theorem resp_none {w w' : World} {r7:Bool} (hb:Below w.heap.size w w'):RespPost w 0 ⟨#[]⟩ 0 [] [] 0 r7 (.returned (.tuple #[.agg #[.int .i64 0,.string (⟨#[]⟩:ByteArray),.int .i64 0,.slice none 0 0,.slice none 0 0],.int .i64 0,.bool r7])) w' := ⟨_,_,rfl,Kd.R_nil _ _ _ _ _,Kd.R_nil _ _ _ _ _,hb⟩
theorem put5 {w W:World} {R:Nat} (h:Below w.heap.size w W) (hR:w.heap.size ≤ R) (a b c d e:Value):Below w.heap.size w (((((W.setCell ⟨R,0,none⟩ a).setCell ⟨R,1,none⟩ b).setCell ⟨R,2,none⟩ c).setCell ⟨R,3,none⟩ d).setCell ⟨R,4,none⟩ e) :=
 ((((h.setCell hR a).setCell hR b).setCell hR c).setCell hR d).setCell hR e
theorem blk5 {W:World} {R t:Nat} {x0 x1 x2 x3 x4:Value} (h:W.heap[R]? = some (.cells #[x0,x1,x2,x3,x4] t (0,0))) (a b c d e:Value):(((((W.setCell ⟨R,0,none⟩ a).setCell ⟨R,1,none⟩ b).setCell ⟨R,2,none⟩ c).setCell ⟨R,3,none⟩ d).setCell ⟨R,4,none⟩ e).heap[R]? = some (.cells #[a,b,c,d,e] t (0,0)) :=
 blk_put (blk_put (blk_put (blk_put (blk_put h 0 _ rfl) 1 _ rfl) 2 _ rfl) 3 _ rfl) 4 _ rfl
theorem R_put5 {α:Type} {dd:Kd α} {ty base G R:Nat} {W:World} {v:Value} {xs:List α} (h:dd.R ty W base (fun k=>k ≠ G∧k ≠ R) v xs) (a b c d e:Value):dd.R ty (((((W.setCell ⟨R,0,none⟩ a).setCell ⟨R,1,none⟩ b).setCell ⟨R,2,none⟩ c).setCell ⟨R,3,none⟩ d).setCell ⟨R,4,none⟩ e) base (fun k=>k ≠ G∧k ≠ R) v xs :=
 Kd.R_far (Kd.R_far (Kd.R_far (Kd.R_far (Kd.R_far h (fun _ hk=>hk.2) a) (fun _ hk=>hk.2) b) (fun _ hk=>hk.2) c) (fun _ hk=>hk.2) d) (fun _ hk=>hk.2) e
set_option maxRecDepth 100000 in
set_option maxHeartbeats 0 in
theorem http_Response_leaf {p:Prop} (h:p:=by
 go_enter Tryz.func39,Tryz.ntmps39
 go_wp2_with (first
  | ((with_reducible refine gate_dst (N:=6) rfl ?_);refine box_event ?hg (N:=6) ?hd (cs:=#[.int .i64 0,.string (⟨#[]⟩:ByteArray),.int .i64 0,.slice none 0 0,.slice none 0 0]) (t:=62) ?hr ?_;(case hd=>rfl);(case hg=>rfl);(case hr=>first|(go_simp;done)|(go_simp;rfl));intro R hR w5 hBR hbR;have BR:=Aside0.mk hBR;have LR:=Aside0.mk hbR;have ER:=Aside0.mk hR;clear hBR hbR hR)
  | ((with_reducible refine gate_dst (N:=9) rfl ?_);refine box_event ?hg (N:=9) ?hd (cs:=#[.int .i64 0,.string (⟨#[]⟩:ByteArray),.int .i64 0,.slice none 0 0,.slice none 0 0]) (t:=62) ?hr ?_;(case hd=>rfl);(case hg=>rfl);(case hr=>first|(go_simp;done)|(go_simp;rfl));intro G hG w6 hBG hbG;have BG:=Aside0.mk hBG;have LG:=Aside0.mk hbG;have EG2:=Aside0.mk hG;clear hBG hbG hG)
  | (have _:=M0;go_at_call 67;refine (http_head.callsOf statusFst 68 #[.pointer (some ⟨G,0,none⟩)] EG.out G 62 StatusVal w5 k A0 c0 l0 h1 _ _ _ w6 (Kd.C_below HC.out LR.out) HCC.out (Nat.le_of_eq EG2.out.symm) ⟨_,rfl,BG.out⟩ LG.out (http_Response_1.callsOf G) HH.out).mono ?_;rintro E w7 ⟨v0,rfl,hS⟩;obtain ⟨Af,cf,rfl⟩:=Kd.R_slice hS.2.2;have HS:=Aside0.mk hS;have BR7:=Aside0.mk (blk_below BR.out hS.2.1);have fR0:=blk_frozen BR7.out 0;have qR0:w7.cell? ⟨R,0,none⟩=some (.int .i64 0):=(blk_cell BR7.out 0).trans rfl;have fR1:=blk_frozen BR7.out 1;have qR1:w7.cell? ⟨R,1,none⟩=some (.string (⟨#[]⟩:ByteArray)):=(blk_cell BR7.out 1).trans rfl;have fR2:=blk_frozen BR7.out 2;have qR2:w7.cell? ⟨R,2,none⟩=some (.int .i64 0):=(blk_cell BR7.out 2).trans rfl;have fR3:=blk_frozen BR7.out 3;have qR3:w7.cell? ⟨R,3,none⟩=some (.slice none 0 0):=(blk_cell BR7.out 3).trans rfl;have fR4:=blk_frozen BR7.out 4;have qR4:w7.cell? ⟨R,4,none⟩=some (.slice none 0 0):=(blk_cell BR7.out 4).trans rfl;clear hS)
  | (have _:=M1;go_at_call 67;refine (http_head.callsOf statusFst 68 #[.pointer (some ⟨G,0,none⟩)] EG.out G 62 StatusVal w5 k A0 c0 l0 h1 _ _ _ w6 (Kd.C_below HC.out LR.out) HCC.out (Nat.le_of_eq EG2.out.symm) ⟨_,rfl,BG.out⟩ LG.out (http_Response_1.callsOf G) HH.out).mono ?_;rintro E w7 ⟨v0,rfl,hS⟩;obtain ⟨Af,cf,rfl⟩:=Kd.R_slice hS.2.2;have HS:=Aside0.mk hS;have BR7:=Aside0.mk (blk_below BR.out hS.2.1);obtain ⟨cs,⟨k2,s1,s2,s3,s6,B3,d3,B4,d4,hst,rfl⟩,hBG⟩:=hS.1;have e:=lsDet HX.out hst;simp only [Prod.mk.injEq] at e;obtain ⟨rfl,rfl,rfl,rfl,rfl,rfl⟩:=e;have BG7:=Aside0.mk hBG;have S7:=Aside0.mk (Kd.R_mono (Kd.R_bound hS.2.2) (fun q hq=>(⟨hq.1,fun e=>by have z1:=hq.2.1;have z2:=blk_lt BR.out;omega⟩:q ≠ G∧q ≠ R)));have fR0:=blk_frozen BR7.out 0;have qR0:w7.cell? ⟨R,0,none⟩=some (.int .i64 0):=(blk_cell BR7.out 0).trans rfl;have fR1:=blk_frozen BR7.out 1;have qR1:w7.cell? ⟨R,1,none⟩=some (.string (⟨#[]⟩:ByteArray)):=(blk_cell BR7.out 1).trans rfl;have fR2:=blk_frozen BR7.out 2;have qR2:w7.cell? ⟨R,2,none⟩=some (.int .i64 0):=(blk_cell BR7.out 2).trans rfl;have fR3:=blk_frozen BR7.out 3;have qR3:w7.cell? ⟨R,3,none⟩=some (.slice none 0 0):=(blk_cell BR7.out 3).trans rfl;have fR4:=blk_frozen BR7.out 4;have qR4:w7.cell? ⟨R,4,none⟩=some (.slice none 0 0):=(blk_cell BR7.out 4).trans rfl;have fG0:=blk_frozen BG7.out 0;have qG0:w7.cell? ⟨G,0,none⟩=some (.int .i64 x1):=(blk_cell BG7.out 0).trans rfl;have fG1:=blk_frozen BG7.out 1;have qG1:w7.cell? ⟨G,1,none⟩=some (.string x2):=(blk_cell BG7.out 1).trans rfl;have fG2:=blk_frozen BG7.out 2;have qG2:w7.cell? ⟨G,2,none⟩=some (.int .i64 x3):=(blk_cell BG7.out 2).trans rfl;have fG3:=blk_frozen BG7.out 3;have qG3:w7.cell? ⟨G,3,none⟩=some (.slice B3 0 d3):=(blk_cell BG7.out 3).trans rfl;have fG4:=blk_frozen BG7.out 4;have qG4:w7.cell? ⟨G,4,none⟩=some (.slice B4 0 d4):=(blk_cell BG7.out 4).trans rfl;clear hst hBG;clear hS)
  | (go_at_call 70;refine (frame_Response.calls k a1 x1 x2 x3 Af cf h1 B4 d4 [] y1 y2 _ _ (Kd.R_reads' (Kd.R_far (p:=⟨G,3,none⟩) S7.out (fun q hq=>hq.1) _)).2.2 (Kd.R_reads' S7.out).2.1 ⟨rfl,by simp,fun h=>absurd h (Nat.lt_irrefl 0)⟩ (Nat.zero_le _) HY.out).mono ?_;rintro E w9 ⟨rfl,hb9⟩;have S9:=Aside0.mk (Kd.R_below (Kd.R_far (p:=⟨G,3,none⟩) S7.out (fun q hq=>hq.1) (.slice Af h1.length cf)) hb9);have BG9:=Aside0.mk (blk_below (blk_put BG7.out 3 _ rfl) hb9);have BR9:=Aside0.mk (blk_below ((Below.heap_setCell w7 ⟨G,3,none⟩ (.slice Af h1.length cf) R (by have z1:=EG2.out;have z2:=blk_lt BR.out;show R ≠ G;omega)).trans BR7.out) hb9);have L9:=Aside0.mk ((LR.out.trans (hbase LR.out.size (HS.out.2.1.setCell (p:=⟨G,3,none⟩) (Nat.le_of_eq EG2.out.symm) (.slice Af h1.length cf)))).trans (hbase (by simpa [World.setCell] using Nat.le_trans LR.out.size HS.out.2.1.size) hb9));have fR0:=blk_frozen BR9.out 0;have qR0:w9.cell? ⟨R,0,none⟩=some (.int .i64 0):=(blk_cell BR9.out 0).trans rfl;have fR1:=blk_frozen BR9.out 1;have qR1:w9.cell? ⟨R,1,none⟩=some (.string (⟨#[]⟩:ByteArray)):=(blk_cell BR9.out 1).trans rfl;have fR2:=blk_frozen BR9.out 2;have qR2:w9.cell? ⟨R,2,none⟩=some (.int .i64 0):=(blk_cell BR9.out 2).trans rfl;have fR3:=blk_frozen BR9.out 3;have qR3:w9.cell? ⟨R,3,none⟩=some (.slice none 0 0):=(blk_cell BR9.out 3).trans rfl;have fR4:=blk_frozen BR9.out 4;have qR4:w9.cell? ⟨R,4,none⟩=some (.slice none 0 0):=(blk_cell BR9.out 4).trans rfl;have fG0:=blk_frozen BG9.out 0;have qG0:w9.cell? ⟨G,0,none⟩=some (.int .i64 x1):=(blk_cell BG9.out 0).trans rfl;have fG1:=blk_frozen BG9.out 1;have qG1:w9.cell? ⟨G,1,none⟩=some (.string x2):=(blk_cell BG9.out 1).trans rfl;have fG2:=blk_frozen BG9.out 2;have qG2:w9.cell? ⟨G,2,none⟩=some (.int .i64 x3):=(blk_cell BG9.out 2).trans rfl;have fG3:=blk_frozen BG9.out 3;have qG3:w9.cell? ⟨G,3,none⟩=some (.slice Af h1.length cf):=(blk_cell BG9.out 3).trans rfl;have fG4:=blk_frozen BG9.out 4;have qG4:w9.cell? ⟨G,4,none⟩=some (.slice B4 0 d4):=(blk_cell BG9.out 4).trans rfl;clear hb9)
  | (have _:=M2;go_at_call 71;(try rw [← List.length_drop]);(with_reducible refine (CALL.out _ L9.out).mono ?_);rintro E w10 ⟨vb,rfl,hRb,hb10⟩;obtain ⟨Ab,cb,rfl⟩:=Kd.R_slice hRb;have SB:=Aside0.mk (Kd.R_mono (Kd.R_bound hRb) (fun q hq=>(⟨fun e=>by have z1:=hq.2.1;have z2:=blk_lt BG9.out;omega,fun e=>by have z1:=hq.2.1;have z2:=blk_lt BR9.out;omega⟩:q ≠ G∧q ≠ R)));have S10:=Aside0.mk (Kd.R_below S9.out hb10);have BG10:=Aside0.mk (blk_below BG9.out hb10);have BR10:=Aside0.mk (blk_below BR9.out hb10);have L10:=Aside0.mk (L9.out.trans (hbase L9.out.size hb10));have fR0:=blk_frozen BR10.out 0;have qR0:w10.cell? ⟨R,0,none⟩=some (.int .i64 0):=(blk_cell BR10.out 0).trans rfl;have fR1:=blk_frozen BR10.out 1;have qR1:w10.cell? ⟨R,1,none⟩=some (.string (⟨#[]⟩:ByteArray)):=(blk_cell BR10.out 1).trans rfl;have fR2:=blk_frozen BR10.out 2;have qR2:w10.cell? ⟨R,2,none⟩=some (.int .i64 0):=(blk_cell BR10.out 2).trans rfl;have fR3:=blk_frozen BR10.out 3;have qR3:w10.cell? ⟨R,3,none⟩=some (.slice none 0 0):=(blk_cell BR10.out 3).trans rfl;have fR4:=blk_frozen BR10.out 4;have qR4:w10.cell? ⟨R,4,none⟩=some (.slice none 0 0):=(blk_cell BR10.out 4).trans rfl;have fG0:=blk_frozen BG10.out 0;have qG0:w10.cell? ⟨G,0,none⟩=some (.int .i64 x1):=(blk_cell BG10.out 0).trans rfl;have fG1:=blk_frozen BG10.out 1;have qG1:w10.cell? ⟨G,1,none⟩=some (.string x2):=(blk_cell BG10.out 1).trans rfl;have fG2:=blk_frozen BG10.out 2;have qG2:w10.cell? ⟨G,2,none⟩=some (.int .i64 x3):=(blk_cell BG10.out 2).trans rfl;have fG3:=blk_frozen BG10.out 3;have qG3:w10.cell? ⟨G,3,none⟩=some (.slice Af h1.length cf):=(blk_cell BG10.out 3).trans rfl;have fG4:=blk_frozen BG10.out 4;have qG4:w10.cell? ⟨G,4,none⟩=some (.slice B4 0 d4):=(blk_cell BG10.out 4).trans rfl;clear hRb hb10)
  | (have _:=M3;go_at_call 71;(try rw [← List.length_drop]);(with_reducible refine (CALL.out _ L9.out).mono ?_);rintro E w10 ⟨vb,rfl,hRb,hb10⟩;obtain ⟨Ab,cb,rfl⟩:=Kd.R_slice hRb;have SB:=Aside0.mk (Kd.R_mono (Kd.R_bound hRb) (fun q hq=>(⟨fun e=>by have z1:=hq.2.1;have z2:=blk_lt BG9.out;omega,fun e=>by have z1:=hq.2.1;have z2:=blk_lt BR9.out;omega⟩:q ≠ G∧q ≠ R)));have S10:=Aside0.mk (Kd.R_below S9.out hb10);have BG10:=Aside0.mk (blk_below BG9.out hb10);have BR10:=Aside0.mk (blk_below BR9.out hb10);have L10:=Aside0.mk (L9.out.trans (hbase L9.out.size hb10));have fR0:=blk_frozen BR10.out 0;have qR0:w10.cell? ⟨R,0,none⟩=some (.int .i64 0):=(blk_cell BR10.out 0).trans rfl;have fR1:=blk_frozen BR10.out 1;have qR1:w10.cell? ⟨R,1,none⟩=some (.string (⟨#[]⟩:ByteArray)):=(blk_cell BR10.out 1).trans rfl;have fR2:=blk_frozen BR10.out 2;have qR2:w10.cell? ⟨R,2,none⟩=some (.int .i64 0):=(blk_cell BR10.out 2).trans rfl;have fR3:=blk_frozen BR10.out 3;have qR3:w10.cell? ⟨R,3,none⟩=some (.slice none 0 0):=(blk_cell BR10.out 3).trans rfl;have fR4:=blk_frozen BR10.out 4;have qR4:w10.cell? ⟨R,4,none⟩=some (.slice none 0 0):=(blk_cell BR10.out 4).trans rfl;have fG0:=blk_frozen BG10.out 0;have qG0:w10.cell? ⟨G,0,none⟩=some (.int .i64 x1):=(blk_cell BG10.out 0).trans rfl;have fG1:=blk_frozen BG10.out 1;have qG1:w10.cell? ⟨G,1,none⟩=some (.string x2):=(blk_cell BG10.out 1).trans rfl;have fG2:=blk_frozen BG10.out 2;have qG2:w10.cell? ⟨G,2,none⟩=some (.int .i64 x3):=(blk_cell BG10.out 2).trans rfl;have fG3:=blk_frozen BG10.out 3;have qG3:w10.cell? ⟨G,3,none⟩=some (.slice Af h1.length cf):=(blk_cell BG10.out 3).trans rfl;have fG4:=blk_frozen BG10.out 4;have qG4:w10.cell? ⟨G,4,none⟩=some (.slice B4 0 d4):=(blk_cell BG10.out 4).trans rfl;have BRX:=Aside0.mk ((Below.heap_setCell w10 ⟨G,4,none⟩ (.slice Ab z1.length cb) R (by have z1:=EG2.out;have z2:=blk_lt BR.out;show R ≠ G;omega)).trans BR10.out);have BGX:=Aside0.mk (blk_put BG10.out 4 (.slice Ab z1.length cb) rfl);have fR0:=blk_frozen BRX.out 0;have qR0:(w10.setCell ⟨G,4,none⟩ (.slice Ab z1.length cb)).cell? ⟨R,0,none⟩=some (.int .i64 0):=(blk_cell BRX.out 0).trans rfl;have fR1:=blk_frozen BRX.out 1;have qR1:(w10.setCell ⟨G,4,none⟩ (.slice Ab z1.length cb)).cell? ⟨R,1,none⟩=some (.string (⟨#[]⟩:ByteArray)):=(blk_cell BRX.out 1).trans rfl;have fR2:=blk_frozen BRX.out 2;have qR2:(w10.setCell ⟨G,4,none⟩ (.slice Ab z1.length cb)).cell? ⟨R,2,none⟩=some (.int .i64 0):=(blk_cell BRX.out 2).trans rfl;have fR3:=blk_frozen BRX.out 3;have qR3:(w10.setCell ⟨G,4,none⟩ (.slice Ab z1.length cb)).cell? ⟨R,3,none⟩=some (.slice none 0 0):=(blk_cell BRX.out 3).trans rfl;have fR4:=blk_frozen BRX.out 4;have qR4:(w10.setCell ⟨G,4,none⟩ (.slice Ab z1.length cb)).cell? ⟨R,4,none⟩=some (.slice none 0 0):=(blk_cell BRX.out 4).trans rfl;have fG0:=blk_frozen BGX.out 0;have qG0:(w10.setCell ⟨G,4,none⟩ (.slice Ab z1.length cb)).cell? ⟨G,0,none⟩=some (.int .i64 x1):=(blk_cell BGX.out 0).trans rfl;have fG1:=blk_frozen BGX.out 1;have qG1:(w10.setCell ⟨G,4,none⟩ (.slice Ab z1.length cb)).cell? ⟨G,1,none⟩=some (.string x2):=(blk_cell BGX.out 1).trans rfl;have fG2:=blk_frozen BGX.out 2;have qG2:(w10.setCell ⟨G,4,none⟩ (.slice Ab z1.length cb)).cell? ⟨G,2,none⟩=some (.int .i64 x3):=(blk_cell BGX.out 2).trans rfl;have fG3:=blk_frozen BGX.out 3;have qG3:(w10.setCell ⟨G,4,none⟩ (.slice Ab z1.length cb)).cell? ⟨G,3,none⟩=some (.slice Af h1.length cf):=(blk_cell BGX.out 3).trans rfl;have fG4:=blk_frozen BGX.out 4;have qG4:(w10.setCell ⟨G,4,none⟩ (.slice Ab z1.length cb)).cell? ⟨G,4,none⟩=some (.slice Ab z1.length cb):=(blk_cell BGX.out 4).trans rfl;clear hRb hb10))
 first
  | (have _:=E0;refine bodyPost_ret (results_ctt rfl _ _ R 62 #[.int .i64 0,.string (⟨#[]⟩:ByteArray),.int .i64 0,.slice none 0 0,.slice none 0 0] (0,0) _ rfl (blk5 BR7.out _ _ _ _ _) hu rfl (by kernel_rfl)) rfl ?_;exact resp_none (put5 (LR.out.trans (hbase LR.out.size HS.out.2.1)) (Nat.le_of_eq ER.out.symm) _ _ _ _ _))
  | (have _:=E1;refine bodyPost_ret (results_ctt rfl _ _ R 62 #[.int .i64 0,.string (⟨#[]⟩:ByteArray),.int .i64 0,.slice none 0 0,.slice none 0 0] (0,0) _ rfl (blk5 BR9.out _ _ _ _ _) hu rfl (by kernel_rfl)) rfl ?_;exact resp_none (put5 L9.out (Nat.le_of_eq ER.out.symm) _ _ _ _ _))
  | (have _:=E2;refine bodyPost_ret (results_ctt rfl _ _ R 62 #[.int .i64 0,.string (⟨#[]⟩:ByteArray),.int .i64 0,.slice none 0 0,.slice none 0 0] (0,0) _ rfl (blk5 BR10.out _ _ _ _ _) hu rfl (by kernel_rfl)) rfl ?_;exact resp_none (put5 L10.out (Nat.le_of_eq ER.out.symm) _ _ _ _ _))
  | (have _:=E3;refine bodyPost_ret (results_ctt rfl _ _ R 62 #[.int .i64 x1,.string x2,.int .i64 x3,.slice Af h1.length cf,.slice Ab z1.length cb] (0,0) _ rfl (blk5 BRX.out _ _ _ _ _) hu rfl (by kernel_rfl)) rfl ?_;exact ⟨_,_,rfl,Kd.R_lower (Kd.R_mono (R_put5 (Kd.R_far (p:=⟨G,4,none⟩) S10.out (fun q hq=>hq.1) _) _ _ _ _ _) (fun _ _=>trivial)) LR.out.size,Kd.R_lower (Kd.R_mono (R_put5 (Kd.R_far (p:=⟨G,4,none⟩) SB.out (fun q hq=>hq.1) _) _ _ _ _ _) (fun _ _=>trivial)) L9.out.size,put5 (L10.out.setCell (p:=⟨G,4,none⟩) (by have z1:=EG2.out;have z2:=LR.out.size;show _ ≤ G;omega) _) (Nat.le_of_eq ER.out.symm) _ _ _ _ _⟩)):p:=h
set_option maxHeartbeats 8000000 in
set_option maxRecDepth 100000 in
theorem http_Response.calls (k:Nat) (A0:Option Addr) (c0:Nat) (l0:List Int) (a1:ByteArray) (a2:Bool) (r1:Int) (r2:ByteArray) (r3:Int) (r4:List (S36)) (r5:List Int) (r6:Int) (r7:Bool) (w:World) (hr0:Kd.C (Kd.int .u8) w A0 l0.length l0) (hc0:l0.length ≤ c0) (h:http_Response.f k l0 a1 a2=some (r1,r2,r3,r4,r5,r6,r7)) :
 Calls Tryz.prog 39 #[.slice A0 l0.length c0,.string a1,.bool a2] w fun e w' => ∃ v4_ v5_:Value,e = .returned (.tuple #[.agg #[.int .i64 r1,.string r2,.int .i64 r3,v4_,v5_],.int .i64 r6,.bool r7])∧Kd.R k36 36 w' w.heap.size (fun _=>True) v4_ r4∧Kd.R (Kd.int .u8) 5 w' w.heap.size (fun _=>True) v5_ r5∧Below w.heap.size w w' := by
 show Calls _ _ _ _ (RespPost w r1 r2 r3 r4 r5 r6 r7)
 unfold http_Response.f at h
 obtain ⟨⟨h1,h2,h3,h4⟩,hh,h'⟩:=Option.bind_eq_some_iff.1 h
 clear h
 have h:=h'
 clear h'
 simp only at h
 have hu:=Tryz.underlying62
 have HC:=Aside0.mk hr0
 have HCC:=Aside0.mk hc0
 have HH:=Aside0.mk hh
 have eg : ∀ args w,(callFunc 68 args).run Tryz.prog w = .ok (.enter 68 args) w:=enters_of Tryz.func68 zb9 rfl
 have EG:=Aside0.mk eg
 clear hr0 hc0 hh eg
 by_cases b0:h2=0
 ·rw [if_pos b0] at h
  simp only [Option.some.injEq,Prod.mk.injEq] at h
  obtain ⟨rfl,rfl,rfl,rfl,rfl,rfl,e7⟩:=h
  subst b0
  by_cases b1:h3=0;rotate_left
  ·have d3:(h3 == 0)=false:=beq_eq_false_iff_ne.2 b1
   clear b1
   rw [d3,Bool.false_and] at e7
   subst e7
   have M0:=trivial;have E0:=trivial;exact http_Response_leaf
  subst b1
  cases a2
  ·subst e7
   have M0:=trivial;have E0:=trivial;exact http_Response_leaf
  ·subst e7
   have M0:=trivial;have E0:=trivial;exact http_Response_leaf
 rw [if_neg b0] at h
 have d2:(h2 == 0)=false:=beq_eq_false_iff_ne.2 b0
 clear b0
 obtain ⟨s,e4,h'⟩:=Option.bind_eq_some_iff.1 h
 subst e4
 clear h
 obtain ⟨⟨x1,x2,x3,x4,x5,x6⟩,hx,h⟩:=Option.bind_eq_some_iff.1 h'
 clear h'
 obtain ⟨⟨y1,y2,y3⟩,hy,h'⟩:=Option.bind_eq_some_iff.1 h
 clear h
 simp only at h'
 have h:=h'
 clear h'
 have HX:=Aside0.mk hx
 have HY:=Aside0.mk hy
 clear hx hy
 cases y3
 ·rw [if_neg zb55] at h
  simp only [Option.some.injEq,Prod.mk.injEq] at h
  obtain ⟨rfl,rfl,rfl,rfl,rfl,rfl,rfl⟩:=h
  have M1:=trivial;have E1:=trivial;exact http_Response_leaf
 rw [if_pos rfl] at h
 by_cases b1:0 ≤ h2;rotate_left
 ·rw [if_neg b1] at h
  cases h
 rw [if_pos b1] at h
 by_cases b2:h2 ≤ (l0.length:Int)
 ·rw [if_pos b2] at h
  obtain ⟨⟨z1,z2,z3⟩,hz,h'⟩:=Option.bind_eq_some_iff.1 h
  clear h
  simp only at h'
  have h:=h'
  clear h'
  obtain ⟨i0,hi0,_,hsz,_⟩:=info_parts info5
  obtain ⟨A',hsl,hrd,hcc'⟩:=print_drop_of (P:=Tryz.prog) (Value.int .u8) 0 22 5 .i64 Tryz.underlying22 hi0 hsz A0 c0 l0 h2 b1 b2 HCC.out
  have CALL:=Aside0.mk (fun (W:World) (hW:Below w.heap.size w W)=>http_rest.calls k A' _ (l0.drop h2.toNat) y1 y2 a2 z1 z2 z3 W (Kd.C_of_reads (h1:=fun _=>rfl) (hrd W (Kd.reads_of_C (Kd.C_below HC.out hW)))) hcc' hz)
  clear hrd hcc' hz b1 b2 hi0 hsz
  by_cases c1:z2 < 0
  ·rw [if_pos c1] at h
   simp only [Option.some.injEq,Prod.mk.injEq] at h
   obtain ⟨rfl,rfl,rfl,rfl,rfl,rfl,e7⟩:=h
   have m1:(z2 < 0)=True:=eq_true c1
   clear c1
   cases z3 <;> cases a2 <;> subst e7
   all_goals
    have M1:=trivial;have M2:=trivial;have E2:=trivial;exact http_Response_leaf
  rw [if_neg c1] at h
  have m1:(z2 < 0)=False:=eq_false c1
  clear c1
  cases z3
  ·rw [if_neg zb55] at h
   simp only [Option.some.injEq,Prod.mk.injEq] at h
   obtain ⟨rfl,rfl,rfl,rfl,rfl,rfl,rfl⟩:=h
   have M1:=trivial;have M2:=trivial;have E2:=trivial;exact http_Response_leaf
  rw [if_pos rfl] at h
  simp only [Option.some.injEq,Prod.mk.injEq] at h
  obtain ⟨rfl,rfl,rfl,rfl,rfl,rfl,rfl⟩:=h
  have M1:=trivial;have M3:=trivial;have E3:=trivial;exact http_Response_leaf
 ·rw [if_neg b2] at h
  cases h
def field_Line.f (a0_0:ByteArray) (a0_1:ByteArray):Option (ByteArray):=if a0_0.size + 2 ≤ 9223372036854775807 then (if (a0_0 ++ (⟨#[58,32]⟩:ByteArray)).size + a0_1.size ≤ 9223372036854775807 then (if ((a0_0 ++ (⟨#[58,32]⟩:ByteArray)) ++ a0_1).size + 2 ≤ 9223372036854775807 then (some (((a0_0 ++ (⟨#[58,32]⟩:ByteArray)) ++ a0_1) ++ (⟨#[13,10]⟩:ByteArray))) else (none)) else (none)) else (none)
set_option maxHeartbeats 8000000 in
set_option maxRecDepth 100000 in
theorem field_Line.calls (a0_0:ByteArray) (a0_1:ByteArray) (r:ByteArray) (w:World) (h:field_Line.f a0_0 a0_1=some r) :
 Calls Tryz.prog 94 #[.agg #[.string a0_0,.string a0_1]] w fun e w' => e = .returned (.string r)∧Below w.heap.size w w' := by
 have hu36:=Tryz.underlying36
 have HB:=Aside0.mk (Below.refl w.heap.size w)
 unfold field_Line.f at h
 have H:=h
 clear h
 by_cases c2:a0_0.size + 2 ≤ 9223372036854775807;rotate_left
 ·rw [if_neg c2] at H
  exact absurd H zb55
 rw [if_pos c2] at H
 have c2b0:=eq_true c2
 have c2b1:=decide_eq_true c2
 try have c2b2:(9223372036854775807 < a0_0.size + 2)=False:=eq_false (Nat.not_lt.2 c2)
 by_cases c3:(a0_0 ++ (⟨#[58,32]⟩:ByteArray)).size + a0_1.size ≤ 9223372036854775807
 ·rw [if_pos c3] at H
  have c3b0:=eq_true c3
  have c3b1:=decide_eq_true c3
  try have c3b2:(9223372036854775807 < (a0_0 ++ (⟨#[58,32]⟩:ByteArray)).size + a0_1.size)=False:=eq_false (Nat.not_lt.2 c3)
  try (have c3b3:=c3b0;simp only [ByteArray.size_append] at c3b3;have c3b4:=c3b2;simp only [ByteArray.size_append] at c3b4)
  try have c3b5:(9223372036854775807 < a0_0.size + 2 + a0_1.size)=False:=eq_false (by have q_:=c3;simp only [ByteArray.size_append] at q_;have e0_:(⟨#[58,32]⟩:ByteArray).size=2:=rfl;omega)
  try have c3b6:(a0_0.size + 2 + a0_1.size ≤ 9223372036854775807)=True:=eq_true (by have q_:=c3;simp only [ByteArray.size_append] at q_;have e0_:(⟨#[58,32]⟩:ByteArray).size=2:=rfl;omega)
  by_cases c4:((a0_0 ++ (⟨#[58,32]⟩:ByteArray)) ++ a0_1).size + 2 ≤ 9223372036854775807;rotate_left
  ·rw [if_neg c4] at H
   exact absurd H zb55
  rw [if_pos c4] at H
  have c4b0:=eq_true c4
  have c4b1:=decide_eq_true c4
  try have c4b2:(9223372036854775807 < ((a0_0 ++ (⟨#[58,32]⟩:ByteArray)) ++ a0_1).size + 2)=False:=eq_false (Nat.not_lt.2 c4)
  try (have c4b3:=c4b0;simp only [ByteArray.size_append] at c4b3;have c4b4:=c4b2;simp only [ByteArray.size_append] at c4b4)
  try have c4b5:(9223372036854775807 < a0_0.size + 2 + a0_1.size + 2)=False:=eq_false (by have q_:=c4;simp only [ByteArray.size_append] at q_;have e0_:(⟨#[58,32]⟩:ByteArray).size=2:=rfl;omega)
  try have c4b6:(a0_0.size + 2 + a0_1.size + 2 ≤ 9223372036854775807)=True:=eq_true (by have q_:=c4;simp only [ByteArray.size_append] at q_;have e0_:(⟨#[58,32]⟩:ByteArray).size=2:=rfl;omega)
  obtain rfl:=Option.some.inj H
  go_enter Tryz.func94,Tryz.ntmps94
  go_wp2_with (first|((with_reducible refine gate_dst (N:=1) rfl ?_);refine box_event rfl (N:=1) rfl (cs:=#[.string a0_0,.string a0_1]) (t:=36) zS ?_;intro gb305 hg w5 hbox hb;have GW305:=zG hg zb0;have GE305:=GW305;have BK305:=Aside0.mk hbox;replace HB:=Aside0.mk (below_step zb0 hb);clear hb hbox hg;obtain ⟨hcz6_0,hcz6_1,hfz6_0,hfz6_1⟩:=zq2 BK305.out))
  go_ret
  exact ⟨zb3,by repeat (first|(with_reducible first|exact HB.out|apply below_alloc|apply pw_below_drewN|apply below_drew1|refine below_set ?_ GE305.out)|exact HB.out)⟩
 ·rw [if_neg c3] at H
  exact absurd H zb55
/-- A slice of bytes that this call made,whatever stands behind its row: its cells can be written. -/
def BufM (w:World) (base:Nat) (v:Value) (xs:List Int):Prop := ∃ g cap,v = .slice (some ⟨g,0,none⟩) xs.length cap∧base ≤ g∧xs.length ≤ cap∧(∀ j u,xs[j]? = some u → w.cell? ⟨g,j,none⟩=some (.int .u8 u))∧(∀ j,j < cap → (w.cell? ⟨g,j,none⟩).isSome=true∧w.frozen? ⟨g,j,none⟩=false)
theorem BufM.form {w:World} {base:Nat} {v:Value} {xs:List Int} (h:BufM w base v xs) : ∃ A c,v = .slice A xs.length c:=by obtain ⟨g,cap,rfl,_⟩:=h;exact ⟨_,_,rfl⟩
theorem BufM.lower {w:World} {base b:Nat} {v:Value} {xs:List Int} (h:BufM w base v xs) (hb:b ≤ base):BufM w b v xs:=by obtain ⟨g,cap,e,hg,r⟩:=h;exact ⟨g,cap,e,Nat.le_trans hb hg,r⟩
theorem BufM.lt {w:World} {g j:Nat} (h:(w.cell? ⟨g,j,none⟩).isSome=true):g < w.heap.size:=by
 obtain ⟨u,hu⟩:=Option.isSome_iff_exists.1 h
 exact World.block_lt_of_cell? w _ hu
theorem BufM.below {w w1:World} {base:Nat} {v:Value} {xs:List Int} (h:BufM w base v xs) (hb:Below w.heap.size w w1):BufM w1 base v xs:=by
 obtain ⟨g,cap,e,hg,hc,h1,h2⟩:=h
 have hs : ∀ j,j < cap → w1.heap[g]? = w.heap[g]?:=fun j hj=>hb.block g (BufM.lt (h2 j hj).1)
 refine ⟨g,cap,e,hg,hc,fun j u hj=>?_,fun j hj=>?_⟩
 ·have hl:j < xs.length:=(List.getElem?_eq_some_iff.1 hj).1
  rw [World.cell?_of_block (a:=⟨g,j,none⟩) (hs j (by omega))]
  exact h1 j u hj
 rw [World.cell?_of_block (a:=⟨g,j,none⟩) (hs j hj),World.frozen?_of_block (a:=⟨g,j,none⟩) (hs j hj)]
 exact h2 j hj
theorem BufM.reads {w:World} {base:Nat} {v:Value} {xs:List Int} (h:BufM w base v xs) (hl:xs.length ≤ 9223372036854775807) : ∃ A c,v = .slice A xs.length c∧xs.length ≤ c∧Kd.C (Kd.int .u8) w A xs.length xs:=by
 obtain ⟨g,cap,e,hg,hc,h1,h2⟩:=h
 refine ⟨_,cap,e,hc,Kd.C_of_reads (h1:=fun _=>rfl) (d:=0) ⟨rfl,hl,fun _=>⟨_,rfl,fun j hj=>?_⟩⟩⟩
 have hadd:(⟨g,0,none⟩:Addr).add j=⟨g,j,none⟩:=by unfold Addr.add;split <;> simp_all
 rw [hadd,List.getD_eq_getElem?_getD,List.getElem?_eq_getElem (by omega)]
 exact h1 j _ (List.getElem?_eq_getElem (by omega))
theorem BufM.reads' {w:World} {base n c:Nat} {A:Option Addr} {xs:List Int} (h:BufM w base (.slice A n c) xs) (hl:xs.length ≤ 9223372036854775807):n=xs.length∧xs.length ≤ c∧Kd.C (Kd.int .u8) w A xs.length xs:=by
 obtain ⟨A',c',e,hc,hC⟩:=h.reads hl
 injection e with e1 e2 e3
 subst e1 e2 e3
 exact ⟨rfl,hc,hC⟩
/-- A slice of bytes that a call made out of a text: it is read,and stays. -/
def Kd.B (w:World) (base:Nat) (ok:Nat → Prop) (v:Value) (xs:List Int):Prop:=(∀ k,v.ownBlock=some k → ok k)∧BufM w base v xs∧0 < xs.length∧xs.length ≤ 9223372036854775807
theorem Kd.B_mono {w:World} {base:Nat} {ok ok' : Nat → Prop} {v:Value} {xs:List Int} (h:Kd.B w base ok v xs) (hok : ∀ k,ok k → ok' k):Kd.B w base ok' v xs:=⟨fun k hk=>hok k (h.1 k hk),h.2⟩
theorem Kd.B_below {w w1:World} {base:Nat} {ok:Nat → Prop} {v:Value} {xs:List Int} (h:Kd.B w base ok v xs) (hb:Below w.heap.size w w1):Kd.B w1 base ok v xs:=⟨h.1,h.2.1.below hb,h.2.2⟩
theorem Kd.B_lower {w:World} {base base' : Nat} {ok:Nat → Prop} {v:Value} {xs:List Int} (h:Kd.B w base ok v xs) (hb:base' ≤ base):Kd.B w base' ok v xs:=⟨h.1,h.2.1.lower hb,h.2.2⟩
theorem Kd.B_lt {w:World} {base:Nat} {ok:Nat → Prop} {v:Value} {xs:List Int} (h:Kd.B w base ok v xs) : ∀ k,v.ownBlock=some k → k < w.heap.size:=by
 obtain ⟨_,⟨g,cap,rfl,hg,hc,h1,h2⟩,hp,_⟩:=h
 intro k hk
 obtain rfl:g=k:=by simpa [Value.ownBlock] using hk
 exact BufM.lt (h2 0 (by omega)).1
theorem Kd.B_base {w:World} {base:Nat} {ok:Nat → Prop} {v:Value} {xs:List Int} (h:Kd.B w base ok v xs) : ∀ k,v.ownBlock=some k → base ≤ k:=by
 obtain ⟨_,⟨g,cap,rfl,hg,_⟩,_⟩:=h
 intro k hk
 obtain rfl:g=k:=by simpa [Value.ownBlock] using hk
 exact hg
theorem Kd.B_elder' {W w1:World} {base:Nat} {ok:Nat → Prop} {u v:Value} {xs:List Int} (hu:Kd.B W base ok u xs) (hbase : ∀ k,v.ownBlock=some k → W.heap.size ≤ k) (hb:Below W.heap.size W w1):Kd.B w1 base (fun k=>ok k∧some k ≠ v.ownBlock) u xs :=
 ⟨fun k hk=>⟨hu.1 k hk,fun he=>by have:=hbase k he.symm;have:=Kd.B_lt hu k hk;omega⟩,hu.2.1.below hb,hu.2.2⟩
theorem Kd.B_new' {W w1:World} {ok:Nat → Prop} {u v:Value} {xs:List Int} (h:Kd.B w1 W.heap.size ok v xs) (hlt : ∀ k,u.ownBlock=some k → k < W.heap.size):Kd.B w1 W.heap.size (fun k=>ok k∧some k ≠ u.ownBlock) v xs :=
 ⟨fun k hk=>⟨h.1 k hk,fun he=>by have:=hlt k he.symm;have:=Kd.B_base h k hk;omega⟩,h.2⟩
theorem Kd.B_alloc {w:World} {base:Nat} {ok:Nat → Prop} {v:Value} {xs:List Int} (h:Kd.B w base ok v xs) (o:Obj):Kd.B (w.alloc o) base ok v xs:=Kd.B_below h (below_alloc (Below.refl _ _) o)
theorem Kd.B_drew {w:World} {base:Nat} {ok:Nat → Prop} {v:Value} {xs:List Int} (h:Kd.B w base ok v xs):Kd.B w.drew base ok v xs:=Kd.B_below h (below_drew (Below.refl _ _))
theorem Kd.B_drewN {w:World} {base:Nat} {ok:Nat → Prop} {v:Value} {xs:List Int} (h:Kd.B w base ok v xs) (m:Nat):Kd.B (w.drewN m) base ok v xs:=Kd.B_below h (pw_below_drewN (Below.refl _ _) m)
theorem Kd.B_slice {w:World} {base:Nat} {ok:Nat → Prop} {v:Value} {xs:List Int} (h:Kd.B w base ok v xs) : ∃ A c,v = .slice A xs.length c:=h.2.1.form
theorem Kd.B_reads' {w:World} {base:Nat} {ok:Nat → Prop} {A:Option Addr} {n c:Nat} {xs:List Int} (h:Kd.B w base ok (.slice A n c) xs):n=xs.length∧n ≤ c∧Kd.C (Kd.int .u8) w A xs.length xs:=by
 obtain ⟨h1,h2,h3⟩:=h.2.1.reads' h.2.2.2
 exact ⟨h1,by omega,h3⟩
theorem Kd.B_step {w w1:World} {base:Nat} {ok:Nat → Prop} {v:Value} {xs:List Int} (h:Kd.B w base ok v xs) (hm : ∀ k,ok k → k < w.heap.size → w1.heap[k]? = w.heap[k]?):Kd.B w1 base ok v xs:=by
 have hlt:=Kd.B_lt h
 obtain ⟨h0,⟨g,cap,rfl,hg,hc,h1,h2⟩,hp,hl⟩:=h
 have hs:w1.heap[g]? = w.heap[g]?:=hm g (h0 g (by simp [Value.ownBlock])) (hlt g (by simp [Value.ownBlock]))
 refine ⟨h0,⟨g,cap,rfl,hg,hc,fun j u hj=>?_,fun j hj=>?_⟩,hp,hl⟩
 ·rw [World.cell?_of_block (a:=⟨g,j,none⟩) hs]
  exact h1 j u hj
 rw [World.cell?_of_block (a:=⟨g,j,none⟩) hs,World.frozen?_of_block (a:=⟨g,j,none⟩) hs]
 exact h2 j hj
theorem Kd.B_after {base:Nat} {ok:Nat → Prop} {W w1:World} {u v v1:Value} {xs:List Int} (h:Kd.B W base (fun k=>ok k∧some k ≠ v.ownBlock) u xs) (hg:W.grownBy w1 v.ownBlock) (hat:v1.ownBlock=v.ownBlock ∨ ∃ b,v1.ownBlock=some b∧W.heap.size ≤ b):Kd.B w1 base (fun k=>ok k∧some k ≠ v1.ownBlock) u xs:=by
 have hs:=Kd.B_step h (w1:=w1) (fun k ho hk=>hg.block k hk ho.2)
 refine ⟨fun k hk=>⟨(h.1 k hk).1,?_⟩,hs.2⟩
 rcases hat with hat|⟨b,hb,hle⟩
 ·rw [hat];exact (h.1 k hk).2
 rw [hb]
 intro he
 injection he with he
 have:=Kd.B_lt h k hk
 omega
theorem Kd.B_of {w:World} {base:Nat} {v:Value} {xs:List Int} (h:BufM w base v xs) (hp:0 < xs.length) (hl:xs.length ≤ 9223372036854775807):Kd.B w base (fun _=>True) v xs:=⟨fun _ _=>trivial,h,hp,hl⟩
theorem hbase2 {w w1:World} {b g:Nat} (hg:b ≤ g) (h:Below g w w1):Below b w w1:=⟨h.os,h.tape,h.output,h.size,fun i hi=>h.block i (Nat.lt_of_lt_of_le hi hg)⟩
theorem below_cells {a:World} {B g:Nat} (hg:B ≤ g) : ∀ (vs:List Value) (o:Nat) (w:World),Below B a w → Below B a (w.setCells g o vs)
 | [],_,_,h=>h
 | v :: r,o,w,h=>below_cells hg r (o + 1) (w.setCell ⟨g,o,none⟩ v) (h.setCell hg v)
theorem ints_cells (w:World) (g:Nat) (xs:List Int) (h1 : ∀ j u,xs[j]? = some u → w.cell? ⟨g,j,none⟩=some (.int .u8 u)) : ∀ j u,(xs.map (Value.int .u8))[j]? = some u → w.cell? ((⟨g,0,none⟩:Addr).add j)=some u:=by
 intro j u hj
 have hadd:(⟨g,0,none⟩:Addr).add j=⟨g,j,none⟩:=by unfold Addr.add;split <;> simp_all
 rw [List.getElem?_map] at hj
 obtain ⟨x,hx,rfl⟩:=Option.map_eq_some_iff.1 hj
 rw [hadd]
 exact h1 j x hx
/-- 'append' onto it,of a string's bytes or of a slice's. -/
theorem run_bufM {P:Program} (w:World) (base:Nat) (t tx ty e:TypeId) (i:TypeInfo) (ht:P.underlying t=some (.slice e)) (hi:P.info? e=some i) (hz:i.zero=some (.int .u8 0)) (hs1:i.size=1) (hb1:i.bytes=1)
 (v x:Value) (xs ys:List Int) (h:BufM w base v xs) (hs:Src P 1 tx x ys.length (ys.map (Value.int .u8)) w) (hn:xs.length + ys.length ≤ 140737488355328) (hbase:base ≤ w.heap.size) :
 ∃ v' w',(Builtin.append_ #[t,tx] ty #[v,x]).run P w = .ok v' w' ∧ BufM w' base v' (xs ++ ys)∧Below base w w' := by
 obtain ⟨g,cap,rfl,hg,hc,h1,h2⟩:=h
 have hs' : Src P i.size tx x ys.length (ys.map (Value.int .u8)) w:=by rw [hs1];exact hs
 by_cases hroom:xs.length + ys.length ≤ cap;rotate_left
 ·have hold:=run_firstCells_some (P:=P) w.drew 1 xs.length ⟨g,0,none⟩ xs.length cap (xs.map (Value.int .u8)) (by simp) (by intro j u hj;have:=ints_cells w g xs h1 j u hj;simpa using this)
  have hr:=run_append_grow_src (P:=P) w t tx ty e i (.int .u8 0) ht hi hz (some ⟨g,0,none⟩) xs.length cap (xs.map (Value.int .u8)) (by rw [hs1];exact hold) x ys.length (ys.map (Value.int .u8)) hs' (by omega) (by omega) (by rw [hb1];exact growslice_fits (by omega) (by omega))
  have hge:=grownCap_ge w (xs.length + ys.length) cap e
  have hnb : ∀ ob,(w.drew.alloc ob).heap[w.heap.size]? = some ob:=fun ob=>blk_new w.drew ob
  refine ⟨_,_,hr,⟨w.heap.size,_,by rw [List.length_append],hbase,by rw [List.length_append];exact hge,fun j u hj=>?_,fun j hj=>?_⟩,(below_drew (Below.refl _ _)).alloc hbase _⟩
  ·rw [blk_cell (hnb _) j,Array.getElem?_append_left (by simp;have:=(List.getElem?_eq_some_iff.1 hj).1;simp at this;omega)]
   simp only [List.getElem?_toArray]
   rw [← List.map_append,List.getElem?_map,hj]
   rfl
  refine ⟨?_,blk_frozen (hnb _) j⟩
  have hz1:(Value.int IntKind.u8 0).cells.size=1:=rfl
  rw [blk_cell (hnb _) j,Array.getElem?_eq_getElem (by simp only [Array.size_append,List.size_toArray,size_zeroCells,hz1,List.length_append,List.length_map];omega)]
  rfl
 have hr:=run_append_room_src (P:=P) w t tx ty e i ht hi g 0 xs.length cap x ys.length (ys.map (Value.int .u8)) hs' hroom
  (fun j hj=>by rw [hs1];simp only [List.length_map] at hj;exact (h2 (0 + xs.length * 1 + j) (by omega)).1) (fun j hj=>by rw [hs1];simp only [List.length_map] at hj;exact (h2 (0 + xs.length * 1 + j) (by omega)).2)
 rw [hs1,show 0 + xs.length * 1=xs.length by omega] at hr
 refine ⟨_,_,hr,⟨g,cap,by rw [List.length_append],hg,by rw [List.length_append];exact hroom,fun j u hj=>?_,fun j hj=>?_⟩,below_cells hg _ _ _ (Below.refl _ _)⟩
 ·by_cases hl:j < xs.length
  ·rw [List.getElem?_append_left hl] at hj
   rw [World.cell?_setCells_out g _ _ w ⟨g,j,none⟩ (fun _ _=>.inl hl)]
   exact h1 j u hj
  ·rw [List.getElem?_append_right (by omega)] at hj
   obtain ⟨hl2,e2⟩:=List.getElem?_eq_some_iff.1 hj
   have:=World.cell?_setCells_in g (ys.map (Value.int .u8)) xs.length w (fun q hq=>by simp only [List.length_map] at hq;exact (h2 _ (by omega)).1) (j - xs.length) (by simpa using hl2)
   rw [show xs.length + (j - xs.length)=j by omega] at this
   rw [this,List.getElem_map,e2]
 ·exact ⟨World.isSome_setCells g _ _ w _ (h2 j hj).1,by rw [World.frozen?_setCells];exact (h2 j hj).2⟩
theorem wp_bufM {P:Program} {ops:Array Oper} {rest:List Oper} {o:Oper} {a:Act} {Q:Exit → Act → World → Prop} {w:World} (hgd:o.guard=none) (sl x:Operand) (t tx:TypeId) (ho:o.op = .call { callee:=.builtin .append,args:=#[sl,x],argTypes:=#[t,tx] })
 (base:Nat) (e:TypeId) (i:TypeInfo) (ht:P.underlying t=some (.slice e)) (hi:P.info? e=some i) (hz:i.zero=some (.int .u8 0)) (hs1:i.size=1) (hb1:i.bytes=1) (v xv:Value) (xs ys:List Int) (hsl:a.eval sl=v) (hx:a.eval x=xv)
 (h:BufM w base v xs) (hs:Src P 1 tx xv ys.length (ys.map (Value.int .u8)) w) (hn:xs.length + ys.length ≤ 140737488355328) (hbase:base ≤ w.heap.size)
 (K : ∀ v' w',BufM w' base v' (xs ++ ys) → Below base w w' → wpList P ops Q rest (a.put o.dst v') w'):wpList P ops Q (o :: rest) a w:=by
 refine wpList_plain hgd fun K' hK=>?_
 obtain ⟨v',w',hr,h2,h3⟩:=run_bufM (P:=P) w base t tx o.type e i ht hi hz hs1 hb1 v xv xs ys h hs hn hbase
 unfold Oper.wp execOp
 simp only [ho,resolve,invoke,builtin,Sem.run_bind,Sem.run_pure,Result.andThen_ok,List.map_toArray,List.map_cons,List.map_nil,hsl,hx,hr]
 exact hK _ _ (K v' w' h2 h3)
theorem bufM_len (s:ByteArray):(bytesOf s).length=s.size:=by
 unfold bytesOf
 rw [List.length_map,Array.length_toList]
 rfl
theorem src_bytes {P:Program} (w:World) {tx:TypeId} (hk:P.underlying tx=some .string) (s:ByteArray):Src P 1 tx (.string s) (bytesOf s).length ((bytesOf s).map (Value.int .u8)) w:=by
 have h:=Src.ofString (P:=P) w hk s
 have e:(bytesOf s).map (Value.int .u8)=byteCells s:=by unfold bytesOf byteCells;rw [List.map_map];rfl
 rw [e,bufM_len]
 exact h
theorem src_ints {P:Program} {w:World} {tx e' : TypeId} (hk:P.underlying tx=some (.slice e')) {A:Option Addr} {c:Nat} {l:List Int} (h:Kd.C (Kd.int .u8) w A l.length l):Src P 1 tx (.slice A l.length c) l.length (l.map (Value.int .u8)) w:=by
 cases l with
 | nil=>cases A with
  | none=>exact Src.ofNil w hk c
  | some ad=>exact Src.ofSlice w hk ad 0 c [] rfl (fun j u hj=>by simp at hj) (fun u hu=>by cases hu)
 | cons x r =>
  obtain ⟨ad,rfl,hc⟩:=(Kd.reads_of_C (d:=0) h).2.2 (by simp)
  refine Src.ofSlice w hk ad _ c _ (by simp) (fun j u hj=>?_) (fun u hu=>by obtain ⟨_,_,rfl⟩:=List.mem_map.1 hu;rfl)
  rw [List.getElem?_map] at hj
  obtain ⟨y,hy,rfl⟩:=Option.map_eq_some_iff.1 hj
  obtain ⟨hl,e2⟩:=List.getElem?_eq_some_iff.1 hy
  have:=hc j hl
  rw [List.getD_eq_getElem?_getD,List.getElem?_eq_getElem hl,e2] at this
  exact this
theorem bufM_conv (w:World) (e:TypeId) (s:ByteArray):BufM (Lib.bytesWorld w e s) w.heap.size (.slice (some ⟨w.heap.size,0,none⟩) s.size (grownCap w s.size 0 e)) (bytesOf s):=by
 have hge:=grownCap_ge w s.size 0 e
 have hsz:(Lib.bytesCells w e s).size=grownCap w s.size 0 e:=by
  have h1:s.data.size=s.size:=rfl
  simp only [Lib.bytesCells,Array.size_append,Array.size_map,Array.size_replicate,h1];omega
 refine ⟨w.heap.size,_,by rw [bufM_len],Nat.le_refl _,by rw [bufM_len];exact hge,fun j u hj=>?_,fun j hj=>⟨?_,?_⟩⟩
 ·have hl:j < s.size:=by have:=(List.getElem?_eq_some_iff.1 hj).1;rw [bufM_len] at this;exact this
  rw [Lib.bytesWorld_cell w e s j hl]
  unfold bytesOf at hj
  rw [List.getElem?_map] at hj
  obtain ⟨y,hy,rfl⟩:=Option.map_eq_some_iff.1 hj
  rw [List.getD_eq_getElem?_getD,hy]
  rfl
 ·simp only [World.cell?,Lib.bytesWorld_at_new]
  rw [Array.getElem?_eq_getElem (by rw [hsz];exact hj)]
  rfl
 simp only [World.frozen?,Lib.bytesWorld_at_new,Bool.and_eq_false_iff,decide_eq_false_iff_not]
 left
 rw [hsz]
 omega
def http_write.l:Nat → List (S36) → List Int → Int → List Int → Option (List Int)
 | 0,_,_,_,_=>none
 | k + 1,fs,b,i,out=>if i < (fs.length:Int) then (if 0 ≤ i then ((field_Line.f (rd_T36 fs i).f0 (rd_T36 fs i).f1).bind fun s=>if out.length + s.size ≤ 140737488355328 then http_write.l k fs b (wrap64 (i + 1)) (out ++ bytesOf s) else none) else none) else (if out.length + 2 + b.length ≤ 140737488355328 then some ((out ++ [13,10]) ++ b) else none)
def http_write.f (k:Nat) (a0:ByteArray) (l1:List (S36)) (l2:List Int):Option (List Int):=http_write.l k l1 l2 0 (bytesOf a0)
theorem http_write.len_l : ∀ k fs b i out r,http_write.l k fs b i out=some r → 0 < r.length∧r.length ≤ 9223372036854775807
 | 0=>fun _ _ _ _ r h=>by simp [http_write.l] at h
 | k + 1=>by
  intro fs b i out r h
  rw [http_write.l] at h
  split at h
  ·split at h
   ·obtain ⟨s,_,h⟩:=Option.bind_eq_some_iff.1 h
    split at h
    ·exact http_write.len_l k _ _ _ _ _ h
    cases h
   cases h
  split at h
  ·injection h with h
   subst h
   simp only [List.length_append,List.length_cons,List.length_nil]
   omega
  cases h
theorem http_write.len {k:Nat} {a0:ByteArray} {fs:List (S36)} {b r:List Int} (h:http_write.f k a0 fs b=some r):0 < r.length∧r.length ≤ 9223372036854775807:=http_write.len_l k fs b 0 _ r h
set_option maxHeartbeats 8000000 in
set_option maxRecDepth 100000 in
theorem http_write.callsB (k:Nat) (a0:ByteArray) (A1:Option Addr) (c1:Nat) (l1:List (S36)) (A2:Option Addr) (c2:Nat) (l2:List Int) (r:List Int) (w:World) (hr1:Kd.C k36 w A1 l1.length l1) (hc1:l1.length ≤ c1) (hr2:Kd.C (Kd.int .u8) w A2 l2.length l2) (hc2:l2.length ≤ c2) (h:http_write.f k a0 l1 l2=some r) :
 Calls Tryz.prog 54 #[.string a0,.slice A1 l1.length c1,.slice A2 l2.length c2] w fun e w' => ∃ v,e = .returned v∧BufM w' w.heap.size v r∧Below w.heap.size w w' := by
 have hu:=Tryz.underlying36
 have hconv : ∀ W:World,(convert 9 22 (.string a0)).run Tryz.prog W = .ok (.slice (some ⟨W.heap.size,0,none⟩) a0.size (grownCap W a0.size 0 5)) (Lib.bytesWorld W 5 a0):=fun W=>Lib.run_convert_string_bytes W _ _ _ a0 Tryz.underlying9 Tryz.underlying22 Tryz.underlying5
 obtain ⟨i0,hi0,hz0,hsz0,hby0⟩:=info_parts info5
 have HI:=Aside0.mk (And.intro hi0 (And.intro hz0 (And.intro hsz0 hby0)))
 have HR1:=Aside0.mk hr1
 have HR2:=Aside0.mk hr2
 have H' := Aside0.mk (show http_write.l k l1 l2 0 (bytesOf a0)=some r from h)
 clear hr1 hc1 hr2 hc2 h hi0 hz0 hsz0 hby0
 go_enter Tryz.func54,Tryz.ntmps54
 go_wp2
 go_loopg [7,14] k (fun kq v7 v14 w' => ∃ (i:Int) (out:List Int),v14 = .int .i64 i∧Aside0 (http_write.l kq l1 l2 i out=some r)∧Aside0 (BufM w' w.heap.size v7 out)∧Aside0 (Below w.heap.size w w'))
 case atStart=>exact ⟨0,bytesOf a0,rfl,H',⟨bufM_conv w _ a0⟩,⟨bytes_below (Below.refl _ _) (Nat.le_refl _) _ _⟩⟩
 case round =>
  clear H'
  obtain ⟨i,out,rfl,HA,BU,HB⟩:=hrel
  cases gk with
  | zero=>exact absurd HA.out (by simp [http_write.l])
  | succ k =>
   have h:=HA.out
   clear HA
   simp only [http_write.l] at h
   obtain ⟨Ab,cb,eb⟩:=BU.out.form
   subst eb
   by_cases b0:i < (l1.length:Int);rotate_left
   ·rw [if_neg b0] at h
    have d0:decide (i < (l1.length:Int))=false:=decide_eq_false b0
    replace b0:=eq_false b0
    by_cases b2:out.length + 2 + l2.length ≤ 140737488355328;rotate_left
    ·rw [if_neg b2] at h
     cases h
    rw [if_pos b2] at h
    simp only [Option.some.injEq] at h
    subst h
    have LM:=Aside0.mk b2
    clear b2
    go_wp2_with (first
     | ((with_reducible refine gate_builtin (b:=.append) (xs:=#[.tmp 23,.const (.string ⟨#[13,10]⟩)]) rfl ?_);at_builtin;refine wp_bufM rfl (.tmp 23) (.const (.string ⟨#[13,10]⟩)) 22 9 rfl w.heap.size 5 i0 Tryz.underlying22 HI.out.1 HI.out.2.1 HI.out.2.2.1 HI.out.2.2.2 _ (.string ⟨#[13,10]⟩) out [13,10] rfl rfl BU.out (src_bytes _ Tryz.underlying9 ⟨#[13,10]⟩) (by have z:=LM.out;simp only [List.length_cons,List.length_nil];omega) HB.out.size ?_;intro v3 w3 hB3 hb3;obtain ⟨y3,hy3⟩ : ∃ y,y=out ++ [13,10]:=⟨_,rfl⟩;rw [← hy3] at hB3;have HY:=Aside0.mk hy3;obtain ⟨A3,c3,e3⟩:=hB3.form;subst e3;clear hy3;have B3:=Aside0.mk hB3;have L3:=Aside0.mk (HB.out.trans hb3);clear hB3 hb3)
     | ((with_reducible refine gate_builtin (b:=.append) (xs:=#[.tmp 24,.tmp 25]) rfl ?_);at_builtin;refine wp_bufM rfl (.tmp 24) (.tmp 25) 22 22 rfl w.heap.size 5 i0 Tryz.underlying22 HI.out.1 HI.out.2.1 HI.out.2.2.1 HI.out.2.2.2 _ (.slice A2 l2.length c2) y3 l2 rfl rfl B3.out (src_ints Tryz.underlying22 (Kd.C_below HR2.out L3.out)) (by have z:=LM.out;rw [HY.out];simp only [List.length_append,List.length_cons,List.length_nil];omega) L3.out.size ?_;intro v4 w4 hB4 hb4;have B4:=Aside0.mk hB4;have L4:=Aside0.mk (L3.out.trans hb4);clear hB4 hb4))
    go_ret
    exact ⟨_,rfl,by rw [← HY.out];exact B4.out,L4.out⟩
   rw [if_pos b0] at h
   by_cases b1:0 ≤ i
   ·rw [if_pos b1] at h
    obtain ⟨s,hl,h'⟩:=Option.bind_eq_some_iff.1 h
    clear h
    by_cases b2:out.length + s.size ≤ 140737488355328
    ·rw [if_pos b2] at h'
     have H2:=Aside0.mk h'
     have HL:=Aside0.mk hl
     have LM:=Aside0.mk b2
     clear h' hl b2
     obtain ⟨ad,e1,hx0,hx1⟩:=at_T36 HR1.out i b1 b0
     cases e1
     replace hx0:=(HB.out.cell (World.block_lt_of_cell? w _ hx0)).trans hx0
     replace hx1:=(HB.out.cell (World.block_lt_of_cell? w _ hx1)).trans hx1
     have d0:decide (i < (l1.length:Int))=true:=decide_eq_true b0
     replace b0:=eq_true b0
     replace b1:=eq_true b1
     go_wp2_with (first
      | (go_at_call 94;refine (field_Line.calls _ _ s _ HL.out).mono ?_;rintro E w2 ⟨rfl,hb2⟩;have B2:=Aside0.mk ((BU.out.below (below_alloc (Below.refl _ _) _)).below hb2);have L2:=Aside0.mk ((below_alloc HB.out _).trans (hbase2 (below_alloc HB.out _).size hb2));clear hb2)
      | ((with_reducible refine gate_builtin (b:=.append) (xs:=#[.tmp 18,.tmp 20]) rfl ?_);at_builtin;refine wp_bufM rfl (.tmp 18) (.tmp 20) 22 9 rfl w.heap.size 5 i0 Tryz.underlying22 HI.out.1 HI.out.2.1 HI.out.2.2.1 HI.out.2.2.2 _ (.string s) out (bytesOf s) rfl rfl B2.out (src_bytes _ Tryz.underlying9 s) (by rw [bufM_len];exact LM.out) L2.out.size ?_;intro v3 w3 hB3 hb3;have B3:=Aside0.mk hB3;have L3:=Aside0.mk (L2.out.trans hb3);clear hB3 hb3))
     go_roundg k
     case rel=>exact ⟨wrap64 (i + 1),out ++ bytesOf s,zb114,H2,B3,L3⟩
     case measure=>exact Nat.lt_succ_self k
    ·rw [if_neg b2] at h'
     cases h'
   ·rw [if_neg b1] at h
    cases h
theorem tz64_16 (w:World) (ht:Tabs w):Calls Tryz.prog 207 #[.int .u64 16] w fun e w' => e = .returned (.int .i64 4)∧Drawn0 w w' := by
 have hc:w.cell? ⟨5,15,none⟩=some (.int .u8 4):=ht.2.cell globalDeBruijn64 15 (by decide)
 have hb:Go.bits .and .u64 16 18446744073709551600=16:=by decide +kernel
 have hw1:IntKind.u64.wrap (-16)=18446744073709551600:=by decide +kernel
 have hw2:IntKind.u64.wrap (16 * 285870213051353865)=4573923408821661840:=by decide +kernel
 have hw3:IntKind.u64.wrap 4573923408821661840=4573923408821661840:=by decide +kernel
 have hw4:(4573923408821661840:Int) / 288230376151711744=15:=by decide +kernel
 clear ht
 go_enter Tryz.func207,Tryz.ntmps207
 go_wp2
 go_ret
 exact ⟨rfl,by repeat (first|exact Drawn0.refl _|apply Drawn0.step)⟩
theorem tz_16 (w:World) (ht:Tabs w):Calls Tryz.prog 197 #[.int .u64 16] w fun e w' => e = .returned (.int .i64 4)∧Drawn0 w w' := by
 go_enter Tryz.func197,Tryz.ntmps197
 go_wp2_with (go_at_call 207;(with_reducible refine (tz64_16 _ ht).mono ?_);rintro e w' ⟨rfl,⟨nd,rfl⟩⟩)
 go_ret
 exact ⟨rfl,by repeat (first|exact Drawn0.refl _|apply Drawn0.step)⟩
def strconv_isPowerOfTwo.f (a0:Int):Option (Bool):=some ((Go.bits .and .i64 a0 (wrap64 (a0 - 1))) == 0)
set_option maxHeartbeats 8000000 in
set_option maxRecDepth 100000 in
theorem strconv_isPowerOfTwo.calls (a0:Int) (r:Bool) (w:World) (h:strconv_isPowerOfTwo.f a0=some r) :
 Calls Tryz.prog 196 #[.int .i64 a0] w fun e w' => e = .returned (.bool r)∧Drawn0 w w' := by
 unfold strconv_isPowerOfTwo.f at h
 have H:=h
 clear h
 obtain rfl:=Option.some.inj H
 go_enter Tryz.func196,Tryz.ntmps196
 go_wp2
 go_ret
 exact ⟨zb8,zb13⟩
/-- A digit of the base 16. -/
def hexd (d:Nat):Int:=if d < 10 then 48 + d else 87 + d
/-- The digits of the base 16. -/
def hexD (u:Nat):List Int:=if h:u < 16 then [hexd u] else hexD (u / 16) ++ [hexd (u % 16)]
termination_by u
decreasing_by omega
theorem hexD_small (u:Nat) (h:u < 16):hexD u=[hexd u]:=by rw [hexD,dif_pos h]
theorem hexD_big (u:Nat) (h:16 ≤ u):hexD u=hexD (u / 16) ++ [hexd (u % 16)]:=by rw [hexD,dif_neg (by omega)]
/-- The last cells of the array of 65. -/
def Row65 (w:World) (g:Nat) (suf:List Int):Prop := ∃ cs,w.heap[g]? = some (.cells cs 193 (0,0))∧cs.size=65∧cs.toList.drop (65 - suf.length)=nums .u8 suf
theorem Row65.cell {w:World} {g:Nat} {suf:List Int} (h:Row65 w g suf) (j:Nat) (hj:j < 65) : ∃ v,w.cell? ⟨g,j,none⟩=some v:=by
 obtain ⟨cs,hb,hs,_⟩:=h
 rw [cell_of_row _ _ _ _ _ _ hb]
 exact ⟨_,Array.getElem?_eq_getElem (by omega)⟩
theorem Row65.free {w:World} {g:Nat} {suf:List Int} (h:Row65 w g suf) (j:Nat):w.frozen? ⟨g,j,none⟩=false:=by
 obtain ⟨cs,hb,_,_⟩:=h
 simp [World.frozen?,hb]
theorem Row65.set {w:World} {g:Nat} {suf:List Int} (h:Row65 w g suf) (hl:suf.length < 65) (v:Int):Row65 (w.setCell ⟨g,64 - suf.length,none⟩ (.int .u8 v)) g (v :: suf):=by
 obtain ⟨cs,hb,hs,hd⟩:=h
 refine ⟨cs.setIfInBounds (64 - suf.length) (.int .u8 v),by simp [World.setCell,Array.getElem?_modify,hb],by simpa using hs,?_⟩
 have hlen:cs.toList.length=65:=by rw [Array.length_toList];exact hs
 rw [Array.toList_setIfInBounds,List.length_cons,show 65 - (suf.length + 1)=64 - suf.length by omega,List.drop_set,if_neg (by omega),Nat.sub_self,List.drop_eq_getElem_cons (by omega),List.set_cons_zero,show 64 - suf.length + 1=65 - suf.length by omega,hd]
 rfl
theorem Row65.reads {w:World} {g:Nat} {suf:List Int} (h:Row65 w g suf) (hl:suf.length ≤ 65):ReadsInt w .u8 (some ⟨g,65 - suf.length,none⟩) suf.length suf:=by
 obtain ⟨cs,hb,hs,hd⟩:=h
 refine ⟨rfl,by omega,fun _=>⟨_,rfl,fun j hj=>?_⟩⟩
 have ha:(⟨g,65 - suf.length,none⟩:Addr).add j=⟨g,65 - suf.length + j,none⟩:=by
  unfold Addr.add;split <;> simp_all
 rw [ha,cell_of_row _ _ _ _ _ _ hb]
 have h1:(cs.toList.drop (65 - suf.length))[j]? = (nums .u8 suf)[j]?:=by rw [hd]
 rw [List.getElem?_drop] at h1
 rw [← Array.getElem?_toList,h1]
 simp [nums,List.getD_eq_getElem?_getD,List.getElem?_eq_getElem hj]
theorem pow_step (u l:Nat) (hl:l ≤ 15) (h:u < 16 ^ (16 - l)) (hu:16 ≤ u):l ≤ 14∧u / 16 < 16 ^ (16 - (l + 1)):=by
 have h14:l ≤ 14:=by
  rcases Nat.lt_or_ge l 15 with h1|h1
  ·omega
  obtain rfl:l=15:=by omega
  simp at h
  omega
 refine ⟨h14,?_⟩
 have e:16 ^ (16 - l)=16 ^ (16 - (l + 1)) * 16:=by rw [← Nat.pow_succ];congr 1;omega
 rw [e] at h
 exact (Nat.div_lt_iff_lt_mul (by decide)).2 h
theorem hexd_at (d:Int) (h0:0 ≤ d) (h1:d < 16):bt (⟨#[48,49,50,51,52,53,54,55,56,57,97,98,99,100,101,102,103,104,105,106,107,108,109,110,111,112,113,114,115,116,117,118,119,120,121,122]⟩:ByteArray) d=hexd d.toNat:=by
 obtain ⟨n,rfl⟩:=Int.eq_ofNat_of_zero_le h0
 have h : ∀ m:Fin 16,bt (⟨#[48,49,50,51,52,53,54,55,56,57,97,98,99,100,101,102,103,104,105,106,107,108,109,110,111,112,113,114,115,116,117,118,119,120,121,122]⟩:ByteArray) (m.val:Int)=hexd m.val:=by decide +kernel
 exact h ⟨n,by omega⟩
set_option maxHeartbeats 8000000 in
set_option maxRecDepth 100000 in
theorem formatBits_16 (n:Nat) (hn:n < 18446744073709551616) (w:World) (ht:Tabs w) :
 Calls Tryz.prog 180 #[.slice none 0 0,.int .u64 n,.int .i64 16,.bool false,.bool false] w fun e w' => e = .returned (.tuple #[.slice none 0 0,.string (strOfNums (hexD n))])∧Below w.heap.size w w' := by
 have HT:=Aside0.mk ht
 clear ht
 have HB:=Aside0.mk (Below.refl w.heap.size w)
 have HN:=Aside0.mk hn
 clear hn
 go_enter Tryz.func180,Tryz.ntmps180
 go_wp2_with (first
  | (go_at_call 196;(with_reducible refine (strconv_isPowerOfTwo.calls 16 true _ (by decide +kernel)).mono ?_);rintro e w1 ⟨rfl,⟨nd,rfl⟩⟩)
  | (go_at_call 197;(with_reducible refine (tz_16 _ ?ht).mono ?_);(case ht=>exact HT.out.below (by repeat (first|exact HB.out|apply below_alloc|apply pw_below_drewN)));rintro e w2 ⟨rfl,⟨nd2,rfl⟩⟩))
 go_loopw [1,13] (fun v1 v13 wr => ∃ (u i:Int) (suf:List Int),v1 = .int .u64 u∧v13 = .int .i64 i∧Aside0 (0 ≤ u∧i=65 - suf.length∧suf.length ≤ 15∧u.toNat < 16 ^ (16 - suf.length))∧Aside0 (hexD n=hexD u.toNat ++ suf)∧Aside0 (Row65 wr w.heap.size suf)∧Aside0 (Below w.heap.size w wr)) (fun v1 _ _=>(intOf v1).toNat)
 case atStart =>
  refine ⟨n,65,[],rfl,rfl,⟨by omega,by simp,by simp,by have:=HN.out;simpa using this⟩,⟨by simp⟩,⟨⟨Tryz.zeroCells193,?_,by kernel_rfl,by kernel_rfl⟩⟩,⟨by repeat (first|exact HB.out|apply below_alloc|apply pw_below_drewN)⟩⟩
  show (w.heap.push _)[w.heap.size]? = _
  simp
 case round =>
  obtain ⟨u,i,suf,rfl,rfl,HU,HE,HR,HB2⟩:=hrel
  clear HB
  have hu0:0 ≤ u:=HU.out.1
  have hi0:1 ≤ i:=by have:=HU.out;omega
  have hi1:i ≤ 65:=by have:=HU.out;omega
  have hu1:u ≤ 18446744073709551615:=by
   have h1:=HU.out.2.2.2
   have h2:16 ^ (16 - suf.length) ≤ 16 ^ 16:=Nat.pow_le_pow_right (by decide) (by omega)
   have h3:(16:Nat) ^ 16=18446744073709551616:=by decide
   omega
  have hj:i - 1=((64 - suf.length:Nat):Int):=by have:=HU.out;omega
  obtain ⟨cv,hc⟩:=HR.out.cell (64 - suf.length) (by omega)
  have hf:=HR.out.free (64 - suf.length)
  have hjt:i.toNat - 1=64 - suf.length:=by omega
  rw [← hjt] at hc hf
  by_cases hb:16 ≤ u
  ·have hb1:decide (16 ≤ u)=true:=decide_eq_true hb
   have hb2:decide (u ≥ 16)=true:=decide_eq_true hb
   obtain ⟨D,hD⟩ : ∃ D,Go.bits .and .u64 u 15=D:=⟨_,rfl⟩
   have hDm:D=u % 16:=by rw [← hD];exact bits_mask .u64 64 (by decide) (by intro x h0 h1;simp [IntKind.wrap,IntKind.bits,IntKind.signed];omega) 4 (by decide) u hu0 (by omega)
   have hD0:0 ≤ D:=by omega
   have hD1:D < 16:=by omega
   have hx:=bt_at (⟨#[48,49,50,51,52,53,54,55,56,57,97,98,99,100,101,102,103,104,105,106,107,108,109,110,111,112,113,114,115,116,117,118,119,120,121,122]⟩:ByteArray) D
   have HD:=Aside0.mk hDm
   have HX:=hexd_at D hD0 hD1
   have HX' := Aside0.mk HX
   have HJ:=Aside0.mk (And.intro hj hjt)
   have HB' := Aside0.mk hb
   clear HX hDm hj hjt hb
   go_wp2
   refine ⟨⟨u / 16,i - 1,hexd D.toNat :: suf,rfl,rfl,?_,⟨?_⟩,⟨?_⟩,⟨HB2.out.setCell (Nat.le_refl _) _⟩⟩,?_⟩
   ·obtain ⟨h14,hp⟩:=pow_step u.toNat suf.length HU.out.2.2.1 HU.out.2.2.2 (by have:=HB'.out;omega)
    have hq:(u / 16).toNat=u.toNat / 16:=by omega
    exact ⟨by omega,by have:=HU.out;rw [List.length_cons];omega,by rw [List.length_cons];omega,by rw [hq,List.length_cons];exact hp⟩
   ·rw [HE.out,hexD_big u.toNat (by have:=HB'.out;omega),show (u / 16).toNat=u.toNat / 16 by omega,show D.toNat=u.toNat % 16 by have:=HD.out;omega,List.append_assoc]
    rfl
   ·rw [HJ.out.2,HX'.out]
    exact HR.out.set (by have:=HU.out;omega) _
   have:=HB'.out
   simp only [intOf]
   omega
  have hb1:decide (16 ≤ u)=false:=decide_eq_false hb
  have hb2:decide (u ≥ 16)=false:=decide_eq_false hb
  have hu2:u < 16:=by omega
  have hx:=bt_at (⟨#[48,49,50,51,52,53,54,55,56,57,97,98,99,100,101,102,103,104,105,106,107,108,109,110,111,112,113,114,115,116,117,118,119,120,121,122]⟩:ByteArray) u
  have HX' := Aside0.mk (hexd_at u hu0 hu2)
  have HJ:=Aside0.mk (And.intro hj hjt)
  have HB' := Aside0.mk hb
  have hal:Tryz.prog.arrayLen 193=65:=by simp [Program.arrayLen,Tryz.underlying193]
  have hsl : ∀ W,(Instr.sliceAt 193 (.pointer (some ⟨w.heap.size,0,none⟩)) (some (.int .i64 (i - 1))) none none).run Tryz.prog W = .ok (.slice (some ⟨w.heap.size,64 - suf.length,none⟩) (suf.length + 1) (suf.length + 1)) W:=by
   intro W
   have hl65:64 - suf.length + (suf.length + 1)=65:=by have:=HU.out;omega
   rw [hj,run_sliceAt_array_l W 193 ⟨w.heap.size,0,none⟩ (by simp [Program.arrayLen,Program.elem,Tryz.underlying193]) .i64 _ (by omega) (by rw [hal];omega),hal,Int.toNat_natCast]
   have he:Tryz.prog.elem 193=5:=by simp [Program.elem,Tryz.underlying193]
   rw [he,(show (sizeOf 5).run Tryz.prog W = .ok 1 W by kernel_rfl)]
   show Result.ok (slicedAt ⟨w.heap.size,0,none⟩ (64 - suf.length) 65 65 1) W=_
   unfold slicedAt
   rw [if_neg (by omega),Nat.mul_one,add_plain,show 65 - (64 - suf.length)=suf.length + 1 by omega]
  have hR2:=(HR.out.set (by have:=HU.out;omega) (bt (⟨#[48,49,50,51,52,53,54,55,56,57,97,98,99,100,101,102,103,104,105,106,107,108,109,110,111,112,113,114,115,116,117,118,119,120,121,122]⟩:ByteArray) u)).reads (by rw [List.length_cons];have:=HU.out;omega)
  rw [List.length_cons,show 65 - (suf.length + 1)=64 - suf.length by omega,← hjt] at hR2
  have hcv:=string_of_reads (P:=Tryz.prog) (src:=22) (dst:=9) (c:=suf.length + 1) Tryz.underlying22 Tryz.underlying5 Tryz.underlying9 hR2
  rw [hjt] at hcv
  rw [← hjt] at hsl hcv
  have HE2:=Aside0.mk (show strOfNums (bt (⟨#[48,49,50,51,52,53,54,55,56,57,97,98,99,100,101,102,103,104,105,106,107,108,109,110,111,112,113,114,115,116,117,118,119,120,121,122]⟩:ByteArray) u :: suf)=strOfNums (hexD n) by rw [HE.out,hexD_small u.toNat (by omega),HX'.out];rfl)
  have q3:(u < 36)=True:=eq_true (by omega)
  have q4:(36 ≤ u)=False:=eq_false (by omega)
  clear hj hjt hb hR2 hal hu2
  go_wp2
  go_ret2
  exact ⟨by first|rfl|(rw [HE2.out];rfl),HB2.out.setCell (Nat.le_refl _) _⟩
/-- At the base 10,and of a number from 0 on at the base 16. -/
def strconv_FormatInt_145.f (a0 a1:Int):Option ByteArray :=
 if a1=10 then (if -9223372036854775808 ≤ a0∧a0 ≤ 9223372036854775807 then some ⟨(Lib.itoa a0).toArray⟩ else none)
 else if a1=16 then (if 0 ≤ a0∧a0 ≤ 9223372036854775807 then some (strOfNums (hexD a0.toNat)) else none)
 else none
theorem below_grow {w:World} (k:Nat) (os:Array Obj):Below w.heap.size w (Go.Sort.grow (w.drewN k) os) :=
 ⟨rfl,rfl,rfl,by simp [Go.Sort.grow],fun b hb=>by simp only [Go.Sort.grow];rw [Array.getElem?_append_left (by simpa using hb)];rfl⟩
set_option maxHeartbeats 4000000 in
theorem formatInt_16 (a0:Int) (h0:0 ≤ a0) (h1:a0 ≤ 9223372036854775807) (w:World) (ht:Tabs w) :
 Calls Tryz.prog 145 #[.int .i64 a0,.int .i64 16] w fun e w' => e = .returned (.string (strOfNums (hexD a0.toNat)))∧Below w.heap.size w w' := by
 have HT:=Aside0.mk ht
 clear ht
 have hw:IntKind.u64.wrap a0=a0:=by simp [IntKind.wrap,IntKind.bits,IntKind.signed];omega
 have HF:=Aside0.mk (formatBits_16 a0.toNat (by omega))
 have hn:((a0.toNat:Nat):Int)=a0:=by omega
 rw [hn] at HF
 clear hn
 have hneg:decide (a0 < 0)=false:=decide_eq_false (by omega)
 go_enter Tryz.func145,Tryz.ntmps145
 go_wp2_with (go_at_call 180;(with_reducible refine (HF.out _ HT.out).mono ?_);rintro e w1 ⟨rfl,hb⟩)
 go_ret
 exact ⟨rfl,hb⟩
theorem strconv_FormatInt_145.calls (a0 a1:Int) (r:ByteArray) (w:World) (h:strconv_FormatInt_145.f a0 a1=some r) (ht:Tabs w) :
 Calls Tryz.prog 145 #[.int .i64 a0,.int .i64 a1] w fun e w' => e = .returned (.string r)∧Below w.heap.size w w' := by
 unfold strconv_FormatInt_145.f at h
 split at h
 ·rename_i h10
  subst h10
  split at h
  ·rename_i hr
   obtain rfl:=Option.some.inj h
   refine (Tryz.internal_strconv_FormatInt_10 a0 hr.1 hr.2 w ht.1).mono ?_
   rintro e w' ⟨rfl,k,os,rfl⟩
   exact ⟨rfl,below_grow k os⟩
  cases h
 split at h
 ·rename_i h16
  subst h16
  split at h
  ·rename_i hr
   obtain rfl:=Option.some.inj h
   exact formatInt_16 a0 hr.1 hr.2 w ht
  cases h
 cases h
def strconv_FormatInt_93.f (a0:Int) (a1:Int):Option (ByteArray):=(strconv_FormatInt_145.f a0 a1).bind fun t324=>(some t324)
set_option maxHeartbeats 8000000 in
set_option maxRecDepth 100000 in
theorem strconv_FormatInt_93.calls (a0:Int) (a1:Int) (r:ByteArray) (w:World) (h:strconv_FormatInt_93.f a0 a1=some r) (ht:Tabs w) :
 Calls Tryz.prog 93 #[.int .i64 a0,.int .i64 a1] w fun e w' => e = .returned (.string r)∧Below w.heap.size w w' := by
 have HTB:=Aside0.mk ht
 clear ht
 have HB:=Aside0.mk (Below.refl w.heap.size w)
 unfold strconv_FormatInt_93.f at h
 have H:=h
 clear h
 replace H:=Option.bind_eq_some_iff.mp H
 obtain ⟨t324,A30,H⟩:=H
 try dsimp only at H
 have A3:=Aside0.mk A30
 clear A30
 obtain rfl:=Option.some.inj H
 go_enter Tryz.func93,Tryz.ntmps93
 go_wp2_with (first|((with_reducible refine gate_callee (f:=145) rfl ?_);refine goesL_ (some 7) rfl rfl Tryz.func145 zb9 rfl #[.int .i64 a0,.int .i64 a1] rfl zb1 ?_;(with_reducible refine (strconv_FormatInt_145.calls a0 a1 t324 _ A3.out ?hT).mono ?_);(case hT=>exact HTB.out.below zb0);rintro e w4 ⟨rfl,hb⟩;(try clear A3);refine ⟨_,rfl,?_⟩;replace HB:=Aside0.mk (below_step zb0 hb);(try clear hb)))
 go_ret
 exact ⟨zb3,zb0⟩
def sign_Text.f (a0:Int):Option (ByteArray):=(strconv_FormatInt_93.f a0 10).bind fun t325=>(some t325)
set_option maxHeartbeats 8000000 in
set_option maxRecDepth 100000 in
theorem sign_Text.calls (a0:Int) (r:ByteArray) (w:World) (h:sign_Text.f a0=some r) (ht:Tabs w) :
 Calls Tryz.prog 95 #[.int .i64 a0] w fun e w' => e = .returned (.string r)∧Below w.heap.size w w' := by
 have HTB:=Aside0.mk ht
 clear ht
 have HB:=Aside0.mk (Below.refl w.heap.size w)
 unfold sign_Text.f at h
 have H:=h
 clear h
 replace H:=Option.bind_eq_some_iff.mp H
 obtain ⟨t325,A20,H⟩:=H
 try dsimp only at H
 have A2:=Aside0.mk A20
 clear A20
 obtain rfl:=Option.some.inj H
 go_enter Tryz.func95,Tryz.ntmps95
 go_wp2_with (first|((with_reducible refine gate_callee (f:=93) rfl ?_);refine goesL_ (some 4) rfl rfl Tryz.func93 zb9 rfl #[.int .i64 a0,.int .i64 10] rfl zb1 ?_;(with_reducible refine (strconv_FormatInt_93.calls a0 10 t325 _ A2.out ?hT).mono ?_);(case hT=>exact HTB.out.below zb0);rintro e w3 ⟨rfl,hb⟩;(try clear A2);refine ⟨_,rfl,?_⟩;replace HB:=Aside0.mk (below_step zb0 hb);(try clear hb)))
 go_ret
 exact ⟨zb3,zb0⟩
def line_StatusLine.l0:Nat → ByteArray → Int → ByteArray → Int → List (S36) → List Int → Option (ByteArray)
 | 0,_,_,_,_,_,_=>none
 | k + 1,x3,x902000,x902001,x902002,x902003,x902004=>if (x3.size:Int) < 3 then (if 1 + x3.size ≤ 9223372036854775807 then (line_StatusLine.l0 k ((⟨#[48]⟩:ByteArray) ++ x3) x902000 x902001 x902002 x902003 x902004) else (none)) else ((sign_Text.f x902002).bind fun t903=>(if 7 + t903.size ≤ 9223372036854775807 then (if ((⟨#[72,84,84,80,47,49,46]⟩:ByteArray) ++ t903).size + 1 ≤ 9223372036854775807 then (if (((⟨#[72,84,84,80,47,49,46]⟩:ByteArray) ++ t903) ++ (⟨#[32]⟩:ByteArray)).size + x3.size ≤ 9223372036854775807 then (if ((((⟨#[72,84,84,80,47,49,46]⟩:ByteArray) ++ t903) ++ (⟨#[32]⟩:ByteArray)) ++ x3).size + 1 ≤ 9223372036854775807 then (if (((((⟨#[72,84,84,80,47,49,46]⟩:ByteArray) ++ t903) ++ (⟨#[32]⟩:ByteArray)) ++ x3) ++ (⟨#[32]⟩:ByteArray)).size + x902001.size ≤ 9223372036854775807 then (if ((((((⟨#[72,84,84,80,47,49,46]⟩:ByteArray) ++ t903) ++ (⟨#[32]⟩:ByteArray)) ++ x3) ++ (⟨#[32]⟩:ByteArray)) ++ x902001).size + 2 ≤ 9223372036854775807 then (some (((((((⟨#[72,84,84,80,47,49,46]⟩:ByteArray) ++ t903) ++ (⟨#[32]⟩:ByteArray)) ++ x3) ++ (⟨#[32]⟩:ByteArray)) ++ x902001) ++ (⟨#[13,10]⟩:ByteArray))) else (none)) else (none)) else (none)) else (none)) else (none)) else (none)))
def line_StatusLine.f (k:Nat) (a0_0:Int) (a0_1:ByteArray) (a0_2:Int) (l0_3:List (S36)) (l0_4:List Int):Option (ByteArray):=(sign_Text.f a0_0).bind fun t902=>(line_StatusLine.l0 k t902 a0_0 a0_1 a0_2 l0_3 l0_4)
def line_StatusLine.T4:Bool × List (List Nat × List Nat):=(true,[([],[]),([0],[0]),([1],[1]),([2],[2]),([3],[3]),([],[]),([4,5],[4,5]),([6],[6]),([],[]),([8],[8]),([7,9],[7,9]),([10],[10]),([11,2,0,1,2,3,4,5,6,7,8,9,10,11],[11])])
def line_StatusLine.B4:List Nat:=[0,1,3,7,15,0,63,127,0,256,1023,2047,4095]
theorem line_StatusLine.tab4:rtab .any (opsOf Tryz.f73 4)=line_StatusLine.T4:=by kernel_rfl
theorem line_StatusLine.bits4:waitsOk line_StatusLine.T4.2 line_StatusLine.B4=true:=by kernel_rfl
set_option maxHeartbeats 8000000 in
set_option maxRecDepth 100000 in
theorem line_StatusLine.calls (k:Nat) (a0_0:Int) (a0_1:ByteArray) (a0_2:Int) (A0_3:Option Addr) (c0_3:Nat) (l0_3:List (S36)) (A0_4:Option Addr) (c0_4:Nat) (l0_4:List Int) (r:ByteArray) (w:World) (hr0_3:Kd.C k36 w A0_3 l0_3.length l0_3) (hc0_3:l0_3.length ≤ c0_3) (hr0_4:Kd.C (Kd.int .u8) w A0_4 l0_4.length l0_4) (hc0_4:l0_4.length ≤ c0_4) (h:line_StatusLine.f k a0_0 a0_1 a0_2 l0_3 l0_4=some r) (ht:Tabs w) :
 Calls Tryz.prog 73 #[.agg #[.int .i64 a0_0,.string a0_1,.int .i64 a0_2,.slice A0_3 l0_3.length c0_3,.slice A0_4 l0_4.length c0_4]] w fun e w' => e = .returned (.string r)∧Below w.heap.size w w' := by
 have HTB:=Aside0.mk ht
 clear ht
 have hu62:=Tryz.underlying62
 have HR0_3:=Aside0.mk hr0_3
 have HC0_3:=Aside0.mk hc0_3
 clear hr0_3 hc0_3
 have HR0_4:=Aside0.mk hr0_4
 have HC0_4:=Aside0.mk hc0_4
 clear hr0_4 hc0_4
 have HB:=Aside0.mk (Below.refl w.heap.size w)
 unfold line_StatusLine.f at h
 have H:=h
 clear h
 replace H:=Option.bind_eq_some_iff.mp H
 obtain ⟨t19,A20,H⟩:=H
 try dsimp only at H
 have A2:=Aside0.mk A20
 clear A20
 have H' := Aside0.mk H
 clear H
 go_enter Tryz.func73,Tryz.ntmps73
 go_wp2_with (first|((with_reducible refine gate_dst (N:=1) rfl ?_);refine box_event rfl (N:=1) rfl (cs:=#[.int .i64 a0_0,.string a0_1,.int .i64 a0_2,.slice A0_3 l0_3.length c0_3,.slice A0_4 l0_4.length c0_4]) (t:=62) zS ?_;intro gb17 hg w3 hbox hb;have GW17:=zG hg zb0;have GE17:=GW17;have BK17:=Aside0.mk hbox;replace HB:=Aside0.mk (below_step zb0 hb);clear hb hbox hg;obtain ⟨hcz4_0,hcz4_1,hcz4_2,hcz4_3,hcz4_4,hfz4_0,hfz4_1,hfz4_2,hfz4_3,hfz4_4⟩:=zq5 BK17.out)|((with_reducible refine gate_callee (f:=95) rfl ?_);refine goesL_ (some 6) rfl rfl Tryz.func95 zb9 rfl #[.int .i64 a0_0] rfl zb1 ?_;(with_reducible refine (sign_Text.calls a0_0 t19 _ A2.out ?hT).mono ?_);(case hT=>exact HTB.out.below zb36);rintro e w5 ⟨rfl,hb⟩;(try clear A2);refine ⟨_,rfl,?_⟩;replace BK17:=Aside0.mk (blk_below (g:=gb17) (o:=.cells #[.int .i64 a0_0,.string a0_1,.int .i64 a0_2,.slice A0_3 l0_3.length c0_3,.slice A0_4 l0_4.length c0_4] 62 (0,0)) zb87 hb);replace HB:=Aside0.mk (below_step zb36 hb);(try clear hb)))
 go_loopg [3] k (fun kq v3 w' => ∃ (x3_1:ByteArray),v3 = .string x3_1∧Aside0 (line_StatusLine.l0 kq x3_1 a0_0 a0_1 a0_2 l0_3 l0_4=some r)∧Aside0 (kq ≤ k)∧Aside0 (w'.heap[gb17]? = some (.cells #[.int .i64 a0_0,.string a0_1,.int .i64 a0_2,(.slice A0_3 l0_3.length c0_3),(.slice A0_4 l0_4.length c0_4)] 62 (0,0)))∧Aside0 (Below w.heap.size w w'))
 case atStart=>exact ⟨(t19),zb8,H',⟨Nat.le_refl _⟩,⟨zb87⟩,⟨zb36⟩⟩
 case round =>
  clear H'
  try clear p2
  try clear hcz4_0
  try clear hcz4_1
  try clear hcz4_2
  try clear hcz4_3
  try clear hcz4_4
  try clear hfz4_0
  try clear hfz4_1
  try clear hfz4_2
  try clear hfz4_3
  try clear hfz4_4
  obtain ⟨x3_1,rfl,HA,HK1,BK17,HB⟩:=hrel
  cases gk with
  | zero=>exact absurd HA.out (by simp [line_StatusLine.l0])
  | succ k1 =>
   have H:=HA.out
   clear HA
   simp only [line_StatusLine.l0] at H
   by_cases c6:(x3_1.size:Int) < 3
   ·rw [if_pos c6] at H
    have c6b0:=decide_eq_true c6
    have c6b1:decide (x3_1.size < 3)=true:=decide_eq_true zb62
    clear c6
    by_cases c7:1 + x3_1.size ≤ 9223372036854775807;rotate_left
    ·rw [if_neg c7] at H
     exact absurd H zb55
    rw [if_pos c7] at H
    have c7b0:=eq_true c7
    have c7b1:=decide_eq_true c7
    try have c7b2:(9223372036854775807 < 1 + x3_1.size)=False:=eq_false (Nat.not_lt.2 c7)
    have H' := Aside0.mk H
    clear H
    go_wp2
    go_roundg k1
    case measure=>have:=HK1.out;omega
    case rel=>exact ⟨((⟨#[48]⟩:ByteArray) ++ x3_1),zb8,H',⟨zb97⟩,⟨zb87⟩,⟨zb36⟩⟩
   rw [if_neg c6] at H
   have c6b0:=decide_eq_false c6
   have c6b1:decide (x3_1.size < 3)=false:=decide_eq_false zb62
   clear c6
   replace H:=Option.bind_eq_some_iff.mp H
   obtain ⟨t18,A80,H⟩:=H
   try dsimp only at H
   have A8:=Aside0.mk A80
   clear A80
   by_cases c9:7 + t18.size ≤ 9223372036854775807;rotate_left
   ·rw [if_neg c9] at H
    exact absurd H zb55
   rw [if_pos c9] at H
   have c9b0:=eq_true c9
   have c9b1:=decide_eq_true c9
   try have c9b2:(9223372036854775807 < 7 + t18.size)=False:=eq_false (Nat.not_lt.2 c9)
   by_cases c10:((⟨#[72,84,84,80,47,49,46]⟩:ByteArray) ++ t18).size + 1 ≤ 9223372036854775807
   ·rw [if_pos c10] at H
    have c10b0:=eq_true c10
    have c10b1:=decide_eq_true c10
    try have c10b2:(9223372036854775807 < ((⟨#[72,84,84,80,47,49,46]⟩:ByteArray) ++ t18).size + 1)=False:=eq_false (Nat.not_lt.2 c10)
    try (have c10b3:=c10b0;simp only [ByteArray.size_append] at c10b3;have c10b4:=c10b2;simp only [ByteArray.size_append] at c10b4)
    try have c10b5:(9223372036854775807 < 7 + t18.size + 1)=False:=eq_false zb118
    try have c10b6:(7 + t18.size + 1 ≤ 9223372036854775807)=True:=eq_true zb118
    by_cases c11:(((⟨#[72,84,84,80,47,49,46]⟩:ByteArray) ++ t18) ++ (⟨#[32]⟩:ByteArray)).size + x3_1.size ≤ 9223372036854775807;rotate_left
    ·rw [if_neg c11] at H
     exact absurd H zb55
    rw [if_pos c11] at H
    have c11b0:=eq_true c11
    have c11b1:=decide_eq_true c11
    try have c11b2:(9223372036854775807 < (((⟨#[72,84,84,80,47,49,46]⟩:ByteArray) ++ t18) ++ (⟨#[32]⟩:ByteArray)).size + x3_1.size)=False:=eq_false (Nat.not_lt.2 c11)
    try (have c11b3:=c11b0;simp only [ByteArray.size_append] at c11b3;have c11b4:=c11b2;simp only [ByteArray.size_append] at c11b4)
    try have c11b5:(9223372036854775807 < 7 + t18.size + 1 + x3_1.size)=False:=eq_false zb98
    try have c11b6:(7 + t18.size + 1 + x3_1.size ≤ 9223372036854775807)=True:=eq_true zb98
    by_cases c12:((((⟨#[72,84,84,80,47,49,46]⟩:ByteArray) ++ t18) ++ (⟨#[32]⟩:ByteArray)) ++ x3_1).size + 1 ≤ 9223372036854775807
    ·rw [if_pos c12] at H
     have c12b0:=eq_true c12
     have c12b1:=decide_eq_true c12
     try have c12b2:(9223372036854775807 < ((((⟨#[72,84,84,80,47,49,46]⟩:ByteArray) ++ t18) ++ (⟨#[32]⟩:ByteArray)) ++ x3_1).size + 1)=False:=eq_false (Nat.not_lt.2 c12)
     try (have c12b3:=c12b0;simp only [ByteArray.size_append] at c12b3;have c12b4:=c12b2;simp only [ByteArray.size_append] at c12b4)
     try have c12b5:(9223372036854775807 < 7 + t18.size + 1 + x3_1.size + 1)=False:=eq_false zb99
     try have c12b6:(7 + t18.size + 1 + x3_1.size + 1 ≤ 9223372036854775807)=True:=eq_true zb99
     by_cases c13:(((((⟨#[72,84,84,80,47,49,46]⟩:ByteArray) ++ t18) ++ (⟨#[32]⟩:ByteArray)) ++ x3_1) ++ (⟨#[32]⟩:ByteArray)).size + a0_1.size ≤ 9223372036854775807;rotate_left
     ·rw [if_neg c13] at H
      exact absurd H zb55
     rw [if_pos c13] at H
     have c13b0:=eq_true c13
     have c13b1:=decide_eq_true c13
     try have c13b2:(9223372036854775807 < (((((⟨#[72,84,84,80,47,49,46]⟩:ByteArray) ++ t18) ++ (⟨#[32]⟩:ByteArray)) ++ x3_1) ++ (⟨#[32]⟩:ByteArray)).size + a0_1.size)=False:=eq_false (Nat.not_lt.2 c13)
     try (have c13b3:=c13b0;simp only [ByteArray.size_append] at c13b3;have c13b4:=c13b2;simp only [ByteArray.size_append] at c13b4)
     try have c13b5:(9223372036854775807 < 7 + t18.size + 1 + x3_1.size + 1 + a0_1.size)=False:=eq_false zb100
     try have c13b6:(7 + t18.size + 1 + x3_1.size + 1 + a0_1.size ≤ 9223372036854775807)=True:=eq_true zb100
     by_cases c14:((((((⟨#[72,84,84,80,47,49,46]⟩:ByteArray) ++ t18) ++ (⟨#[32]⟩:ByteArray)) ++ x3_1) ++ (⟨#[32]⟩:ByteArray)) ++ a0_1).size + 2 ≤ 9223372036854775807
     ·rw [if_pos c14] at H
      have c14b0:=eq_true c14
      have c14b1:=decide_eq_true c14
      try have c14b2:(9223372036854775807 < ((((((⟨#[72,84,84,80,47,49,46]⟩:ByteArray) ++ t18) ++ (⟨#[32]⟩:ByteArray)) ++ x3_1) ++ (⟨#[32]⟩:ByteArray)) ++ a0_1).size + 2)=False:=eq_false (Nat.not_lt.2 c14)
      try (have c14b3:=c14b0;simp only [ByteArray.size_append] at c14b3;have c14b4:=c14b2;simp only [ByteArray.size_append] at c14b4)
      try have c14b5:(9223372036854775807 < 7 + t18.size + 1 + x3_1.size + 1 + a0_1.size + 2)=False:=eq_false zb101
      try have c14b6:(7 + t18.size + 1 + x3_1.size + 1 + a0_1.size + 2 ≤ 9223372036854775807)=True:=eq_true zb101
      obtain rfl:=Option.some.inj H
      try go_wp2
      replace BK17:=Aside0.mk (blk_drew BK17.out)
      replace HB:=Aside0.mk (below_drew1 HB.out)
      refine start_ (n:=13) (S:=fun w' => w'.cell? ⟨gb17,0,none⟩=some (.int .i64 a0_0)∧w'.cell? ⟨gb17,1,none⟩=some (.string a0_1)∧w'.cell? ⟨gb17,2,none⟩=some (.int .i64 a0_2)∧w'.cell? ⟨gb17,3,none⟩=some (.slice A0_3 l0_3.length c0_3)∧w'.cell? ⟨gb17,4,none⟩=some (.slice A0_4 l0_4.length c0_4)) (ds:=[]) (zl 13 0) zb9 rfl rfl ⟨(blk_cell BK17.out 0).trans rfl,(blk_cell BK17.out 1).trans rfl,(blk_cell BK17.out 2).trans rfl,(blk_cell BK17.out 3).trans rfl,(blk_cell BK17.out 4).trans rfl⟩ (fun hHeld=>?_);refine with_tabW line_StatusLine.tab4 line_StatusLine.bits4 (fun HT_ HW_=>?_)
      generalize wr.drew=w15 at BK17 HB hHeld ⊢
      refine zpu 0 (N:=some 12) (zl 13 1) HT_.out rfl rfl ?_
      refine zpu 5 (N:=some 17) (zl 13 33) HT_.out rfl rfl ?_
      refine zpu 8 (N:=some 20) (zl 13 289) HT_.out rfl rfl ?_
      refine take_ (i:=1) (N:=some 13) (v:=?_) (a' := ?_) (zl 13 291) rfl rfl (take_ofW HT_.out HW_.out zb9) (fun _ _ _ h=>h) (Or.inl ⟨zb58,?_⟩) hHeld ?_ ?_
      rotate_left
      ·rintro w' ⟨s0,s1,s2,s3,s4⟩;go_simp;with_reducible rfl
      rotate_left
      ·simp only [Act.put,zqA,zqB,zqC,i64_w,i32_w];rfl
      refine take_ (i:=9) (N:=some 21) (v:=?_) (a' := ?_) (zl 13 803) rfl rfl (take_ofW HT_.out HW_.out zb9) (fun _ _ _ h=>h) (Or.inl ⟨zb58,?_⟩) hHeld ?_ ?_
      rotate_left
      ·rintro w' ⟨s0,s1,s2,s3,s4⟩;go_simp;with_reducible rfl
      rotate_left
      ·simp only [Act.put,zqA,zqB,zqC,i64_w,i32_w];rfl
      refine one_ (i:=2) (N:=some 14) (zl 13 807) rfl rfl (one_of HT_.out zb9) zb33 (fun K hK=>?_)
      refine goes_ Tryz.func95 zb9 rfl #[.int .i64 a0_2] zb58 rfl rfl zb1 ?_
      with_reducible refine (sign_Text.calls a0_2 t18 _ A8.out ?hT).mono ?_;(case hT=>exact HTB.out.below zb36)
      rintro e w16 ⟨rfl,hb⟩
      refine ⟨_,rfl,?_⟩
      replace BK17:=Aside0.mk (blk_below (g:=gb17) (o:=.cells #[.int .i64 a0_0,.string a0_1,.int .i64 a0_2,.slice A0_3 l0_3.length c0_3,.slice A0_4 l0_4.length c0_4] 62 (0,0)) zb87 hb)
      replace HB:=Aside0.mk (below_step zb36 hb)
      (try clear hb)
      (try clear hb2)
      (try clear hk)
      (try clear hi)
      refine hK.out _ _ ⟨(blk_cell BK17.out 0).trans rfl,(blk_cell BK17.out 1).trans rfl,(blk_cell BK17.out 2).trans rfl,(blk_cell BK17.out 3).trans rfl,(blk_cell BK17.out 4).trans rfl⟩ (fun hHeld=>?_)
      clear hK K
      refine norm_ (a' := ?_) ?_ ?_
      rotate_left
      ·show Act.put _ (some 14) _=_
       simp only [Act.put,zqA,zqB,zqC,i64_w,i32_w]
       rfl
      refine zpu 3 (N:=some 15) (zl 13 815) HT_.out rfl rfl ?_
      refine zpu 4 (N:=some 16) (zl 13 831) HT_.out rfl rfl ?_
      refine zpu 6 (N:=some 18) (zl 13 895) HT_.out rfl rfl ?_
      refine zpu 7 (N:=some 19) (zl 13 1023) HT_.out rfl rfl ?_
      refine zpu 10 (N:=some 22) (zl 13 2047) HT_.out rfl rfl ?_
      refine zpu 11 (N:=some 23) (zl 13 4095) HT_.out rfl rfl ?_
      refine zpu 12 (N:=some 2) (zl 13 8191) HT_.out rfl rfl ?_
      refine done_ (done_of HT_.out zb9) ?_
      try go_wp2
      go_ret
      exact ⟨zb3,zb36⟩
     ·rw [if_neg c14] at H
      exact absurd H zb55
    ·rw [if_neg c12] at H
     exact absurd H zb55
   ·rw [if_neg c10] at H
    exact absurd H zb55
def http_WriteResponse.f (k:Nat) (a0:Int) (a1:ByteArray) (a2:Int) (l3:List (S36)) (l4:List Int):Option (List Int):=(line_StatusLine.f k a0 a1 a2 l3 l4).bind fun s=>http_write.f k s l3 l4
set_option maxHeartbeats 8000000 in
set_option maxRecDepth 100000 in
theorem http_WriteResponse.callsB (k:Nat) (a0:Int) (a1:ByteArray) (a2:Int) (A3:Option Addr) (c3:Nat) (l3:List (S36)) (A4:Option Addr) (c4:Nat) (l4:List Int) (r:List Int) (w:World) (hr3:Kd.C k36 w A3 l3.length l3) (hc3:l3.length ≤ c3) (hr4:Kd.C (Kd.int .u8) w A4 l4.length l4) (hc4:l4.length ≤ c4) (h:http_WriteResponse.f k a0 a1 a2 l3 l4=some r) (ht:Tabs w) :
 Calls Tryz.prog 41 #[.agg #[.int .i64 a0,.string a1,.int .i64 a2,.slice A3 l3.length c3,.slice A4 l4.length c4]] w fun e w' => ∃ v,e = .returned v∧BufM w' w.heap.size v r∧Below w.heap.size w w' := by
 have hu:=Tryz.underlying62
 unfold http_WriteResponse.f at h
 obtain ⟨s,hs,h'⟩:=Option.bind_eq_some_iff.1 h
 have HS:=Aside0.mk hs
 have HW:=Aside0.mk h'
 have R3:=Aside0.mk hr3
 have R4:=Aside0.mk hr4
 have C3:=Aside0.mk hc3
 have C4:=Aside0.mk hc4
 have HT:=Aside0.mk ht
 clear h hs h' hr3 hr4 hc3 hc4 ht
 go_enter Tryz.func41,Tryz.ntmps41
 go_wp2_with (first
  | ((with_reducible refine gate_dst (N:=1) rfl ?_);refine box_event ?hg (N:=1) ?hd (cs:=#[.int .i64 a0,.string a1,.int .i64 a2,.slice A3 l3.length c3,.slice A4 l4.length c4]) (t:=62) ?hr ?_;(case hd=>rfl);(case hg=>rfl);(case hr=>first|(go_simp;done)|(go_simp;rfl));intro X hX w5 hBX hb5;have BX:=Aside0.mk hBX;have L5:=Aside0.mk hb5;have EX:=Aside0.mk hX;have q0:w5.cell? ⟨X,0,none⟩=some (.int .i64 a0):=(blk_cell BX.out 0).trans rfl;have q1:w5.cell? ⟨X,1,none⟩=some (.string a1):=(blk_cell BX.out 1).trans rfl;have q2:w5.cell? ⟨X,2,none⟩=some (.int .i64 a2):=(blk_cell BX.out 2).trans rfl;have q3:w5.cell? ⟨X,3,none⟩=some (.slice A3 l3.length c3):=(blk_cell BX.out 3).trans rfl;have q4:w5.cell? ⟨X,4,none⟩=some (.slice A4 l4.length c4):=(blk_cell BX.out 4).trans rfl;clear hBX hb5 hX))
 go_region_held3 (fun w' => w'.cell? ⟨X,0,none⟩=some (.int .i64 a0)∧w'.cell? ⟨X,1,none⟩=some (.string a1)∧w'.cell? ⟨X,2,none⟩=some (.int .i64 a2)∧w'.cell? ⟨X,3,none⟩=some (.slice A3 l3.length c3)∧w'.cell? ⟨X,4,none⟩=some (.slice A4 l4.length c4)) (go_keep)
  (first
   | (go_at_call 73;refine (line_StatusLine.calls k a0 a1 a2 A3 c3 l3 A4 c4 l4 s _ (Kd.C_drew (Kd.C_below R3.out L5.out)) C3.out (Kd.C_drew (Kd.C_below R4.out L5.out)) C4.out HS.out (Tabs.below HT.out (below_drew1 L5.out))).mono ?_;rintro E w6 ⟨rfl,hb6⟩;have BX6:=Aside0.mk (blk_below (blk_drew BX.out) hb6);have L6:=Aside0.mk ((below_drew1 L5.out).trans (hbase2 (below_drew1 L5.out).size hb6));have q0:w6.cell? ⟨X,0,none⟩=some (.int .i64 a0):=(blk_cell BX6.out 0).trans rfl;have q1:w6.cell? ⟨X,1,none⟩=some (.string a1):=(blk_cell BX6.out 1).trans rfl;have q2:w6.cell? ⟨X,2,none⟩=some (.int .i64 a2):=(blk_cell BX6.out 2).trans rfl;have q3:w6.cell? ⟨X,3,none⟩=some (.slice A3 l3.length c3):=(blk_cell BX6.out 3).trans rfl;have q4:w6.cell? ⟨X,4,none⟩=some (.slice A4 l4.length c4):=(blk_cell BX6.out 4).trans rfl;clear hb6)
   | (go_at_call 54;refine (http_write.callsB k s A3 c3 l3 A4 c4 l4 r _ (Kd.C_below R3.out L6.out) C3.out (Kd.C_below R4.out L6.out) C4.out HW.out).mono ?_;rintro E w7 ⟨v7,rfl,hB7,hb7⟩;obtain ⟨A7,c7,e7⟩:=hB7.form;subst e7;have B7:=Aside0.mk hB7;have L7:=Aside0.mk hb7;have BX7:=Aside0.mk (blk_below BX6.out hb7);have q0:w7.cell? ⟨X,0,none⟩=some (.int .i64 a0):=(blk_cell BX7.out 0).trans rfl;have q1:w7.cell? ⟨X,1,none⟩=some (.string a1):=(blk_cell BX7.out 1).trans rfl;have q2:w7.cell? ⟨X,2,none⟩=some (.int .i64 a2):=(blk_cell BX7.out 2).trans rfl;have q3:w7.cell? ⟨X,3,none⟩=some (.slice A3 l3.length c3):=(blk_cell BX7.out 3).trans rfl;have q4:w7.cell? ⟨X,4,none⟩=some (.slice A4 l4.length c4):=(blk_cell BX7.out 4).trans rfl;clear hB7 hb7))
 go_wp2
 go_ret
 exact ⟨_,rfl,BufM.lower B7.out L6.out.size,L6.out.trans (hbase2 L6.out.size L7.out)⟩
theorem http_WriteResponse.calls (k:Nat) (a0:Int) (a1:ByteArray) (a2:Int) (A3:Option Addr) (c3:Nat) (l3:List (S36)) (A4:Option Addr) (c4:Nat) (l4:List Int) (r:List Int) (w:World) (hr3:Kd.C k36 w A3 l3.length l3) (hc3:l3.length ≤ c3) (hr4:Kd.C (Kd.int .u8) w A4 l4.length l4) (hc4:l4.length ≤ c4) (h:http_WriteResponse.f k a0 a1 a2 l3 l4=some r) (ht:Tabs w) :
 Calls Tryz.prog 41 #[.agg #[.int .i64 a0,.string a1,.int .i64 a2,.slice A3 l3.length c3,.slice A4 l4.length c4]] w fun e w' => ∃ v,e = .returned v∧Kd.B w' w.heap.size (fun _=>True) v r∧Below w.heap.size w w' := by
 refine (http_WriteResponse.callsB k a0 a1 a2 A3 c3 l3 A4 c4 l4 r w hr3 hc3 hr4 hc4 h ht).mono ?_
 rintro E w1 ⟨v,rfl,hB,hb⟩
 unfold http_WriteResponse.f at h
 obtain ⟨s,_,h'⟩:=Option.bind_eq_some_iff.1 h
 have hl:=http_write.len h'
 exact ⟨v,rfl,Kd.B_of hB hl.1 hl.2,hb⟩
def scrub_closing.f  : Option (ByteArray × ByteArray):=some ((⟨#[67,111,110,110,101,99,116,105,111,110]⟩:ByteArray),(⟨#[99,108,111,115,101]⟩:ByteArray))
set_option maxHeartbeats 8000000 in
set_option maxRecDepth 100000 in
theorem scrub_closing.calls  (r1:ByteArray) (r2:ByteArray) (w:World) (h:scrub_closing.f  = some (r1,r2)) :
 Calls Tryz.prog 72 #[] w fun e w' => e = .returned (.agg #[.string r1,.string r2])∧Below w.heap.size w w' := by
 have hu36:=Tryz.underlying36
 have HB:=Aside0.mk (Below.refl w.heap.size w)
 unfold scrub_closing.f at h
 have H:=h
 clear h
 simp only [Option.some.injEq,Prod.mk.injEq] at H
 obtain ⟨rfl,rfl⟩:=H
 go_enter Tryz.func72,Tryz.ntmps72
 go_wp2_with (first|((with_reducible refine gate_dst (N:=0) rfl ?_);refine box_event rfl (N:=0) rfl (cs:=#[.string (⟨#[]⟩:ByteArray),.string (⟨#[]⟩:ByteArray)]) (t:=36) zS ?_;intro gb760 hg w1 hbox hb;have GW760:=zG hg zb0;have GE760:=GW760;have BK760:=Aside0.mk hbox;replace HB:=Aside0.mk (below_step zb0 hb);clear hb hbox hg;obtain ⟨hcz2_0,hcz2_1,hfz2_0,hfz2_1⟩:=zq2 BK760.out))
 refine bodyPost_ret (results_cell_row rfl _ _ gb760 36 #[.string (⟨#[67,111,110,110,101,99,116,105,111,110]⟩:ByteArray),.string (⟨#[99,108,111,115,101]⟩:ByteArray)] (0,0) _ rfl (by (with_reducible repeat (first|refine blk_drewN ?_ _|refine blk_drew ?_|refine blk_alloc ?_ _));refine blk_put (cs:=#[.string (⟨#[67,111,110,110,101,99,116,105,111,110]⟩:ByteArray),.string (⟨#[]⟩:ByteArray)]) ?_ 1 _ rfl;(with_reducible repeat (first|refine blk_drewN ?_ _|refine blk_drew ?_|refine blk_alloc ?_ _));refine blk_put (cs:=#[.string (⟨#[]⟩:ByteArray),.string (⟨#[]⟩:ByteArray)]) ?_ 0 _ rfl;(with_reducible repeat (first|refine blk_drewN ?_ _|refine blk_drew ?_|refine blk_alloc ?_ _));exact BK760.out) Tryz.underlying36 rfl zb9) rfl ?_
 exact ⟨zb3,by repeat (first|(with_reducible first|exact HB.out|apply below_alloc|apply pw_below_drewN|apply below_drew1|refine below_set ?_ GE760.out)|exact HB.out)⟩
def scrub_length.f (a0:Int):Option (ByteArray × ByteArray):=(sign_Text.f a0).bind fun t717=>(some ((⟨#[67,111,110,116,101,110,116,45,76,101,110,103,116,104]⟩:ByteArray),t717))
set_option maxHeartbeats 8000000 in
set_option maxRecDepth 100000 in
theorem scrub_length.calls (a0:Int) (r1:ByteArray) (r2:ByteArray) (w:World) (h:scrub_length.f a0=some (r1,r2)) (ht:Tabs w) :
 Calls Tryz.prog 61 #[.int .i64 a0] w fun e w' => e = .returned (.agg #[.string r1,.string r2])∧Below w.heap.size w w' := by
 have HTB:=Aside0.mk ht
 clear ht
 have hu36:=Tryz.underlying36
 have HB:=Aside0.mk (Below.refl w.heap.size w)
 unfold scrub_length.f at h
 have H:=h
 clear h
 replace H:=Option.bind_eq_some_iff.mp H
 obtain ⟨t717,A20,H⟩:=H
 try dsimp only at H
 have A2:=Aside0.mk A20
 clear A20
 simp only [Option.some.injEq,Prod.mk.injEq] at H
 obtain ⟨rfl,rfl⟩:=H
 go_enter Tryz.func61,Tryz.ntmps61
 go_wp2_with (first|((with_reducible refine gate_dst (N:=2) rfl ?_);refine box_event rfl (N:=2) rfl (cs:=#[.string (⟨#[]⟩:ByteArray),.string (⟨#[]⟩:ByteArray)]) (t:=36) zS ?_;intro gb716 hg w3 hbox hb;have GW716:=zG hg zb0;have GE716:=GW716;have BK716:=Aside0.mk hbox;replace HB:=Aside0.mk (below_step zb0 hb);clear hb hbox hg)|((with_reducible refine gate_callee (f:=95) rfl ?_);refine goesL_ (some 4) rfl rfl Tryz.func95 zb9 rfl #[.int .i64 a0] rfl zb1 ?_;(with_reducible refine (sign_Text.calls a0 t717 _ A2.out ?hT).mono ?_);(case hT=>exact HTB.out.below zb86);rintro e w4 ⟨rfl,hb⟩;(try clear A2);refine ⟨_,rfl,?_⟩;replace BK716:=Aside0.mk (blk_below (g:=gb716) (o:=.cells #[.string (⟨#[]⟩:ByteArray),.string (⟨#[]⟩:ByteArray)] 36 (0,0)) (by (with_reducible repeat (first|refine blk_drewN ?_ _|refine blk_drew ?_|refine blk_alloc ?_ _));exact BK716.out) hb);replace HB:=Aside0.mk (below_step zb86 hb);(try clear hb);obtain ⟨hcz5_0,hcz5_1,hfz5_0,hfz5_1⟩:=zq2 BK716.out))
 refine bodyPost_ret (results_cell_row rfl _ _ gb716 36 #[.string (⟨#[67,111,110,116,101,110,116,45,76,101,110,103,116,104]⟩:ByteArray),.string t717] (0,0) _ rfl (by (with_reducible repeat (first|refine blk_drewN ?_ _|refine blk_drew ?_|refine blk_alloc ?_ _));refine blk_put (cs:=#[.string (⟨#[67,111,110,116,101,110,116,45,76,101,110,103,116,104]⟩:ByteArray),.string (⟨#[]⟩:ByteArray)]) ?_ 1 _ rfl;(with_reducible repeat (first|refine blk_drewN ?_ _|refine blk_drew ?_|refine blk_alloc ?_ _));refine blk_put (cs:=#[.string (⟨#[]⟩:ByteArray),.string (⟨#[]⟩:ByteArray)]) ?_ 0 _ rfl;(with_reducible repeat (first|refine blk_drewN ?_ _|refine blk_drew ?_|refine blk_alloc ?_ _));exact BK716.out) Tryz.underlying36 rfl zb9) rfl ?_
 exact ⟨zb3,zb86⟩
def conf_Kept.f (a0:ByteArray):Option (Bool):=(sign_Fold.f a0).bind fun t704=>(if t704.toList=([104,111,115,116]:List UInt8) then (some true) else (if t704.toList=([99,111,110,116,101,110,116,45,108,101,110,103,116,104]:List UInt8) then (some true) else (if t704.toList=([116,114,97,110,115,102,101,114,45,101,110,99,111,100,105,110,103]:List UInt8) then (some true) else (if t704.toList=([99,111,110,110,101,99,116,105,111,110]:List UInt8) then (some true) else (if t704.toList=([107,101,101,112,45,97,108,105,118,101]:List UInt8) then (some true) else (if t704.toList=([112,114,111,120,121,45,99,111,110,110,101,99,116,105,111,110]:List UInt8) then (some true) else (if t704.toList=([116,101]:List UInt8) then (some true) else (if t704.toList=([116,114,97,105,108,101,114]:List UInt8) then (some true) else (if t704.toList=([117,112,103,114,97,100,101]:List UInt8) then (some true) else (if t704.toList=([101,120,112,101,99,116]:List UInt8) then (some true) else (if t704.toList=([118,105,97]:List UInt8) then (some true) else (some false))))))))))))
set_option maxHeartbeats 8000000 in
set_option maxRecDepth 100000 in
theorem conf_Kept.calls (a0:ByteArray) (r:Bool) (w:World) (h:conf_Kept.f a0=some r) :
 Calls Tryz.prog 33 #[.string a0] w fun e w' => e = .returned (.bool r)∧Below w.heap.size w w' := by
 have HB:=Aside0.mk (Below.refl w.heap.size w)
 unfold conf_Kept.f at h
 have H:=h
 clear h
 replace H:=Option.bind_eq_some_iff.mp H
 obtain ⟨t26,A20,H⟩:=H
 try dsimp only at H
 have A2:=Aside0.mk A20
 clear A20
 by_cases c3:t26.toList=([104,111,115,116]:List UInt8)
 ·rw [if_pos c3] at H
  have c3b0:=beq_iff_eq.mpr c3
  have c3b1:=bne_eq_false_iff_eq.mpr c3
  clear c3
  obtain rfl:=Option.some.inj H
  go_enter Tryz.func33,Tryz.ntmps33
  go_wp2_with (first|((with_reducible refine gate_callee (f:=64) rfl ?_);refine goesL_ (some 4) rfl rfl Tryz.func64 zb9 rfl #[.string a0] rfl zb1 ?_;(with_reducible refine (sign_Fold.calls a0 t26 _ A2.out).mono ?_);rintro e w4 ⟨rfl,hb⟩;(try clear A2);refine ⟨_,rfl,?_⟩;replace HB:=Aside0.mk (below_step zb0 hb);(try clear hb)))
  go_ret
  exact ⟨zb3,zb0⟩
 rw [if_neg c3] at H
 have c3b0:=beq_eq_false_iff_ne.mpr c3
 have c3b1:=bne_iff_ne.mpr c3
 by_cases c5:t26.toList=([99,111,110,116,101,110,116,45,108,101,110,103,116,104]:List UInt8)
 ·rw [if_pos c5] at H
  have c5b0:=beq_iff_eq.mpr c5
  have c5b1:=bne_eq_false_iff_eq.mpr c5
  clear c5
  obtain rfl:=Option.some.inj H
  go_enter Tryz.func33,Tryz.ntmps33
  go_wp2_with (first|((with_reducible refine gate_callee (f:=64) rfl ?_);refine goesL_ (some 4) rfl rfl Tryz.func64 zb9 rfl #[.string a0] rfl zb1 ?_;(with_reducible refine (sign_Fold.calls a0 t26 _ A2.out).mono ?_);rintro e w6 ⟨rfl,hb⟩;(try clear A2);refine ⟨_,rfl,?_⟩;replace HB:=Aside0.mk (below_step zb0 hb);(try clear hb)))
  go_ret
  exact ⟨zb3,zb0⟩
 rw [if_neg c5] at H
 have c5b0:=beq_eq_false_iff_ne.mpr c5
 have c5b1:=bne_iff_ne.mpr c5
 by_cases c7:t26.toList=([116,114,97,110,115,102,101,114,45,101,110,99,111,100,105,110,103]:List UInt8)
 ·rw [if_pos c7] at H
  have c7b0:=beq_iff_eq.mpr c7
  have c7b1:=bne_eq_false_iff_eq.mpr c7
  clear c7
  obtain rfl:=Option.some.inj H
  go_enter Tryz.func33,Tryz.ntmps33
  go_wp2_with (first|((with_reducible refine gate_callee (f:=64) rfl ?_);refine goesL_ (some 4) rfl rfl Tryz.func64 zb9 rfl #[.string a0] rfl zb1 ?_;(with_reducible refine (sign_Fold.calls a0 t26 _ A2.out).mono ?_);rintro e w8 ⟨rfl,hb⟩;(try clear A2);refine ⟨_,rfl,?_⟩;replace HB:=Aside0.mk (below_step zb0 hb);(try clear hb)))
  go_ret
  exact ⟨zb3,zb0⟩
 rw [if_neg c7] at H
 have c7b0:=beq_eq_false_iff_ne.mpr c7
 have c7b1:=bne_iff_ne.mpr c7
 by_cases c9:t26.toList=([99,111,110,110,101,99,116,105,111,110]:List UInt8)
 ·rw [if_pos c9] at H
  have c9b0:=beq_iff_eq.mpr c9
  have c9b1:=bne_eq_false_iff_eq.mpr c9
  clear c9
  obtain rfl:=Option.some.inj H
  go_enter Tryz.func33,Tryz.ntmps33
  go_wp2_with (first|((with_reducible refine gate_callee (f:=64) rfl ?_);refine goesL_ (some 4) rfl rfl Tryz.func64 zb9 rfl #[.string a0] rfl zb1 ?_;(with_reducible refine (sign_Fold.calls a0 t26 _ A2.out).mono ?_);rintro e w10 ⟨rfl,hb⟩;(try clear A2);refine ⟨_,rfl,?_⟩;replace HB:=Aside0.mk (below_step zb0 hb);(try clear hb)))
  go_ret
  exact ⟨zb3,zb0⟩
 rw [if_neg c9] at H
 have c9b0:=beq_eq_false_iff_ne.mpr c9
 have c9b1:=bne_iff_ne.mpr c9
 by_cases c11:t26.toList=([107,101,101,112,45,97,108,105,118,101]:List UInt8)
 ·rw [if_pos c11] at H
  have c11b0:=beq_iff_eq.mpr c11
  have c11b1:=bne_eq_false_iff_eq.mpr c11
  clear c11
  obtain rfl:=Option.some.inj H
  go_enter Tryz.func33,Tryz.ntmps33
  go_wp2_with (first|((with_reducible refine gate_callee (f:=64) rfl ?_);refine goesL_ (some 4) rfl rfl Tryz.func64 zb9 rfl #[.string a0] rfl zb1 ?_;(with_reducible refine (sign_Fold.calls a0 t26 _ A2.out).mono ?_);rintro e w12 ⟨rfl,hb⟩;(try clear A2);refine ⟨_,rfl,?_⟩;replace HB:=Aside0.mk (below_step zb0 hb);(try clear hb)))
  go_ret
  exact ⟨zb3,zb0⟩
 rw [if_neg c11] at H
 have c11b0:=beq_eq_false_iff_ne.mpr c11
 have c11b1:=bne_iff_ne.mpr c11
 by_cases c13:t26.toList=([112,114,111,120,121,45,99,111,110,110,101,99,116,105,111,110]:List UInt8)
 ·rw [if_pos c13] at H
  have c13b0:=beq_iff_eq.mpr c13
  have c13b1:=bne_eq_false_iff_eq.mpr c13
  clear c13
  obtain rfl:=Option.some.inj H
  go_enter Tryz.func33,Tryz.ntmps33
  go_wp2_with (first|((with_reducible refine gate_callee (f:=64) rfl ?_);refine goesL_ (some 4) rfl rfl Tryz.func64 zb9 rfl #[.string a0] rfl zb1 ?_;(with_reducible refine (sign_Fold.calls a0 t26 _ A2.out).mono ?_);rintro e w14 ⟨rfl,hb⟩;(try clear A2);refine ⟨_,rfl,?_⟩;replace HB:=Aside0.mk (below_step zb0 hb);(try clear hb)))
  go_ret
  exact ⟨zb3,zb0⟩
 rw [if_neg c13] at H
 have c13b0:=beq_eq_false_iff_ne.mpr c13
 have c13b1:=bne_iff_ne.mpr c13
 by_cases c15:t26.toList=([116,101]:List UInt8)
 ·rw [if_pos c15] at H
  have c15b0:=beq_iff_eq.mpr c15
  have c15b1:=bne_eq_false_iff_eq.mpr c15
  clear c15
  obtain rfl:=Option.some.inj H
  go_enter Tryz.func33,Tryz.ntmps33
  go_wp2_with (first|((with_reducible refine gate_callee (f:=64) rfl ?_);refine goesL_ (some 4) rfl rfl Tryz.func64 zb9 rfl #[.string a0] rfl zb1 ?_;(with_reducible refine (sign_Fold.calls a0 t26 _ A2.out).mono ?_);rintro e w16 ⟨rfl,hb⟩;(try clear A2);refine ⟨_,rfl,?_⟩;replace HB:=Aside0.mk (below_step zb0 hb);(try clear hb)))
  go_ret
  exact ⟨zb3,zb0⟩
 rw [if_neg c15] at H
 have c15b0:=beq_eq_false_iff_ne.mpr c15
 have c15b1:=bne_iff_ne.mpr c15
 by_cases c17:t26.toList=([116,114,97,105,108,101,114]:List UInt8)
 ·rw [if_pos c17] at H
  have c17b0:=beq_iff_eq.mpr c17
  have c17b1:=bne_eq_false_iff_eq.mpr c17
  clear c17
  obtain rfl:=Option.some.inj H
  go_enter Tryz.func33,Tryz.ntmps33
  go_wp2_with (first|((with_reducible refine gate_callee (f:=64) rfl ?_);refine goesL_ (some 4) rfl rfl Tryz.func64 zb9 rfl #[.string a0] rfl zb1 ?_;(with_reducible refine (sign_Fold.calls a0 t26 _ A2.out).mono ?_);rintro e w18 ⟨rfl,hb⟩;(try clear A2);refine ⟨_,rfl,?_⟩;replace HB:=Aside0.mk (below_step zb0 hb);(try clear hb)))
  go_ret
  exact ⟨zb3,zb0⟩
 rw [if_neg c17] at H
 have c17b0:=beq_eq_false_iff_ne.mpr c17
 have c17b1:=bne_iff_ne.mpr c17
 by_cases c19:t26.toList=([117,112,103,114,97,100,101]:List UInt8)
 ·rw [if_pos c19] at H
  have c19b0:=beq_iff_eq.mpr c19
  have c19b1:=bne_eq_false_iff_eq.mpr c19
  clear c19
  obtain rfl:=Option.some.inj H
  go_enter Tryz.func33,Tryz.ntmps33
  go_wp2_with (first|((with_reducible refine gate_callee (f:=64) rfl ?_);refine goesL_ (some 4) rfl rfl Tryz.func64 zb9 rfl #[.string a0] rfl zb1 ?_;(with_reducible refine (sign_Fold.calls a0 t26 _ A2.out).mono ?_);rintro e w20 ⟨rfl,hb⟩;(try clear A2);refine ⟨_,rfl,?_⟩;replace HB:=Aside0.mk (below_step zb0 hb);(try clear hb)))
  go_ret
  exact ⟨zb3,zb0⟩
 rw [if_neg c19] at H
 have c19b0:=beq_eq_false_iff_ne.mpr c19
 have c19b1:=bne_iff_ne.mpr c19
 by_cases c21:t26.toList=([101,120,112,101,99,116]:List UInt8)
 ·rw [if_pos c21] at H
  have c21b0:=beq_iff_eq.mpr c21
  have c21b1:=bne_eq_false_iff_eq.mpr c21
  clear c21
  obtain rfl:=Option.some.inj H
  go_enter Tryz.func33,Tryz.ntmps33
  go_wp2_with (first|((with_reducible refine gate_callee (f:=64) rfl ?_);refine goesL_ (some 4) rfl rfl Tryz.func64 zb9 rfl #[.string a0] rfl zb1 ?_;(with_reducible refine (sign_Fold.calls a0 t26 _ A2.out).mono ?_);rintro e w22 ⟨rfl,hb⟩;(try clear A2);refine ⟨_,rfl,?_⟩;replace HB:=Aside0.mk (below_step zb0 hb);(try clear hb)))
  go_ret
  exact ⟨zb3,zb0⟩
 rw [if_neg c21] at H
 have c21b0:=beq_eq_false_iff_ne.mpr c21
 have c21b1:=bne_iff_ne.mpr c21
 by_cases c23:t26.toList=([118,105,97]:List UInt8);rotate_left
 ·rw [if_neg c23] at H
  have c23b0:=beq_eq_false_iff_ne.mpr c23
  have c23b1:=bne_iff_ne.mpr c23
  obtain rfl:=Option.some.inj H
  go_enter Tryz.func33,Tryz.ntmps33
  go_wp2_with (first|((with_reducible refine gate_callee (f:=64) rfl ?_);refine goesL_ (some 4) rfl rfl Tryz.func64 zb9 rfl #[.string a0] rfl zb1 ?_;(with_reducible refine (sign_Fold.calls a0 t26 _ A2.out).mono ?_);rintro e w25 ⟨rfl,hb⟩;(try clear A2);refine ⟨_,rfl,?_⟩;replace HB:=Aside0.mk (below_step zb0 hb);(try clear hb)))
  go_ret
  exact ⟨zb3,zb0⟩
 rw [if_pos c23] at H
 have c23b0:=beq_iff_eq.mpr c23
 have c23b1:=bne_eq_false_iff_eq.mpr c23
 clear c23
 obtain rfl:=Option.some.inj H
 go_enter Tryz.func33,Tryz.ntmps33
 go_wp2_with (first|((with_reducible refine gate_callee (f:=64) rfl ?_);refine goesL_ (some 4) rfl rfl Tryz.func64 zb9 rfl #[.string a0] rfl zb1 ?_;(with_reducible refine (sign_Fold.calls a0 t26 _ A2.out).mono ?_);rintro e w24 ⟨rfl,hb⟩;(try clear A2);refine ⟨_,rfl,?_⟩;replace HB:=Aside0.mk (below_step zb0 hb);(try clear hb)))
 go_ret
 exact ⟨zb3,zb0⟩
/-- The place of the first that a test takes,from a place on: -1: none. -/
def idxO {α:Type} (q:α → Option Bool):List α → Int → Option Int
 | [],_=>some (-1)
 | x :: r,i=>(q x).bind fun b=>if b=true then some i else idxO q r (i + 1)
/-- Does a test take one of them? -/
def anyO {α:Type} (q:α → Option Bool):List α → Option Bool
 | []=>some false
 | x :: r=>(q x).bind fun b=>if b=true then some true else anyO q r
theorem idxO_any {α:Type} (q:α → Option Bool) : ∀ (xs:List α) (i:Int) (b:Bool),0 ≤ i → anyO q xs=some b → ∃ j,idxO q xs i=some j∧decide (0 ≤ j)=b
 | [],i,b,_,h=>⟨-1,rfl,by simp only [anyO,Option.some.injEq] at h;rw [← h];rfl⟩
 | x :: r,i,b,hi,h=>by
  simp only [anyO] at h
  obtain ⟨c,hc,h⟩:=Option.bind_eq_some_iff.1 h
  simp only [idxO,hc,Option.bind_some]
  cases c
  ·simp only [Bool.false_eq_true,if_false] at h ⊢
   exact idxO_any q r (i + 1) b (by omega) h
  simp only [if_true,Option.some.injEq] at h ⊢
  exact ⟨i,rfl,by rw [← h];exact decide_eq_true hi⟩
theorem sl_base {w w1:World} {b g:Nat} (hg:b ≤ g) (h:Below g w w1):Below b w w1:=⟨h.os,h.tape,h.output,h.size,fun i hi=>h.block i (Nat.lt_of_lt_of_le hi hg)⟩
/-- What is asked of a test that is handed over: its answer,in every later world. -/
def TestOf (g:Nat) (lb:Array Value) (enc:ByteArray → Value) (q:ByteArray → Option Bool) (w:World):Prop :=
 ∀ (W:World) (x:ByteArray) (b:Bool),Below w.heap.size w W → q x=some b → Calls Tryz.prog g (#[enc x] ++ lb) W fun e w' => e = .returned (.bool b)∧Below W.heap.size W w'
set_option maxHeartbeats 4000000 in
set_option maxRecDepth 100000 in
theorem slices_IndexFunc_string_string.callsOf (q:ByteArray → Option Bool) (g:Nat) (lb:Array Value) (eg : ∀ args w,(callFunc g args).run Tryz.prog w = .ok (.enter g args) w) (A0:Option Addr) (c0:Nat) (l0:List ByteArray) (r:Int) (w:World) (hr0:Kd.C Kd.string w A0 l0.length l0) (hc0:l0.length ≤ c0)
 (hq:TestOf g lb Value.string q w) (h:idxO q l0 0=some r) :
 Calls Tryz.prog 135 #[.slice A0 l0.length c0,.func (.func g) #[] lb] w fun e w' => e = .returned (.int .i64 r)∧Below w.heap.size w w' := by
 have HR:=Aside0.mk hr0
 have HQ:=Aside0.mk hq
 have H0:=Aside0.mk (show idxO q (l0.drop (0:Int).toNat) 0=some r from h)
 have HM:=Aside0.mk (show l0.length ≤ 9223372036854775807 from hr0.2.1)
 clear hr0 hq h
 go_enter Tryz.func135,Tryz.ntmps135
 go_wp2
 go_loopg [5,8] l0.length (fun kq _ v8 wr => ∃ (x8:Int),v8 = .int .i64 x8∧Aside0 (0 ≤ x8∧x8 ≤ l0.length∧(l0.length:Int) - x8 ≤ kq)∧Aside0 (Below w.heap.size w wr)∧Aside0 (idxO q (l0.drop x8.toNat) x8=some r))
 case atStart=>exact ⟨0,rfl,⟨zb62⟩,⟨Below.refl _ w⟩,H0⟩
 case round =>
  obtain ⟨x8,rfl,HX,BW,HH⟩:=hrel
  clear H0
  by_cases c4:x8 < (l0.length:Int);rotate_left
  ·have c4b0:=decide_eq_false c4
   have hx:=HH.out
   rw [List.drop_of_length_le (by have:=HX.out;omega),idxO] at hx
   injection hx with hx
   clear c4
   go_wp2
   go_ret
   subst hx
   exact ⟨zb114,BW.out⟩
  have c4b0:=decide_eq_true c4
  have hx:=HH.out
  have hlt:x8.toNat < l0.length:=by have:=HX.out;omega
  rw [List.drop_eq_getElem_cons hlt,idxO] at hx
  obtain ⟨b,hb,hx⟩:=Option.bind_eq_some_iff.1 hx
  have hrd:rdOf ByteArray.empty l0 x8=l0[x8.toNat]:=by simp [rdOf,List.getD_eq_getElem?_getD,List.getElem?_eq_getElem hlt]
  have hcall:=HQ.out wr l0[x8.toNat] b BW.out hb
  rw [← hrd] at hcall
  obtain ⟨ad,he,hcell⟩:=Kd.at_string HR.out x8 HX.out.1 c4
  replace hcell:=(BW.out.cell (World.block_lt_of_cell? w _ hcell)).trans hcell
  obtain ⟨y,hy⟩ : ∃ y,rdOf ByteArray.empty l0 x8=y:=⟨_,rfl⟩
  rw [hy] at hcall hcell
  have HCALL:=Aside0.mk hcall
  have HN:=Aside0.mk hx
  have p8:(0 ≤ x8)=True:=eq_true HX.out.1
  have q8:(x8 < (l0.length:Int))=True:=eq_true c4
  clear hx hb hrd HH hy hcall c4
  subst he
  cases b with
  | true =>
   go_wp2_with (go_at_fn g;refine HCALL.out.mono ?_;rintro e w' ⟨rfl,hb'⟩)
   go_ret
   have hx:=HN.out
   simp only [if_true,Option.some.injEq] at hx
   subst hx
   exact ⟨zb114,BW.out.trans (sl_base (Below.size BW.out) hb')⟩
  | false =>
   go_wp2_with (go_at_fn g;refine HCALL.out.mono ?_;rintro e w' ⟨rfl,hb'⟩)
   go_roundg (gk - 1)
   case measure=>have:=HX.out;have:=of_eq_true q8;omega
   case rel =>
    have hx:=HN.out
    simp only [Bool.false_eq_true,if_false] at hx
    have hx8:=HX.out
    have hq8:=of_eq_true q8
    have hw:wrap64 (x8 + 1)=x8 + 1:=by have:=HM.out;unfold wrap64;omega
    refine ⟨wrap64 (x8 + 1),rfl,⟨by rw [hw];omega⟩,⟨BW.out.trans (sl_base (Below.size BW.out) hb')⟩,⟨?_⟩⟩
    rw [hw,show (x8 + 1).toNat=x8.toNat + 1 by omega]
    exact hx
set_option maxHeartbeats 4000000 in
set_option maxRecDepth 100000 in
theorem field_Has_1.callsOf (B:Nat) (part:ByteArray) (w:World) (hc:w.cell? ⟨B,0,none⟩=some (.string part)):TestOf 88 #[.pointer (some ⟨B,0,none⟩)] Value.string (fun p=>sign_Same.f p part) w:=fun W x b hb h=>by
 have hB:B < w.heap.size:=World.block_lt_of_cell? w _ hc
 have hcell:W.cell? ⟨B,0,none⟩=some (.string part):=(hb.cell (p:=⟨B,0,none⟩) hB).trans hc
 have HS:=Aside0.mk h
 clear hc h hb
 show Calls Tryz.prog 88 #[.string x,.pointer (some ⟨B,0,none⟩)] W _
 go_enter Tryz.func88,Tryz.ntmps88
 go_wp2_with (go_at_call 89;refine (sign_Same.calls x part b W HS.out).mono ?_;rintro e w' ⟨rfl,hb'⟩)
 go_ret
 exact ⟨rfl,hb'⟩
set_option maxHeartbeats 4000000 in
set_option maxRecDepth 100000 in
theorem slices_ContainsFunc_string_string.callsOf (q:ByteArray → Option Bool) (g:Nat) (lb:Array Value) (eg : ∀ args w,(callFunc g args).run Tryz.prog w = .ok (.enter g args) w) (A0:Option Addr) (c0:Nat) (l0:List ByteArray) (r:Bool) (w:World) (hr0:Kd.C Kd.string w A0 l0.length l0) (hc0:l0.length ≤ c0)
 (hq:TestOf g lb Value.string q w) (h:anyO q l0=some r) :
 Calls Tryz.prog 86 #[.slice A0 l0.length c0,.func (.func g) #[] lb] w fun e w' => e = .returned (.bool r)∧Below w.heap.size w w' := by
 obtain ⟨j,hj,hb⟩:=idxO_any q l0 0 r zb62 h
 have HC:=Aside0.mk (slices_IndexFunc_string_string.callsOf q g lb eg A0 c0 l0 j w hr0 hc0 hq hj)
 have HBB:=Aside0.mk hb
 clear hb hj h hq hr0 hc0 eg
 go_enter Tryz.func86,Tryz.ntmps86
 go_wp2_with (go_at_call 135;refine HC.out.mono ?_;rintro e w' ⟨rfl,hb'⟩)
 go_ret
 have e:=HBB.out
 subst e
 exact ⟨zb114,hb'⟩
def field_Has.f (k:Nat) (l0:List (S36)) (a1 a2:ByteArray):Option Bool:=(field_List.f k l0 a1).bind fun l=>anyO (fun p=>sign_Same.f p a2) l
set_option maxHeartbeats 4000000 in
set_option maxRecDepth 100000 in
theorem field_Has.calls (k:Nat) (A0:Option Addr) (c0:Nat) (l0:List (S36)) (a1:ByteArray) (a2:ByteArray) (r:Bool) (w:World) (hr0:Kd.C k36 w A0 l0.length l0) (hc0:l0.length ≤ c0) (h:field_Has.f k l0 a1 a2=some r) :
 Calls Tryz.prog 48 #[.slice A0 l0.length c0,.string a1,.string a2] w fun e w' => e = .returned (.bool r)∧Below w.heap.size w w' := by
 unfold field_Has.f at h
 obtain ⟨l,hl,h⟩:=Option.bind_eq_some_iff.1 h
 have HR:=Aside0.mk hr0
 have HC:=Aside0.mk hc0
 have HL:=Aside0.mk hl
 have HA:=Aside0.mk h
 have eg : ∀ args w,(callFunc 88 args).run Tryz.prog w = .ok (.enter 88 args) w:=enters_of Tryz.func88 zb9 rfl
 have EG:=Aside0.mk eg
 clear hr0 hc0 hl h eg
 have hcell:(w.alloc (.cells #[.string a2] 9)).cell? ⟨w.heap.size,0,none⟩=some (.string a2):=(blk_cell (blk_new w _) 0).trans rfl
 go_enter Tryz.func48,Tryz.ntmps48
 go_wp2_with (first
  | (go_at_call 87;refine (field_List.calls k A0 c0 l0 a1 l _ (Kd.C_alloc HR.out _) HC.out HL.out).mono ?_;rintro e w1 ⟨v,rfl,hR,hb⟩;obtain ⟨A1,c1,rfl,hc1,hC1⟩:=Kd.R_reads hR;have HC1:=Aside0.mk hC1;have HB1:=Aside0.mk hb;have hcell1:=pw_cell_below hb hcell;clear hR hC1 hb)
  | (go_at_call 86;refine (slices_ContainsFunc_string_string.callsOf (fun p=>sign_Same.f p a2) 88 #[.pointer (some ⟨w.heap.size,0,none⟩)] EG.out A1 c1 l r _ HC1.out hc1 (field_Has_1.callsOf w.heap.size a2 _ hcell1) HA.out).mono ?_;rintro e w2 ⟨rfl,hb2⟩))
 go_ret
 exact ⟨rfl,((Below.refl _ w).alloc (Nat.le_refl _) _).trans (sl_base zb55 (HB1.out.trans (sl_base HB1.out.size hb2)))⟩
def strings_HasPrefix.f (a0:ByteArray) (a1:ByteArray):Option (Bool):=(stringslite_HasPrefix.f a0 a1).bind fun t705=>(some t705)
set_option maxHeartbeats 8000000 in
set_option maxRecDepth 100000 in
theorem strings_HasPrefix.calls (a0:ByteArray) (a1:ByteArray) (r:Bool) (w:World) (h:strings_HasPrefix.f a0 a1=some r) :
 Calls Tryz.prog 66 #[.string a0,.string a1] w fun e w' => e = .returned (.bool r)∧Drawn0 w w' := by
 unfold strings_HasPrefix.f at h
 have H:=h
 clear h
 replace H:=Option.bind_eq_some_iff.mp H
 obtain ⟨t705,A30,H⟩:=H
 try dsimp only at H
 have A3:=Aside0.mk A30
 clear A30
 obtain rfl:=Option.some.inj H
 go_enter Tryz.func66,Tryz.ntmps66
 go_wp2_with (first|((with_reducible refine gate_callee (f:=107) rfl ?_);refine goesL_ (some 7) rfl rfl Tryz.func107 zb9 rfl #[.string a0,.string a1] rfl zb1 ?_;(with_reducible refine (stringslite_HasPrefix.calls a0 a1 t705 _ A3.out).mono ?_);rintro e w' ⟨rfl,⟨nd,rfl⟩⟩;(try clear A3);refine ⟨_,rfl,?_⟩))
 go_ret
 exact ⟨zb8,zb13⟩
def scrub_Hop.f (k:Nat) (l0:List (S36)) (a1:ByteArray):Option (Bool):=(conf_Kept.f a1).bind fun t706=>(if t706=true then (some true) else ((sign_Fold.f a1).bind fun t707=>((strings_HasPrefix.f t707 (⟨#[120,45,116,111,108,108,98,97,114,45]⟩:ByteArray)).bind fun t708=>(if t708=true then (some true) else ((field_Has.f k l0 (⟨#[67,111,110,110,101,99,116,105,111,110]⟩:ByteArray) a1).bind fun t709=>(some t709))))))
set_option maxHeartbeats 8000000 in
set_option maxRecDepth 100000 in
theorem scrub_Hop.calls (k:Nat) (A0:Option Addr) (c0:Nat) (l0:List (S36)) (a1:ByteArray) (r:Bool) (w:World) (hr0:Kd.C k36 w A0 l0.length l0) (hc0:l0.length ≤ c0) (h:scrub_Hop.f k l0 a1=some r) :
 Calls Tryz.prog 35 #[.slice A0 l0.length c0,.string a1] w fun e w' => e = .returned (.bool r)∧Below w.heap.size w w' := by
 have HR0:=Aside0.mk hr0
 have HC0:=Aside0.mk hc0
 clear hr0 hc0
 have HB:=Aside0.mk (Below.refl w.heap.size w)
 unfold scrub_Hop.f at h
 have H:=h
 clear h
 replace H:=Option.bind_eq_some_iff.mp H
 obtain ⟨t706,A30,H⟩:=H
 try dsimp only at H
 have A3:=Aside0.mk A30
 clear A30
 by_cases c4:t706=true
 ·subst c4
  rw [if_pos rfl] at H
  obtain rfl:=Option.some.inj H
  go_enter Tryz.func35,Tryz.ntmps35
  go_wp2_with (first|((with_reducible refine gate_callee (f:=33) rfl ?_);refine goesL_ (some 6) rfl rfl Tryz.func33 zb9 rfl #[.string a1] rfl zb1 ?_;(with_reducible refine (conf_Kept.calls a1 true _ A3.out).mono ?_);rintro e w5 ⟨rfl,hb⟩;(try clear A3);refine ⟨_,rfl,?_⟩;replace HB:=Aside0.mk (below_step zb0 hb);(try clear hb)))
  go_ret
  exact ⟨zb3,zb0⟩
 replace c4:=Bool.eq_false_iff.mpr c4
 subst c4
 rw [if_neg (show ¬ (false=true) by decide)] at H
 replace H:=Option.bind_eq_some_iff.mp H
 obtain ⟨t707,A60,H⟩:=H
 try dsimp only at H
 have A6:=Aside0.mk A60
 clear A60
 replace H:=Option.bind_eq_some_iff.mp H
 obtain ⟨t708,A70,H⟩:=H
 try dsimp only at H
 have A7:=Aside0.mk A70
 clear A70
 by_cases c8:t708=true
 ·subst c8
  rw [if_pos rfl] at H
  obtain rfl:=Option.some.inj H
  go_enter Tryz.func35,Tryz.ntmps35
  go_wp2_with (first|((with_reducible refine gate_callee (f:=33) rfl ?_);refine goesL_ (some 6) rfl rfl Tryz.func33 zb9 rfl #[.string a1] rfl zb1 ?_;(with_reducible refine (conf_Kept.calls a1 false _ A3.out).mono ?_);rintro e w9 ⟨rfl,hb⟩;(try clear A3);refine ⟨_,rfl,?_⟩;replace HB:=Aside0.mk (below_step zb0 hb);(try clear hb))|(go_at_call 64;(with_reducible refine (sign_Fold.calls a1 t707 _ A6.out).mono ?_);rintro e w10 ⟨rfl,hb⟩;(try clear A6);replace HB:=Aside0.mk (below_step zb0 hb);(try clear hb))|(go_at_call 66;(with_reducible refine (strings_HasPrefix.calls t707 (⟨#[120,45,116,111,108,108,98,97,114,45]⟩:ByteArray) true _ A7.out).mono ?_);rintro e w' ⟨rfl,⟨nd,rfl⟩⟩;(try clear A7)))
  go_ret
  exact ⟨zb3,zb0⟩
 replace c8:=Bool.eq_false_iff.mpr c8
 subst c8
 rw [if_neg (show ¬ (false=true) by decide)] at H
 replace H:=Option.bind_eq_some_iff.mp H
 obtain ⟨t709,A110,H⟩:=H
 try dsimp only at H
 have A11:=Aside0.mk A110
 clear A110
 obtain rfl:=Option.some.inj H
 go_enter Tryz.func35,Tryz.ntmps35
 go_wp2_with (first|((with_reducible refine gate_callee (f:=33) rfl ?_);refine goesL_ (some 6) rfl rfl Tryz.func33 zb9 rfl #[.string a1] rfl zb1 ?_;(with_reducible refine (conf_Kept.calls a1 false _ A3.out).mono ?_);rintro e w12 ⟨rfl,hb⟩;(try clear A3);refine ⟨_,rfl,?_⟩;replace HB:=Aside0.mk (below_step zb0 hb);(try clear hb))|(go_at_call 64;(with_reducible refine (sign_Fold.calls a1 t707 _ A6.out).mono ?_);rintro e w13 ⟨rfl,hb⟩;(try clear A6);replace HB:=Aside0.mk (below_step zb0 hb);(try clear hb))|(go_at_call 66;(with_reducible refine (strings_HasPrefix.calls t707 (⟨#[120,45,116,111,108,108,98,97,114,45]⟩:ByteArray) false _ A7.out).mono ?_);rintro e w' ⟨rfl,⟨nd,rfl⟩⟩;(try clear A7))|(go_at_call 48;(with_reducible refine (field_Has.calls k _ _ l0 (⟨#[67,111,110,110,101,99,116,105,111,110]⟩:ByteArray) a1 t709 _ ?side1 ?side2 A11.out).mono ?_);(case side1=>repeat (first|exact (Kd.C_below HR0.out zb0)|(with_reducible refine Kd.C_alloc ?_ _)|(with_reducible refine Kd.C_drewN ?_ _)|(with_reducible refine Kd.C_drew ?_)));(case side2=>exact HC0.out);rintro e w14 ⟨rfl,hb⟩;(try clear A11);replace HB:=Aside0.mk (below_step zb0 hb);(try clear hb)))
 go_ret
 exact ⟨zb3,zb0⟩
def scrub_onward.l0:Nat → List (S36) → List (S36) → List (S36) → Int → Int → Option ((List (S36)))
 | 0,_,_,_,_,_=>none
 | k + 1,x0,x3,x6,x7,x8=>if x8 < x7 then (if 0 ≤ x8 then (if x8 < (x6.length:Int) then ((scrub_Hop.f k x0 ((rd_T36 x6 x8).f0)).bind fun t712=>(if t712=true then (scrub_onward.l0 k x0 x3 x6 x7 (wrap64 (x8 + 1))) else (if x3.length < 4398046511104 then (scrub_onward.l0 k x0 (x3 ++ [(⟨(rd_T36 x6 x8).f0,(rd_T36 x6 x8).f1⟩:S36)]) x6 x7 (wrap64 (x8 + 1))) else (none)))) else (none)) else (none)) else (some x3)
def scrub_onward.f (k:Nat) (l0:List (S36)):Option ((List (S36))):=scrub_onward.l0 k l0 ([]:List (S36)) l0 (l0.length:Int) 0
set_option maxHeartbeats 8000000 in
set_option maxRecDepth 100000 in
theorem scrub_onward.calls (k:Nat) (A0:Option Addr) (c0:Nat) (l0:List (S36)) (r:List (S36)) (w:World) (hr0:Kd.C k36 w A0 l0.length l0) (hc0:l0.length ≤ c0) (h:scrub_onward.f k l0=some r) :
 Calls Tryz.prog 60 #[.slice A0 l0.length c0] w fun e w' => ∃ v0_:Value,e = .returned (v0_)∧Kd.R k36 36 w' w.heap.size (fun _=>True) v0_ r∧Below w.heap.size w w' := by
 have hu36:=Tryz.underlying36
 have HR0:=Aside0.mk hr0
 have HC0:=Aside0.mk hc0
 clear hr0 hc0
 have HB:=Aside0.mk (Below.refl w.heap.size w)
 unfold scrub_onward.f at h
 have H:=h
 clear h
 have H' := Aside0.mk H
 clear H
 go_enter Tryz.func60,Tryz.ntmps60
 go_wp2
 go_loopg [3,8] k (fun kq v3 v8 w' => ∃ (x3_1:List (S36)) (x8_1:Int),v8 = .int .i64 x8_1∧Aside0 (scrub_onward.l0 kq l0 x3_1 l0 (l0.length:Int) x8_1=some r)∧Aside0 (kq ≤ k)∧Aside0 (Kd.R k36 36 w' w.heap.size (fun _=>True) v3 x3_1)∧Aside0 (Below w.heap.size w w'))
 case atStart=>exact ⟨(([]:List (S36))),(0),zb8,H',⟨Nat.le_refl _⟩,⟨zb7⟩,⟨zb0⟩⟩
 case round =>
  clear H'
  obtain ⟨x3_1,x8_1,rfl,HA,HK1,HO_3,HB⟩:=hrel
  cases gk with
  | zero=>exact absurd HA.out (by simp [scrub_onward.l0])
  | succ k1 =>
   have H:=HA.out
   clear HA
   simp only [scrub_onward.l0] at H
   by_cases c2:x8_1 < (l0.length:Int);rotate_left
   ·rw [if_neg c2] at H
    have c2b0:=decide_eq_false c2
    clear c2
    obtain rfl:=Option.some.inj H
    go_wp2
    go_ret
    exact ⟨_,zb3,zb67,zb0⟩
   rw [if_pos c2] at H
   have c2b0:=decide_eq_true c2
   clear c2
   by_cases c3:0 ≤ x8_1
   ·rw [if_pos c3] at H
    have c3b0:=decide_eq_true c3
    clear c3
    by_cases c4:x8_1 < (l0.length:Int)
    ·rw [if_pos c4] at H
     have c4b0:=decide_eq_true c4
     clear c4
     replace H:=Option.bind_eq_some_iff.mp H
     obtain ⟨t712,A50,H⟩:=H
     try dsimp only at H
     have A5:=Aside0.mk A50
     clear A50
     by_cases c6:t712=true
     ·subst c6
      rw [if_pos rfl] at H
      have H' := Aside0.mk H
      clear H
      have p710:0 ≤ (x8_1:Int):=of_decide_eq_true zb10
      have q710:x8_1 < (l0.length:Int):=of_decide_eq_true zb10
      obtain ⟨ad710,e710,hx710_0,hx710_1⟩:=at_T36 HR0.out x8_1 p710 q710
      cases e710
      replace hx710_0:=(HB.out.cell (World.block_lt_of_cell? w _ hx710_0)).trans hx710_0
      replace hx710_1:=(HB.out.cell (World.block_lt_of_cell? w _ hx710_1)).trans hx710_1
      replace p710:=eq_true p710
      replace q710:=eq_true q710
      go_wp2_with (first|((with_reducible refine gate_dst (N:=5) rfl ?_);refine box_event rfl (N:=5) rfl (cs:=#[.string (⟨#[]⟩:ByteArray),.string (⟨#[]⟩:ByteArray)]) (t:=36) zS ?_;intro gb711 hg w7 hbox hb;replace HO_3:=Aside0.mk (Kd.R_below (Kd.R_elderB zb67 gb711 (Nat.le_of_eq hg.symm)) hb);have BK711:=Aside0.mk (hbox);have GW711:=zG hg zb0;have GE711:=GW711;replace HB:=Aside0.mk (below_step zb0 hb);clear hb hbox hg;obtain ⟨hcz8_0,hcz8_1,hfz8_0,hfz8_1⟩:=zq2 BK711.out)|((with_reducible refine gate_callee (f:=35) rfl ?_);refine goesL_ (some 15) rfl rfl Tryz.func35 zb9 rfl #[.slice (some ad710) l0.length c0,.string ((rd_T36 l0 x8_1).f0)] rfl zb1 ?_;(with_reducible refine (scrub_Hop.calls k1 _ _ l0 ((rd_T36 l0 x8_1).f0) true _ ?side1 ?side2 A5.out).mono ?_);(case side1=>exact zb95);(case side2=>exact HC0.out);rintro e w9 ⟨rfl,hb⟩;(try clear A5);refine ⟨_,rfl,?_⟩;replace HO_3:=Aside0.mk (Kd.R_below zb69 hb);replace BK711:=Aside0.mk (blk_below (g:=gb711) (o:=.cells #[.string ((rd_T36 l0 x8_1).f0),.string ((rd_T36 l0 x8_1).f1)] 36 (0,0)) zb44 hb);replace HB:=Aside0.mk (below_step zb30 hb);(try clear hb)))
      go_roundg k1
      case measure=>have:=HK1.out;omega
      case rel=>exact ⟨(x3_1),(wrap64 (x8_1 + 1)),zb8,H',⟨zb97⟩,⟨zb117⟩,⟨zb30⟩⟩
     replace c6:=Bool.eq_false_iff.mpr c6
     subst c6
     rw [if_neg (show ¬ (false=true) by decide)] at H
     by_cases c10:x3_1.length < 4398046511104
     ·rw [if_pos c10] at H
      have LMc10:=Aside0.mk c10
      clear c10
      obtain ⟨y713,hy713⟩ : ∃ y_:List (S36),y_=(x3_1 ++ [(⟨(rd_T36 l0 x8_1).f0,(rd_T36 l0 x8_1).f1⟩:S36)]):=⟨_,rfl⟩
      replace H:(scrub_onward.l0 k1 l0 y713 l0 (l0.length:Int) (wrap64 (x8_1 + 1)))=some r:=by first|(rw [hy713];with_reducible exact H)|(have H2_:=(Option.bind_some _ _).symm.trans H;rw [hy713];with_reducible exact H2_)|(have H2_:=(Option.bind_some _ _).symm.trans H;with_reducible exact H2_)|with_reducible exact H|(rw [hy713];exact H)|exact H
      have Ny713:=Aside0.mk hy713
      clear hy713
      have H' := Aside0.mk H
      clear H
      have p710:0 ≤ (x8_1:Int):=of_decide_eq_true zb10
      have q710:x8_1 < (l0.length:Int):=of_decide_eq_true zb10
      obtain ⟨ad710,e710,hx710_0,hx710_1⟩:=at_T36 HR0.out x8_1 p710 q710
      cases e710
      replace hx710_0:=(HB.out.cell (World.block_lt_of_cell? w _ hx710_0)).trans hx710_0
      replace hx710_1:=(HB.out.cell (World.block_lt_of_cell? w _ hx710_1)).trans hx710_1
      replace p710:=eq_true p710
      replace q710:=eq_true q710
      go_wp2_with (first|((with_reducible refine gate_dst (N:=5) rfl ?_);refine box_event rfl (N:=5) rfl (cs:=#[.string (⟨#[]⟩:ByteArray),.string (⟨#[]⟩:ByteArray)]) (t:=36) zS ?_;intro gb711 hg w11 hbox hb;replace HO_3:=Aside0.mk (Kd.R_below (Kd.R_elderB zb67 gb711 (Nat.le_of_eq hg.symm)) hb);have BK711:=Aside0.mk (hbox);have GW711:=zG hg zb0;have GE711:=GW711;replace HB:=Aside0.mk (below_step zb0 hb);clear hb hbox hg;obtain ⟨hcz12_0,hcz12_1,hfz12_0,hfz12_1⟩:=zq2 BK711.out)|((with_reducible refine gate_callee (f:=35) rfl ?_);refine goesL_ (some 15) rfl rfl Tryz.func35 zb9 rfl #[.slice (some ad710) l0.length c0,.string ((rd_T36 l0 x8_1).f0)] rfl zb1 ?_;(with_reducible refine (scrub_Hop.calls k1 _ _ l0 ((rd_T36 l0 x8_1).f0) false _ ?side1 ?side2 A5.out).mono ?_);(case side1=>exact zb95);(case side2=>exact HC0.out);rintro e w13 ⟨rfl,hb⟩;(try clear A5);refine ⟨_,rfl,?_⟩;replace HO_3:=Aside0.mk (Kd.R_below zb69 hb);replace BK711:=Aside0.mk (blk_below (g:=gb711) (o:=.cells #[.string ((rd_T36 l0 x8_1).f0),.string ((rd_T36 l0 x8_1).f1)] 36 (0,0)) zb44 hb);replace HB:=Aside0.mk (below_step zb30 hb);(try clear hb);obtain ⟨hcz14_0,hcz14_1,hfz14_0,hfz14_1⟩:=zq2 BK711.out)|((with_reducible refine gate_builtin (b:=.append) (xs:=#[.tmp 17,.tmp 19]) rfl ?_);at_builtin;refine Kd.R_append k36 (w0:=w) w.heap.size rfl (.tmp 17) (.tmp 19) 24 36 (.agg #[(.string ⟨#[]⟩),(.string ⟨#[]⟩)]) 32 rfl Tryz.underlying24 info36 rfl zb33 zb62 u3 x3_1 (⟨(rd_T36 l0 x8_1).f0,(rd_T36 l0 x8_1).f1⟩:S36) [.string ((rd_T36 l0 x8_1).f0),.string ((rd_T36 l0 x8_1).f1)] (fun k_=>k_ ≠ gb711) (fun _=>False) rfl rfl ?aP (fun _ hk=>hk.elim) ?aF ?aO ?aB ?aS ?aL ?_;(case aP=>exact k36_mkM _ _ _ (⟨(rd_T36 l0 x8_1).f0,(rd_T36 l0 x8_1).f1⟩:S36));(case aB=>exact zb30);(case aF=>exact (fun k_ hk=>Kd.freshB (g:=gb711) (o:=.cells #[.string ((rd_T36 l0 x8_1).f0),.string ((rd_T36 l0 x8_1).f1)] 36 (0,0)) zb120 k_ hk));(case aO=>exact (by (with_reducible repeat (first|apply Kd.R_alloc|apply Kd.R_drewN|apply Kd.R_drew));exact Kd.R_mono HO_3.out (fun _ hk=>hk.2)));(case aS=>exact (below_size zb30));(case aL=>have:=LMc10.out;omega);intro v714 w15 ho hb hg hat;rw [← Ny713.out] at ho;replace BK711:=Aside0.mk (blk_grown (g:=gb711) (o:=.cells #[.string ((rd_T36 l0 x8_1).f0),.string ((rd_T36 l0 x8_1).f1)] 36 (0,0)) zb120 hg (Kd.R_away HO_3.out (fun _ hk=>hk.2)));replace HB:=Aside0.mk (hb);have HO715:=Aside0.mk (ho);clear ho hb hg hat))
      go_roundg k1
      case measure=>have:=HK1.out;omega
      case rel=>exact ⟨(y713),(wrap64 (x8_1 + 1)),zb8,H',⟨zb97⟩,⟨by (with_reducible repeat (first|apply Kd.R_alloc|apply Kd.R_drewN|apply Kd.R_drew));exact Kd.R_mono HO715.out (fun _ hk=>trivial)⟩,⟨zb30⟩⟩
     ·rw [if_neg c10] at H
      exact absurd H zb55
    ·rw [if_neg c4] at H
     exact absurd H zb55
   ·rw [if_neg c3] at H
    exact absurd H zb55
def scrub_Response.j0:Nat → Bool → Bool → Int → ByteArray → Int → List (S36) → List Int → Int → ByteArray → Int → List (S36) → Option (Int × ByteArray × Int × (List (S36)) × List Int)
 | 0,_,_,_,_,_,_,_,_,_,_,_=>none
 | k + 1,x2,x31,x762000,x762001,x762002,x762003,x762004,x767000,x767001,x767002,x767003=>if x31=true then ((bytes_Clone.f x762004).bind fun t770=>((scrub_length.f (x762004.length:Int)).bind fun bt773=>(if x767003.length < 4398046511104 then ((some (x767003 ++ [(⟨bt773.1,bt773.2⟩:S36)]:List (S36))).bind fun y775=>(if x2=true then ((scrub_closing.f).bind fun bt778=>(if y775.length < 4398046511104 then (some (x767000,x767001,x767002,(y775 ++ [(⟨bt778.1,bt778.2⟩:S36)]),t770)) else (none))) else (some (x767000,x767001,x767002,y775,t770)))) else (none)))) else (if x2=true then ((scrub_closing.f).bind fun bt783=>(if x767003.length < 4398046511104 then (some (x767000,x767001,x767002,(x767003 ++ [(⟨bt783.1,bt783.2⟩:S36)]),([]:List Int))) else (none))) else (some (x767000,x767001,x767002,x767003,([]:List Int))))
def scrub_Response.f (k:Nat) (a0_0:Int) (a0_1:ByteArray) (a0_2:Int) (l0_3:List (S36)) (l0_4:List Int) (a1:ByteArray) (a2:Bool):Option (Int × ByteArray × Int × (List (S36)) × List Int):=(scrub_onward.f k l0_3).bind fun t763=>((frame_Response.f k a1 a0_0 a0_1 a0_2 l0_3 l0_4).bind fun bt767=>(if bt767.2.2=true then (scrub_Response.j0 k a2 (bt767.1 != 0) a0_0 a0_1 a0_2 l0_3 l0_4 a0_0 a0_1 1 t763) else (scrub_Response.j0 k a2 true a0_0 a0_1 a0_2 l0_3 l0_4 a0_0 a0_1 1 t763)))
def scrub_Response.T1:Bool × List (List Nat × List Nat):=(true,[([],[]),([0],[0]),([],[]),([2],[2]),([],[]),([4],[4]),([5],[5]),([1,3,6],[1,3,6]),([],[]),([8,7,6,0,1,2,3,4,5,6,7,8],[7,8])])
def scrub_Response.B1:List Nat:=[0,1,0,4,0,16,48,127,0,511]
theorem scrub_Response.tab1:rtab .any (opsOf Tryz.f40 1)=scrub_Response.T1:=by kernel_rfl
theorem scrub_Response.bits1:waitsOk scrub_Response.T1.2 scrub_Response.B1=true:=by kernel_rfl
def scrub_Response.T5:Bool × List (List Nat × List Nat):=(true,[([],[]),([0],[0]),([],[]),([2],[2]),([3],[3]),([4],[4]),([5],[5]),([1,6,5],[1,6]),([0,1,2,3,4,5,6,7],[]),([8,7,7,0,1,2,3,4,5,6,7],[7,8])])
def scrub_Response.B5:List Nat:=[0,1,0,4,12,28,60,127,255,511]
theorem scrub_Response.tab5:rtab .any (opsOf Tryz.f40 5)=scrub_Response.T5:=by kernel_rfl
theorem scrub_Response.bits5:waitsOk scrub_Response.T5.2 scrub_Response.B5=true:=by kernel_rfl
set_option maxHeartbeats 8000000 in
set_option maxRecDepth 100000 in
theorem scrub_Response.calls (k:Nat) (a0_0:Int) (a0_1:ByteArray) (a0_2:Int) (A0_3:Option Addr) (c0_3:Nat) (l0_3:List (S36)) (A0_4:Option Addr) (c0_4:Nat) (l0_4:List Int) (a1:ByteArray) (a2:Bool) (r1:Int) (r2:ByteArray) (r3:Int) (r4:List (S36)) (r5:List Int) (w:World) (hr0_3:Kd.C k36 w A0_3 l0_3.length l0_3) (hc0_3:l0_3.length ≤ c0_3) (hr0_4:Kd.C (Kd.int .u8) w A0_4 l0_4.length l0_4) (hc0_4:l0_4.length ≤ c0_4) (h:scrub_Response.f k a0_0 a0_1 a0_2 l0_3 l0_4 a1 a2=some (r1,r2,r3,r4,r5)) (ht:Tabs w) :
 Calls Tryz.prog 40 #[.agg #[.int .i64 a0_0,.string a0_1,.int .i64 a0_2,.slice A0_3 l0_3.length c0_3,.slice A0_4 l0_4.length c0_4],.string a1,.bool a2] w fun e w' => ∃ v3_ v4_:Value,e = .returned (.agg #[.int .i64 r1,.string r2,.int .i64 r3,v3_,v4_])∧Kd.R k36 36 w' w.heap.size (fun _=>True) v3_ r4∧Kd.R (Kd.int .u8) 5 w' w.heap.size (fun _=>True) v4_ r5∧Below w.heap.size w w' := by
 have HTB:=Aside0.mk ht
 clear ht
 have hu62:=Tryz.underlying62
 have HR0_3:=Aside0.mk hr0_3
 have HC0_3:=Aside0.mk hc0_3
 clear hr0_3 hc0_3
 have HR0_4:=Aside0.mk hr0_4
 have HC0_4:=Aside0.mk hc0_4
 clear hr0_4 hc0_4
 have HB:=Aside0.mk (Below.refl w.heap.size w)
 unfold scrub_Response.f at h
 have H:=h
 clear h
 replace H:=Option.bind_eq_some_iff.mp H
 obtain ⟨t90,A40,H⟩:=H
 try dsimp only at H
 have A4:=Aside0.mk A40
 clear A40
 replace H:=Option.bind_eq_some_iff.mp H
 obtain ⟨⟨t767,t768,t769⟩,A50,H⟩:=H
 try dsimp only at H
 have A5:=Aside0.mk A50
 clear A50
 have HC6:=Aside0.mk H
 clear H
 go_enter Tryz.func40,Tryz.ntmps40
 try go_wp2_with (first|((with_reducible refine gate_dst (N:=3) rfl ?_);refine box_event rfl (N:=3) rfl (cs:=#[.int .i64 a0_0,.string a0_1,.int .i64 a0_2,.slice A0_3 l0_3.length c0_3,.slice A0_4 l0_4.length c0_4]) (t:=62) zS ?_;intro gb87 hg w7 hbox hb;have GW87:=zG hg zb0;have GE87:=GW87;have BK87:=Aside0.mk hbox;replace HB:=Aside0.mk (below_step zb0 hb);clear hb hbox hg)|((with_reducible refine gate_dst (N:=6) rfl ?_);refine box_event rfl (N:=6) rfl (cs:=#[.int .i64 0,.string (⟨#[]⟩:ByteArray),.int .i64 0,.slice none 0 0,.slice none 0 0]) (t:=62) zS ?_;intro gb88 hg w8 hbox hb;have BK88:=Aside0.mk (hbox);have GW88:=zG hg zb105;have GE88:=GW88;replace HB:=Aside0.mk (below_step zb105 hb);have NB87_762:=Aside0.mk ((by rw [hg];exact Nat.ne_of_lt (blk_lt (g:=gb87) (o:=.cells #[.int .i64 a0_0,.string a0_1,.int .i64 a0_2,.slice A0_3 l0_3.length c0_3,.slice A0_4 l0_4.length c0_4] 62 (0,0)) zb6):gb87 ≠ gb88));have NB88_761:=Aside0.mk ((by rw [hg];exact Nat.ne_of_gt (blk_lt (g:=gb87) (o:=.cells #[.int .i64 a0_0,.string a0_1,.int .i64 a0_2,.slice A0_3 l0_3.length c0_3,.slice A0_4 l0_4.length c0_4] 62 (0,0)) zb6):gb88 ≠ gb87));replace BK87:=Aside0.mk (blk_below (g:=gb87) (o:=.cells #[.int .i64 a0_0,.string a0_1,.int .i64 a0_2,.slice A0_3 l0_3.length c0_3,.slice A0_4 l0_4.length c0_4] 62 (0,0)) zb6 hb);clear hb hbox hg))
 replace BK87:=Aside0.mk (blk_drew BK87.out)
 replace BK88:=Aside0.mk (blk_drew BK88.out)
 replace HB:=Aside0.mk (below_drew1 HB.out)
 refine start_ (n:=10) (S:=fun w' => w'.cell? ⟨gb87,0,none⟩=some (.int .i64 a0_0)∧w'.cell? ⟨gb87,1,none⟩=some (.string a0_1)∧w'.cell? ⟨gb87,2,none⟩=some (.int .i64 a0_2)∧w'.cell? ⟨gb87,3,none⟩=some (.slice A0_3 l0_3.length c0_3)∧w'.cell? ⟨gb87,4,none⟩=some (.slice A0_4 l0_4.length c0_4)) (ds:=[]) (zl 10 0) zb9 rfl rfl ⟨(blk_cell BK87.out 0).trans rfl,(blk_cell BK87.out 1).trans rfl,(blk_cell BK87.out 2).trans rfl,(blk_cell BK87.out 3).trans rfl,(blk_cell BK87.out 4).trans rfl⟩ (fun hHeld=>?_);refine with_tabW scrub_Response.tab1 scrub_Response.bits1 (fun HT_ HW_=>?_)
 generalize w8.drew=w9 at BK87 BK88 HB hHeld ⊢
 refine zpu 0 (N:=some 11) (zl 10 1) HT_.out rfl rfl ?_
 refine zpu 2 (N:=some 13) (zl 10 5) HT_.out rfl rfl ?_
 refine zpu 4 (N:=some 15) (zl 10 21) HT_.out rfl rfl ?_
 refine take_ (i:=1) (N:=some 12) (v:=?_) (a' := ?_) (zl 10 23) rfl rfl (take_ofW HT_.out HW_.out zb9) (fun _ _ _ h=>h) (Or.inl ⟨zb58,?_⟩) hHeld ?_ ?_
 rotate_left
 ·rintro w' ⟨s0,s1,s2,s3,s4⟩;go_simp;with_reducible rfl
 rotate_left
 ·simp only [Act.put,zqA,zqB,zqC,i64_w,i32_w];rfl
 refine take_ (i:=3) (N:=some 14) (v:=?_) (a' := ?_) (zl 10 31) rfl rfl (take_ofW HT_.out HW_.out zb9) (fun _ _ _ h=>h) (Or.inl ⟨zb58,?_⟩) hHeld ?_ ?_
 rotate_left
 ·rintro w' ⟨s0,s1,s2,s3,s4⟩;go_simp;with_reducible rfl
 rotate_left
 ·simp only [Act.put,zqA,zqB,zqC,i64_w,i32_w];rfl
 refine take_ (i:=5) (N:=some 16) (v:=?_) (a' := ?_) (zl 10 63) rfl rfl (take_ofW HT_.out HW_.out zb9) (fun _ _ _ h=>h) (Or.inl ⟨zb58,?_⟩) hHeld ?_ ?_
 rotate_left
 ·rintro w' ⟨s0,s1,s2,s3,s4⟩;go_simp;with_reducible rfl
 rotate_left
 ·simp only [Act.put,zqA,zqB,zqC,i64_w,i32_w];rfl
 refine join_ (σ:=Value × Nat) 1 (zl 10 511) (fun s_=>[(17,s_.1),(7,.pointer (some ⟨s_.2,0,none⟩)),(18,.agg #[.int .i64 a0_0,.string a0_1,.int .i64 1,s_.1,.slice none 0 0])]) (fun s_ w' => (w'.cell? ⟨gb87,0,none⟩=some (.int .i64 a0_0)∧w'.cell? ⟨gb87,1,none⟩=some (.string a0_1)∧w'.cell? ⟨gb87,2,none⟩=some (.int .i64 a0_2)∧w'.cell? ⟨gb87,3,none⟩=some (.slice A0_3 l0_3.length c0_3)∧w'.cell? ⟨gb87,4,none⟩=some (.slice A0_4 l0_4.length c0_4))∧(Kd.R k36 36 w' w.heap.size (fun _=>True) s_.1 t90)∧(w'.heap[gb87]? = some (.cells #[.int .i64 a0_0,.string a0_1,.int .i64 a0_2,.slice A0_3 l0_3.length c0_3,.slice A0_4 l0_4.length c0_4] 62 (0,0)))∧(w'.heap[gb88]? = some (.cells #[.int .i64 0,.string (⟨#[]⟩:ByteArray),.int .i64 0,.slice none 0 0,.slice none 0 0] 62 (0,0)))∧(w'.heap[s_.2]? = some (.cells #[.int .i64 0,.string (⟨#[]⟩:ByteArray),.int .i64 0,.slice none 0 0,.slice none 0 0] 62 (0,0)))∧(w.heap.size ≤ s_.2)∧(w.heap.size ≤ s_.2)∧(gb87 ≠ s_.2)∧(s_.2 ≠ gb87)∧(gb88 ≠ s_.2)∧(s_.2 ≠ gb88)∧(Below w.heap.size w w')) ?_ ?_
 rotate_left
 ·intro hCont
  refine two_ (i:=6) (j:=8) (Ni:=some 17) (Nj:=some 7) (zl 10 127) (zl 10 319) rfl rfl rfl rfl (two_of HT_.out zb9) zb33 zb33 (fun K hK=>?_) (fun K hK=>?_)
  ·skip
   refine goes_ Tryz.func60 zb9 rfl #[.slice A0_3 l0_3.length c0_3] zb58 rfl rfl zb1 ?_
   with_reducible refine (scrub_onward.calls k _ _ l0_3 t90 _ ?side1 ?side2 A4.out).mono ?_
   (case side1=>exact zb84)
   (case side2=>exact HC0_3.out)
   rintro e w10 ⟨v764,rfl,ho0,hb⟩
   refine ⟨_,rfl,?_⟩
   have n0_:=Aside0.mk (Kd.R_lower ho0 (below_size zb27))
   have n1_:=Aside0.mk (blk_below (g:=gb87) (o:=.cells #[.int .i64 a0_0,.string a0_1,.int .i64 a0_2,.slice A0_3 l0_3.length c0_3,.slice A0_4 l0_4.length c0_4] 62 (0,0)) zb6 hb)
   have n2_:=Aside0.mk (blk_below (g:=gb88) (o:=.cells #[.int .i64 0,.string (⟨#[]⟩:ByteArray),.int .i64 0,.slice none 0 0,.slice none 0 0] 62 (0,0)) zb17 hb)
   have n3_:=Aside0.mk (below_step zb27 hb)
   clear BK87 BK88 HB
   have HO97:=n0_
   have BK87:=n1_
   have BK88:=n2_
   have HB:=n3_
   clear n0_ n1_ n2_ n3_
   (try clear hb)
   (try clear hb2)
   (try clear hk)
   (try clear hi)
   (try clear ho0)
   obtain ⟨Ao11,co11,eo11⟩:=Kd.R_slice HO97.out
   (first|subst eo11|(injection eo11 with f1_ f2_ f3_;have f4_:=f1_.symm;have f5_:=f3_.symm;clear f1_ f2_ f3_;subst f4_;subst f5_))
   refine hK.out _ _ ⟨(blk_cell BK87.out 0).trans rfl,(blk_cell BK87.out 1).trans rfl,(blk_cell BK87.out 2).trans rfl,(blk_cell BK87.out 3).trans rfl,(blk_cell BK87.out 4).trans rfl⟩ (fun hHeld=>?_)
   clear hK K
   refine norm_ (a' := ?_) ?_ ?_
   rotate_left
   ·show Act.put _ (some 17) _=_
    simp only [Act.put,zqA,zqB,zqC,i64_w,i32_w]
    rfl
   refine zpu 7 (N:=some 18) (zl 10 255) HT_.out rfl rfl ?_
   refine one_ (i:=8) (N:=some 7) (zl 10 511) rfl rfl (one_of HT_.out zb9) zb33 (fun K hK=>?_)
   refine box_step ?hg (N:=7) ?hd (cs:=#[.int .i64 0,.string (⟨#[]⟩:ByteArray),.int .i64 0,.slice none 0 0,.slice none 0 0]) (t:=62) ?hr ?_;(case hd=>rfl);(case hg=>rfl);(case hr=>first|(go_simp;done)|(go_simp;rfl))
   intro gb86 hg w12 hbox hb
   have n0_:=Aside0.mk (Kd.R_below zb78 hb)
   have n1_:=Aside0.mk (blk_below (g:=gb87) (o:=.cells #[.int .i64 a0_0,.string a0_1,.int .i64 a0_2,.slice A0_3 l0_3.length c0_3,.slice A0_4 l0_4.length c0_4] 62 (0,0)) zb6 hb)
   have n2_:=Aside0.mk (blk_below (g:=gb88) (o:=.cells #[.int .i64 0,.string (⟨#[]⟩:ByteArray),.int .i64 0,.slice none 0 0,.slice none 0 0] 62 (0,0)) zb17 hb)
   have n3_:=Aside0.mk (below_step zb27 hb)
   have n4_:=Aside0.mk (hbox)
   have n5_:=zG hg zb27
   have n6_:=zG hg zb27
   have n7_:=Aside0.mk ((by rw [hg];exact Nat.ne_of_lt (blk_lt (g:=gb87) (o:=.cells #[.int .i64 a0_0,.string a0_1,.int .i64 a0_2,.slice A0_3 l0_3.length c0_3,.slice A0_4 l0_4.length c0_4] 62 (0,0)) zb6):gb87 ≠ gb86))
   have n8_:=Aside0.mk ((by rw [hg];exact Nat.ne_of_gt (blk_lt (g:=gb87) (o:=.cells #[.int .i64 a0_0,.string a0_1,.int .i64 a0_2,.slice A0_3 l0_3.length c0_3,.slice A0_4 l0_4.length c0_4] 62 (0,0)) zb6):gb86 ≠ gb87))
   have n9_:=Aside0.mk ((by rw [hg];exact Nat.ne_of_lt (blk_lt (g:=gb88) (o:=.cells #[.int .i64 0,.string (⟨#[]⟩:ByteArray),.int .i64 0,.slice none 0 0,.slice none 0 0] 62 (0,0)) zb17):gb88 ≠ gb86))
   have n10_:=Aside0.mk ((by rw [hg];exact Nat.ne_of_gt (blk_lt (g:=gb88) (o:=.cells #[.int .i64 0,.string (⟨#[]⟩:ByteArray),.int .i64 0,.slice none 0 0,.slice none 0 0] 62 (0,0)) zb17):gb86 ≠ gb88))
   clear HO97 BK87 BK88 HB
   have HO97:=n0_
   have BK87:=n1_
   have BK88:=n2_
   have HB:=n3_
   have BK86:=n4_
   have GW86:=n5_
   have GE86:=n6_
   have NB87_766:=n7_
   have NB86_761:=n8_
   have NB88_766:=n9_
   have NB86_762:=n10_
   clear n0_ n1_ n2_ n3_ n4_ n5_ n6_ n7_ n8_ n9_ n10_ hb hbox hg
   refine hK.out _ _ ⟨(blk_cell BK87.out 0).trans rfl,(blk_cell BK87.out 1).trans rfl,(blk_cell BK87.out 2).trans rfl,(blk_cell BK87.out 3).trans rfl,(blk_cell BK87.out 4).trans rfl⟩ (fun hHeld=>?_)
   clear hK K
   refine norm_ (a' := ?_) ?_ ?_
   rotate_left
   ·show Act.put _ (some 7) _=_
    simp only [Act.put,zqA,zqB,zqC,i64_w,i32_w]
    rfl
   exact norm_ (by simp only [putAll,Act.put,zqA,zqB,zqC]) (hCont (.slice Ao11 t90.length co11,gb86) _ ⟨hHeld,zb78,zb6,zb17,zb11,GW86.out,GE86.out,NB87_766.out,NB86_761.out,NB88_766.out,NB86_762.out,zb4⟩)
  skip
  refine box_step ?hg (N:=7) ?hd (cs:=#[.int .i64 0,.string (⟨#[]⟩:ByteArray),.int .i64 0,.slice none 0 0,.slice none 0 0]) (t:=62) ?hr ?_;(case hd=>rfl);(case hg=>rfl);(case hr=>first|(go_simp;done)|(go_simp;rfl))
  intro gb86 hg w10 hbox hb
  have n0_:=Aside0.mk (blk_below (g:=gb87) (o:=.cells #[.int .i64 a0_0,.string a0_1,.int .i64 a0_2,.slice A0_3 l0_3.length c0_3,.slice A0_4 l0_4.length c0_4] 62 (0,0)) zb6 hb)
  have n1_:=Aside0.mk (blk_below (g:=gb88) (o:=.cells #[.int .i64 0,.string (⟨#[]⟩:ByteArray),.int .i64 0,.slice none 0 0,.slice none 0 0] 62 (0,0)) zb17 hb)
  have n2_:=Aside0.mk (below_step zb27 hb)
  have n3_:=Aside0.mk (hbox)
  have n4_:=zG hg zb27
  have n5_:=zG hg zb27
  have n6_:=Aside0.mk ((by rw [hg];exact Nat.ne_of_lt (blk_lt (g:=gb87) (o:=.cells #[.int .i64 a0_0,.string a0_1,.int .i64 a0_2,.slice A0_3 l0_3.length c0_3,.slice A0_4 l0_4.length c0_4] 62 (0,0)) zb6):gb87 ≠ gb86))
  have n7_:=Aside0.mk ((by rw [hg];exact Nat.ne_of_gt (blk_lt (g:=gb87) (o:=.cells #[.int .i64 a0_0,.string a0_1,.int .i64 a0_2,.slice A0_3 l0_3.length c0_3,.slice A0_4 l0_4.length c0_4] 62 (0,0)) zb6):gb86 ≠ gb87))
  have n8_:=Aside0.mk ((by rw [hg];exact Nat.ne_of_lt (blk_lt (g:=gb88) (o:=.cells #[.int .i64 0,.string (⟨#[]⟩:ByteArray),.int .i64 0,.slice none 0 0,.slice none 0 0] 62 (0,0)) zb17):gb88 ≠ gb86))
  have n9_:=Aside0.mk ((by rw [hg];exact Nat.ne_of_gt (blk_lt (g:=gb88) (o:=.cells #[.int .i64 0,.string (⟨#[]⟩:ByteArray),.int .i64 0,.slice none 0 0,.slice none 0 0] 62 (0,0)) zb17):gb86 ≠ gb88))
  clear BK87 BK88 HB
  have BK87:=n0_
  have BK88:=n1_
  have HB:=n2_
  have BK86:=n3_
  have GW86:=n4_
  have GE86:=n5_
  have NB87_766:=n6_
  have NB86_761:=n7_
  have NB88_766:=n8_
  have NB86_762:=n9_
  clear n0_ n1_ n2_ n3_ n4_ n5_ n6_ n7_ n8_ n9_ hb hbox hg
  refine hK.out _ _ ⟨(blk_cell BK87.out 0).trans rfl,(blk_cell BK87.out 1).trans rfl,(blk_cell BK87.out 2).trans rfl,(blk_cell BK87.out 3).trans rfl,(blk_cell BK87.out 4).trans rfl⟩ (fun hHeld=>?_)
  clear hK K
  refine norm_ (a' := ?_) ?_ ?_
  rotate_left
  ·show Act.put _ (some 7) _=_
   simp only [Act.put,zqA,zqB,zqC,i64_w,i32_w]
   rfl
  refine one_ (i:=6) (N:=some 17) (zl 10 383) rfl rfl (one_of HT_.out zb9) zb33 (fun K hK=>?_)
  refine goes_ Tryz.func60 zb9 rfl #[.slice A0_3 l0_3.length c0_3] zb58 rfl rfl zb1 ?_
  with_reducible refine (scrub_onward.calls k _ _ l0_3 t90 _ ?side1 ?side2 A4.out).mono ?_
  (case side1=>exact zb84)
  (case side2=>exact HC0_3.out)
  rintro e w11 ⟨v764,rfl,ho0,hb⟩
  refine ⟨_,rfl,?_⟩
  have n0_:=Aside0.mk (Kd.R_lower ho0 (below_size zb4))
  have n1_:=Aside0.mk (blk_below (g:=gb87) (o:=.cells #[.int .i64 a0_0,.string a0_1,.int .i64 a0_2,.slice A0_3 l0_3.length c0_3,.slice A0_4 l0_4.length c0_4] 62 (0,0)) zb6 hb)
  have n2_:=Aside0.mk (blk_below (g:=gb88) (o:=.cells #[.int .i64 0,.string (⟨#[]⟩:ByteArray),.int .i64 0,.slice none 0 0,.slice none 0 0] 62 (0,0)) zb17 hb)
  have n3_:=Aside0.mk (blk_below (g:=gb86) (o:=.cells #[.int .i64 0,.string (⟨#[]⟩:ByteArray),.int .i64 0,.slice none 0 0,.slice none 0 0] 62 (0,0)) zb11 hb)
  have n4_:=Aside0.mk (below_step zb4 hb)
  clear BK87 BK88 BK86 HB
  have HO97:=n0_
  have BK87:=n1_
  have BK88:=n2_
  have BK86:=n3_
  have HB:=n4_
  clear n0_ n1_ n2_ n3_ n4_
  (try clear hb)
  (try clear hb2)
  (try clear hk)
  (try clear hi)
  (try clear ho0)
  obtain ⟨Ao12,co12,eo12⟩:=Kd.R_slice HO97.out
  (first|subst eo12|(injection eo12 with f1_ f2_ f3_;have f4_:=f1_.symm;have f5_:=f3_.symm;clear f1_ f2_ f3_;subst f4_;subst f5_))
  refine hK.out _ _ ⟨(blk_cell BK87.out 0).trans rfl,(blk_cell BK87.out 1).trans rfl,(blk_cell BK87.out 2).trans rfl,(blk_cell BK87.out 3).trans rfl,(blk_cell BK87.out 4).trans rfl⟩ (fun hHeld=>?_)
  clear hK K
  refine norm_ (a' := ?_) ?_ ?_
  rotate_left
  ·show Act.put _ (some 17) _=_
   simp only [Act.put,zqA,zqB,zqC,i64_w,i32_w]
   rfl
  refine zpu 7 (N:=some 18) (zl 10 511) HT_.out rfl rfl ?_
  exact norm_ (by simp only [putAll,Act.put,zqA,zqB,zqC]) (hCont (.slice Ao12 t90.length co12,gb86) _ ⟨hHeld,zb78,zb6,zb17,zb11,GW86.out,GE86.out,NB87_766.out,NB86_761.out,NB88_766.out,NB86_762.out,zb4⟩)
 rintro ⟨v764,gb86⟩ w13 ⟨hS_,h0_,h1_,h2_,h3_,h4_,h5_,h6_,h7_,h8_,h9_,h10_⟩
 have n0_:Aside0 (Kd.R k36 36 w13 w.heap.size (fun _=>True) v764 t90):=⟨h0_⟩
 have n1_:Aside0 (w13.heap[gb87]? = some (.cells #[.int .i64 a0_0,.string a0_1,.int .i64 a0_2,.slice A0_3 l0_3.length c0_3,.slice A0_4 l0_4.length c0_4] 62 (0,0))):=⟨h1_⟩
 have n2_:Aside0 (w13.heap[gb88]? = some (.cells #[.int .i64 0,.string (⟨#[]⟩:ByteArray),.int .i64 0,.slice none 0 0,.slice none 0 0] 62 (0,0))):=⟨h2_⟩
 have n3_:Aside0 (w13.heap[gb86]? = some (.cells #[.int .i64 0,.string (⟨#[]⟩:ByteArray),.int .i64 0,.slice none 0 0,.slice none 0 0] 62 (0,0))):=⟨h3_⟩
 have n4_:Aside0 (w.heap.size ≤ gb86):=⟨h4_⟩
 have n5_:Aside0 (w.heap.size ≤ gb86):=⟨h5_⟩
 have n6_:Aside0 (gb87 ≠ gb86):=⟨h6_⟩
 have n7_:Aside0 (gb86 ≠ gb87):=⟨h7_⟩
 have n8_:Aside0 (gb88 ≠ gb86):=⟨h8_⟩
 have n9_:Aside0 (gb86 ≠ gb88):=⟨h9_⟩
 have n10_:Aside0 (Below w.heap.size w w13):=⟨h10_⟩
 clear BK87 BK88 HB h0_ h1_ h2_ h3_ h4_ h5_ h6_ h7_ h8_ h9_ h10_
 have HO97:=n0_
 have BK87:=n1_
 have BK88:=n2_
 have BK86:=n3_
 have GW86:=n4_
 have GE86:=n5_
 have NB87_766:=n6_
 have NB86_761:=n7_
 have NB88_766:=n8_
 have NB86_762:=n9_
 have HB:=n10_
 clear n0_ n1_ n2_ n3_ n4_ n5_ n6_ n7_ n8_ n9_ n10_
 have hHeld:w13.cell? ⟨gb87,0,none⟩=some (.int .i64 a0_0)∧w13.cell? ⟨gb87,1,none⟩=some (.string a0_1)∧w13.cell? ⟨gb87,2,none⟩=some (.int .i64 a0_2)∧w13.cell? ⟨gb87,3,none⟩=some (.slice A0_3 l0_3.length c0_3)∧w13.cell? ⟨gb87,4,none⟩=some (.slice A0_4 l0_4.length c0_4):=hS_
 obtain ⟨Ao14,co14,eo14⟩:=Kd.R_slice HO97.out
 (first|subst eo14|(injection eo14 with f1_ f2_ f3_;have f4_:=f1_.symm;have f5_:=f3_.symm;clear f1_ f2_ f3_;subst f4_;subst f5_))
 refine norm_ (a' := ?_) ?_ ?_
 rotate_left
 ·simp only [putAll,Act.put,zqA,zqB,zqC];rfl
 refine one_ (i:=9) (N:=none) (zl 10 1023) rfl rfl (one_of HT_.out zb9) zb33 (fun K hK=>?_)
 have hs15:w13.cell? ⟨gb86,0,none⟩=some (.int .i64 0):=(blk_cell BK86.out 0).trans rfl
 have hfs15:=blk_frozen BK86.out 0
 have hns15_0:=NB87_766.out
 have hns15_1:=NB88_766.out
 have hms15_0:=NB86_761.out
 have hms15_1:=NB86_762.out
 have hs16:w13.cell? ⟨gb86,1,none⟩=some (.string (⟨#[]⟩:ByteArray)):=(blk_cell BK86.out 1).trans rfl
 have hfs16:=blk_frozen BK86.out 1
 have hns16_0:=NB87_766.out
 have hns16_1:=NB88_766.out
 have hms16_0:=NB86_761.out
 have hms16_1:=NB86_762.out
 have hs17:w13.cell? ⟨gb86,2,none⟩=some (.int .i64 0):=(blk_cell BK86.out 2).trans rfl
 have hfs17:=blk_frozen BK86.out 2
 have hns17_0:=NB87_766.out
 have hns17_1:=NB88_766.out
 have hms17_0:=NB86_761.out
 have hms17_1:=NB86_762.out
 have hs18:w13.cell? ⟨gb86,3,none⟩=some (.slice none 0 0):=(blk_cell BK86.out 3).trans rfl
 have hfs18:=blk_frozen BK86.out 3
 have hns18_0:=NB87_766.out
 have hns18_1:=NB88_766.out
 have hms18_0:=NB86_761.out
 have hms18_1:=NB86_762.out
 have hs19:w13.cell? ⟨gb86,4,none⟩=some (.slice none 0 0):=(blk_cell BK86.out 4).trans rfl
 have hfs19:=blk_frozen BK86.out 4
 have hns19_0:=NB87_766.out
 have hns19_1:=NB88_766.out
 have hms19_0:=NB86_761.out
 have hms19_1:=NB86_762.out
 refine skip_ (w1:=?_) zb58 rfl ?_ ?_
 rotate_left
 ·go_simp
  rfl
 refine hK.out _ _ ⟨((cell_far (p:=⟨gb86,_,none⟩) NB87_766.out _).trans (((cell_far (p:=⟨gb86,_,none⟩) NB87_766.out _).trans (((cell_far (p:=⟨gb86,_,none⟩) NB87_766.out _).trans (((cell_far (p:=⟨gb86,_,none⟩) NB87_766.out _).trans (((cell_far (p:=⟨gb86,_,none⟩) NB87_766.out _).trans (hHeld.1)))))))))),((cell_far (p:=⟨gb86,_,none⟩) NB87_766.out _).trans (((cell_far (p:=⟨gb86,_,none⟩) NB87_766.out _).trans (((cell_far (p:=⟨gb86,_,none⟩) NB87_766.out _).trans (((cell_far (p:=⟨gb86,_,none⟩) NB87_766.out _).trans (((cell_far (p:=⟨gb86,_,none⟩) NB87_766.out _).trans (hHeld.2.1)))))))))),((cell_far (p:=⟨gb86,_,none⟩) NB87_766.out _).trans (((cell_far (p:=⟨gb86,_,none⟩) NB87_766.out _).trans (((cell_far (p:=⟨gb86,_,none⟩) NB87_766.out _).trans (((cell_far (p:=⟨gb86,_,none⟩) NB87_766.out _).trans (((cell_far (p:=⟨gb86,_,none⟩) NB87_766.out _).trans (hHeld.2.2.1)))))))))),((cell_far (p:=⟨gb86,_,none⟩) NB87_766.out _).trans (((cell_far (p:=⟨gb86,_,none⟩) NB87_766.out _).trans (((cell_far (p:=⟨gb86,_,none⟩) NB87_766.out _).trans (((cell_far (p:=⟨gb86,_,none⟩) NB87_766.out _).trans (((cell_far (p:=⟨gb86,_,none⟩) NB87_766.out _).trans (hHeld.2.2.2.1)))))))))),((cell_far (p:=⟨gb86,_,none⟩) NB87_766.out _).trans (((cell_far (p:=⟨gb86,_,none⟩) NB87_766.out _).trans (((cell_far (p:=⟨gb86,_,none⟩) NB87_766.out _).trans (((cell_far (p:=⟨gb86,_,none⟩) NB87_766.out _).trans (((cell_far (p:=⟨gb86,_,none⟩) NB87_766.out _).trans (hHeld.2.2.2.2))))))))))⟩ (fun hHeld=>?_)
 clear hK K
 refine done_ (done_of HT_.out zb9) ?_
 have hnb20:=NB87_762.out
 have hnc20:=NB88_761.out
 have hnb21:=NB87_766.out
 have hnc21:=NB86_761.out
 obtain ⟨hcz22_0,hcz22_1,hcz22_2,hcz22_3,hcz22_4,hfz22_0,hfz22_1,hfz22_2,hfz22_3,hfz22_4⟩:=zq5 BK87.out
 go_upto_region 3 with (first|((with_reducible refine gate_callee (f:=70) rfl ?_);refine goesL_ (some 22) rfl rfl Tryz.func70 zb9 rfl #[.string a1,.agg #[.int .i64 a0_0,.string a0_1,.int .i64 a0_2,.slice A0_3 l0_3.length c0_3,.slice A0_4 l0_4.length c0_4]] rfl zb1 ?_;(with_reducible refine (frame_Response.calls k a1 a0_0 a0_1 a0_2 _ _ l0_3 _ _ l0_4 t767 t768 t769 _ ?side1 ?side2 ?side3 ?side4 A5.out).mono ?_);(case side1=>exact Kd.C_below HR0_3.out zb4);(case side2=>exact HC0_3.out);(case side3=>exact Kd.C_below HR0_4.out zb4);(case side4=>exact HC0_4.out);rintro e w23 ⟨rfl,hb⟩;refine ⟨_,rfl,?_⟩;replace HO97:=Aside0.mk (Kd.R_below (by (with_reducible repeat (first|apply Kd.R_alloc|apply Kd.R_drewN|apply Kd.R_drew));exact (Kd.R_mono (Kd.R_far (p:=⟨gb86,4,none⟩) (Kd.R_far (p:=⟨gb86,3,none⟩) (Kd.R_far (p:=⟨gb86,2,none⟩) (Kd.R_far (p:=⟨gb86,1,none⟩) (Kd.R_far (p:=⟨gb86,0,none⟩) (Kd.R_types HO97.out BK86.out (by decide)) (fun _ hk=>hk.2) (.int .i64 a0_0)) (fun _ hk=>hk.2) (.string a0_1)) (fun _ hk=>hk.2) (.int .i64 1)) (fun _ hk=>hk.2) (.slice Ao14 t90.length co14)) (fun _ hk=>hk.2) (.slice none 0 0)) (fun _ h_=>h_.1))) hb);replace BK87:=Aside0.mk (blk_below (g:=gb87) (o:=.cells #[.int .i64 a0_0,.string a0_1,.int .i64 a0_2,.slice A0_3 l0_3.length c0_3,.slice A0_4 l0_4.length c0_4] 62 (0,0)) (by (with_reducible repeat (first|refine blk_drewN ?_ _|refine blk_drew ?_|refine blk_alloc ?_ _));refine blk_far ?_ NB87_766.out _;(with_reducible repeat (first|refine blk_drewN ?_ _|refine blk_drew ?_|refine blk_alloc ?_ _));refine blk_far ?_ NB87_766.out _;(with_reducible repeat (first|refine blk_drewN ?_ _|refine blk_drew ?_|refine blk_alloc ?_ _));refine blk_far ?_ NB87_766.out _;(with_reducible repeat (first|refine blk_drewN ?_ _|refine blk_drew ?_|refine blk_alloc ?_ _));refine blk_far ?_ NB87_766.out _;(with_reducible repeat (first|refine blk_drewN ?_ _|refine blk_drew ?_|refine blk_alloc ?_ _));refine blk_far ?_ NB87_766.out _;(with_reducible repeat (first|refine blk_drewN ?_ _|refine blk_drew ?_|refine blk_alloc ?_ _));exact BK87.out) hb);replace BK88:=Aside0.mk (blk_below (g:=gb88) (o:=.cells #[.int .i64 0,.string (⟨#[]⟩:ByteArray),.int .i64 0,.slice none 0 0,.slice none 0 0] 62 (0,0)) (by (with_reducible repeat (first|refine blk_drewN ?_ _|refine blk_drew ?_|refine blk_alloc ?_ _));refine blk_far ?_ NB88_766.out _;(with_reducible repeat (first|refine blk_drewN ?_ _|refine blk_drew ?_|refine blk_alloc ?_ _));refine blk_far ?_ NB88_766.out _;(with_reducible repeat (first|refine blk_drewN ?_ _|refine blk_drew ?_|refine blk_alloc ?_ _));refine blk_far ?_ NB88_766.out _;(with_reducible repeat (first|refine blk_drewN ?_ _|refine blk_drew ?_|refine blk_alloc ?_ _));refine blk_far ?_ NB88_766.out _;(with_reducible repeat (first|refine blk_drewN ?_ _|refine blk_drew ?_|refine blk_alloc ?_ _));refine blk_far ?_ NB88_766.out _;(with_reducible repeat (first|refine blk_drewN ?_ _|refine blk_drew ?_|refine blk_alloc ?_ _));exact BK88.out) hb);replace BK86:=Aside0.mk (blk_below (g:=gb86) (o:=.cells #[.int .i64 a0_0,.string a0_1,.int .i64 1,.slice Ao14 t90.length co14,.slice none 0 0] 62 (0,0)) (by (with_reducible repeat (first|refine blk_drewN ?_ _|refine blk_drew ?_|refine blk_alloc ?_ _));refine blk_put (cs:=#[.int .i64 a0_0,.string a0_1,.int .i64 1,.slice Ao14 t90.length co14,.slice none 0 0]) ?_ 4 _ rfl;(with_reducible repeat (first|refine blk_drewN ?_ _|refine blk_drew ?_|refine blk_alloc ?_ _));refine blk_put (cs:=#[.int .i64 a0_0,.string a0_1,.int .i64 1,.slice none 0 0,.slice none 0 0]) ?_ 3 _ rfl;(with_reducible repeat (first|refine blk_drewN ?_ _|refine blk_drew ?_|refine blk_alloc ?_ _));refine blk_put (cs:=#[.int .i64 a0_0,.string a0_1,.int .i64 0,.slice none 0 0,.slice none 0 0]) ?_ 2 _ rfl;(with_reducible repeat (first|refine blk_drewN ?_ _|refine blk_drew ?_|refine blk_alloc ?_ _));refine blk_put (cs:=#[.int .i64 a0_0,.string (⟨#[]⟩:ByteArray),.int .i64 0,.slice none 0 0,.slice none 0 0]) ?_ 1 _ rfl;(with_reducible repeat (first|refine blk_drewN ?_ _|refine blk_drew ?_|refine blk_alloc ?_ _));refine blk_put (cs:=#[.int .i64 0,.string (⟨#[]⟩:ByteArray),.int .i64 0,.slice none 0 0,.slice none 0 0]) ?_ 0 _ rfl;(with_reducible repeat (first|refine blk_drewN ?_ _|refine blk_drew ?_|refine blk_alloc ?_ _));exact BK86.out) hb);replace HB:=Aside0.mk (below_step zb4 hb);(try clear hb)))
 (try simp only [Act.put,zqA,zqB,zqC])
 go_cut [31] (fun v31 wc => ∃ (kq:Nat) (x31_5:Bool),v31 = .bool x31_5∧Aside0 (scrub_Response.j0 kq a2 x31_5 a0_0 a0_1 a0_2 l0_3 l0_4 a0_0 a0_1 1 t90=some (r1,r2,r3,r4,r5))∧Aside0 (kq ≤ k)∧Aside0 (Kd.R k36 36 wc w.heap.size (fun _=>True) (.slice Ao14 t90.length co14) t90)∧Aside0 (wc.heap[gb87]? = some (.cells #[.int .i64 a0_0,.string a0_1,.int .i64 a0_2,(.slice A0_3 l0_3.length c0_3),(.slice A0_4 l0_4.length c0_4)] 62 (0,0)))∧Aside0 (wc.heap[gb88]? = some (.cells #[.int .i64 0,.string (⟨#[]⟩:ByteArray),.int .i64 0,(.slice none 0 0),(.slice none 0 0)] 62 (0,0)))∧Aside0 (wc.heap[gb86]? = some (.cells #[.int .i64 a0_0,.string a0_1,.int .i64 1,(.slice Ao14 t90.length co14),(.slice none 0 0)] 62 (0,0)))∧Aside0 (Below w.heap.size w wc))
 case first =>
  have H:=HC6.out
  clear HC6
  by_cases c24:t769=true
  ·subst c24
   rw [if_pos rfl] at H
   have H' := Aside0.mk H
   clear H
   go_wp2
   go_meet
   case rel=>exact ⟨_,((t767 != 0)),zb8,H',⟨zb79⟩,⟨zb78⟩,⟨zb6⟩,⟨zb17⟩,⟨zb11⟩,⟨zb4⟩⟩
  replace c24:=Bool.eq_false_iff.mpr c24
  subst c24
  rw [if_neg (show ¬ (false=true) by decide)] at H
  have H' := Aside0.mk H
  clear H
  go_wp2
  go_meet
  case rel=>exact ⟨_,(true),zb8,H',⟨zb79⟩,⟨zb78⟩,⟨zb6⟩,⟨zb17⟩,⟨zb11⟩,⟨zb4⟩⟩
 case rest =>
  clear HC6
  try clear c2
  try clear p2
  try clear c4
  try clear c6
  try clear c7
  try clear c20
  try clear c21
  try clear c24
  try clear hcz22_0
  try clear hcz22_1
  try clear hcz22_2
  try clear hcz22_3
  try clear hcz22_4
  try clear hfz22_0
  try clear hfz22_1
  try clear hfz22_2
  try clear hfz22_3
  try clear hfz22_4
  obtain ⟨kq,x31_5,rfl,HA,HJ5,HO_89,BK87,BK88,BK86,HB⟩:=hcut
  cases kq with
  | zero=>exact absurd HA.out (by simp [scrub_Response.j0])
  | succ kj5 =>
   have H:=HA.out
   clear HA
   simp only [scrub_Response.j0] at H
   by_cases c25:x31_5=true;rotate_left
   ·replace c25:=Bool.eq_false_iff.mpr c25
    subst c25
    rw [if_neg (show ¬ (false=true) by decide)] at H
    by_cases c68:a2=true;rotate_left
    ·replace c68:=Bool.eq_false_iff.mpr c68
     subst c68
     rw [if_neg (show ¬ (false=true) by decide)] at H
     simp only [Option.some.injEq,Prod.mk.injEq] at H
     obtain ⟨rfl,rfl,rfl,rfl,rfl⟩:=H
     have hnb81:=NB86_761.out
     have hnc81:=NB87_766.out
     have hnb82:=NB86_762.out
     have hnc82:=NB88_766.out
     obtain ⟨hcz83_0,hcz83_1,hcz83_2,hcz83_3,hcz83_4,hfz83_0,hfz83_1,hfz83_2,hfz83_3,hfz83_4⟩:=zq5 BK86.out
     have hnb84:=NB88_761.out
     have hnc84:=NB87_762.out
     obtain ⟨hcz85_0,hcz85_1,hcz85_2,hcz85_3,hcz85_4,hfz85_0,hfz85_1,hfz85_2,hfz85_3,hfz85_4⟩:=zq5 BK88.out
     go_wp2
     refine bodyPost_ret (results_cell_row rfl _ _ gb88 62 #[.int .i64 a0_0,.string a0_1,.int .i64 1,.slice Ao14 t90.length co14,.slice none 0 0] (0,0) _ rfl (by (with_reducible repeat (first|refine blk_drewN ?_ _|refine blk_drew ?_|refine blk_alloc ?_ _));refine blk_put (cs:=#[.int .i64 a0_0,.string a0_1,.int .i64 1,.slice Ao14 t90.length co14,.slice none 0 0]) ?_ 4 _ rfl;(with_reducible repeat (first|refine blk_drewN ?_ _|refine blk_drew ?_|refine blk_alloc ?_ _));refine blk_put (cs:=#[.int .i64 a0_0,.string a0_1,.int .i64 1,.slice none 0 0,.slice none 0 0]) ?_ 3 _ rfl;(with_reducible repeat (first|refine blk_drewN ?_ _|refine blk_drew ?_|refine blk_alloc ?_ _));refine blk_put (cs:=#[.int .i64 a0_0,.string a0_1,.int .i64 0,.slice none 0 0,.slice none 0 0]) ?_ 2 _ rfl;(with_reducible repeat (first|refine blk_drewN ?_ _|refine blk_drew ?_|refine blk_alloc ?_ _));refine blk_put (cs:=#[.int .i64 a0_0,.string (⟨#[]⟩:ByteArray),.int .i64 0,.slice none 0 0,.slice none 0 0]) ?_ 1 _ rfl;(with_reducible repeat (first|refine blk_drewN ?_ _|refine blk_drew ?_|refine blk_alloc ?_ _));refine blk_put (cs:=#[.int .i64 0,.string (⟨#[]⟩:ByteArray),.int .i64 0,.slice none 0 0,.slice none 0 0]) ?_ 0 _ rfl;(with_reducible repeat (first|refine blk_drewN ?_ _|refine blk_drew ?_|refine blk_alloc ?_ _));exact BK88.out) Tryz.underlying62 rfl zb9) rfl ?_
     exact ⟨_,_,zb3,by (with_reducible repeat (first|apply Kd.R_alloc|apply Kd.R_drewN|apply Kd.R_drew));exact Kd.R_mono (Kd.R_far (p:=⟨gb88,4,none⟩) (Kd.R_far (p:=⟨gb88,3,none⟩) (Kd.R_far (p:=⟨gb88,2,none⟩) (Kd.R_far (p:=⟨gb88,1,none⟩) (Kd.R_far (p:=⟨gb88,0,none⟩) (Kd.R_types HO_89.out BK88.out (by decide)) (fun _ hk=>hk.2) (.int .i64 a0_0)) (fun _ hk=>hk.2) (.string a0_1)) (fun _ hk=>hk.2) (.int .i64 1)) (fun _ hk=>hk.2) (.slice Ao14 t90.length co14)) (fun _ hk=>hk.2) (.slice none 0 0)) (fun _ hk=>trivial),zb7,zb4⟩
    subst c68
    rw [if_pos rfl] at H
    replace H:=Option.bind_eq_some_iff.mp H
    obtain ⟨⟨t783,t784⟩,A690,H⟩:=H
    try dsimp only at H
    have A69:=Aside0.mk A690
    clear A690
    by_cases c70:t90.length < 4398046511104;rotate_left
    ·rw [if_neg c70] at H
     exact absurd H zb55
    rw [if_pos c70] at H
    have LMc70:=Aside0.mk c70
    clear c70
    obtain ⟨y99,hy99⟩ : ∃ y_:List (S36),y_=(t90 ++ [(⟨t783,t784⟩:S36)]):=⟨_,rfl⟩
    replace H:(some (a0_0,a0_1,1,y99,([]:List Int)))=some (r1,r2,r3,r4,r5):=by first|(rw [hy99];with_reducible exact H)|(have H2_:=(Option.bind_some _ _).symm.trans H;rw [hy99];with_reducible exact H2_)|(have H2_:=(Option.bind_some _ _).symm.trans H;with_reducible exact H2_)|with_reducible exact H|(rw [hy99];exact H)|exact H
    have Ny99:=Aside0.mk hy99
    clear hy99
    simp only [Option.some.injEq,Prod.mk.injEq] at H
    obtain ⟨rfl,rfl,rfl,rfl,rfl⟩:=H
    try go_wp2
    replace HO_89:=Aside0.mk (Kd.R_drew HO_89.out)
    replace BK87:=Aside0.mk (blk_drew BK87.out)
    replace BK88:=Aside0.mk (blk_drew BK88.out)
    replace BK86:=Aside0.mk (blk_drew BK86.out)
    replace HB:=Aside0.mk (below_drew1 HB.out)
    refine start_ (n:=7) (S:=fun w' => w'.cell? ⟨gb86,0,none⟩=some (.int .i64 a0_0)∧w'.cell? ⟨gb86,1,none⟩=some (.string a0_1)∧w'.cell? ⟨gb86,2,none⟩=some (.int .i64 1)∧w'.cell? ⟨gb86,3,none⟩=some (.slice Ao14 t90.length co14)∧w'.cell? ⟨gb86,4,none⟩=some (.slice none 0 0)) (ds:=[6]) (zl 7 0) zb9 rfl rfl ⟨(blk_cell BK86.out 0).trans rfl,(blk_cell BK86.out 1).trans rfl,(blk_cell BK86.out 2).trans rfl,(blk_cell BK86.out 3).trans rfl,(blk_cell BK86.out 4).trans rfl⟩ (fun hHeld=>?_)
    generalize wc.drew=w71 at HO_89 BK87 BK88 BK86 HB hHeld ⊢
    refine pure_ (i:=0) (N:=some 46) (v:=?_) (a' := ?_) (zl 7 1) rfl rfl zb9 (fun _ _ _ h=>h) (Or.inl ⟨zb58,?_⟩) ?_ ?_
    rotate_left
    ·intro w';go_simp;with_reducible rfl
    rotate_left
    ·simp only [Act.put,zqA,zqB,zqC,i64_w,i32_w];rfl
    refine take_ (i:=1) (N:=some 47) (v:=?_) (a' := ?_) (zl 7 3) rfl rfl zb9 (fun _ _ _ h=>h) (Or.inl ⟨zb58,?_⟩) hHeld ?_ ?_
    rotate_left
    ·rintro w' ⟨s0,s1,s2,s3,s4⟩;go_simp;with_reducible rfl
    rotate_left
    ·simp only [Act.put,zqA,zqB,zqC,i64_w,i32_w];rfl
    refine one_ (i:=2) (N:=some 48) (zl 7 7) rfl rfl zb9 zb33 (fun K hK=>?_)
    refine goes_ Tryz.func72 zb9 rfl #[] zb58 rfl rfl zb1 ?_
    with_reducible refine (scrub_closing.calls  t783 t784 _ A69.out).mono ?_
    rintro e w72 ⟨rfl,hb⟩
    refine ⟨_,rfl,?_⟩
    replace HO_89:=Aside0.mk (Kd.R_below zb38 hb)
    replace BK87:=Aside0.mk (blk_below (g:=gb87) (o:=.cells #[.int .i64 a0_0,.string a0_1,.int .i64 a0_2,.slice A0_3 l0_3.length c0_3,.slice A0_4 l0_4.length c0_4] 62 (0,0)) zb6 hb)
    replace BK88:=Aside0.mk (blk_below (g:=gb88) (o:=.cells #[.int .i64 0,.string (⟨#[]⟩:ByteArray),.int .i64 0,.slice none 0 0,.slice none 0 0] 62 (0,0)) zb17 hb)
    replace BK86:=Aside0.mk (blk_below (g:=gb86) (o:=.cells #[.int .i64 a0_0,.string a0_1,.int .i64 1,.slice Ao14 t90.length co14,.slice none 0 0] 62 (0,0)) zb11 hb)
    replace HB:=Aside0.mk (below_step zb4 hb)
    (try clear hb)
    (try clear hb2)
    (try clear hk)
    (try clear hi)
    refine hK.out _ _ ⟨(blk_cell BK86.out 0).trans rfl,(blk_cell BK86.out 1).trans rfl,(blk_cell BK86.out 2).trans rfl,(blk_cell BK86.out 3).trans rfl,(blk_cell BK86.out 4).trans rfl⟩ (fun hHeld=>?_)
    clear hK K
    refine norm_ (a' := ?_) ?_ ?_
    rotate_left
    ·show Act.put _ (some 48) _=_
     simp only [Act.put,zqA,zqB,zqC,i64_w,i32_w]
     rfl
    refine one_ (i:=3) (N:=some 49) (zl 7 15) rfl rfl zb9 zb33 (fun K hK=>?_)
    refine value_ (w1:=?_) (v:=?_) zb58 rfl ?_ ?_
    rotate_left 2
    ·go_simp
     constructor
     ·rfl
     rfl
    refine hK.out _ _ ⟨(blk_cell (blk_alloc BK86.out _) 0).trans rfl,(blk_cell (blk_alloc BK86.out _) 1).trans rfl,(blk_cell (blk_alloc BK86.out _) 2).trans rfl,(blk_cell (blk_alloc BK86.out _) 3).trans rfl,(blk_cell (blk_alloc BK86.out _) 4).trans rfl⟩ (fun hHeld=>?_)
    clear hK K
    refine norm_ (a' := ?_) ?_ ?_
    rotate_left
    ·show Act.put _ (some 49) _=_
     simp only [Act.put,zqA,zqB,zqC,i64_w,i32_w]
     rfl
    refine one_ (i:=4) (N:=some 50) (zl 7 31) rfl rfl zb9 zb33 (fun K hK=>?_)
    refine Kd.R_append_step k36 (w0:=w) w.heap.size zb58 (.tmp 47) (.tmp 49) 24 36 (.agg #[(.string ⟨#[]⟩),(.string ⟨#[]⟩)]) 32 rfl Tryz.underlying24 info36 rfl zb33 zb62 (.slice Ao14 t90.length co14) t90 (⟨t783,t784⟩:S36) [.string t783,.string t784] (fun _=>True) (fun _=>False) rfl rfl ?aP (fun _ hk=>hk.elim) ?aF ?aO ?aB ?aS ?aL ?_
    (case aP=>exact k36_mkM _ _ _ (⟨t783,t784⟩:S36))
    (case aB=>exact zb56)
    (case aF=>exact (fun _ _=>trivial))
    (case aO=>exact zb108)
    (case aS=>exact zb54)
    (case aL=>have:=LMc70.out;omega)
    intro v786 w73 ho hb hg hat
    rw [← Ny99.out] at ho
    have n0_:=Aside0.mk (blk_grown (g:=gb87) (o:=.cells #[.int .i64 a0_0,.string a0_1,.int .i64 a0_2,.slice A0_3 l0_3.length c0_3,.slice A0_4 l0_4.length c0_4] 62 (0,0)) zb6 hg (Kd.R_ne HO_89.out BK87.out zb33))
    have n1_:=Aside0.mk (blk_grown (g:=gb88) (o:=.cells #[.int .i64 0,.string (⟨#[]⟩:ByteArray),.int .i64 0,.slice none 0 0,.slice none 0 0] 62 (0,0)) zb17 hg (Kd.R_ne HO_89.out BK88.out zb33))
    have n2_:=Aside0.mk (blk_grown (g:=gb86) (o:=.cells #[.int .i64 a0_0,.string a0_1,.int .i64 1,.slice Ao14 t90.length co14,.slice none 0 0] 62 (0,0)) zb11 hg (Kd.R_ne HO_89.out BK86.out zb33))
    have n3_:=Aside0.mk (hb)
    have n4_:=Aside0.mk (ho)
    clear BK87 BK88 BK86 HB HO_89
    have BK87:=n0_
    have BK88:=n1_
    have BK86:=n2_
    have HB:=n3_
    have HO787:=n4_
    clear n0_ n1_ n2_ n3_ n4_ ho hb hg hat
    obtain ⟨Ao74,co74,eo74⟩:=Kd.R_slice HO787.out
    (first|subst eo74|(injection eo74 with f1_ f2_ f3_;have f4_:=f1_.symm;have f5_:=f3_.symm;clear f1_ f2_ f3_;subst f4_;subst f5_))
    refine hK.out _ _ ⟨(blk_cell BK86.out 0).trans rfl,(blk_cell BK86.out 1).trans rfl,(blk_cell BK86.out 2).trans rfl,(blk_cell BK86.out 3).trans rfl,(blk_cell BK86.out 4).trans rfl⟩ (fun hHeld=>?_)
    clear hK K
    refine norm_ (a' := ?_) ?_ ?_
    rotate_left
    ·show Act.put _ (some 50) _=_
     simp only [Act.put,zqA,zqB,zqC,i64_w,i32_w]
     rfl
    refine pure_ (i:=5) (N:=some 51) (v:=?_) (a' := ?_) (zl 7 63) rfl rfl zb9 (fun _ _ _ h=>h) (Or.inl ⟨zb58,?_⟩) ?_ ?_
    rotate_left
    ·intro w';go_simp;with_reducible rfl
    rotate_left
    ·simp only [Act.put,zqA,zqB,zqC,i64_w,i32_w];rfl
    refine last_ (i:=6) (N:=none) (zl 7 127) rfl rfl zb9 zb33 (fun K hK=>?_)
    have hs75:w73.cell? ⟨gb86,3,none⟩=some (.slice Ao14 t90.length co14):=(blk_cell BK86.out 3).trans rfl
    have hfs75:=blk_frozen BK86.out 3
    have hns75_0:=NB87_766.out
    have hns75_1:=NB88_766.out
    have hms75_0:=NB86_761.out
    have hms75_1:=NB86_762.out
    refine skip_ (w1:=?_) zb58 rfl ?_ ?_
    rotate_left
    ·go_simp
     rfl
    refine hK.out _ _ ?_
    clear hK K
    refine done_ zb9 ?_
    have hnb76:=NB86_761.out
    have hnc76:=NB87_766.out
    have hnb77:=NB86_762.out
    have hnc77:=NB88_766.out
    obtain ⟨hcz78_0,hcz78_1,hcz78_2,hcz78_3,hcz78_4,hfz78_0,hfz78_1,hfz78_2,hfz78_3,hfz78_4⟩:=zq5 BK86.out
    have hnb79:=NB88_761.out
    have hnc79:=NB87_762.out
    obtain ⟨hcz80_0,hcz80_1,hcz80_2,hcz80_3,hcz80_4,hfz80_0,hfz80_1,hfz80_2,hfz80_3,hfz80_4⟩:=zq5 BK88.out
    try go_wp2
    refine bodyPost_ret (results_cell_row rfl _ _ gb88 62 #[.int .i64 a0_0,.string a0_1,.int .i64 1,.slice Ao74 y99.length co74,.slice none 0 0] (0,0) _ rfl (by (with_reducible repeat (first|refine blk_drewN ?_ _|refine blk_drew ?_|refine blk_alloc ?_ _));refine blk_put (cs:=#[.int .i64 a0_0,.string a0_1,.int .i64 1,.slice Ao74 y99.length co74,.slice none 0 0]) ?_ 4 _ rfl;(with_reducible repeat (first|refine blk_drewN ?_ _|refine blk_drew ?_|refine blk_alloc ?_ _));refine blk_put (cs:=#[.int .i64 a0_0,.string a0_1,.int .i64 1,.slice none 0 0,.slice none 0 0]) ?_ 3 _ rfl;(with_reducible repeat (first|refine blk_drewN ?_ _|refine blk_drew ?_|refine blk_alloc ?_ _));refine blk_put (cs:=#[.int .i64 a0_0,.string a0_1,.int .i64 0,.slice none 0 0,.slice none 0 0]) ?_ 2 _ rfl;(with_reducible repeat (first|refine blk_drewN ?_ _|refine blk_drew ?_|refine blk_alloc ?_ _));refine blk_put (cs:=#[.int .i64 a0_0,.string (⟨#[]⟩:ByteArray),.int .i64 0,.slice none 0 0,.slice none 0 0]) ?_ 1 _ rfl;(with_reducible repeat (first|refine blk_drewN ?_ _|refine blk_drew ?_|refine blk_alloc ?_ _));refine blk_put (cs:=#[.int .i64 0,.string (⟨#[]⟩:ByteArray),.int .i64 0,.slice none 0 0,.slice none 0 0]) ?_ 0 _ rfl;(with_reducible repeat (first|refine blk_drewN ?_ _|refine blk_drew ?_|refine blk_alloc ?_ _));refine blk_far ?_ NB88_766.out _;(with_reducible repeat (first|refine blk_drewN ?_ _|refine blk_drew ?_|refine blk_alloc ?_ _));exact BK88.out) Tryz.underlying62 rfl zb9) rfl ?_
    exact ⟨_,_,zb3,by (with_reducible repeat (first|apply Kd.R_alloc|apply Kd.R_drewN|apply Kd.R_drew));exact Kd.R_mono (Kd.R_far (p:=⟨gb88,4,none⟩) (Kd.R_far (p:=⟨gb88,3,none⟩) (Kd.R_far (p:=⟨gb88,2,none⟩) (Kd.R_far (p:=⟨gb88,1,none⟩) (Kd.R_far (p:=⟨gb88,0,none⟩) (Kd.R_far (p:=⟨gb86,3,none⟩) (Kd.R_types (Kd.R_types HO787.out BK86.out (by decide)) BK88.out (by decide)) (fun _ hk=>hk.1.2) (.slice Ao74 y99.length co74)) (fun _ hk=>hk.2) (.int .i64 a0_0)) (fun _ hk=>hk.2) (.string a0_1)) (fun _ hk=>hk.2) (.int .i64 1)) (fun _ hk=>hk.2) (.slice Ao74 y99.length co74)) (fun _ hk=>hk.2) (.slice none 0 0)) (fun _ hk=>trivial),zb7,zb4⟩
   subst c25
   rw [if_pos rfl] at H
   replace H:=Option.bind_eq_some_iff.mp H
   obtain ⟨t91,A260,H⟩:=H
   try dsimp only at H
   have A26:=Aside0.mk A260
   clear A260
   replace H:=Option.bind_eq_some_iff.mp H
   obtain ⟨⟨t96,t774⟩,A270,H⟩:=H
   try dsimp only at H
   have A27:=Aside0.mk A270
   clear A270
   by_cases c28:t90.length < 4398046511104
   ·rw [if_pos c28] at H
    have LMc28:=Aside0.mk c28
    clear c28
    obtain ⟨y92,hy92⟩ : ∃ y_:List (S36),y_=(t90 ++ [(⟨t96,t774⟩:S36)]):=⟨_,rfl⟩
    replace H:(if a2=true then ((scrub_closing.f).bind fun bt94=>(if y92.length < 4398046511104 then (some (a0_0,a0_1,1,(y92 ++ [(⟨bt94.1,bt94.2⟩:S36)]),t91)) else (none))) else (some (a0_0,a0_1,1,y92,t91)))=some (r1,r2,r3,r4,r5):=by first|(rw [hy92];with_reducible exact H)|(have H2_:=(Option.bind_some _ _).symm.trans H;rw [hy92];with_reducible exact H2_)|(have H2_:=(Option.bind_some _ _).symm.trans H;with_reducible exact H2_)|with_reducible exact H|(rw [hy92];exact H)|exact H
    have Ny92:=Aside0.mk hy92
    clear hy92
    by_cases c29:a2=true
    ·subst c29
     rw [if_pos rfl] at H
     replace H:=Option.bind_eq_some_iff.mp H
     obtain ⟨⟨t94,t779⟩,A300,H⟩:=H
     try dsimp only at H
     have A30:=Aside0.mk A300
     clear A300
     by_cases c31:y92.length < 4398046511104
     ·rw [if_pos c31] at H
      have LMc31:=Aside0.mk c31
      clear c31
      obtain ⟨y98,hy98⟩ : ∃ y_:List (S36),y_=(y92 ++ [(⟨t94,t779⟩:S36)]):=⟨_,rfl⟩
      replace H:(some (a0_0,a0_1,1,y98,t91))=some (r1,r2,r3,r4,r5):=by first|(rw [hy98];with_reducible exact H)|(have H2_:=(Option.bind_some _ _).symm.trans H;rw [hy98];with_reducible exact H2_)|(have H2_:=(Option.bind_some _ _).symm.trans H;with_reducible exact H2_)|with_reducible exact H|(rw [hy98];exact H)|exact H
      have Ny98:=Aside0.mk hy98
      clear hy98
      simp only [Option.some.injEq,Prod.mk.injEq] at H
      obtain ⟨rfl,rfl,rfl,rfl,rfl⟩:=H
      have hnb32:=NB87_762.out
      have hnc32:=NB88_761.out
      have hnb33:=NB87_766.out
      have hnc33:=NB86_761.out
      obtain ⟨hcz34_0,hcz34_1,hcz34_2,hcz34_3,hcz34_4,hfz34_0,hfz34_1,hfz34_2,hfz34_3,hfz34_4⟩:=zq5 BK87.out
      try go_wp2_with (first|((with_reducible refine gate_callee (f:=62) rfl ?_);refine goesL_ (some 34) rfl rfl Tryz.func62 zb9 rfl #[.slice A0_4 l0_4.length c0_4] rfl zb1 ?_;(with_reducible refine (bytes_Clone.calls _ _ l0_4 t91 _ ?side1 ?side2 A26.out).mono ?_);(case side1=>exact zb73);(case side2=>exact HC0_4.out);rintro e w35 ⟨v771,rfl,ho0,hb⟩;(try clear A26);refine ⟨_,rfl,?_⟩;replace HO_89:=Aside0.mk (Kd.R_below zb38 hb);have HO93:=Aside0.mk (Kd.R_lower ho0 (below_size zb4));replace BK87:=Aside0.mk (blk_below (g:=gb87) (o:=.cells #[.int .i64 a0_0,.string a0_1,.int .i64 a0_2,.slice A0_3 l0_3.length c0_3,.slice A0_4 l0_4.length c0_4] 62 (0,0)) zb6 hb);replace BK88:=Aside0.mk (blk_below (g:=gb88) (o:=.cells #[.int .i64 0,.string (⟨#[]⟩:ByteArray),.int .i64 0,.slice none 0 0,.slice none 0 0] 62 (0,0)) zb17 hb);replace BK86:=Aside0.mk (blk_below (g:=gb86) (o:=.cells #[.int .i64 a0_0,.string a0_1,.int .i64 1,.slice Ao14 t90.length co14,.slice none 0 0] 62 (0,0)) zb11 hb);replace HB:=Aside0.mk (below_step zb4 hb);try clear hb ho0;obtain ⟨Ao36,co36,eo36⟩:=Kd.R_slice HO93.out;subst eo36;have hnb37:=NB86_762.out;have hnc37:=NB88_766.out;obtain ⟨hcz38_0,hcz38_1,hcz38_2,hcz38_3,hcz38_4,hfz38_0,hfz38_1,hfz38_2,hfz38_3,hfz38_4⟩:=zq5 BK86.out))
      have n0_:Aside0 (Kd.R k36 36 (w35.setCell ⟨gb86,4,none⟩ (.slice Ao36 t91.length co36)) w.heap.size (fun _=>True) (.slice Ao14 t90.length co14) t90):=⟨by (with_reducible repeat (first|apply Kd.R_alloc|apply Kd.R_drewN|apply Kd.R_drew));exact Kd.R_mono (Kd.R_far (p:=⟨gb86,4,none⟩) (Kd.R_types HO_89.out BK86.out (by decide)) (fun _ hk=>hk.2) (.slice Ao36 t91.length co36)) (fun _ hk=>trivial)⟩
      have n1_:Aside0 (Kd.R (Kd.int .u8) 5 (w35.setCell ⟨gb86,4,none⟩ (.slice Ao36 t91.length co36)) w.heap.size (fun _=>True) (.slice Ao36 t91.length co36) t91):=⟨by (with_reducible repeat (first|apply Kd.R_alloc|apply Kd.R_drewN|apply Kd.R_drew));exact Kd.R_mono (Kd.R_far (p:=⟨gb86,4,none⟩) (Kd.R_types HO93.out BK86.out (by decide)) (fun _ hk=>hk.2) (.slice Ao36 t91.length co36)) (fun _ hk=>trivial)⟩
      have n2_:Aside0 ((w35.setCell ⟨gb86,4,none⟩ (.slice Ao36 t91.length co36)).heap[gb87]? = some (.cells #[.int .i64 a0_0,.string a0_1,.int .i64 a0_2,.slice A0_3 l0_3.length c0_3,.slice A0_4 l0_4.length c0_4] 62 (0,0))):=⟨zb64⟩
      have n3_:Aside0 ((w35.setCell ⟨gb86,4,none⟩ (.slice Ao36 t91.length co36)).heap[gb88]? = some (.cells #[.int .i64 0,.string (⟨#[]⟩:ByteArray),.int .i64 0,.slice none 0 0,.slice none 0 0] 62 (0,0))):=⟨zb65⟩
      have n4_:Aside0 ((w35.setCell ⟨gb86,4,none⟩ (.slice Ao36 t91.length co36)).heap[gb86]? = some (.cells #[.int .i64 a0_0,.string a0_1,.int .i64 1,.slice Ao14 t90.length co14,.slice Ao36 t91.length co36] 62 (0,0))):=⟨zb72⟩
      have n5_:Aside0 (Below w.heap.size w (w35.setCell ⟨gb86,4,none⟩ (.slice Ao36 t91.length co36))):=⟨zb4⟩
      (try clear HO_89)
      (try clear HO93)
      (try clear BK87)
      (try clear BK88)
      (try clear BK86)
      (try clear HB)
      generalize (w35.setCell ⟨gb86,4,none⟩ (.slice Ao36 t91.length co36))=w39 at n0_ n1_ n2_ n3_ n4_ n5_ ⊢
      have HO_89:=n0_
      have HO93:=n1_
      have BK87:=n2_
      have BK88:=n3_
      have BK86:=n4_
      have HB:=n5_
      clear n0_ n1_ n2_ n3_ n4_ n5_
      replace HO_89:=Aside0.mk (Kd.R_drew HO_89.out)
      replace HO93:=Aside0.mk (Kd.R_drew HO93.out)
      replace BK87:=Aside0.mk (blk_drew BK87.out)
      replace BK88:=Aside0.mk (blk_drew BK88.out)
      replace BK86:=Aside0.mk (blk_drew BK86.out)
      replace HB:=Aside0.mk (below_drew1 HB.out)
      refine start_ (n:=10) (S:=fun w' => w'.cell? ⟨gb86,0,none⟩=some (.int .i64 a0_0)∧w'.cell? ⟨gb86,1,none⟩=some (.string a0_1)∧w'.cell? ⟨gb86,2,none⟩=some (.int .i64 1)∧w'.cell? ⟨gb86,3,none⟩=some (.slice Ao14 t90.length co14)∧w'.cell? ⟨gb86,4,none⟩=some (.slice Ao36 t91.length co36)∧w'.cell? ⟨gb87,0,none⟩=some (.int .i64 a0_0)∧w'.cell? ⟨gb87,1,none⟩=some (.string a0_1)∧w'.cell? ⟨gb87,2,none⟩=some (.int .i64 a0_2)∧w'.cell? ⟨gb87,3,none⟩=some (.slice A0_3 l0_3.length c0_3)∧w'.cell? ⟨gb87,4,none⟩=some (.slice A0_4 l0_4.length c0_4)) (ds:=[9]) (zl 10 0) zb9 rfl rfl ⟨(blk_cell BK86.out 0).trans rfl,(blk_cell BK86.out 1).trans rfl,(blk_cell BK86.out 2).trans rfl,(blk_cell BK86.out 3).trans rfl,(blk_cell BK86.out 4).trans rfl,(blk_cell BK87.out 0).trans rfl,(blk_cell BK87.out 1).trans rfl,(blk_cell BK87.out 2).trans rfl,(blk_cell BK87.out 3).trans rfl,(blk_cell BK87.out 4).trans rfl⟩ (fun hHeld=>?_);refine with_tabW scrub_Response.tab5 scrub_Response.bits5 (fun HT_ HW_=>?_)
      generalize w39.drew=w40 at HO_89 HO93 BK87 BK88 BK86 HB hHeld ⊢
      refine zpu 0 (N:=some 36) (zl 10 1) HT_.out rfl rfl ?_
      refine zpu 2 (N:=some 38) (zl 10 5) HT_.out rfl rfl ?_
      refine take_ (i:=1) (N:=some 37) (v:=?_) (a' := ?_) (zl 10 7) rfl rfl (take_ofW HT_.out HW_.out zb9) (fun _ _ _ h=>h) (Or.inl ⟨zb58,?_⟩) hHeld ?_ ?_
      rotate_left
      ·rintro w' ⟨s0,s1,s2,s3,s4,s5,s6,s7,s8,s9⟩;go_simp;with_reducible rfl
      rotate_left
      ·simp only [Act.put,zqA,zqB,zqC,i64_w,i32_w];rfl
      refine take_ (i:=3) (N:=some 39) (v:=?_) (a' := ?_) (zl 10 15) rfl rfl (take_ofW HT_.out HW_.out zb9) (fun _ _ _ h=>h) (Or.inl ⟨zb58,?_⟩) hHeld ?_ ?_
      rotate_left
      ·rintro w' ⟨s0,s1,s2,s3,s4,s5,s6,s7,s8,s9⟩;go_simp;with_reducible rfl
      rotate_left
      ·simp only [Act.put,zqA,zqB,zqC,i64_w,i32_w];rfl
      refine zpu 4 (N:=some 40) (zl 10 31) HT_.out rfl rfl ?_
      refine one_ (i:=5) (N:=some 41) (zl 10 63) rfl rfl (one_of HT_.out zb9) zb33 (fun K hK=>?_)
      refine goes_ Tryz.func61 zb9 rfl #[.int .i64 (l0_4.length:Int)] zb58 rfl rfl zb1 ?_
      with_reducible refine (scrub_length.calls (l0_4.length:Int) t96 t774 _ A27.out ?hT).mono ?_;(case hT=>exact HTB.out.below zb4)
      rintro e w41 ⟨rfl,hb⟩
      refine ⟨_,rfl,?_⟩
      replace HO_89:=Aside0.mk (Kd.R_below zb38 hb)
      replace HO93:=Aside0.mk (Kd.R_below zb77 hb)
      replace BK87:=Aside0.mk (blk_below (g:=gb87) (o:=.cells #[.int .i64 a0_0,.string a0_1,.int .i64 a0_2,.slice A0_3 l0_3.length c0_3,.slice A0_4 l0_4.length c0_4] 62 (0,0)) zb6 hb)
      replace BK88:=Aside0.mk (blk_below (g:=gb88) (o:=.cells #[.int .i64 0,.string (⟨#[]⟩:ByteArray),.int .i64 0,.slice none 0 0,.slice none 0 0] 62 (0,0)) zb17 hb)
      replace BK86:=Aside0.mk (blk_below (g:=gb86) (o:=.cells #[.int .i64 a0_0,.string a0_1,.int .i64 1,.slice Ao14 t90.length co14,.slice Ao36 t91.length co36] 62 (0,0)) zb11 hb)
      replace HB:=Aside0.mk (below_step zb4 hb)
      (try clear hb)
      (try clear hb2)
      (try clear hk)
      (try clear hi)
      refine hK.out _ _ ⟨(blk_cell BK86.out 0).trans rfl,(blk_cell BK86.out 1).trans rfl,(blk_cell BK86.out 2).trans rfl,(blk_cell BK86.out 3).trans rfl,(blk_cell BK86.out 4).trans rfl,(blk_cell BK87.out 0).trans rfl,(blk_cell BK87.out 1).trans rfl,(blk_cell BK87.out 2).trans rfl,(blk_cell BK87.out 3).trans rfl,(blk_cell BK87.out 4).trans rfl⟩ (fun hHeld=>?_)
      clear hK K
      refine norm_ (a' := ?_) ?_ ?_
      rotate_left
      ·show Act.put _ (some 41) _=_
       simp only [Act.put,zqA,zqB,zqC,i64_w,i32_w]
       rfl
      refine one_ (i:=6) (N:=some 42) (zl 10 127) rfl rfl (one_of HT_.out zb9) zb33 (fun K hK=>?_)
      refine value_ (w1:=?_) (v:=?_) zb58 rfl ?_ ?_
      rotate_left 2
      ·go_simp
       constructor
       ·rfl
       rfl
      refine hK.out _ _ ⟨(blk_cell (blk_alloc BK86.out _) 0).trans rfl,(blk_cell (blk_alloc BK86.out _) 1).trans rfl,(blk_cell (blk_alloc BK86.out _) 2).trans rfl,(blk_cell (blk_alloc BK86.out _) 3).trans rfl,(blk_cell (blk_alloc BK86.out _) 4).trans rfl,(blk_cell (blk_alloc BK87.out _) 0).trans rfl,(blk_cell (blk_alloc BK87.out _) 1).trans rfl,(blk_cell (blk_alloc BK87.out _) 2).trans rfl,(blk_cell (blk_alloc BK87.out _) 3).trans rfl,(blk_cell (blk_alloc BK87.out _) 4).trans rfl⟩ (fun hHeld=>?_)
      clear hK K
      refine norm_ (a' := ?_) ?_ ?_
      rotate_left
      ·show Act.put _ (some 42) _=_
       simp only [Act.put,zqA,zqB,zqC,i64_w,i32_w]
       rfl
      refine one_ (i:=7) (N:=some 43) (zl 10 255) rfl rfl (one_of HT_.out zb9) zb33 (fun K hK=>?_)
      refine Kd.R_append_step k36 (w0:=w) w.heap.size zb58 (.tmp 37) (.tmp 42) 24 36 (.agg #[(.string ⟨#[]⟩),(.string ⟨#[]⟩)]) 32 rfl Tryz.underlying24 info36 rfl zb33 zb62 (.slice Ao14 t90.length co14) t90 (⟨t96,t774⟩:S36) [.string t96,.string t774] (fun _=>True) (fun _=>False) rfl rfl ?aP (fun _ hk=>hk.elim) ?aF ?aO ?aB ?aS ?aL ?_
      (case aP=>exact k36_mkM _ _ _ (⟨t96,t774⟩:S36))
      (case aB=>exact zb56)
      (case aF=>exact (fun _ _=>trivial))
      (case aO=>exact zb108)
      (case aS=>exact zb54)
      (case aL=>have:=LMc28.out;omega)
      intro v776 w42 ho hb hg hat
      rw [← Ny92.out] at ho
      have n0_:=Aside0.mk (blk_grown (g:=gb87) (o:=.cells #[.int .i64 a0_0,.string a0_1,.int .i64 a0_2,.slice A0_3 l0_3.length c0_3,.slice A0_4 l0_4.length c0_4] 62 (0,0)) zb6 hg (Kd.R_ne HO_89.out BK87.out zb33))
      have n1_:=Aside0.mk (blk_grown (g:=gb88) (o:=.cells #[.int .i64 0,.string (⟨#[]⟩:ByteArray),.int .i64 0,.slice none 0 0,.slice none 0 0] 62 (0,0)) zb17 hg (Kd.R_ne HO_89.out BK88.out zb33))
      have n2_:=Aside0.mk (blk_grown (g:=gb86) (o:=.cells #[.int .i64 a0_0,.string a0_1,.int .i64 1,.slice Ao14 t90.length co14,.slice Ao36 t91.length co36] 62 (0,0)) zb11 hg (Kd.R_ne HO_89.out BK86.out zb33))
      have n3_:=Aside0.mk (Kd.R_over' zb77 (Kd.R_typed zb38) zb33 hg)
      have n4_:=Aside0.mk (hb)
      have n5_:=Aside0.mk (ho)
      clear BK87 BK88 BK86 HO93 HB HO_89
      have BK87:=n0_
      have BK88:=n1_
      have BK86:=n2_
      have HO93:=n3_
      have HB:=n4_
      have HO95:=n5_
      clear n0_ n1_ n2_ n3_ n4_ n5_ ho hb hg hat
      obtain ⟨Ao43,co43,eo43⟩:=Kd.R_slice HO95.out
      (first|subst eo43|(injection eo43 with f1_ f2_ f3_;have f4_:=f1_.symm;have f5_:=f3_.symm;clear f1_ f2_ f3_;subst f4_;subst f5_))
      refine hK.out _ _ ⟨(blk_cell BK86.out 0).trans rfl,(blk_cell BK86.out 1).trans rfl,(blk_cell BK86.out 2).trans rfl,(blk_cell BK86.out 3).trans rfl,(blk_cell BK86.out 4).trans rfl,(blk_cell BK87.out 0).trans rfl,(blk_cell BK87.out 1).trans rfl,(blk_cell BK87.out 2).trans rfl,(blk_cell BK87.out 3).trans rfl,(blk_cell BK87.out 4).trans rfl⟩ (fun hHeld=>?_)
      clear hK K
      refine norm_ (a' := ?_) ?_ ?_
      rotate_left
      ·show Act.put _ (some 43) _=_
       simp only [Act.put,zqA,zqB,zqC,i64_w,i32_w]
       rfl
      refine zpu 8 (N:=some 44) (zl 10 511) HT_.out rfl rfl ?_
      refine last_ (i:=9) (N:=none) (zl 10 1023) rfl rfl (one_of HT_.out zb9) zb33 (fun K hK=>?_)
      have hs44:w42.cell? ⟨gb86,3,none⟩=some (.slice Ao14 t90.length co14):=(blk_cell BK86.out 3).trans rfl
      have hfs44:=blk_frozen BK86.out 3
      have hns44_0:=NB87_766.out
      have hns44_1:=NB88_766.out
      have hms44_0:=NB86_761.out
      have hms44_1:=NB86_762.out
      refine skip_ (w1:=?_) zb58 rfl ?_ ?_
      rotate_left
      ·go_simp
       rfl
      refine hK.out _ _ ?_
      clear hK K
      refine done_ (done_of HT_.out zb9) ?_
      try go_wp2
      have n0_:Aside0 (Kd.R (Kd.int .u8) 5 (w42.setCell ⟨gb86,3,none⟩ (.slice Ao43 y92.length co43)) w.heap.size (fun _=>True) (.slice Ao36 t91.length co36) t91):=⟨by (with_reducible repeat (first|apply Kd.R_alloc|apply Kd.R_drewN|apply Kd.R_drew));exact Kd.R_mono (Kd.R_far (p:=⟨gb86,3,none⟩) (Kd.R_types HO93.out BK86.out (by decide)) (fun _ hk=>hk.2) (.slice Ao43 y92.length co43)) (fun _ hk=>trivial)⟩
      have n1_:Aside0 (Kd.R k36 36 (w42.setCell ⟨gb86,3,none⟩ (.slice Ao43 y92.length co43)) w.heap.size (fun _=>True) (.slice Ao43 y92.length co43) y92):=⟨by (with_reducible repeat (first|apply Kd.R_alloc|apply Kd.R_drewN|apply Kd.R_drew));exact Kd.R_mono (Kd.R_far (p:=⟨gb86,3,none⟩) (Kd.R_types HO95.out BK86.out (by decide)) (fun _ hk=>hk.2) (.slice Ao43 y92.length co43)) (fun _ hk=>trivial)⟩
      have n2_:Aside0 ((w42.setCell ⟨gb86,3,none⟩ (.slice Ao43 y92.length co43)).heap[gb87]? = some (.cells #[.int .i64 a0_0,.string a0_1,.int .i64 a0_2,.slice A0_3 l0_3.length c0_3,.slice A0_4 l0_4.length c0_4] 62 (0,0))):=⟨zb64⟩
      have n3_:Aside0 ((w42.setCell ⟨gb86,3,none⟩ (.slice Ao43 y92.length co43)).heap[gb88]? = some (.cells #[.int .i64 0,.string (⟨#[]⟩:ByteArray),.int .i64 0,.slice none 0 0,.slice none 0 0] 62 (0,0))):=⟨zb65⟩
      have n4_:Aside0 ((w42.setCell ⟨gb86,3,none⟩ (.slice Ao43 y92.length co43)).heap[gb86]? = some (.cells #[.int .i64 a0_0,.string a0_1,.int .i64 1,.slice Ao43 y92.length co43,.slice Ao36 t91.length co36] 62 (0,0))):=⟨by (with_reducible repeat (first|refine blk_drewN ?_ _|refine blk_drew ?_|refine blk_alloc ?_ _));refine blk_put (cs:=#[.int .i64 a0_0,.string a0_1,.int .i64 1,.slice Ao14 t90.length co14,.slice Ao36 t91.length co36]) ?_ 3 _ rfl;(with_reducible repeat (first|refine blk_drewN ?_ _|refine blk_drew ?_|refine blk_alloc ?_ _));exact BK86.out⟩
      have n5_:Aside0 (Below w.heap.size w (w42.setCell ⟨gb86,3,none⟩ (.slice Ao43 y92.length co43))):=⟨zb4⟩
      (try clear HO93)
      (try clear HO95)
      (try clear BK87)
      (try clear BK88)
      (try clear BK86)
      (try clear HB)
      generalize (w42.setCell ⟨gb86,3,none⟩ (.slice Ao43 y92.length co43))=w45 at n0_ n1_ n2_ n3_ n4_ n5_ ⊢
      have HO93:=n0_
      have HO95:=n1_
      have BK87:=n2_
      have BK88:=n3_
      have BK86:=n4_
      have HB:=n5_
      clear n0_ n1_ n2_ n3_ n4_ n5_
      replace HO93:=Aside0.mk (Kd.R_drew HO93.out)
      replace HO95:=Aside0.mk (Kd.R_drew HO95.out)
      replace BK87:=Aside0.mk (blk_drew BK87.out)
      replace BK88:=Aside0.mk (blk_drew BK88.out)
      replace BK86:=Aside0.mk (blk_drew BK86.out)
      replace HB:=Aside0.mk (below_drew1 HB.out)
      refine start_ (n:=7) (S:=fun w' => w'.cell? ⟨gb86,0,none⟩=some (.int .i64 a0_0)∧w'.cell? ⟨gb86,1,none⟩=some (.string a0_1)∧w'.cell? ⟨gb86,2,none⟩=some (.int .i64 1)∧w'.cell? ⟨gb86,3,none⟩=some (.slice Ao43 y92.length co43)∧w'.cell? ⟨gb86,4,none⟩=some (.slice Ao36 t91.length co36)) (ds:=[6]) (zl 7 0) zb9 rfl rfl ⟨(blk_cell BK86.out 0).trans rfl,(blk_cell BK86.out 1).trans rfl,(blk_cell BK86.out 2).trans rfl,(blk_cell BK86.out 3).trans rfl,(blk_cell BK86.out 4).trans rfl⟩ (fun hHeld=>?_)
      generalize w45.drew=w46 at HO93 HO95 BK87 BK88 BK86 HB hHeld ⊢
      refine pure_ (i:=0) (N:=some 46) (v:=?_) (a' := ?_) (zl 7 1) rfl rfl zb9 (fun _ _ _ h=>h) (Or.inl ⟨zb58,?_⟩) ?_ ?_
      rotate_left
      ·intro w';go_simp;with_reducible rfl
      rotate_left
      ·simp only [Act.put,zqA,zqB,zqC,i64_w,i32_w];rfl
      refine take_ (i:=1) (N:=some 47) (v:=?_) (a' := ?_) (zl 7 3) rfl rfl zb9 (fun _ _ _ h=>h) (Or.inl ⟨zb58,?_⟩) hHeld ?_ ?_
      rotate_left
      ·rintro w' ⟨s0,s1,s2,s3,s4⟩;go_simp;with_reducible rfl
      rotate_left
      ·simp only [Act.put,zqA,zqB,zqC,i64_w,i32_w];rfl
      refine one_ (i:=2) (N:=some 48) (zl 7 7) rfl rfl zb9 zb33 (fun K hK=>?_)
      refine goes_ Tryz.func72 zb9 rfl #[] zb58 rfl rfl zb1 ?_
      with_reducible refine (scrub_closing.calls  t94 t779 _ A30.out).mono ?_
      rintro e w47 ⟨rfl,hb⟩
      refine ⟨_,rfl,?_⟩
      replace HO93:=Aside0.mk (Kd.R_below zb77 hb)
      replace HO95:=Aside0.mk (Kd.R_below zb59 hb)
      replace BK87:=Aside0.mk (blk_below (g:=gb87) (o:=.cells #[.int .i64 a0_0,.string a0_1,.int .i64 a0_2,.slice A0_3 l0_3.length c0_3,.slice A0_4 l0_4.length c0_4] 62 (0,0)) zb6 hb)
      replace BK88:=Aside0.mk (blk_below (g:=gb88) (o:=.cells #[.int .i64 0,.string (⟨#[]⟩:ByteArray),.int .i64 0,.slice none 0 0,.slice none 0 0] 62 (0,0)) zb17 hb)
      replace BK86:=Aside0.mk (blk_below (g:=gb86) (o:=.cells #[.int .i64 a0_0,.string a0_1,.int .i64 1,.slice Ao43 y92.length co43,.slice Ao36 t91.length co36] 62 (0,0)) zb11 hb)
      replace HB:=Aside0.mk (below_step zb4 hb)
      (try clear hb)
      (try clear hb2)
      (try clear hk)
      (try clear hi)
      refine hK.out _ _ ⟨(blk_cell BK86.out 0).trans rfl,(blk_cell BK86.out 1).trans rfl,(blk_cell BK86.out 2).trans rfl,(blk_cell BK86.out 3).trans rfl,(blk_cell BK86.out 4).trans rfl⟩ (fun hHeld=>?_)
      clear hK K
      refine norm_ (a' := ?_) ?_ ?_
      rotate_left
      ·show Act.put _ (some 48) _=_
       simp only [Act.put,zqA,zqB,zqC,i64_w,i32_w]
       rfl
      refine one_ (i:=3) (N:=some 49) (zl 7 15) rfl rfl zb9 zb33 (fun K hK=>?_)
      refine value_ (w1:=?_) (v:=?_) zb58 rfl ?_ ?_
      rotate_left 2
      ·go_simp
       constructor
       ·rfl
       rfl
      refine hK.out _ _ ⟨(blk_cell (blk_alloc BK86.out _) 0).trans rfl,(blk_cell (blk_alloc BK86.out _) 1).trans rfl,(blk_cell (blk_alloc BK86.out _) 2).trans rfl,(blk_cell (blk_alloc BK86.out _) 3).trans rfl,(blk_cell (blk_alloc BK86.out _) 4).trans rfl⟩ (fun hHeld=>?_)
      clear hK K
      refine norm_ (a' := ?_) ?_ ?_
      rotate_left
      ·show Act.put _ (some 49) _=_
       simp only [Act.put,zqA,zqB,zqC,i64_w,i32_w]
       rfl
      refine one_ (i:=4) (N:=some 50) (zl 7 31) rfl rfl zb9 zb33 (fun K hK=>?_)
      refine Kd.R_append_step k36 (w0:=w) w.heap.size zb58 (.tmp 47) (.tmp 49) 24 36 (.agg #[(.string ⟨#[]⟩),(.string ⟨#[]⟩)]) 32 rfl Tryz.underlying24 info36 rfl zb33 zb62 (.slice Ao43 y92.length co43) y92 (⟨t94,t779⟩:S36) [.string t94,.string t779] (fun _=>True) (fun _=>False) rfl rfl ?aP (fun _ hk=>hk.elim) ?aF ?aO ?aB ?aS ?aL ?_
      (case aP=>exact k36_mkM _ _ _ (⟨t94,t779⟩:S36))
      (case aB=>exact zb56)
      (case aF=>exact (fun _ _=>trivial))
      (case aO=>exact zb59)
      (case aS=>exact zb54)
      (case aL=>have:=LMc31.out;omega)
      intro v781 w48 ho hb hg hat
      rw [← Ny98.out] at ho
      have n0_:=Aside0.mk (blk_grown (g:=gb87) (o:=.cells #[.int .i64 a0_0,.string a0_1,.int .i64 a0_2,.slice A0_3 l0_3.length c0_3,.slice A0_4 l0_4.length c0_4] 62 (0,0)) zb6 hg (Kd.R_ne HO95.out BK87.out zb33))
      have n1_:=Aside0.mk (blk_grown (g:=gb88) (o:=.cells #[.int .i64 0,.string (⟨#[]⟩:ByteArray),.int .i64 0,.slice none 0 0,.slice none 0 0] 62 (0,0)) zb17 hg (Kd.R_ne HO95.out BK88.out zb33))
      have n2_:=Aside0.mk (blk_grown (g:=gb86) (o:=.cells #[.int .i64 a0_0,.string a0_1,.int .i64 1,.slice Ao43 y92.length co43,.slice Ao36 t91.length co36] 62 (0,0)) zb11 hg (Kd.R_ne HO95.out BK86.out zb33))
      have n3_:=Aside0.mk (Kd.R_over' zb77 (Kd.R_typed zb59) zb33 hg)
      have n4_:=Aside0.mk (hb)
      have n5_:=Aside0.mk (ho)
      clear BK87 BK88 BK86 HO93 HB HO95
      have BK87:=n0_
      have BK88:=n1_
      have BK86:=n2_
      have HO93:=n3_
      have HB:=n4_
      have HO782:=n5_
      clear n0_ n1_ n2_ n3_ n4_ n5_ ho hb hg hat
      obtain ⟨Ao49,co49,eo49⟩:=Kd.R_slice HO782.out
      (first|subst eo49|(injection eo49 with f1_ f2_ f3_;have f4_:=f1_.symm;have f5_:=f3_.symm;clear f1_ f2_ f3_;subst f4_;subst f5_))
      refine hK.out _ _ ⟨(blk_cell BK86.out 0).trans rfl,(blk_cell BK86.out 1).trans rfl,(blk_cell BK86.out 2).trans rfl,(blk_cell BK86.out 3).trans rfl,(blk_cell BK86.out 4).trans rfl⟩ (fun hHeld=>?_)
      clear hK K
      refine norm_ (a' := ?_) ?_ ?_
      rotate_left
      ·show Act.put _ (some 50) _=_
       simp only [Act.put,zqA,zqB,zqC,i64_w,i32_w]
       rfl
      refine pure_ (i:=5) (N:=some 51) (v:=?_) (a' := ?_) (zl 7 63) rfl rfl zb9 (fun _ _ _ h=>h) (Or.inl ⟨zb58,?_⟩) ?_ ?_
      rotate_left
      ·intro w';go_simp;with_reducible rfl
      rotate_left
      ·simp only [Act.put,zqA,zqB,zqC,i64_w,i32_w];rfl
      refine last_ (i:=6) (N:=none) (zl 7 127) rfl rfl zb9 zb33 (fun K hK=>?_)
      have hs50:w48.cell? ⟨gb86,3,none⟩=some (.slice Ao43 y92.length co43):=(blk_cell BK86.out 3).trans rfl
      have hfs50:=blk_frozen BK86.out 3
      have hns50_0:=NB87_766.out
      have hns50_1:=NB88_766.out
      have hms50_0:=NB86_761.out
      have hms50_1:=NB86_762.out
      refine skip_ (w1:=?_) zb58 rfl ?_ ?_
      rotate_left
      ·go_simp
       rfl
      refine hK.out _ _ ?_
      clear hK K
      refine done_ zb9 ?_
      obtain ⟨hcz51_0,hcz51_1,hcz51_2,hcz51_3,hcz51_4,hfz51_0,hfz51_1,hfz51_2,hfz51_3,hfz51_4⟩:=zq5 BK86.out
      obtain ⟨hcz52_0,hcz52_1,hcz52_2,hcz52_3,hcz52_4,hfz52_0,hfz52_1,hfz52_2,hfz52_3,hfz52_4⟩:=zq5 BK88.out
      try go_wp2
      refine bodyPost_ret (results_cell_row rfl _ _ gb88 62 #[.int .i64 a0_0,.string a0_1,.int .i64 1,.slice Ao49 y98.length co49,.slice Ao36 t91.length co36] (0,0) _ rfl (by (with_reducible repeat (first|refine blk_drewN ?_ _|refine blk_drew ?_|refine blk_alloc ?_ _));refine blk_put (cs:=#[.int .i64 a0_0,.string a0_1,.int .i64 1,.slice Ao49 y98.length co49,.slice none 0 0]) ?_ 4 _ rfl;(with_reducible repeat (first|refine blk_drewN ?_ _|refine blk_drew ?_|refine blk_alloc ?_ _));refine blk_put (cs:=#[.int .i64 a0_0,.string a0_1,.int .i64 1,.slice none 0 0,.slice none 0 0]) ?_ 3 _ rfl;(with_reducible repeat (first|refine blk_drewN ?_ _|refine blk_drew ?_|refine blk_alloc ?_ _));refine blk_put (cs:=#[.int .i64 a0_0,.string a0_1,.int .i64 0,.slice none 0 0,.slice none 0 0]) ?_ 2 _ rfl;(with_reducible repeat (first|refine blk_drewN ?_ _|refine blk_drew ?_|refine blk_alloc ?_ _));refine blk_put (cs:=#[.int .i64 a0_0,.string (⟨#[]⟩:ByteArray),.int .i64 0,.slice none 0 0,.slice none 0 0]) ?_ 1 _ rfl;(with_reducible repeat (first|refine blk_drewN ?_ _|refine blk_drew ?_|refine blk_alloc ?_ _));refine blk_put (cs:=#[.int .i64 0,.string (⟨#[]⟩:ByteArray),.int .i64 0,.slice none 0 0,.slice none 0 0]) ?_ 0 _ rfl;(with_reducible repeat (first|refine blk_drewN ?_ _|refine blk_drew ?_|refine blk_alloc ?_ _));refine blk_far ?_ NB88_766.out _;(with_reducible repeat (first|refine blk_drewN ?_ _|refine blk_drew ?_|refine blk_alloc ?_ _));exact BK88.out) Tryz.underlying62 rfl zb9) rfl ?_
      exact ⟨_,_,zb3,by (with_reducible repeat (first|apply Kd.R_alloc|apply Kd.R_drewN|apply Kd.R_drew));exact Kd.R_mono (Kd.R_far (p:=⟨gb88,4,none⟩) (Kd.R_far (p:=⟨gb88,3,none⟩) (Kd.R_far (p:=⟨gb88,2,none⟩) (Kd.R_far (p:=⟨gb88,1,none⟩) (Kd.R_far (p:=⟨gb88,0,none⟩) (Kd.R_far (p:=⟨gb86,3,none⟩) (Kd.R_types (Kd.R_types HO782.out BK86.out (by decide)) BK88.out (by decide)) (fun _ hk=>hk.1.2) (.slice Ao49 y98.length co49)) (fun _ hk=>hk.2) (.int .i64 a0_0)) (fun _ hk=>hk.2) (.string a0_1)) (fun _ hk=>hk.2) (.int .i64 1)) (fun _ hk=>hk.2) (.slice Ao49 y98.length co49)) (fun _ hk=>hk.2) (.slice Ao36 t91.length co36)) (fun _ hk=>trivial),by (with_reducible repeat (first|apply Kd.R_alloc|apply Kd.R_drewN|apply Kd.R_drew));exact Kd.R_mono (Kd.R_far (p:=⟨gb88,4,none⟩) (Kd.R_far (p:=⟨gb88,3,none⟩) (Kd.R_far (p:=⟨gb88,2,none⟩) (Kd.R_far (p:=⟨gb88,1,none⟩) (Kd.R_far (p:=⟨gb88,0,none⟩) (Kd.R_far (p:=⟨gb86,3,none⟩) (Kd.R_types (Kd.R_types HO93.out BK86.out (by decide)) BK88.out (by decide)) (fun _ hk=>hk.1.2) (.slice Ao49 y98.length co49)) (fun _ hk=>hk.2) (.int .i64 a0_0)) (fun _ hk=>hk.2) (.string a0_1)) (fun _ hk=>hk.2) (.int .i64 1)) (fun _ hk=>hk.2) (.slice Ao49 y98.length co49)) (fun _ hk=>hk.2) (.slice Ao36 t91.length co36)) (fun _ hk=>trivial),zb4⟩
     ·rw [if_neg c31] at H
      exact absurd H zb55
    ·replace c29:=Bool.eq_false_iff.mpr c29
     subst c29
     rw [if_neg (show ¬ (false=true) by decide)] at H
     simp only [Option.some.injEq,Prod.mk.injEq] at H
     obtain ⟨rfl,rfl,rfl,rfl,rfl⟩:=H
     have hnb53:=NB87_762.out
     have hnc53:=NB88_761.out
     have hnb54:=NB87_766.out
     have hnc54:=NB86_761.out
     obtain ⟨hcz55_0,hcz55_1,hcz55_2,hcz55_3,hcz55_4,hfz55_0,hfz55_1,hfz55_2,hfz55_3,hfz55_4⟩:=zq5 BK87.out
     try go_wp2_with (first|((with_reducible refine gate_callee (f:=62) rfl ?_);refine goesL_ (some 34) rfl rfl Tryz.func62 zb9 rfl #[.slice A0_4 l0_4.length c0_4] rfl zb1 ?_;(with_reducible refine (bytes_Clone.calls _ _ l0_4 t91 _ ?side1 ?side2 A26.out).mono ?_);(case side1=>exact zb73);(case side2=>exact HC0_4.out);rintro e w56 ⟨v771,rfl,ho0,hb⟩;(try clear A26);refine ⟨_,rfl,?_⟩;replace HO_89:=Aside0.mk (Kd.R_below zb38 hb);have HO93:=Aside0.mk (Kd.R_lower ho0 (below_size zb4));replace BK87:=Aside0.mk (blk_below (g:=gb87) (o:=.cells #[.int .i64 a0_0,.string a0_1,.int .i64 a0_2,.slice A0_3 l0_3.length c0_3,.slice A0_4 l0_4.length c0_4] 62 (0,0)) zb6 hb);replace BK88:=Aside0.mk (blk_below (g:=gb88) (o:=.cells #[.int .i64 0,.string (⟨#[]⟩:ByteArray),.int .i64 0,.slice none 0 0,.slice none 0 0] 62 (0,0)) zb17 hb);replace BK86:=Aside0.mk (blk_below (g:=gb86) (o:=.cells #[.int .i64 a0_0,.string a0_1,.int .i64 1,.slice Ao14 t90.length co14,.slice none 0 0] 62 (0,0)) zb11 hb);replace HB:=Aside0.mk (below_step zb4 hb);try clear hb ho0;obtain ⟨Ao57,co57,eo57⟩:=Kd.R_slice HO93.out;subst eo57;have hnb58:=NB86_762.out;have hnc58:=NB88_766.out;obtain ⟨hcz59_0,hcz59_1,hcz59_2,hcz59_3,hcz59_4,hfz59_0,hfz59_1,hfz59_2,hfz59_3,hfz59_4⟩:=zq5 BK86.out))
     have n0_:Aside0 (Kd.R k36 36 (w56.setCell ⟨gb86,4,none⟩ (.slice Ao57 t91.length co57)) w.heap.size (fun _=>True) (.slice Ao14 t90.length co14) t90):=⟨by (with_reducible repeat (first|apply Kd.R_alloc|apply Kd.R_drewN|apply Kd.R_drew));exact Kd.R_mono (Kd.R_far (p:=⟨gb86,4,none⟩) (Kd.R_types HO_89.out BK86.out (by decide)) (fun _ hk=>hk.2) (.slice Ao57 t91.length co57)) (fun _ hk=>trivial)⟩
     have n1_:Aside0 (Kd.R (Kd.int .u8) 5 (w56.setCell ⟨gb86,4,none⟩ (.slice Ao57 t91.length co57)) w.heap.size (fun _=>True) (.slice Ao57 t91.length co57) t91):=⟨by (with_reducible repeat (first|apply Kd.R_alloc|apply Kd.R_drewN|apply Kd.R_drew));exact Kd.R_mono (Kd.R_far (p:=⟨gb86,4,none⟩) (Kd.R_types HO93.out BK86.out (by decide)) (fun _ hk=>hk.2) (.slice Ao57 t91.length co57)) (fun _ hk=>trivial)⟩
     have n2_:Aside0 ((w56.setCell ⟨gb86,4,none⟩ (.slice Ao57 t91.length co57)).heap[gb87]? = some (.cells #[.int .i64 a0_0,.string a0_1,.int .i64 a0_2,.slice A0_3 l0_3.length c0_3,.slice A0_4 l0_4.length c0_4] 62 (0,0))):=⟨zb64⟩
     have n3_:Aside0 ((w56.setCell ⟨gb86,4,none⟩ (.slice Ao57 t91.length co57)).heap[gb88]? = some (.cells #[.int .i64 0,.string (⟨#[]⟩:ByteArray),.int .i64 0,.slice none 0 0,.slice none 0 0] 62 (0,0))):=⟨zb65⟩
     have n4_:Aside0 ((w56.setCell ⟨gb86,4,none⟩ (.slice Ao57 t91.length co57)).heap[gb86]? = some (.cells #[.int .i64 a0_0,.string a0_1,.int .i64 1,.slice Ao14 t90.length co14,.slice Ao57 t91.length co57] 62 (0,0))):=⟨zb72⟩
     have n5_:Aside0 (Below w.heap.size w (w56.setCell ⟨gb86,4,none⟩ (.slice Ao57 t91.length co57))):=⟨zb4⟩
     (try clear HO_89)
     (try clear HO93)
     (try clear BK87)
     (try clear BK88)
     (try clear BK86)
     (try clear HB)
     generalize (w56.setCell ⟨gb86,4,none⟩ (.slice Ao57 t91.length co57))=w60 at n0_ n1_ n2_ n3_ n4_ n5_ ⊢
     have HO_89:=n0_
     have HO93:=n1_
     have BK87:=n2_
     have BK88:=n3_
     have BK86:=n4_
     have HB:=n5_
     clear n0_ n1_ n2_ n3_ n4_ n5_
     replace HO_89:=Aside0.mk (Kd.R_drew HO_89.out)
     replace HO93:=Aside0.mk (Kd.R_drew HO93.out)
     replace BK87:=Aside0.mk (blk_drew BK87.out)
     replace BK88:=Aside0.mk (blk_drew BK88.out)
     replace BK86:=Aside0.mk (blk_drew BK86.out)
     replace HB:=Aside0.mk (below_drew1 HB.out)
     refine start_ (n:=10) (S:=fun w' => w'.cell? ⟨gb86,0,none⟩=some (.int .i64 a0_0)∧w'.cell? ⟨gb86,1,none⟩=some (.string a0_1)∧w'.cell? ⟨gb86,2,none⟩=some (.int .i64 1)∧w'.cell? ⟨gb86,3,none⟩=some (.slice Ao14 t90.length co14)∧w'.cell? ⟨gb86,4,none⟩=some (.slice Ao57 t91.length co57)∧w'.cell? ⟨gb87,0,none⟩=some (.int .i64 a0_0)∧w'.cell? ⟨gb87,1,none⟩=some (.string a0_1)∧w'.cell? ⟨gb87,2,none⟩=some (.int .i64 a0_2)∧w'.cell? ⟨gb87,3,none⟩=some (.slice A0_3 l0_3.length c0_3)∧w'.cell? ⟨gb87,4,none⟩=some (.slice A0_4 l0_4.length c0_4)) (ds:=[9]) (zl 10 0) zb9 rfl rfl ⟨(blk_cell BK86.out 0).trans rfl,(blk_cell BK86.out 1).trans rfl,(blk_cell BK86.out 2).trans rfl,(blk_cell BK86.out 3).trans rfl,(blk_cell BK86.out 4).trans rfl,(blk_cell BK87.out 0).trans rfl,(blk_cell BK87.out 1).trans rfl,(blk_cell BK87.out 2).trans rfl,(blk_cell BK87.out 3).trans rfl,(blk_cell BK87.out 4).trans rfl⟩ (fun hHeld=>?_);refine with_tabW scrub_Response.tab5 scrub_Response.bits5 (fun HT_ HW_=>?_)
     generalize w60.drew=w61 at HO_89 HO93 BK87 BK88 BK86 HB hHeld ⊢
     refine zpu 0 (N:=some 36) (zl 10 1) HT_.out rfl rfl ?_
     refine zpu 2 (N:=some 38) (zl 10 5) HT_.out rfl rfl ?_
     refine take_ (i:=1) (N:=some 37) (v:=?_) (a' := ?_) (zl 10 7) rfl rfl (take_ofW HT_.out HW_.out zb9) (fun _ _ _ h=>h) (Or.inl ⟨zb58,?_⟩) hHeld ?_ ?_
     rotate_left
     ·rintro w' ⟨s0,s1,s2,s3,s4,s5,s6,s7,s8,s9⟩;go_simp;with_reducible rfl
     rotate_left
     ·simp only [Act.put,zqA,zqB,zqC,i64_w,i32_w];rfl
     refine take_ (i:=3) (N:=some 39) (v:=?_) (a' := ?_) (zl 10 15) rfl rfl (take_ofW HT_.out HW_.out zb9) (fun _ _ _ h=>h) (Or.inl ⟨zb58,?_⟩) hHeld ?_ ?_
     rotate_left
     ·rintro w' ⟨s0,s1,s2,s3,s4,s5,s6,s7,s8,s9⟩;go_simp;with_reducible rfl
     rotate_left
     ·simp only [Act.put,zqA,zqB,zqC,i64_w,i32_w];rfl
     refine zpu 4 (N:=some 40) (zl 10 31) HT_.out rfl rfl ?_
     refine one_ (i:=5) (N:=some 41) (zl 10 63) rfl rfl (one_of HT_.out zb9) zb33 (fun K hK=>?_)
     refine goes_ Tryz.func61 zb9 rfl #[.int .i64 (l0_4.length:Int)] zb58 rfl rfl zb1 ?_
     with_reducible refine (scrub_length.calls (l0_4.length:Int) t96 t774 _ A27.out ?hT).mono ?_;(case hT=>exact HTB.out.below zb4)
     rintro e w62 ⟨rfl,hb⟩
     refine ⟨_,rfl,?_⟩
     replace HO_89:=Aside0.mk (Kd.R_below zb38 hb)
     replace HO93:=Aside0.mk (Kd.R_below zb77 hb)
     replace BK87:=Aside0.mk (blk_below (g:=gb87) (o:=.cells #[.int .i64 a0_0,.string a0_1,.int .i64 a0_2,.slice A0_3 l0_3.length c0_3,.slice A0_4 l0_4.length c0_4] 62 (0,0)) zb6 hb)
     replace BK88:=Aside0.mk (blk_below (g:=gb88) (o:=.cells #[.int .i64 0,.string (⟨#[]⟩:ByteArray),.int .i64 0,.slice none 0 0,.slice none 0 0] 62 (0,0)) zb17 hb)
     replace BK86:=Aside0.mk (blk_below (g:=gb86) (o:=.cells #[.int .i64 a0_0,.string a0_1,.int .i64 1,.slice Ao14 t90.length co14,.slice Ao57 t91.length co57] 62 (0,0)) zb11 hb)
     replace HB:=Aside0.mk (below_step zb4 hb)
     (try clear hb)
     (try clear hb2)
     (try clear hk)
     (try clear hi)
     refine hK.out _ _ ⟨(blk_cell BK86.out 0).trans rfl,(blk_cell BK86.out 1).trans rfl,(blk_cell BK86.out 2).trans rfl,(blk_cell BK86.out 3).trans rfl,(blk_cell BK86.out 4).trans rfl,(blk_cell BK87.out 0).trans rfl,(blk_cell BK87.out 1).trans rfl,(blk_cell BK87.out 2).trans rfl,(blk_cell BK87.out 3).trans rfl,(blk_cell BK87.out 4).trans rfl⟩ (fun hHeld=>?_)
     clear hK K
     refine norm_ (a' := ?_) ?_ ?_
     rotate_left
     ·show Act.put _ (some 41) _=_
      simp only [Act.put,zqA,zqB,zqC,i64_w,i32_w]
      rfl
     refine one_ (i:=6) (N:=some 42) (zl 10 127) rfl rfl (one_of HT_.out zb9) zb33 (fun K hK=>?_)
     refine value_ (w1:=?_) (v:=?_) zb58 rfl ?_ ?_
     rotate_left 2
     ·go_simp
      constructor
      ·rfl
      ·rfl
     refine hK.out _ _ ⟨(blk_cell (blk_alloc BK86.out _) 0).trans rfl,(blk_cell (blk_alloc BK86.out _) 1).trans rfl,(blk_cell (blk_alloc BK86.out _) 2).trans rfl,(blk_cell (blk_alloc BK86.out _) 3).trans rfl,(blk_cell (blk_alloc BK86.out _) 4).trans rfl,(blk_cell (blk_alloc BK87.out _) 0).trans rfl,(blk_cell (blk_alloc BK87.out _) 1).trans rfl,(blk_cell (blk_alloc BK87.out _) 2).trans rfl,(blk_cell (blk_alloc BK87.out _) 3).trans rfl,(blk_cell (blk_alloc BK87.out _) 4).trans rfl⟩ (fun hHeld=>?_)
     clear hK K
     refine norm_ (a' := ?_) ?_ ?_
     rotate_left
     ·show Act.put _ (some 42) _=_
      simp only [Act.put,zqA,zqB,zqC,i64_w,i32_w]
      rfl
     refine one_ (i:=7) (N:=some 43) (zl 10 255) rfl rfl (one_of HT_.out zb9) zb33 (fun K hK=>?_)
     refine Kd.R_append_step k36 (w0:=w) w.heap.size zb58 (.tmp 37) (.tmp 42) 24 36 (.agg #[(.string ⟨#[]⟩),(.string ⟨#[]⟩)]) 32 rfl Tryz.underlying24 info36 rfl zb33 zb62 (.slice Ao14 t90.length co14) t90 (⟨t96,t774⟩:S36) [.string t96,.string t774] (fun _=>True) (fun _=>False) rfl rfl ?aP (fun _ hk=>hk.elim) ?aF ?aO ?aB ?aS ?aL ?_
     (case aP=>exact k36_mkM _ _ _ (⟨t96,t774⟩:S36))
     (case aB=>exact zb56)
     (case aF=>exact (fun _ _=>trivial))
     (case aO=>exact zb108)
     (case aS=>exact zb54)
     (case aL=>have:=LMc28.out;omega)
     intro v776 w63 ho hb hg hat
     rw [← Ny92.out] at ho
     have n0_:=Aside0.mk (blk_grown (g:=gb87) (o:=.cells #[.int .i64 a0_0,.string a0_1,.int .i64 a0_2,.slice A0_3 l0_3.length c0_3,.slice A0_4 l0_4.length c0_4] 62 (0,0)) zb6 hg (Kd.R_ne HO_89.out BK87.out zb33))
     have n1_:=Aside0.mk (blk_grown (g:=gb88) (o:=.cells #[.int .i64 0,.string (⟨#[]⟩:ByteArray),.int .i64 0,.slice none 0 0,.slice none 0 0] 62 (0,0)) zb17 hg (Kd.R_ne HO_89.out BK88.out zb33))
     have n2_:=Aside0.mk (blk_grown (g:=gb86) (o:=.cells #[.int .i64 a0_0,.string a0_1,.int .i64 1,.slice Ao14 t90.length co14,.slice Ao57 t91.length co57] 62 (0,0)) zb11 hg (Kd.R_ne HO_89.out BK86.out zb33))
     have n3_:=Aside0.mk (Kd.R_over' zb77 (Kd.R_typed zb38) zb33 hg)
     have n4_:=Aside0.mk (hb)
     have n5_:=Aside0.mk (ho)
     clear BK87 BK88 BK86 HO93 HB HO_89
     have BK87:=n0_
     have BK88:=n1_
     have BK86:=n2_
     have HO93:=n3_
     have HB:=n4_
     have HO95:=n5_
     clear n0_ n1_ n2_ n3_ n4_ n5_ ho hb hg hat
     obtain ⟨Ao64,co64,eo64⟩:=Kd.R_slice HO95.out
     (first|subst eo64|(injection eo64 with f1_ f2_ f3_;have f4_:=f1_.symm;have f5_:=f3_.symm;clear f1_ f2_ f3_;subst f4_;subst f5_))
     refine hK.out _ _ ⟨(blk_cell BK86.out 0).trans rfl,(blk_cell BK86.out 1).trans rfl,(blk_cell BK86.out 2).trans rfl,(blk_cell BK86.out 3).trans rfl,(blk_cell BK86.out 4).trans rfl,(blk_cell BK87.out 0).trans rfl,(blk_cell BK87.out 1).trans rfl,(blk_cell BK87.out 2).trans rfl,(blk_cell BK87.out 3).trans rfl,(blk_cell BK87.out 4).trans rfl⟩ (fun hHeld=>?_)
     clear hK K
     refine norm_ (a' := ?_) ?_ ?_
     rotate_left
     ·show Act.put _ (some 43) _=_
      simp only [Act.put,zqA,zqB,zqC,i64_w,i32_w]
      rfl
     refine zpu 8 (N:=some 44) (zl 10 511) HT_.out rfl rfl ?_
     refine last_ (i:=9) (N:=none) (zl 10 1023) rfl rfl (one_of HT_.out zb9) zb33 (fun K hK=>?_)
     have hs65:w63.cell? ⟨gb86,3,none⟩=some (.slice Ao14 t90.length co14):=(blk_cell BK86.out 3).trans rfl
     have hfs65:=blk_frozen BK86.out 3
     have hns65_0:=NB87_766.out
     have hns65_1:=NB88_766.out
     have hms65_0:=NB86_761.out
     have hms65_1:=NB86_762.out
     refine skip_ (w1:=?_) zb58 rfl ?_ ?_
     rotate_left
     ·go_simp
      rfl
     refine hK.out _ _ ?_
     clear hK K
     refine done_ (done_of HT_.out zb9) ?_
     obtain ⟨hcz66_0,hcz66_1,hcz66_2,hcz66_3,hcz66_4,hfz66_0,hfz66_1,hfz66_2,hfz66_3,hfz66_4⟩:=zq5 BK86.out
     obtain ⟨hcz67_0,hcz67_1,hcz67_2,hcz67_3,hcz67_4,hfz67_0,hfz67_1,hfz67_2,hfz67_3,hfz67_4⟩:=zq5 BK88.out
     try go_wp2
     refine bodyPost_ret (results_cell_row rfl _ _ gb88 62 #[.int .i64 a0_0,.string a0_1,.int .i64 1,.slice Ao64 y92.length co64,.slice Ao57 t91.length co57] (0,0) _ rfl (by (with_reducible repeat (first|refine blk_drewN ?_ _|refine blk_drew ?_|refine blk_alloc ?_ _));refine blk_put (cs:=#[.int .i64 a0_0,.string a0_1,.int .i64 1,.slice Ao64 y92.length co64,.slice none 0 0]) ?_ 4 _ rfl;(with_reducible repeat (first|refine blk_drewN ?_ _|refine blk_drew ?_|refine blk_alloc ?_ _));refine blk_put (cs:=#[.int .i64 a0_0,.string a0_1,.int .i64 1,.slice none 0 0,.slice none 0 0]) ?_ 3 _ rfl;(with_reducible repeat (first|refine blk_drewN ?_ _|refine blk_drew ?_|refine blk_alloc ?_ _));refine blk_put (cs:=#[.int .i64 a0_0,.string a0_1,.int .i64 0,.slice none 0 0,.slice none 0 0]) ?_ 2 _ rfl;(with_reducible repeat (first|refine blk_drewN ?_ _|refine blk_drew ?_|refine blk_alloc ?_ _));refine blk_put (cs:=#[.int .i64 a0_0,.string (⟨#[]⟩:ByteArray),.int .i64 0,.slice none 0 0,.slice none 0 0]) ?_ 1 _ rfl;(with_reducible repeat (first|refine blk_drewN ?_ _|refine blk_drew ?_|refine blk_alloc ?_ _));refine blk_put (cs:=#[.int .i64 0,.string (⟨#[]⟩:ByteArray),.int .i64 0,.slice none 0 0,.slice none 0 0]) ?_ 0 _ rfl;(with_reducible repeat (first|refine blk_drewN ?_ _|refine blk_drew ?_|refine blk_alloc ?_ _));refine blk_far ?_ NB88_766.out _;(with_reducible repeat (first|refine blk_drewN ?_ _|refine blk_drew ?_|refine blk_alloc ?_ _));exact BK88.out) Tryz.underlying62 rfl zb9) rfl ?_
     exact ⟨_,_,zb3,by (with_reducible repeat (first|apply Kd.R_alloc|apply Kd.R_drewN|apply Kd.R_drew));exact Kd.R_mono (Kd.R_far (p:=⟨gb88,4,none⟩) (Kd.R_far (p:=⟨gb88,3,none⟩) (Kd.R_far (p:=⟨gb88,2,none⟩) (Kd.R_far (p:=⟨gb88,1,none⟩) (Kd.R_far (p:=⟨gb88,0,none⟩) (Kd.R_far (p:=⟨gb86,3,none⟩) (Kd.R_types (Kd.R_types HO95.out BK86.out (by decide)) BK88.out (by decide)) (fun _ hk=>hk.1.2) (.slice Ao64 y92.length co64)) (fun _ hk=>hk.2) (.int .i64 a0_0)) (fun _ hk=>hk.2) (.string a0_1)) (fun _ hk=>hk.2) (.int .i64 1)) (fun _ hk=>hk.2) (.slice Ao64 y92.length co64)) (fun _ hk=>hk.2) (.slice Ao57 t91.length co57)) (fun _ hk=>trivial),by (with_reducible repeat (first|apply Kd.R_alloc|apply Kd.R_drewN|apply Kd.R_drew));exact Kd.R_mono (Kd.R_far (p:=⟨gb88,4,none⟩) (Kd.R_far (p:=⟨gb88,3,none⟩) (Kd.R_far (p:=⟨gb88,2,none⟩) (Kd.R_far (p:=⟨gb88,1,none⟩) (Kd.R_far (p:=⟨gb88,0,none⟩) (Kd.R_far (p:=⟨gb86,3,none⟩) (Kd.R_types (Kd.R_types HO93.out BK86.out (by decide)) BK88.out (by decide)) (fun _ hk=>hk.1.2) (.slice Ao64 y92.length co64)) (fun _ hk=>hk.2) (.int .i64 a0_0)) (fun _ hk=>hk.2) (.string a0_1)) (fun _ hk=>hk.2) (.int .i64 1)) (fun _ hk=>hk.2) (.slice Ao64 y92.length co64)) (fun _ hk=>hk.2) (.slice Ao57 t91.length co57)) (fun _ hk=>trivial),zb4⟩
   ·rw [if_neg c28] at H
    exact absurd H zb55
def line_Reason.f (a0:Int):Option (ByteArray):=if a0=200 then (some (⟨#[79,75]⟩:ByteArray)) else (if a0=204 then (some (⟨#[78,111,32,67,111,110,116,101,110,116]⟩:ByteArray)) else (if a0=400 then (some (⟨#[66,97,100,32,82,101,113,117,101,115,116]⟩:ByteArray)) else (if a0=404 then (some (⟨#[78,111,116,32,70,111,117,110,100]⟩:ByteArray)) else (if a0=413 then (some (⟨#[67,111,110,116,101,110,116,32,84,111,111,32,76,97,114,103,101]⟩:ByteArray)) else (if a0=414 then (some (⟨#[85,82,73,32,84,111,111,32,76,111,110,103]⟩:ByteArray)) else (if a0=421 then (some (⟨#[77,105,115,100,105,114,101,99,116,101,100,32,82,101,113,117,101,115,116]⟩:ByteArray)) else (if a0=429 then (some (⟨#[84,111,111,32,77,97,110,121,32,82,101,113,117,101,115,116,115]⟩:ByteArray)) else (if a0=431 then (some (⟨#[82,101,113,117,101,115,116,32,72,101,97,100,101,114,32,70,105,101,108,100,115,32,84,111,111,32,76,97,114,103,101]⟩:ByteArray)) else (if a0=501 then (some (⟨#[78,111,116,32,73,109,112,108,101,109,101,110,116,101,100]⟩:ByteArray)) else (if a0=502 then (some (⟨#[66,97,100,32,71,97,116,101,119,97,121]⟩:ByteArray)) else (if a0=503 then (some (⟨#[83,101,114,118,105,99,101,32,85,110,97,118,97,105,108,97,98,108,101]⟩:ByteArray)) else (if a0=504 then (some (⟨#[71,97,116,101,119,97,121,32,84,105,109,101,111,117,116]⟩:ByteArray)) else (if a0=505 then (some (⟨#[72,84,84,80,32,86,101,114,115,105,111,110,32,78,111,116,32,83,117,112,112,111,114,116,101,100]⟩:ByteArray)) else (some (⟨#[83,116,97,116,117,115]⟩:ByteArray)))))))))))))))
set_option maxHeartbeats 8000000 in
set_option maxRecDepth 100000 in
theorem line_Reason.calls (a0:Int) (r:ByteArray) (w:World) (h:line_Reason.f a0=some r) :
 Calls Tryz.prog 74 #[.int .i64 a0] w fun e w' => e = .returned (.string r)∧Drawn0 w w' := by
 unfold line_Reason.f at h
 have H:=h
 clear h
 by_cases c2:a0=200
 ·rw [if_pos c2] at H
  have c2b0:=beq_iff_eq.mpr c2
  have c2b1:=bne_eq_false_iff_eq.mpr c2
  clear c2
  obtain rfl:=Option.some.inj H
  go_enter Tryz.func74,Tryz.ntmps74
  go_wp2
  go_ret
  exact ⟨zb8,zb13⟩
 rw [if_neg c2] at H
 have c2b0:=beq_eq_false_iff_ne.mpr c2
 have c2b1:=bne_iff_ne.mpr c2
 by_cases c3:a0=204
 ·rw [if_pos c3] at H
  have c3b0:=beq_iff_eq.mpr c3
  have c3b1:=bne_eq_false_iff_eq.mpr c3
  clear c3
  obtain rfl:=Option.some.inj H
  go_enter Tryz.func74,Tryz.ntmps74
  go_wp2
  go_ret
  exact ⟨zb8,zb13⟩
 rw [if_neg c3] at H
 have c3b0:=beq_eq_false_iff_ne.mpr c3
 have c3b1:=bne_iff_ne.mpr c3
 by_cases c4:a0=400
 ·rw [if_pos c4] at H
  have c4b0:=beq_iff_eq.mpr c4
  have c4b1:=bne_eq_false_iff_eq.mpr c4
  clear c4
  obtain rfl:=Option.some.inj H
  go_enter Tryz.func74,Tryz.ntmps74
  go_wp2
  go_ret
  exact ⟨zb8,zb13⟩
 rw [if_neg c4] at H
 have c4b0:=beq_eq_false_iff_ne.mpr c4
 have c4b1:=bne_iff_ne.mpr c4
 by_cases c5:a0=404
 ·rw [if_pos c5] at H
  have c5b0:=beq_iff_eq.mpr c5
  have c5b1:=bne_eq_false_iff_eq.mpr c5
  clear c5
  obtain rfl:=Option.some.inj H
  go_enter Tryz.func74,Tryz.ntmps74
  go_wp2
  go_ret
  exact ⟨zb8,zb13⟩
 rw [if_neg c5] at H
 have c5b0:=beq_eq_false_iff_ne.mpr c5
 have c5b1:=bne_iff_ne.mpr c5
 by_cases c6:a0=413
 ·rw [if_pos c6] at H
  have c6b0:=beq_iff_eq.mpr c6
  have c6b1:=bne_eq_false_iff_eq.mpr c6
  clear c6
  obtain rfl:=Option.some.inj H
  go_enter Tryz.func74,Tryz.ntmps74
  go_wp2
  go_ret
  exact ⟨zb8,zb13⟩
 rw [if_neg c6] at H
 have c6b0:=beq_eq_false_iff_ne.mpr c6
 have c6b1:=bne_iff_ne.mpr c6
 by_cases c7:a0=414
 ·rw [if_pos c7] at H
  have c7b0:=beq_iff_eq.mpr c7
  have c7b1:=bne_eq_false_iff_eq.mpr c7
  clear c7
  obtain rfl:=Option.some.inj H
  go_enter Tryz.func74,Tryz.ntmps74
  go_wp2
  go_ret
  exact ⟨zb8,zb13⟩
 rw [if_neg c7] at H
 have c7b0:=beq_eq_false_iff_ne.mpr c7
 have c7b1:=bne_iff_ne.mpr c7
 by_cases c8:a0=421
 ·rw [if_pos c8] at H
  have c8b0:=beq_iff_eq.mpr c8
  have c8b1:=bne_eq_false_iff_eq.mpr c8
  clear c8
  obtain rfl:=Option.some.inj H
  go_enter Tryz.func74,Tryz.ntmps74
  go_wp2
  go_ret
  exact ⟨zb8,zb13⟩
 rw [if_neg c8] at H
 have c8b0:=beq_eq_false_iff_ne.mpr c8
 have c8b1:=bne_iff_ne.mpr c8
 by_cases c9:a0=429
 ·rw [if_pos c9] at H
  have c9b0:=beq_iff_eq.mpr c9
  have c9b1:=bne_eq_false_iff_eq.mpr c9
  clear c9
  obtain rfl:=Option.some.inj H
  go_enter Tryz.func74,Tryz.ntmps74
  go_wp2
  go_ret
  exact ⟨zb8,zb13⟩
 rw [if_neg c9] at H
 have c9b0:=beq_eq_false_iff_ne.mpr c9
 have c9b1:=bne_iff_ne.mpr c9
 by_cases c10:a0=431
 ·rw [if_pos c10] at H
  have c10b0:=beq_iff_eq.mpr c10
  have c10b1:=bne_eq_false_iff_eq.mpr c10
  clear c10
  obtain rfl:=Option.some.inj H
  go_enter Tryz.func74,Tryz.ntmps74
  go_wp2
  go_ret
  exact ⟨zb8,zb13⟩
 rw [if_neg c10] at H
 have c10b0:=beq_eq_false_iff_ne.mpr c10
 have c10b1:=bne_iff_ne.mpr c10
 by_cases c11:a0=501
 ·rw [if_pos c11] at H
  have c11b0:=beq_iff_eq.mpr c11
  have c11b1:=bne_eq_false_iff_eq.mpr c11
  clear c11
  obtain rfl:=Option.some.inj H
  go_enter Tryz.func74,Tryz.ntmps74
  go_wp2
  go_ret
  exact ⟨zb8,zb13⟩
 rw [if_neg c11] at H
 have c11b0:=beq_eq_false_iff_ne.mpr c11
 have c11b1:=bne_iff_ne.mpr c11
 by_cases c12:a0=502
 ·rw [if_pos c12] at H
  have c12b0:=beq_iff_eq.mpr c12
  have c12b1:=bne_eq_false_iff_eq.mpr c12
  clear c12
  obtain rfl:=Option.some.inj H
  go_enter Tryz.func74,Tryz.ntmps74
  go_wp2
  go_ret
  exact ⟨zb8,zb13⟩
 rw [if_neg c12] at H
 have c12b0:=beq_eq_false_iff_ne.mpr c12
 have c12b1:=bne_iff_ne.mpr c12
 by_cases c13:a0=503
 ·rw [if_pos c13] at H
  have c13b0:=beq_iff_eq.mpr c13
  have c13b1:=bne_eq_false_iff_eq.mpr c13
  clear c13
  obtain rfl:=Option.some.inj H
  go_enter Tryz.func74,Tryz.ntmps74
  go_wp2
  go_ret
  exact ⟨zb8,zb13⟩
 rw [if_neg c13] at H
 have c13b0:=beq_eq_false_iff_ne.mpr c13
 have c13b1:=bne_iff_ne.mpr c13
 by_cases c14:a0=504
 ·rw [if_pos c14] at H
  have c14b0:=beq_iff_eq.mpr c14
  have c14b1:=bne_eq_false_iff_eq.mpr c14
  clear c14
  obtain rfl:=Option.some.inj H
  go_enter Tryz.func74,Tryz.ntmps74
  go_wp2
  go_ret
  exact ⟨zb8,zb13⟩
 rw [if_neg c14] at H
 have c14b0:=beq_eq_false_iff_ne.mpr c14
 have c14b1:=bne_iff_ne.mpr c14
 by_cases c15:a0=505;rotate_left
 ·rw [if_neg c15] at H
  have c15b0:=beq_eq_false_iff_ne.mpr c15
  have c15b1:=bne_iff_ne.mpr c15
  obtain rfl:=Option.some.inj H
  go_enter Tryz.func74,Tryz.ntmps74
  go_wp2
  go_ret
  exact ⟨zb8,zb13⟩
 rw [if_pos c15] at H
 have c15b0:=beq_iff_eq.mpr c15
 have c15b1:=bne_eq_false_iff_eq.mpr c15
 clear c15
 obtain rfl:=Option.some.inj H
 go_enter Tryz.func74,Tryz.ntmps74
 go_wp2
 go_ret
 exact ⟨zb8,zb13⟩
def scrub_Own.f (a0:Int) (a1:Bool):Option (Int × ByteArray × Int × (List (S36)) × List Int):=(scrub_length.f 0).bind fun bt789=>((some (([(⟨bt789.1,bt789.2⟩:S36)]:List (S36)):List (S36))).bind fun y791=>(if a1=true then ((scrub_closing.f).bind fun bt794=>(if y791.length < 4398046511104 then ((line_Reason.f a0).bind fun t799=>(some (a0,t799,1,(y791 ++ [(⟨bt794.1,bt794.2⟩:S36)]),([]:List Int)))) else (none))) else ((line_Reason.f a0).bind fun t800=>(some (a0,t800,1,y791,([]:List Int))))))
set_option maxHeartbeats 8000000 in
set_option maxRecDepth 100000 in
theorem scrub_Own.calls (a0:Int) (a1:Bool) (r1:Int) (r2:ByteArray) (r3:Int) (r4:List (S36)) (r5:List Int) (w:World) (h:scrub_Own.f a0 a1=some (r1,r2,r3,r4,r5)) (ht:Tabs w) :
 Calls Tryz.prog 42 #[.int .i64 a0,.bool a1] w fun e w' => ∃ v3_ v4_:Value,e = .returned (.agg #[.int .i64 r1,.string r2,.int .i64 r3,v3_,v4_])∧Kd.R k36 36 w' w.heap.size (fun _=>True) v3_ r4∧Kd.R (Kd.int .u8) 5 w' w.heap.size (fun _=>True) v4_ r5∧Below w.heap.size w w' := by
 have HTB:=Aside0.mk ht
 clear ht
 have hu62:=Tryz.underlying62
 have HB:=Aside0.mk (Below.refl w.heap.size w)
 unfold scrub_Own.f at h
 have H:=h
 clear h
 replace H:=Option.bind_eq_some_iff.mp H
 obtain ⟨⟨t28,t31⟩,A30,H⟩:=H
 try dsimp only at H
 have A3:=Aside0.mk A30
 clear A30
 obtain ⟨y25,hy25⟩ : ∃ y_:List (S36),y_=(([(⟨t28,t31⟩:S36)]:List (S36))):=⟨_,rfl⟩
 replace H:(if a1=true then ((scrub_closing.f).bind fun bt27=>(if y25.length < 4398046511104 then ((line_Reason.f a0).bind fun t26=>(some (a0,t26,1,(y25 ++ [(⟨bt27.1,bt27.2⟩:S36)]),([]:List Int)))) else (none))) else ((line_Reason.f a0).bind fun t29=>(some (a0,t29,1,y25,([]:List Int)))))=some (r1,r2,r3,r4,r5):=by first|(rw [hy25];with_reducible exact H)|(have H2_:=(Option.bind_some _ _).symm.trans H;rw [hy25];with_reducible exact H2_)|(have H2_:=(Option.bind_some _ _).symm.trans H;with_reducible exact H2_)|with_reducible exact H|(rw [hy25];exact H)|exact H
 have Ny25:=Aside0.mk hy25
 clear hy25
 by_cases c4:a1=true;rotate_left
 ·replace c4:=Bool.eq_false_iff.mpr c4
  subst c4
  rw [if_neg (show ¬ (false=true) by decide)] at H
  replace H:=Option.bind_eq_some_iff.mp H
  obtain ⟨t29,A38,H⟩:=H
  try dsimp only at H
  have A16:=Aside0.mk A38
  clear A38
  simp only [Option.some.injEq,Prod.mk.injEq] at H
  obtain ⟨rfl,rfl,rfl,rfl,rfl⟩:=H
  go_enter Tryz.func42,Tryz.ntmps42
  go_wp2_with (first|((with_reducible refine gate_dst (N:=4) rfl ?_);refine box_event rfl (N:=4) rfl (cs:=#[.int .i64 0,.string (⟨#[]⟩:ByteArray),.int .i64 0,.slice none 0 0,.slice none 0 0]) (t:=62) zS ?_;intro gb23 hg w17 hbox hb;have GW23:=zG hg zb0;have GE23:=GW23;have BK23:=Aside0.mk hbox;replace HB:=Aside0.mk (below_step zb0 hb);clear hb hbox hg)|((with_reducible refine gate_callee (f:=61) rfl ?_);refine goesL_ (some 6) rfl rfl Tryz.func61 zb9 rfl #[.int .i64 0] rfl zb1 ?_;(with_reducible refine (scrub_length.calls 0 t28 t31 _ A3.out ?hT).mono ?_);(case hT=>exact HTB.out.below zb22);rintro e w18 ⟨rfl,hb⟩;(try clear A3);refine ⟨_,rfl,?_⟩;replace BK23:=Aside0.mk (blk_below (g:=gb23) (o:=.cells #[.int .i64 0,.string (⟨#[]⟩:ByteArray),.int .i64 0,.slice none 0 0,.slice none 0 0] 62 (0,0)) zb68 hb);replace HB:=Aside0.mk (below_step zb22 hb);(try clear hb))|((with_reducible refine gate_dst (N:=7) rfl ?_);refine Kd.R_lit k36 _ 36 ?hg (N:=7) ?hd (xs:=([(⟨t28,t31⟩:S36)]:List (S36))) (inner:=[.string t28,.string t31]) (ok:=fun _=>True) (okp:=fun _=>True) ?hr ?hp (fun _ hk=>hk) trivial (Below.refl _ _) (Nat.le_refl _) zb55 ?_;(case hd=>rfl);(case hg=>rfl);(case hr=>first|(go_simp;done)|(go_simp;rfl));(case hp=>exact (Reps.c2 (show Kd.M k36 _ _ _ (⟨t28,t31⟩:S36) [.string t28,.string t31] from (k36_mkM _ _ _ (⟨t28,t31⟩:S36) )) (Reps.none _ _)));intro v37 w19 ho20 hb hg_ hnew_;clear hg_ hnew_;(first|rw [← Ny25.out] at ho20|(simp only [Int.reduceToNat] at ho20;rw [← Ny25.out] at ho20));have HO33:=Aside0.mk (Kd.R_lower ho20 (below_size zb22));replace BK23:=Aside0.mk (blk_below (g:=gb23) (o:=.cells #[.int .i64 0,.string (⟨#[]⟩:ByteArray),.int .i64 0,.slice none 0 0,.slice none 0 0] 62 (0,0)) zb68 hb);replace HB:=Aside0.mk (below_step zb22 hb);clear hb ho20)|((with_reducible refine gate_callee (f:=74) rfl ?_);refine goesL_ (some 15) rfl rfl Tryz.func74 zb9 rfl #[.int .i64 a0] rfl zb1 ?_;(with_reducible refine (line_Reason.calls a0 t29 _ A16.out).mono ?_);rintro e w' ⟨rfl,⟨nd,rfl⟩⟩;(try clear A16);refine ⟨_,rfl,?_⟩;(try (rw [drewN_self w19];generalize hq_:World.drewN w19 _=w19;have n0_:Aside0 (Kd.R k36 36 w19 w.heap.size (fun _=>True) v37 y25):=⟨by rw [← hq_];exact (by (with_reducible repeat (first|apply Kd.R_alloc|apply Kd.R_drewN|apply Kd.R_drew));exact HO33.out)⟩;have n1_:Aside0 (w19.heap[gb23]? = some (.cells #[.int .i64 0,.string (⟨#[]⟩:ByteArray),.int .i64 0,.slice none 0 0,.slice none 0 0] 62 (0,0))):=⟨zb116⟩;have n2_:Aside0 (Below w.heap.size w w19):=⟨zb96⟩;clear HO33 BK23 HB hq_;have HO33:=n0_;have BK23:=n1_;have HB:=n2_;clear n0_ n1_ n2_));obtain ⟨Ao21,co21,eo21⟩:=Kd.R_slice HO33.out;subst eo21;obtain ⟨hcz22_0,hcz22_1,hcz22_2,hcz22_3,hcz22_4,hfz22_0,hfz22_1,hfz22_2,hfz22_3,hfz22_4⟩:=zq5 BK23.out))
  refine bodyPost_ret (results_cell_row rfl _ _ gb23 62 #[.int .i64 a0,.string t29,.int .i64 1,.slice Ao21 y25.length co21,.slice none 0 0] (0,0) _ rfl (by (with_reducible repeat (first|refine blk_drewN ?_ _|refine blk_drew ?_|refine blk_alloc ?_ _));refine blk_put (cs:=#[.int .i64 a0,.string t29,.int .i64 1,.slice Ao21 y25.length co21,.slice none 0 0]) ?_ 4 _ rfl;(with_reducible repeat (first|refine blk_drewN ?_ _|refine blk_drew ?_|refine blk_alloc ?_ _));refine blk_put (cs:=#[.int .i64 a0,.string t29,.int .i64 1,.slice none 0 0,.slice none 0 0]) ?_ 3 _ rfl;(with_reducible repeat (first|refine blk_drewN ?_ _|refine blk_drew ?_|refine blk_alloc ?_ _));refine blk_put (cs:=#[.int .i64 a0,.string t29,.int .i64 0,.slice none 0 0,.slice none 0 0]) ?_ 2 _ rfl;(with_reducible repeat (first|refine blk_drewN ?_ _|refine blk_drew ?_|refine blk_alloc ?_ _));refine blk_put (cs:=#[.int .i64 a0,.string (⟨#[]⟩:ByteArray),.int .i64 0,.slice none 0 0,.slice none 0 0]) ?_ 1 _ rfl;(with_reducible repeat (first|refine blk_drewN ?_ _|refine blk_drew ?_|refine blk_alloc ?_ _));refine blk_put (cs:=#[.int .i64 0,.string (⟨#[]⟩:ByteArray),.int .i64 0,.slice none 0 0,.slice none 0 0]) ?_ 0 _ rfl;(with_reducible repeat (first|refine blk_drewN ?_ _|refine blk_drew ?_|refine blk_alloc ?_ _));exact BK23.out) Tryz.underlying62 rfl zb9) rfl ?_
  exact ⟨_,_,zb3,by (with_reducible repeat (first|apply Kd.R_alloc|apply Kd.R_drewN|apply Kd.R_drew));exact Kd.R_mono (Kd.R_far (p:=⟨gb23,4,none⟩) (Kd.R_far (p:=⟨gb23,3,none⟩) (Kd.R_far (p:=⟨gb23,2,none⟩) (Kd.R_far (p:=⟨gb23,1,none⟩) (Kd.R_far (p:=⟨gb23,0,none⟩) (Kd.R_types HO33.out BK23.out (by decide)) (fun _ hk=>hk.2) (.int .i64 a0)) (fun _ hk=>hk.2) (.string t29)) (fun _ hk=>hk.2) (.int .i64 1)) (fun _ hk=>hk.2) (.slice Ao21 y25.length co21)) (fun _ hk=>hk.2) (.slice none 0 0)) (fun _ hk=>trivial),zb7,zb22⟩
 subst c4
 rw [if_pos rfl] at H
 replace H:=Option.bind_eq_some_iff.mp H
 obtain ⟨⟨t27,t34⟩,A50,H⟩:=H
 try dsimp only at H
 have A5:=Aside0.mk A50
 clear A50
 by_cases c6:y25.length < 4398046511104
 ·rw [if_pos c6] at H
  have LMc6:=Aside0.mk c6
  clear c6
  obtain ⟨y32,hy32⟩ : ∃ y_:List (S36),y_=(y25 ++ [(⟨t27,t34⟩:S36)]):=⟨_,rfl⟩
  replace H:((line_Reason.f a0).bind fun t26=>(some (a0,t26,1,y32,([]:List Int))))=some (r1,r2,r3,r4,r5):=by first|(rw [hy32];with_reducible exact H)|(have H2_:=(Option.bind_some _ _).symm.trans H;rw [hy32];with_reducible exact H2_)|(have H2_:=(Option.bind_some _ _).symm.trans H;with_reducible exact H2_)|with_reducible exact H|(rw [hy32];exact H)|exact H
  have Ny32:=Aside0.mk hy32
  clear hy32
  replace H:=Option.bind_eq_some_iff.mp H
  obtain ⟨t26,A70,H⟩:=H
  try dsimp only at H
  have A7:=Aside0.mk A70
  clear A70
  simp only [Option.some.injEq,Prod.mk.injEq] at H
  obtain ⟨rfl,rfl,rfl,rfl,rfl⟩:=H
  go_enter Tryz.func42,Tryz.ntmps42
  go_wp2_with (first|((with_reducible refine gate_dst (N:=4) rfl ?_);refine box_event rfl (N:=4) rfl (cs:=#[.int .i64 0,.string (⟨#[]⟩:ByteArray),.int .i64 0,.slice none 0 0,.slice none 0 0]) (t:=62) zS ?_;intro gb23 hg w8 hbox hb;have GW23:=zG hg zb0;have GE23:=GW23;have BK23:=Aside0.mk hbox;replace HB:=Aside0.mk (below_step zb0 hb);clear hb hbox hg)|((with_reducible refine gate_callee (f:=61) rfl ?_);refine goesL_ (some 6) rfl rfl Tryz.func61 zb9 rfl #[.int .i64 0] rfl zb1 ?_;(with_reducible refine (scrub_length.calls 0 t28 t31 _ A3.out ?hT).mono ?_);(case hT=>exact HTB.out.below zb22);rintro e w9 ⟨rfl,hb⟩;(try clear A3);refine ⟨_,rfl,?_⟩;replace BK23:=Aside0.mk (blk_below (g:=gb23) (o:=.cells #[.int .i64 0,.string (⟨#[]⟩:ByteArray),.int .i64 0,.slice none 0 0,.slice none 0 0] 62 (0,0)) zb68 hb);replace HB:=Aside0.mk (below_step zb22 hb);(try clear hb))|((with_reducible refine gate_dst (N:=7) rfl ?_);refine Kd.R_lit k36 _ 36 ?hg (N:=7) ?hd (xs:=([(⟨t28,t31⟩:S36)]:List (S36))) (inner:=[.string t28,.string t31]) (ok:=fun _=>True) (okp:=fun _=>True) ?hr ?hp (fun _ hk=>hk) trivial (Below.refl _ _) (Nat.le_refl _) zb55 ?_;(case hd=>rfl);(case hg=>rfl);(case hr=>first|(go_simp;done)|(go_simp;rfl));(case hp=>exact (Reps.c2 (show Kd.M k36 _ _ _ (⟨t28,t31⟩:S36) [.string t28,.string t31] from (k36_mkM _ _ _ (⟨t28,t31⟩:S36) )) (Reps.none _ _)));intro v37 w10 ho11 hb hg_ hnew_;clear hg_ hnew_;(first|rw [← Ny25.out] at ho11|(simp only [Int.reduceToNat] at ho11;rw [← Ny25.out] at ho11));have HO33:=Aside0.mk (Kd.R_lower ho11 (below_size zb22));replace BK23:=Aside0.mk (blk_below (g:=gb23) (o:=.cells #[.int .i64 0,.string (⟨#[]⟩:ByteArray),.int .i64 0,.slice none 0 0,.slice none 0 0] 62 (0,0)) zb68 hb);replace HB:=Aside0.mk (below_step zb22 hb);clear hb ho11)|((with_reducible refine gate_callee (f:=72) rfl ?_);refine goesL_ (some 10) rfl rfl Tryz.func72 zb9 rfl #[] rfl zb1 ?_;(with_reducible refine (scrub_closing.calls  t27 t34 _ A5.out).mono ?_);rintro e w12 ⟨rfl,hb⟩;(try clear A5);refine ⟨_,rfl,?_⟩;replace HO33:=Aside0.mk (Kd.R_below (by (with_reducible repeat (first|apply Kd.R_alloc|apply Kd.R_drewN|apply Kd.R_drew));exact HO33.out) hb);replace BK23:=Aside0.mk (blk_below (g:=gb23) (o:=.cells #[.int .i64 0,.string (⟨#[]⟩:ByteArray),.int .i64 0,.slice none 0 0,.slice none 0 0] 62 (0,0)) zb68 hb);replace HB:=Aside0.mk (below_step zb22 hb);(try clear hb))|((with_reducible refine gate_builtin (b:=.append) (xs:=#[.tmp 9,.tmp 11]) rfl ?_);at_builtin;refine Kd.R_append k36 (w0:=w) w.heap.size rfl (.tmp 9) (.tmp 11) 24 36 (.agg #[(.string ⟨#[]⟩),(.string ⟨#[]⟩)]) 32 rfl Tryz.underlying24 info36 rfl zb33 zb62 v37 y25 (⟨t27,t34⟩:S36) [.string t27,.string t34] (fun _=>True) (fun _=>False) rfl rfl ?aP (fun _ hk=>hk.elim) ?aF ?aO ?aB ?aS ?aL ?_;(case aP=>exact k36_mkM _ _ _ (⟨t27,t34⟩:S36));(case aB=>exact zb22);(case aF=>exact (fun _ _=>trivial));(case aO=>exact (by (with_reducible repeat (first|apply Kd.R_alloc|apply Kd.R_drewN|apply Kd.R_drew));exact HO33.out));(case aS=>exact (below_size zb22));(case aL=>have:=LMc6.out;omega);intro v39 w13 ho hb hg hat;rw [← Ny32.out] at ho;replace BK23:=Aside0.mk (blk_grown (g:=gb23) (o:=.cells #[.int .i64 0,.string (⟨#[]⟩:ByteArray),.int .i64 0,.slice none 0 0,.slice none 0 0] 62 (0,0)) zb68 hg (Kd.R_ne HO33.out BK23.out zb33));replace HB:=Aside0.mk (hb);have HO35:=Aside0.mk (ho);clear ho hb hg hat)|((with_reducible refine gate_callee (f:=74) rfl ?_);refine goesL_ (some 15) rfl rfl Tryz.func74 zb9 rfl #[.int .i64 a0] rfl zb1 ?_;(with_reducible refine (line_Reason.calls a0 t26 _ A7.out).mono ?_);rintro e w' ⟨rfl,⟨nd,rfl⟩⟩;(try clear A7);refine ⟨_,rfl,?_⟩;(try (rw [drewN_self w13];generalize hq_:World.drewN w13 _=w13;have n0_:Aside0 (Kd.R k36 36 w13 w.heap.size (fun _=>True) v39 y32):=⟨by rw [← hq_];exact (by (with_reducible repeat (first|apply Kd.R_alloc|apply Kd.R_drewN|apply Kd.R_drew));exact HO35.out)⟩;have n1_:Aside0 (w13.heap[gb23]? = some (.cells #[.int .i64 0,.string (⟨#[]⟩:ByteArray),.int .i64 0,.slice none 0 0,.slice none 0 0] 62 (0,0))):=⟨zb116⟩;have n2_:Aside0 (Below w.heap.size w w13):=⟨zb96⟩;clear HO35 BK23 HB hq_;have HO35:=n0_;have BK23:=n1_;have HB:=n2_;clear n0_ n1_ n2_));obtain ⟨Ao14,co14,eo14⟩:=Kd.R_slice HO35.out;subst eo14;obtain ⟨hcz15_0,hcz15_1,hcz15_2,hcz15_3,hcz15_4,hfz15_0,hfz15_1,hfz15_2,hfz15_3,hfz15_4⟩:=zq5 BK23.out))
  refine bodyPost_ret (results_cell_row rfl _ _ gb23 62 #[.int .i64 a0,.string t26,.int .i64 1,.slice Ao14 y32.length co14,.slice none 0 0] (0,0) _ rfl (by (with_reducible repeat (first|refine blk_drewN ?_ _|refine blk_drew ?_|refine blk_alloc ?_ _));refine blk_put (cs:=#[.int .i64 a0,.string t26,.int .i64 1,.slice Ao14 y32.length co14,.slice none 0 0]) ?_ 4 _ rfl;(with_reducible repeat (first|refine blk_drewN ?_ _|refine blk_drew ?_|refine blk_alloc ?_ _));refine blk_put (cs:=#[.int .i64 a0,.string t26,.int .i64 1,.slice none 0 0,.slice none 0 0]) ?_ 3 _ rfl;(with_reducible repeat (first|refine blk_drewN ?_ _|refine blk_drew ?_|refine blk_alloc ?_ _));refine blk_put (cs:=#[.int .i64 a0,.string t26,.int .i64 0,.slice none 0 0,.slice none 0 0]) ?_ 2 _ rfl;(with_reducible repeat (first|refine blk_drewN ?_ _|refine blk_drew ?_|refine blk_alloc ?_ _));refine blk_put (cs:=#[.int .i64 a0,.string (⟨#[]⟩:ByteArray),.int .i64 0,.slice none 0 0,.slice none 0 0]) ?_ 1 _ rfl;(with_reducible repeat (first|refine blk_drewN ?_ _|refine blk_drew ?_|refine blk_alloc ?_ _));refine blk_put (cs:=#[.int .i64 0,.string (⟨#[]⟩:ByteArray),.int .i64 0,.slice none 0 0,.slice none 0 0]) ?_ 0 _ rfl;(with_reducible repeat (first|refine blk_drewN ?_ _|refine blk_drew ?_|refine blk_alloc ?_ _));exact BK23.out) Tryz.underlying62 rfl zb9) rfl ?_
  exact ⟨_,_,zb3,by (with_reducible repeat (first|apply Kd.R_alloc|apply Kd.R_drewN|apply Kd.R_drew));exact Kd.R_mono (Kd.R_far (p:=⟨gb23,4,none⟩) (Kd.R_far (p:=⟨gb23,3,none⟩) (Kd.R_far (p:=⟨gb23,2,none⟩) (Kd.R_far (p:=⟨gb23,1,none⟩) (Kd.R_far (p:=⟨gb23,0,none⟩) (Kd.R_types HO35.out BK23.out (by decide)) (fun _ hk=>hk.2) (.int .i64 a0)) (fun _ hk=>hk.2) (.string t26)) (fun _ hk=>hk.2) (.int .i64 1)) (fun _ hk=>hk.2) (.slice Ao14 y32.length co14)) (fun _ hk=>hk.2) (.slice none 0 0)) (fun _ hk=>trivial),zb7,zb22⟩
 ·rw [if_neg c6] at H
  exact absurd H zb55
set_option maxHeartbeats 4000000 in
set_option maxRecDepth 100000 in
theorem field_Without_1.callsOf (B:Nat) (name:ByteArray) (w:World) (hc:w.cell? ⟨B,0,none⟩=some (.string name)):TestOf 105 #[.pointer (some ⟨B,0,none⟩)] Value.string (fun n=>sign_Same.f n name) w:=fun W x b hb h=>by
 have hB:B < w.heap.size:=World.block_lt_of_cell? w _ hc
 have hcell:W.cell? ⟨B,0,none⟩=some (.string name):=(hb.cell (p:=⟨B,0,none⟩) hB).trans hc
 have HS:=Aside0.mk h
 clear hc h hb
 show Calls Tryz.prog 105 #[.string x,.pointer (some ⟨B,0,none⟩)] W _
 go_enter Tryz.func105,Tryz.ntmps105
 go_wp2_with (go_at_call 89;refine (sign_Same.calls x name b W HS.out).mono ?_;rintro e w' ⟨rfl,hb'⟩)
 go_ret
 exact ⟨rfl,hb'⟩
def field_Without.l0:Nat → List (S36) → List ByteArray → List (S36) → Int → Option (List (S36))
 | 0,_,_,_,_=>none
 | k + 1,x0,x1,x5,x10=>if x10 < (x0.length:Int) then (if 0 ≤ x10 then ((anyO (fun n=>sign_Same.f n (rd_T36 x0 x10).f0) x1).bind fun t=>(if t=true then (field_Without.l0 k x0 x1 x5 (wrap64 (x10 + 1))) else (if x5.length < 4398046511104 then (field_Without.l0 k x0 x1 (x5 ++ [(⟨(rd_T36 x0 x10).f0,(rd_T36 x0 x10).f1⟩:S36)]) (wrap64 (x10 + 1))) else (none)))) else (none)) else (some x5)
def field_Without.f (k:Nat) (l0:List (S36)) (l1:List ByteArray):Option (List (S36)):=field_Without.l0 k l0 l1 [] 0
set_option maxHeartbeats 8000000 in
set_option maxRecDepth 100000 in
theorem field_Without.calls (k:Nat) (A0:Option Addr) (c0:Nat) (l0:List (S36)) (A1:Option Addr) (c1:Nat) (l1:List ByteArray) (r:List (S36)) (w:World) (hr0:Kd.C k36 w A0 l0.length l0) (hc0:l0.length ≤ c0) (hr1:Kd.C Kd.string w A1 l1.length l1) (hc1:l1.length ≤ c1) (h:field_Without.f k l0 l1=some r) :
 Calls Tryz.prog 59 #[.slice A0 l0.length c0,.slice A1 l1.length c1] w fun e w' => ∃ v0_:Value,e = .returned (v0_)∧Kd.R k36 36 w' w.heap.size (fun _=>True) v0_ r∧Below w.heap.size w w' := by
 have hu:=Tryz.underlying36
 have HR0:=Aside0.mk hr0
 have HR1:=Aside0.mk hr1
 have HC1:=Aside0.mk hc1
 have H' := Aside0.mk (show field_Without.l0 k l0 l1 [] 0=some r from h)
 have EG:=Aside0.mk (show ∀ args w,(callFunc 105 args).run Tryz.prog w = .ok (.enter 105 args) w from enters_of Tryz.func105 zb9 rfl)
 clear hr0 hr1 hc1 h
 go_enter Tryz.func59,Tryz.ntmps59
 go_wp2_with fail
 go_loopg [5,10] k (fun kq v5 v10 w' => ∃ (x5:List (S36)) (x10:Int),v10 = .int .i64 x10∧Aside0 (field_Without.l0 kq l0 l1 x5 x10=some r)∧Aside0 (kq ≤ k)∧Aside0 (Kd.R k36 36 w' w.heap.size (fun _=>True) v5 x5)∧Aside0 (Below w.heap.size w w'))
 case atStart=>exact ⟨[],0,rfl,H',⟨Nat.le_refl _⟩,⟨Kd.R_nil _ _ _ _ _⟩,⟨Below.refl _ _⟩⟩
 case round =>
  clear H'
  obtain ⟨x5,x10,rfl,HA,HK1,HO,HB⟩:=hrel
  cases gk with
  | zero=>exact absurd HA.out (by simp [field_Without.l0])
  | succ k1 =>
   have H:=HA.out
   clear HA
   simp only [field_Without.l0] at H
   by_cases c4:x10 < (l0.length:Int);rotate_left
   ·rw [if_neg c4] at H
    have c4b0:=decide_eq_false c4
    clear c4
    obtain rfl:=Option.some.inj H
    go_wp2
    go_ret
    exact ⟨_,zb114,HO.out,HB.out⟩
   rw [if_pos c4] at H
   have c4b0:=decide_eq_true c4
   by_cases c5:0 ≤ x10
   ·rw [if_pos c5] at H
    obtain ⟨t,hany,H⟩:=Option.bind_eq_some_iff.mp H
    have HANY:=Aside0.mk hany
    have HN:=Aside0.mk H
    clear hany H
    obtain ⟨ad,e0,hx0,hx1⟩:=at_T36 HR0.out x10 c5 c4
    cases e0
    replace hx0:=(HB.out.cell (World.block_lt_of_cell? w _ hx0)).trans hx0
    replace hx1:=(HB.out.cell (World.block_lt_of_cell? w _ hx1)).trans hx1
    replace c4:=eq_true c4
    replace c5:=eq_true c5
    have hcell:(wr.alloc (.cells #[.string (rd_T36 l0 x10).f0,.string (rd_T36 l0 x10).f1] 36)).cell? ⟨wr.heap.size,0,none⟩=some (.string (rd_T36 l0 x10).f0):=(blk_cell (blk_new wr _) 0).trans rfl
    have hcell2:(wr.alloc (.cells #[.string (rd_T36 l0 x10).f0,.string (rd_T36 l0 x10).f1] 36)).cell? ⟨wr.heap.size,1,none⟩=some (.string (rd_T36 l0 x10).f1):=(blk_cell (blk_new wr _) 1).trans rfl
    have HCE:=Aside0.mk hcell
    have HCE2:=Aside0.mk hcell2
    clear hcell hcell2
    cases t with
    | true =>
     have H1:field_Without.l0 k1 l0 l1 x5 (wrap64 (x10 + 1))=some r:=by have h:=HN.out;rw [if_pos rfl] at h;exact h
     have H' := Aside0.mk H1
     clear H1 HN
     go_wp2_with (go_at_call 86;refine (slices_ContainsFunc_string_string.callsOf (fun n=>sign_Same.f n (rd_T36 l0 x10).f0) 105 #[.pointer (some ⟨wr.heap.size,0,none⟩)] EG.out A1 c1 l1 true _ (Kd.C_alloc (Kd.C_below HR1.out HB.out) _) HC1.out (field_Without_1.callsOf wr.heap.size _ _ HCE.out) HANY.out).mono ?_;rintro e w1 ⟨rfl,hb⟩;have n0:=Aside0.mk (Kd.R_below (Kd.R_alloc HO.out _) hb);have n1:=Aside0.mk (below_step (below_alloc HB.out _) hb);clear HO HB;have HO:=n0;have HB:=n1;clear n0 n1 hb)
     go_roundg k1
     case measure=>have:=HK1.out;omega
     case rel=>exact ⟨x5,wrap64 (x10 + 1),zb114,H',⟨zb97⟩,HO,HB⟩
    | false =>
     have H1:(if x5.length < 4398046511104 then (field_Without.l0 k1 l0 l1 (x5 ++ [(⟨(rd_T36 l0 x10).f0,(rd_T36 l0 x10).f1⟩:S36)]) (wrap64 (x10 + 1))) else none)=some r:=by have h:=HN.out;rw [if_neg zb33] at h;exact h
     clear HN
     by_cases c9:x5.length < 4398046511104
     ·rw [if_pos c9] at H1
      have LM:=Aside0.mk c9
      have H' := Aside0.mk H1
      clear H1 c9
      go_wp2_with (first
       | (go_at_call 86;refine (slices_ContainsFunc_string_string.callsOf (fun n=>sign_Same.f n (rd_T36 l0 x10).f0) 105 #[.pointer (some ⟨wr.heap.size,0,none⟩)] EG.out A1 c1 l1 false _ (Kd.C_alloc (Kd.C_below HR1.out HB.out) _) HC1.out (field_Without_1.callsOf wr.heap.size _ _ HCE.out) HANY.out).mono ?_;rintro e w1 ⟨rfl,hb⟩;have n0:=Aside0.mk (Kd.R_below (Kd.R_alloc HO.out _) hb);have n1:=Aside0.mk (below_step (below_alloc HB.out _) hb);have hy0:=pw_cell_below hb HCE.out;have hy1:=pw_cell_below hb HCE2.out;clear HO HB;have HO:=n0;have HB:=n1;clear n0 n1 hb)
       | ((with_reducible refine gate_builtin (b:=.append) (xs:=#[.tmp 18,.tmp 20]) rfl ?_);at_builtin;refine Kd.R_append k36 (w0:=w) w.heap.size rfl (.tmp 18) (.tmp 20) 24 36 (.agg #[(.string ⟨#[]⟩),(.string ⟨#[]⟩)]) 32 rfl Tryz.underlying24 info36 rfl zb33 zb62 u5 x5 (⟨(rd_T36 l0 x10).f0,(rd_T36 l0 x10).f1⟩:S36) [.string ((rd_T36 l0 x10).f0),.string ((rd_T36 l0 x10).f1)] (fun _=>True) (fun _=>False) rfl rfl ?aP (fun _ hk=>hk.elim) ?aF ?aO ?aB ?aS ?aL ?_;(case aP=>exact k36_mkM _ _ _ (⟨(rd_T36 l0 x10).f0,(rd_T36 l0 x10).f1⟩:S36));(case aB=>exact zb92);(case aF=>exact (fun _ _=>trivial));(case aO=>exact (by (with_reducible repeat (first|apply Kd.R_alloc|apply Kd.R_drewN|apply Kd.R_drew));exact HO.out));(case aS=>exact zb88);(case aL=>have:=LM.out;omega);intro v3 w3 ho hb hg hat;have n0_:=Aside0.mk (hb);have n1_:=Aside0.mk (ho);clear HB;clear HO;have HB:=n0_;have HO:=n1_;clear n0_ n1_;clear ho hb hg hat))
      go_roundg k1
      case measure=>have:=HK1.out;omega
      case rel=>exact ⟨_,wrap64 (x10 + 1),zb114,H',⟨zb97⟩,HO,HB⟩
     ·rw [if_neg c9] at H1
      cases H1
   ·rw [if_neg c5] at H
    exact absurd H zb55
def slices_Clone_string_string.f (l0:List ByteArray):Option (List ByteArray):=if l0.length ≤ 8796093022207 then some l0 else none
set_option maxHeartbeats 4000000 in
set_option maxRecDepth 100000 in
theorem slices_Clone_string_string.calls (A0:Option Addr) (c0:Nat) (l0:List ByteArray) (r:List ByteArray) (w:World) (hr0:Kd.C Kd.string w A0 l0.length l0) (hc0:l0.length ≤ c0) (h:slices_Clone_string_string.f l0=some r) :
 Calls Tryz.prog 58 #[.slice A0 l0.length c0] w fun e w' => ∃ v0_:Value,e = .returned (v0_)∧Kd.R Kd.string 9 w' w.heap.size (fun _=>True) v0_ r∧Below w.heap.size w w' := by
 have hl:l0.length ≤ 8796093022207∧l0=r:=by
  unfold slices_Clone_string_string.f at h
  split at h
  ·exact ⟨by assumption,by simpa using h⟩
  cases h
 obtain ⟨hl,rfl⟩:=hl
 clear h
 have HR:=Aside0.mk hr0
 cases A0 with
 | none =>
  have he:l0=[]:=by
   cases l0 with
   | nil=>rfl
   | cons x y=>obtain ⟨ad,e,_⟩:=hr0.2.2 zb55;cases e
  subst he
  clear HR hr0
  have hnil : ∀ W:World,(binOp .eql 34 (.slice none 0 c0) (.slice none 0 0)).run Tryz.prog W = .ok (.bool true) W:=fun W=>by
   simp only [binOp]
   simp [Op.equal,Op.maxDepth,Lib.run_equalIn_slice_nil W 9999 34 _ none 0 c0 0 0 Tryz.underlying34]
  go_enter Tryz.func58,Tryz.ntmps58
  go_wp2
  go_ret
  exact ⟨_,rfl,Kd.R_nil _ _ _ _ _,Below.refl _ _⟩
 | some ad =>
  have HL:=Aside0.mk hl
  have hnil : ∀ W:World,(binOp .eql 34 (.slice (some ad) l0.length c0) (.slice none 0 0)).run Tryz.prog W = .ok (.bool false) W:=fun W=>by
   simp only [binOp]
   simp [Op.equal,Op.maxDepth,Lib.run_equalIn_slice_nil W 9999 34 _ (some ad) l0.length c0 0 0 Tryz.underlying34]
  have HB:=Aside0.mk (Below.refl w.heap.size w)
  clear hr0 hl hc0
  go_enter Tryz.func58,Tryz.ntmps58
  go_wp2_with (first
   | ((with_reducible refine gate_dst (N:=5) rfl ?_);refine Kd.R_lit Kd.string _ 9 ?hg (N:=5) ?hd (xs:=([]:List ByteArray)) (inner:=[]) (ok:=fun _=>True) (okp:=fun _=>True) ?hr ?hp (fun _ hk=>hk) trivial (Below.refl _ _) (Nat.le_refl _) zb55 ?_;(case hd=>rfl);(case hg=>rfl);(case hr=>first|(go_simp;done)|(go_simp;rfl));(case hp=>exact (Reps.none _ _));intro v5 w2 ho3 hb hg_ hnew_;clear hg_ hnew_;have HO5:=Aside0.mk (Kd.R_lower ho3 (below_size zb0));have n1_:=Aside0.mk (below_step zb0 hb);clear HB;have HB:=n1_;clear n1_;clear hb ho3)
   | ((with_reducible refine gate_builtin (b:=.append) (xs:=#[.tmp 5,.tmp 6]) rfl ?_);at_builtin;refine Kd.R_append_rows Kd.string (w0:=w) w.heap.size rfl (.tmp 5) (.tmp 6) 34 9 (.string ⟨#[]⟩) 16 rfl Tryz.underlying34 info9 rfl zb33 zb62 v5 [] l0 _ _ _ (fun _=>True) (fun _=>False) rfl rfl ?aO ?aR (fun _ _ h=>h) (fun _ h=>h.elim) (fun _ _=>trivial) ?aB ?aS ?aL ?_;(case aO=>exact HO5.out);(case aR=>exact Kd.C_below HR.out HB.out);(case aB=>exact HB.out);(case aS=>exact HB.out.size);(case aL=>have:=HL.out;simp only [List.length_nil];omega);intro v3 w3 ho hb3 hg3 hat;have HO7:=Aside0.mk ho;have HB7:=Aside0.mk hb3;clear ho hb3 hg3 hat))
  go_ret
  exact ⟨_,zb114,HO7.out,HB7.out⟩
end Go.Proofs.YtagffbblalldiaaGreatDoor.P
