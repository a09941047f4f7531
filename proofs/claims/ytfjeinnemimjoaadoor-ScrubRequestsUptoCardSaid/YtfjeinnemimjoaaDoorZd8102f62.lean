/- Each function below answers as its Lean twin says; plain lemmas; a row where its theorem stands. No further condition. (Laid by this repo's pack.py out of its texts and of the print's words.) -/
import Derived.Test.YtfjeinnemimjoaaDoorProg
import Derived.Test.YtfjeinnemimjoaaDoorZf8e73587
import Derived.Below
import Derived.Deep.Draws
import Derived.Deep.AppendLies
import Derived.Maps.AppendAt
import Derived.OwnWalk
import Derived.Laws.BytesArg
import Derived.Laws.MakeOwn
import Derived.Laws.OwnMore
import Derived.Deep.OwnRows
import Derived.Tactics
import Derived.Lib.ConvBytes
import Derived.Laws.Slices
import Derived.WalkKit
import Derived.KernelRfl
import Derived.RowKit3
import Derived.Deep.LoopGhost
import Derived.Deep.QuietTactic
import Derived.BigQuiet
import Derived.WideLaws
import Derived.Deep.DeepCutAuto
import Derived.Deep.CutBlock
import Derived.Deep.RegionHeld3
import Derived.Laws.Rows
import Derived.Lib.AppendStr
import Derived.ArgAppend
import Derived.Laws.IdiomCopy
import Derived.OrdersHeld
import Derived.Laws.BitsLemmas
import Derived.RowKit
import Derived.Lib.Hide
import Derived.LoopTactic
import Derived.Shelf.Abstract
import Derived.Lib.SlBytesConst
import Derived.Shelf.Strings.Trim
import Derived.Shelf.Small.Utf8
import Derived.Shelf.Small.Strs
import Derived.Shelf.Strconv.Itoa0
import Derived.Shelf.Strconv.Itoa1
import Derived.Shelf.LaysM
import Derived.Shelf.Strconv.Itoa2
import Derived.Shelf.Strconv.Itoa3
import Derived.Shelf.Strings.Search1
import Derived.Shelf.Strings.Search2
import Derived.Shelf.Strings.Search3
import Derived.Shelf.Strings.Cut
import Derived.Shelf.Strings.Count
import Derived.Shelf.Strings.Shaped
import Derived.Shelf.Strings.Split
import Derived.Shelf.Strings.Runes
import Derived.Shelf.Strings.AsciiSet
import Derived.Shelf.Unicode.DecodeSlow
import Derived.IntWalk
import Derived.Shelf.Strings.SlTrimAscii
import Derived.WalkSpells
import Derived.Lib.LaidTab
import Derived.Lib.ItoaNum
import Derived.Lib.TrailingZeros
namespace Go.Proofs.YtfjeinnemimjoaaDoor.P
open Go.RowKit Go.Proofs.YtfjeinnemimjoaaDoorW.PrintWords Go.Proofs.YtfjeinnemimjoaaDoorW.PrintLast Go.Proofs.YtfjeinnemimjoaaDoorW.PrintMore
attribute [local go_sem] max2_int min2_int max_two min_two max_three min_three max_four min_four   -- for this text's walks alone
set_option linter.unusedVariables false
set_option linter.unusedSimpArgs false
def errW : Option Int → Value
  | none => .nilIface
  | some c => .iface 0 (.int .i64 c)
theorem errW_none : errW none = .nilIface := rfl
theorem errW_some (c : Int) : errW (some c) = .iface 0 (.int .i64 c) := rfl
theorem info5 : (Tryd.prog.info? 5).map (fun i => (i.zero, i.size, i.bytes)) = some (some (.int .u8 0), 1, 1) := by kernel_rfl
theorem info9 : (Tryd.prog.info? 9).map (fun i => (i.zero, i.size, i.bytes)) = some (some (.string ⟨#[]⟩), 1, 16) := by kernel_rfl
theorem info41 : (Tryd.prog.info? 41).map (fun i => (i.zero, i.size, i.bytes)) = some (some (.agg #[(.string ⟨#[]⟩), (.string ⟨#[]⟩)]), 2, 32) := by kernel_rfl
structure S41 where
  f0 : ByteArray
  f1 : ByteArray
def z41 : S41 := ⟨(⟨#[]⟩ : ByteArray), (⟨#[]⟩ : ByteArray)⟩
def k41 : Kd S41 := Kd.iso (Kd.pair Kd.string Kd.string) (fun x : S41 => (x.f0, x.f1))
theorem k41_open {w : World} {x : S41} {cs : List Value} (h : k41.K w x cs) : cs = [.string x.f0, .string x.f1] := by
  obtain ⟨_, _, rfl, rfl, rfl⟩ := h
  exact rfl
theorem k41_mk (w : World) (x : S41)  : k41.K w x [.string x.f0, .string x.f1] := ⟨[.string x.f0], [.string x.f1], rfl, rfl, rfl⟩
theorem k41_mkM (w : World) (base : Nat) (ok : Nat → Prop) (x : S41)  : k41.M w base ok x [.string x.f0, .string x.f1] := ⟨[.string x.f0], [.string x.f1], rfl, rfl, rfl⟩
def rd_T41 (xs : List S41) (i : Int) : S41 := xs.getD i.toNat z41
theorem at_T41 {w : World} {A : Option Addr} {n : Nat} {xs : List S41} (h : Kd.C k41 w A n xs) (i : Int) (h0 : 0 ≤ i) (h1 : i < n) : ∃ ad , A = some ad ∧ w.cell? (ad.add (i.toNat * 2)) = some (.string (rd_T41 xs i).f0) ∧ w.cell? ⟨(ad.add (i.toNat * 2)).block, (ad.add (i.toNat * 2)).off + 1, none⟩ = some (.string (rd_T41 xs i).f1) := by
  obtain ⟨ad, c, e, _, hK, hc0⟩ := Kd.C_get h z41 i h0 h1
  have hc : ∀ j u, c[j]? = some u → w.cell? (ad.add (i.toNat * 2 + j)) = some u := hc0
  obtain rfl := k41_open hK
  exact ⟨ad, e, hc 0 _ rfl, by rw [← add_field _ _ 1 (by omega)]; exact hc 1 _ rfl⟩
structure S175 where
  f0 : ByteArray
  f1 : (List ByteArray)
def k175 : Kd S175 := Kd.iso (Kd.pair Kd.string (Kd.slice 9 Kd.string)) (fun x : S175 => (x.f0, x.f1))
structure S177 where
  f0 : ByteArray
  f1 : ByteArray
  f2 : ByteArray
def k177 : Kd S177 := Kd.iso (Kd.pair Kd.string (Kd.pair Kd.string Kd.string)) (fun x : S177 => (x.f0, x.f1, x.f2))
/-- A row of bytes that []byte(s) made: its block bears the run-time's mark behind its last cell. -/
def MRow (w : World) (g : Nat) (e : TypeId) (xs : List Int) : Prop := ∃ cs m, w.heap[g]? = some (.cells cs e (m, m + 1)) ∧ xs.length ≤ m ∧ cs.toList.take xs.length = nums .u8 xs
theorem MRow.at_ {w : World} {g : Nat} {e : TypeId} {xs : List Int} (h : MRow w g e xs) (i : Nat) (hi : i < xs.length) : w.cell? ⟨g, i, none⟩ = some (.int .u8 (xs.getD i 0)) := by
  obtain ⟨cs, m, hb, _, ht⟩ := h
  rw [cell_of_row _ _ _ _ _ _ hb]
  have h1 : (cs.toList.take xs.length)[i]? = (nums .u8 xs)[i]? := by rw [ht]
  rw [List.getElem?_take_of_lt hi] at h1
  rw [← Array.getElem?_toList, h1]
  simp [nums, List.getD_eq_getElem?_getD, List.getElem?_eq_getElem hi]
theorem MRow.cell {w : World} {g : Nat} {e : TypeId} {xs : List Int} (h : MRow w g e xs) (i : Int) (h0 : 0 ≤ i) (hi : i < (xs.length : Int)) : w.cell? ⟨g, i.toNat, none⟩ = some (.int .u8 (rd xs i)) := h.at_ i.toNat (by omega)
theorem MRow.free {w : World} {g : Nat} {e : TypeId} {xs : List Int} (h : MRow w g e xs) (i : Int) (h0 : 0 ≤ i) (hi : i < (xs.length : Int)) : w.frozen? ⟨g, i.toNat, none⟩ = false := by
  obtain ⟨cs, m, hb, hm, _⟩ := h
  simp [World.frozen?, hb]
  omega
theorem MRow.set {w : World} {g : Nat} {e : TypeId} {xs : List Int} (h : MRow w g e xs) (i : Int) (v : Int) : MRow (w.setCell ⟨g, i.toNat, none⟩ (.int .u8 v)) g e (xs.set i.toNat v) := by
  obtain ⟨cs, m, hb, hm, ht⟩ := h
  refine ⟨cs.setIfInBounds i.toNat (.int .u8 v), m, by simp [World.setCell, Array.getElem?_modify, hb], by simpa using hm, ?_⟩
  rw [Array.toList_setIfInBounds, List.length_set, List.take_set, ht]
  simp [nums, List.map_set]
theorem MRow.reads {w : World} {g : Nat} {e : TypeId} {xs : List Int} (h : MRow w g e xs) (hm : xs.length ≤ 9223372036854775807) : ReadsInt w .u8 (some ⟨g, 0, none⟩) xs.length xs :=
  ⟨rfl, hm, fun _ => ⟨_, rfl, fun j hj => by rw [add_plain]; exact h.at_ j hj⟩⟩
theorem MRow.bytes (W : World) (e : TypeId) (s : ByteArray) : MRow (Lib.bytesWorld W e s) W.heap.size e (bytesOf s) := by
  refine ⟨_, _, Lib.bytesWorld_at_new W e s, ?_, ?_⟩
  · rw [bytesOf_length]; simp [Lib.bytesCells]
  · rw [bytesOf_length]
    simp only [Lib.bytesCells, Array.toList_append, Array.toList_map]
    rw [List.take_append_of_le_length (by simp [data_length]), List.take_of_length_le (by simp [data_length])]
    simp [nums, bytesOf]
end Go.Proofs.YtfjeinnemimjoaaDoor.P
namespace Go.Proofs.YtfjeinnemimjoaaDoor.P
open Go.RowKit Go.Proofs.YtfjeinnemimjoaaDoorW.PrintWords Go.Proofs.YtfjeinnemimjoaaDoorW.PrintLast Go.Proofs.YtfjeinnemimjoaaDoorW.PrintMore
attribute [local go_sem] max2_int min2_int max_two min_two max_three min_three max_four min_four
set_option linter.unusedVariables false
set_option linter.unusedSimpArgs false
def foldC (c:Int):Int:=if 65 ≤ c∧c ≤ 90 then c + 32 else c
def sign_Fold.f (a0:ByteArray):Option ByteArray:=if a0.size ≤ 140737488355328 then some (strOfNums ((bytesOf a0).map foldC)) else none
theorem fold_step (l:List Int) (x:Int) (h0:0 ≤ x) (h:x < (l.length:Int)) :
  ((l.take x.toNat).map foldC ++ l.drop x.toNat).set x.toNat (foldC (rd l x))=(l.take (x + 1).toNat).map foldC ++ l.drop (x + 1).toNat:=by
 obtain ⟨n,rfl⟩:=Int.eq_ofNat_of_zero_le h0
 have hl:n < l.length:=by omega
 have e:((n:Int) + 1).toNat=n + 1:=by omega
 have hm:((l.take n).map foldC).length=n:=by rw [List.length_map,List.length_take];omega
 have hr:rd l n=l[n]:=by simp [rd,List.getD_eq_getElem?_getD,List.getElem?_eq_getElem hl]
 rw [e,Int.toNat_natCast,List.set_append_right _ _ (by omega),hm,Nat.sub_self,List.drop_eq_getElem_cons hl,List.set_cons_zero,List.take_succ_eq_append_getElem hl,List.map_append,hr]
 simp only [List.map_cons,List.map_nil,List.append_assoc,List.cons_append,List.nil_append]
theorem fold_same (l:List Int) (x:Int) (h0:0 ≤ x) (h:x < (l.length:Int)) (hs:foldC (rd l x)=rd l x) :
  (l.take x.toNat).map foldC ++ l.drop x.toNat=(l.take (x + 1).toNat).map foldC ++ l.drop (x + 1).toNat:=by
 obtain ⟨n,rfl⟩:=Int.eq_ofNat_of_zero_le h0
 have hl:n < l.length:=by omega
 have e:((n:Int) + 1).toNat=n + 1:=by omega
 have hr:rd l n=l[n]:=by simp [rd,List.getD_eq_getElem?_getD,List.getElem?_eq_getElem hl]
 rw [hr] at hs
 rw [e,Int.toNat_natCast,List.drop_eq_getElem_cons hl,List.take_succ_eq_append_getElem hl,List.map_append]
 simp only [List.map_cons,List.map_nil,List.append_assoc,List.cons_append,List.nil_append,hs]
theorem fold_at (l:List Int) (x:Int) (h0:0 ≤ x) (h:x < (l.length:Int)):rd ((l.take x.toNat).map foldC ++ l.drop x.toNat) x=rd l x:=by
 have hl:x.toNat < l.length:=by omega
 have hm:((l.take x.toNat).map foldC).length=x.toNat:=by simp;omega
 unfold rd
 rw [List.getD_eq_getElem?_getD,List.getD_eq_getElem?_getD,List.getElem?_append_right (by omega),hm]
 simp
theorem fold_len (l:List Int) (x:Int):((l.take x.toNat).map foldC ++ l.drop x.toNat).length=l.length:=by
 simp;omega
set_option maxHeartbeats 2000000 in
theorem sign_Fold.calls (a0:ByteArray) (r:ByteArray) (w:World) (h:sign_Fold.f a0=some r) :
  Calls Tryd.prog 29 #[.string a0] w fun e w' => e = .returned (.string r)∧Below w.heap.size w w' := by
 unfold sign_Fold.f at h
 by_cases h0:a0.size ≤ 140737488355328
 ·rw [if_pos h0] at h
  obtain rfl:=Option.some.inj h
  clear h
  have kb:=fun W=>print_bytes (P:=Tryd.prog) 9 25 5 Tryd.underlying9 Tryd.underlying25 Tryd.underlying5 a0 W
  go_enter Tryd.func29,Tryd.ntmps29
  go_wp2
  go_loopw [4,5,10] (fun _ _ v wr => ∃ x:Int,v = .int .i64 x∧Aside0 (0 ≤ x∧x ≤ a0.size)∧Aside0 (MRow wr w.heap.size 5 (((bytesOf a0).take x.toNat).map foldC ++ (bytesOf a0).drop x.toNat))∧Aside0 (Below w.heap.size w wr)) (fun _ _ v _=>a0.size - (intOf v).toNat)
  case atStart=>exact ⟨0,rfl,⟨by omega,by omega⟩,⟨by simpa using MRow.bytes w 5 a0⟩,⟨bytes_below (Below.refl _ _) (Nat.le_refl _) _ _⟩⟩
  case round =>
   obtain ⟨x,rfl,HX,HM,HB⟩:=hrel
   have hlen:(((bytesOf a0).take x.toNat).map foldC ++ (bytesOf a0).drop x.toNat).length=a0.size:=(fold_len _ _).trans (bytesOf_length a0)
   by_cases hlt:x < (a0.size:Int)
   ·have hlb:x < ((bytesOf a0).length:Int):=by rw [bytesOf_length];exact hlt
    have hc:=HM.out.cell x HX.out.1 (by rw [hlen];exact hlt)
    have hf:=HM.out.free x HX.out.1 (by rw [hlen];exact hlt)
    rw [fold_at _ x HX.out.1 hlb,rd_bytesOf] at hc
    have hst:=fold_step (bytesOf a0) x HX.out.1 hlb
    have hsm:=fold_same (bytesOf a0) x HX.out.1 hlb
    rw [rd_bytesOf] at hst hsm
    have hr:=bt_range a0 x
    have HR:=Aside0.mk hr
    obtain ⟨c,hcv⟩ : ∃ c,c=bt a0 x:=⟨_,rfl⟩
    rw [← hcv] at hc hst hsm hr
    have p1:(0 ≤ x)=True:=eq_true HX.out.1
    have q1:(x < (a0.size:Int))=True:=eq_true hlt
    have q2:decide (x < (a0.size:Int))=true:=decide_eq_true hlt
    have HLT:=Aside0.mk hlt
    have HST:=Aside0.mk hst
    have HSM:=Aside0.mk hsm
    have HRR:=Aside0.mk hr
    have HLN:=Aside0.mk hlen
    have HCV:=Aside0.mk hcv
    clear hlt hlb hst hsm hr hlen hcv
    have hw:Aside0 (wrap64 (x + 1)=x + 1):=⟨by have:=HX.out;unfold wrap64;omega⟩
    by_cases c1:65 ≤ c
    ·have c1b:decide (c ≥ 65)=true:=decide_eq_true c1
     have c1c:decide (65 ≤ c)=true:=decide_eq_true c1
     by_cases c2:c ≤ 90
     ·have c2b:decide (c ≤ 90)=true:=decide_eq_true c2
      have HC1:=Aside0.mk (And.intro c1 c2)
      go_wp2
      refine ⟨⟨x + 1,by rw [hw.out],⟨by have:=HX.out;omega,by have:=HLT.out;omega⟩,⟨?_⟩,⟨HB.out.setCell (Nat.le_refl _) _⟩⟩,?_⟩
      ·rw [← HST.out]
       have hv:foldC c=c + 97 - 65:=by unfold foldC;rw [if_pos HC1.out];omega
       rw [hv]
       exact HM.out.set x _
      ·have:=HX.out;have:=HLT.out;rw [hw.out];simp [intOf];omega
     ·have c2b:decide (c ≤ 90)=false:=decide_eq_false c2
      go_wp2
      refine ⟨⟨x + 1,by rw [hw.out],⟨by have:=HX.out;omega,by have:=HLT.out;omega⟩,⟨?_⟩,HB⟩,?_⟩
      ·rw [← HSM.out (if_neg (by omega))];exact HM.out
      ·have:=HX.out;have:=HLT.out;rw [hw.out];simp [intOf];omega
    ·have c1b:decide (c ≥ 65)=false:=decide_eq_false c1
     have c1c:decide (65 ≤ c)=false:=decide_eq_false c1
     go_wp2
     refine ⟨⟨x + 1,by rw [hw.out],⟨by have:=HX.out;omega,by have:=HLT.out;omega⟩,⟨?_⟩,HB⟩,?_⟩
     ·rw [← HSM.out (if_neg (by omega))];exact HM.out
     ·have:=HX.out;have:=HLT.out;rw [hw.out];simp [intOf];omega
   ·have he:x=(a0.size:Int):=by have:=HX.out;omega
    have hR:=HM.out.reads (by rw [hlen];omega)
    rw [hlen] at hR
    have hcv:=string_of_reads (P:=Tryd.prog) (src:=25) (dst:=9) (c:=grownCap w a0.size 0 5) Tryd.underlying25 Tryd.underlying5 Tryd.underlying9 hR
    rw [show ((bytesOf a0).take x.toNat).map foldC ++ (bytesOf a0).drop x.toNat=(bytesOf a0).map foldC by rw [List.take_of_length_le (by rw [bytesOf_length];omega),List.drop_of_length_le (by rw [bytesOf_length];omega),List.append_nil]] at hcv
    have q2:decide (x < (a0.size:Int))=false:=decide_eq_false hlt
    have HLN:=Aside0.mk hlen
    clear hlt he hlen hR
    go_wp2
    go_ret
    exact ⟨rfl,HB.out⟩
 ·rw [if_neg h0] at h
  cases h
def conf_Kept.f (a0:ByteArray):Option (Bool):=(sign_Fold.f a0).bind fun t257=>(if t257.toList=([104,111,115,116]:List UInt8) then (some true) else (if t257.toList=([99,111,110,116,101,110,116,45,108,101,110,103,116,104]:List UInt8) then (some true) else (if t257.toList=([116,114,97,110,115,102,101,114,45,101,110,99,111,100,105,110,103]:List UInt8) then (some true) else (if t257.toList=([99,111,110,110,101,99,116,105,111,110]:List UInt8) then (some true) else (if t257.toList=([107,101,101,112,45,97,108,105,118,101]:List UInt8) then (some true) else (if t257.toList=([112,114,111,120,121,45,99,111,110,110,101,99,116,105,111,110]:List UInt8) then (some true) else (if t257.toList=([116,101]:List UInt8) then (some true) else (if t257.toList=([116,114,97,105,108,101,114]:List UInt8) then (some true) else (if t257.toList=([117,112,103,114,97,100,101]:List UInt8) then (some true) else (if t257.toList=([101,120,112,101,99,116]:List UInt8) then (some true) else (if t257.toList=([118,105,97]:List UInt8) then (some true) else (some false))))))))))))
set_option maxHeartbeats 8000000 in
set_option maxRecDepth 100000 in
theorem conf_Kept.calls (a0:ByteArray) (r:Bool) (w:World) (h:conf_Kept.f a0=some r) :
  Calls Tryd.prog 27 #[.string a0] w fun e w' => e = .returned (.bool r)∧Below w.heap.size w w' := by
 have HB:=Aside0.mk (Below.refl w.heap.size w)
 have H:((sign_Fold.f a0).bind fun t26=>(if t26.toList=([104,111,115,116]:List UInt8) then (some true) else (if t26.toList=([99,111,110,116,101,110,116,45,108,101,110,103,116,104]:List UInt8) then (some true) else (if t26.toList=([116,114,97,110,115,102,101,114,45,101,110,99,111,100,105,110,103]:List UInt8) then (some true) else (if t26.toList=([99,111,110,110,101,99,116,105,111,110]:List UInt8) then (some true) else (if t26.toList=([107,101,101,112,45,97,108,105,118,101]:List UInt8) then (some true) else (if t26.toList=([112,114,111,120,121,45,99,111,110,110,101,99,116,105,111,110]:List UInt8) then (some true) else (if t26.toList=([116,101]:List UInt8) then (some true) else (if t26.toList=([116,114,97,105,108,101,114]:List UInt8) then (some true) else (if t26.toList=([117,112,103,114,97,100,101]:List UInt8) then (some true) else (if t26.toList=([101,120,112,101,99,116]:List UInt8) then (some true) else (if t26.toList=([118,105,97]:List UInt8) then (some true) else (some false)))))))))))))=some r:=h
 clear h
 replace H:=Option.bind_eq_some_iff.mp H
 obtain ⟨t26,A20,H⟩:=H
 replace H:(if t26.toList=([104,111,115,116]:List UInt8) then (some true) else (if t26.toList=([99,111,110,116,101,110,116,45,108,101,110,103,116,104]:List UInt8) then (some true) else (if t26.toList=([116,114,97,110,115,102,101,114,45,101,110,99,111,100,105,110,103]:List UInt8) then (some true) else (if t26.toList=([99,111,110,110,101,99,116,105,111,110]:List UInt8) then (some true) else (if t26.toList=([107,101,101,112,45,97,108,105,118,101]:List UInt8) then (some true) else (if t26.toList=([112,114,111,120,121,45,99,111,110,110,101,99,116,105,111,110]:List UInt8) then (some true) else (if t26.toList=([116,101]:List UInt8) then (some true) else (if t26.toList=([116,114,97,105,108,101,114]:List UInt8) then (some true) else (if t26.toList=([117,112,103,114,97,100,101]:List UInt8) then (some true) else (if t26.toList=([101,120,112,101,99,116]:List UInt8) then (some true) else (if t26.toList=([118,105,97]:List UInt8) then (some true) else (some false))))))))))))=some r:=H
 have A2:=Aside0.mk A20
 clear A20
 by_cases c3:t26.toList=([104,111,115,116]:List UInt8)
 ·rw [if_pos c3] at H
  have c3b0:(t26.toList == ([104,111,115,116]:List UInt8))=true:=beq_iff_eq.mpr c3
  have c3b1:(t26.toList != ([104,111,115,116]:List UInt8))=false:=bne_eq_false_iff_eq.mpr c3
  clear c3
  obtain rfl:=Option.some.inj H
  go_enter Tryd.func27,Tryd.ntmps27
  go_wp2_with (first|((with_reducible refine gate_callee (f:=29) rfl ?_);refine goesL_ (some 4) rfl rfl Tryd.func29 (by kernel_rfl) rfl #[.string a0] rfl (by (try simp only [List.map_toArray,List.map_cons,List.map_nil]);first|done|rfl|(simp only [List.length_drop,List.length_take];rfl)) ?_;(with_reducible refine (sign_Fold.calls a0 t26 _ A2.out).mono ?_);rintro e w4 ⟨rfl,hb⟩;(try clear A2);refine ⟨_,rfl,?_⟩;have n0_:=Aside0.mk (below_step (by repeat (first|(with_reducible first|exact HB.out|apply below_alloc|apply pw_below_drewN|apply below_drew1)|exact HB.out)) hb);clear HB;have HB:=n0_;clear n0_;(try clear hb);(try clear hb2);(try clear hk);(try clear hi)))
  go_ret
  exact ⟨by first|rfl|(simp [errW_none,errW_some] <;> rfl)|(simp [*,errW_none,errW_some] <;> rfl),by repeat (first|(with_reducible first|exact HB.out|apply below_alloc|apply pw_below_drewN|apply below_drew1)|exact HB.out)⟩
 ·rw [if_neg c3] at H
  have c3b0:(t26.toList == ([104,111,115,116]:List UInt8))=false:=beq_eq_false_iff_ne.mpr c3
  have c3b1:(t26.toList != ([104,111,115,116]:List UInt8))=true:=bne_iff_ne.mpr c3
  by_cases c5:t26.toList=([99,111,110,116,101,110,116,45,108,101,110,103,116,104]:List UInt8)
  ·rw [if_pos c5] at H
   have c5b0:(t26.toList == ([99,111,110,116,101,110,116,45,108,101,110,103,116,104]:List UInt8))=true:=beq_iff_eq.mpr c5
   have c5b1:(t26.toList != ([99,111,110,116,101,110,116,45,108,101,110,103,116,104]:List UInt8))=false:=bne_eq_false_iff_eq.mpr c5
   clear c5
   obtain rfl:=Option.some.inj H
   go_enter Tryd.func27,Tryd.ntmps27
   go_wp2_with (first|((with_reducible refine gate_callee (f:=29) rfl ?_);refine goesL_ (some 4) rfl rfl Tryd.func29 (by kernel_rfl) rfl #[.string a0] rfl (by (try simp only [List.map_toArray,List.map_cons,List.map_nil]);first|done|rfl|(simp only [List.length_drop,List.length_take];rfl)) ?_;(with_reducible refine (sign_Fold.calls a0 t26 _ A2.out).mono ?_);rintro e w6 ⟨rfl,hb⟩;(try clear A2);refine ⟨_,rfl,?_⟩;have n0_:=Aside0.mk (below_step (by repeat (first|(with_reducible first|exact HB.out|apply below_alloc|apply pw_below_drewN|apply below_drew1)|exact HB.out)) hb);clear HB;have HB:=n0_;clear n0_;(try clear hb);(try clear hb2);(try clear hk);(try clear hi)))
   go_ret
   exact ⟨by first|rfl|(simp [errW_none,errW_some] <;> rfl)|(simp [*,errW_none,errW_some] <;> rfl),by repeat (first|(with_reducible first|exact HB.out|apply below_alloc|apply pw_below_drewN|apply below_drew1)|exact HB.out)⟩
  ·rw [if_neg c5] at H
   have c5b0:(t26.toList == ([99,111,110,116,101,110,116,45,108,101,110,103,116,104]:List UInt8))=false:=beq_eq_false_iff_ne.mpr c5
   have c5b1:(t26.toList != ([99,111,110,116,101,110,116,45,108,101,110,103,116,104]:List UInt8))=true:=bne_iff_ne.mpr c5
   by_cases c7:t26.toList=([116,114,97,110,115,102,101,114,45,101,110,99,111,100,105,110,103]:List UInt8)
   ·rw [if_pos c7] at H
    have c7b0:(t26.toList == ([116,114,97,110,115,102,101,114,45,101,110,99,111,100,105,110,103]:List UInt8))=true:=beq_iff_eq.mpr c7
    have c7b1:(t26.toList != ([116,114,97,110,115,102,101,114,45,101,110,99,111,100,105,110,103]:List UInt8))=false:=bne_eq_false_iff_eq.mpr c7
    clear c7
    obtain rfl:=Option.some.inj H
    go_enter Tryd.func27,Tryd.ntmps27
    go_wp2_with (first|((with_reducible refine gate_callee (f:=29) rfl ?_);refine goesL_ (some 4) rfl rfl Tryd.func29 (by kernel_rfl) rfl #[.string a0] rfl (by (try simp only [List.map_toArray,List.map_cons,List.map_nil]);first|done|rfl|(simp only [List.length_drop,List.length_take];rfl)) ?_;(with_reducible refine (sign_Fold.calls a0 t26 _ A2.out).mono ?_);rintro e w8 ⟨rfl,hb⟩;(try clear A2);refine ⟨_,rfl,?_⟩;have n0_:=Aside0.mk (below_step (by repeat (first|(with_reducible first|exact HB.out|apply below_alloc|apply pw_below_drewN|apply below_drew1)|exact HB.out)) hb);clear HB;have HB:=n0_;clear n0_;(try clear hb);(try clear hb2);(try clear hk);(try clear hi)))
    go_ret
    exact ⟨by first|rfl|(simp [errW_none,errW_some] <;> rfl)|(simp [*,errW_none,errW_some] <;> rfl),by repeat (first|(with_reducible first|exact HB.out|apply below_alloc|apply pw_below_drewN|apply below_drew1)|exact HB.out)⟩
   ·rw [if_neg c7] at H
    have c7b0:(t26.toList == ([116,114,97,110,115,102,101,114,45,101,110,99,111,100,105,110,103]:List UInt8))=false:=beq_eq_false_iff_ne.mpr c7
    have c7b1:(t26.toList != ([116,114,97,110,115,102,101,114,45,101,110,99,111,100,105,110,103]:List UInt8))=true:=bne_iff_ne.mpr c7
    by_cases c9:t26.toList=([99,111,110,110,101,99,116,105,111,110]:List UInt8)
    ·rw [if_pos c9] at H
     have c9b0:(t26.toList == ([99,111,110,110,101,99,116,105,111,110]:List UInt8))=true:=beq_iff_eq.mpr c9
     have c9b1:(t26.toList != ([99,111,110,110,101,99,116,105,111,110]:List UInt8))=false:=bne_eq_false_iff_eq.mpr c9
     clear c9
     obtain rfl:=Option.some.inj H
     go_enter Tryd.func27,Tryd.ntmps27
     go_wp2_with (first|((with_reducible refine gate_callee (f:=29) rfl ?_);refine goesL_ (some 4) rfl rfl Tryd.func29 (by kernel_rfl) rfl #[.string a0] rfl (by (try simp only [List.map_toArray,List.map_cons,List.map_nil]);first|done|rfl|(simp only [List.length_drop,List.length_take];rfl)) ?_;(with_reducible refine (sign_Fold.calls a0 t26 _ A2.out).mono ?_);rintro e w10 ⟨rfl,hb⟩;(try clear A2);refine ⟨_,rfl,?_⟩;have n0_:=Aside0.mk (below_step (by repeat (first|(with_reducible first|exact HB.out|apply below_alloc|apply pw_below_drewN|apply below_drew1)|exact HB.out)) hb);clear HB;have HB:=n0_;clear n0_;(try clear hb);(try clear hb2);(try clear hk);(try clear hi)))
     go_ret
     exact ⟨by first|rfl|(simp [errW_none,errW_some] <;> rfl)|(simp [*,errW_none,errW_some] <;> rfl),by repeat (first|(with_reducible first|exact HB.out|apply below_alloc|apply pw_below_drewN|apply below_drew1)|exact HB.out)⟩
    ·rw [if_neg c9] at H
     have c9b0:(t26.toList == ([99,111,110,110,101,99,116,105,111,110]:List UInt8))=false:=beq_eq_false_iff_ne.mpr c9
     have c9b1:(t26.toList != ([99,111,110,110,101,99,116,105,111,110]:List UInt8))=true:=bne_iff_ne.mpr c9
     by_cases c11:t26.toList=([107,101,101,112,45,97,108,105,118,101]:List UInt8)
     ·rw [if_pos c11] at H
      have c11b0:(t26.toList == ([107,101,101,112,45,97,108,105,118,101]:List UInt8))=true:=beq_iff_eq.mpr c11
      have c11b1:(t26.toList != ([107,101,101,112,45,97,108,105,118,101]:List UInt8))=false:=bne_eq_false_iff_eq.mpr c11
      clear c11
      obtain rfl:=Option.some.inj H
      go_enter Tryd.func27,Tryd.ntmps27
      go_wp2_with (first|((with_reducible refine gate_callee (f:=29) rfl ?_);refine goesL_ (some 4) rfl rfl Tryd.func29 (by kernel_rfl) rfl #[.string a0] rfl (by (try simp only [List.map_toArray,List.map_cons,List.map_nil]);first|done|rfl|(simp only [List.length_drop,List.length_take];rfl)) ?_;(with_reducible refine (sign_Fold.calls a0 t26 _ A2.out).mono ?_);rintro e w12 ⟨rfl,hb⟩;(try clear A2);refine ⟨_,rfl,?_⟩;have n0_:=Aside0.mk (below_step (by repeat (first|(with_reducible first|exact HB.out|apply below_alloc|apply pw_below_drewN|apply below_drew1)|exact HB.out)) hb);clear HB;have HB:=n0_;clear n0_;(try clear hb);(try clear hb2);(try clear hk);(try clear hi)))
      go_ret
      exact ⟨by first|rfl|(simp [errW_none,errW_some] <;> rfl)|(simp [*,errW_none,errW_some] <;> rfl),by repeat (first|(with_reducible first|exact HB.out|apply below_alloc|apply pw_below_drewN|apply below_drew1)|exact HB.out)⟩
     ·rw [if_neg c11] at H
      have c11b0:(t26.toList == ([107,101,101,112,45,97,108,105,118,101]:List UInt8))=false:=beq_eq_false_iff_ne.mpr c11
      have c11b1:(t26.toList != ([107,101,101,112,45,97,108,105,118,101]:List UInt8))=true:=bne_iff_ne.mpr c11
      by_cases c13:t26.toList=([112,114,111,120,121,45,99,111,110,110,101,99,116,105,111,110]:List UInt8)
      ·rw [if_pos c13] at H
       have c13b0:(t26.toList == ([112,114,111,120,121,45,99,111,110,110,101,99,116,105,111,110]:List UInt8))=true:=beq_iff_eq.mpr c13
       have c13b1:(t26.toList != ([112,114,111,120,121,45,99,111,110,110,101,99,116,105,111,110]:List UInt8))=false:=bne_eq_false_iff_eq.mpr c13
       clear c13
       obtain rfl:=Option.some.inj H
       go_enter Tryd.func27,Tryd.ntmps27
       go_wp2_with (first|((with_reducible refine gate_callee (f:=29) rfl ?_);refine goesL_ (some 4) rfl rfl Tryd.func29 (by kernel_rfl) rfl #[.string a0] rfl (by (try simp only [List.map_toArray,List.map_cons,List.map_nil]);first|done|rfl|(simp only [List.length_drop,List.length_take];rfl)) ?_;(with_reducible refine (sign_Fold.calls a0 t26 _ A2.out).mono ?_);rintro e w14 ⟨rfl,hb⟩;(try clear A2);refine ⟨_,rfl,?_⟩;have n0_:=Aside0.mk (below_step (by repeat (first|(with_reducible first|exact HB.out|apply below_alloc|apply pw_below_drewN|apply below_drew1)|exact HB.out)) hb);clear HB;have HB:=n0_;clear n0_;(try clear hb);(try clear hb2);(try clear hk);(try clear hi)))
       go_ret
       exact ⟨by first|rfl|(simp [errW_none,errW_some] <;> rfl)|(simp [*,errW_none,errW_some] <;> rfl),by repeat (first|(with_reducible first|exact HB.out|apply below_alloc|apply pw_below_drewN|apply below_drew1)|exact HB.out)⟩
      ·rw [if_neg c13] at H
       have c13b0:(t26.toList == ([112,114,111,120,121,45,99,111,110,110,101,99,116,105,111,110]:List UInt8))=false:=beq_eq_false_iff_ne.mpr c13
       have c13b1:(t26.toList != ([112,114,111,120,121,45,99,111,110,110,101,99,116,105,111,110]:List UInt8))=true:=bne_iff_ne.mpr c13
       by_cases c15:t26.toList=([116,101]:List UInt8)
       ·rw [if_pos c15] at H
        have c15b0:(t26.toList == ([116,101]:List UInt8))=true:=beq_iff_eq.mpr c15
        have c15b1:(t26.toList != ([116,101]:List UInt8))=false:=bne_eq_false_iff_eq.mpr c15
        clear c15
        obtain rfl:=Option.some.inj H
        go_enter Tryd.func27,Tryd.ntmps27
        go_wp2_with (first|((with_reducible refine gate_callee (f:=29) rfl ?_);refine goesL_ (some 4) rfl rfl Tryd.func29 (by kernel_rfl) rfl #[.string a0] rfl (by (try simp only [List.map_toArray,List.map_cons,List.map_nil]);first|done|rfl|(simp only [List.length_drop,List.length_take];rfl)) ?_;(with_reducible refine (sign_Fold.calls a0 t26 _ A2.out).mono ?_);rintro e w16 ⟨rfl,hb⟩;(try clear A2);refine ⟨_,rfl,?_⟩;have n0_:=Aside0.mk (below_step (by repeat (first|(with_reducible first|exact HB.out|apply below_alloc|apply pw_below_drewN|apply below_drew1)|exact HB.out)) hb);clear HB;have HB:=n0_;clear n0_;(try clear hb);(try clear hb2);(try clear hk);(try clear hi)))
        go_ret
        exact ⟨by first|rfl|(simp [errW_none,errW_some] <;> rfl)|(simp [*,errW_none,errW_some] <;> rfl),by repeat (first|(with_reducible first|exact HB.out|apply below_alloc|apply pw_below_drewN|apply below_drew1)|exact HB.out)⟩
       ·rw [if_neg c15] at H
        have c15b0:(t26.toList == ([116,101]:List UInt8))=false:=beq_eq_false_iff_ne.mpr c15
        have c15b1:(t26.toList != ([116,101]:List UInt8))=true:=bne_iff_ne.mpr c15
        by_cases c17:t26.toList=([116,114,97,105,108,101,114]:List UInt8)
        ·rw [if_pos c17] at H
         have c17b0:(t26.toList == ([116,114,97,105,108,101,114]:List UInt8))=true:=beq_iff_eq.mpr c17
         have c17b1:(t26.toList != ([116,114,97,105,108,101,114]:List UInt8))=false:=bne_eq_false_iff_eq.mpr c17
         clear c17
         obtain rfl:=Option.some.inj H
         go_enter Tryd.func27,Tryd.ntmps27
         go_wp2_with (first|((with_reducible refine gate_callee (f:=29) rfl ?_);refine goesL_ (some 4) rfl rfl Tryd.func29 (by kernel_rfl) rfl #[.string a0] rfl (by (try simp only [List.map_toArray,List.map_cons,List.map_nil]);first|done|rfl|(simp only [List.length_drop,List.length_take];rfl)) ?_;(with_reducible refine (sign_Fold.calls a0 t26 _ A2.out).mono ?_);rintro e w18 ⟨rfl,hb⟩;(try clear A2);refine ⟨_,rfl,?_⟩;have n0_:=Aside0.mk (below_step (by repeat (first|(with_reducible first|exact HB.out|apply below_alloc|apply pw_below_drewN|apply below_drew1)|exact HB.out)) hb);clear HB;have HB:=n0_;clear n0_;(try clear hb);(try clear hb2);(try clear hk);(try clear hi)))
         go_ret
         exact ⟨by first|rfl|(simp [errW_none,errW_some] <;> rfl)|(simp [*,errW_none,errW_some] <;> rfl),by repeat (first|(with_reducible first|exact HB.out|apply below_alloc|apply pw_below_drewN|apply below_drew1)|exact HB.out)⟩
        ·rw [if_neg c17] at H
         have c17b0:(t26.toList == ([116,114,97,105,108,101,114]:List UInt8))=false:=beq_eq_false_iff_ne.mpr c17
         have c17b1:(t26.toList != ([116,114,97,105,108,101,114]:List UInt8))=true:=bne_iff_ne.mpr c17
         by_cases c19:t26.toList=([117,112,103,114,97,100,101]:List UInt8)
         ·rw [if_pos c19] at H
          have c19b0:(t26.toList == ([117,112,103,114,97,100,101]:List UInt8))=true:=beq_iff_eq.mpr c19
          have c19b1:(t26.toList != ([117,112,103,114,97,100,101]:List UInt8))=false:=bne_eq_false_iff_eq.mpr c19
          clear c19
          obtain rfl:=Option.some.inj H
          go_enter Tryd.func27,Tryd.ntmps27
          go_wp2_with (first|((with_reducible refine gate_callee (f:=29) rfl ?_);refine goesL_ (some 4) rfl rfl Tryd.func29 (by kernel_rfl) rfl #[.string a0] rfl (by (try simp only [List.map_toArray,List.map_cons,List.map_nil]);first|done|rfl|(simp only [List.length_drop,List.length_take];rfl)) ?_;(with_reducible refine (sign_Fold.calls a0 t26 _ A2.out).mono ?_);rintro e w20 ⟨rfl,hb⟩;(try clear A2);refine ⟨_,rfl,?_⟩;have n0_:=Aside0.mk (below_step (by repeat (first|(with_reducible first|exact HB.out|apply below_alloc|apply pw_below_drewN|apply below_drew1)|exact HB.out)) hb);clear HB;have HB:=n0_;clear n0_;(try clear hb);(try clear hb2);(try clear hk);(try clear hi)))
          go_ret
          exact ⟨by first|rfl|(simp [errW_none,errW_some] <;> rfl)|(simp [*,errW_none,errW_some] <;> rfl),by repeat (first|(with_reducible first|exact HB.out|apply below_alloc|apply pw_below_drewN|apply below_drew1)|exact HB.out)⟩
         ·rw [if_neg c19] at H
          have c19b0:(t26.toList == ([117,112,103,114,97,100,101]:List UInt8))=false:=beq_eq_false_iff_ne.mpr c19
          have c19b1:(t26.toList != ([117,112,103,114,97,100,101]:List UInt8))=true:=bne_iff_ne.mpr c19
          by_cases c21:t26.toList=([101,120,112,101,99,116]:List UInt8)
          ·rw [if_pos c21] at H
           have c21b0:(t26.toList == ([101,120,112,101,99,116]:List UInt8))=true:=beq_iff_eq.mpr c21
           have c21b1:(t26.toList != ([101,120,112,101,99,116]:List UInt8))=false:=bne_eq_false_iff_eq.mpr c21
           clear c21
           obtain rfl:=Option.some.inj H
           go_enter Tryd.func27,Tryd.ntmps27
           go_wp2_with (first|((with_reducible refine gate_callee (f:=29) rfl ?_);refine goesL_ (some 4) rfl rfl Tryd.func29 (by kernel_rfl) rfl #[.string a0] rfl (by (try simp only [List.map_toArray,List.map_cons,List.map_nil]);first|done|rfl|(simp only [List.length_drop,List.length_take];rfl)) ?_;(with_reducible refine (sign_Fold.calls a0 t26 _ A2.out).mono ?_);rintro e w22 ⟨rfl,hb⟩;(try clear A2);refine ⟨_,rfl,?_⟩;have n0_:=Aside0.mk (below_step (by repeat (first|(with_reducible first|exact HB.out|apply below_alloc|apply pw_below_drewN|apply below_drew1)|exact HB.out)) hb);clear HB;have HB:=n0_;clear n0_;(try clear hb);(try clear hb2);(try clear hk);(try clear hi)))
           go_ret
           exact ⟨by first|rfl|(simp [errW_none,errW_some] <;> rfl)|(simp [*,errW_none,errW_some] <;> rfl),by repeat (first|(with_reducible first|exact HB.out|apply below_alloc|apply pw_below_drewN|apply below_drew1)|exact HB.out)⟩
          ·rw [if_neg c21] at H
           have c21b0:(t26.toList == ([101,120,112,101,99,116]:List UInt8))=false:=beq_eq_false_iff_ne.mpr c21
           have c21b1:(t26.toList != ([101,120,112,101,99,116]:List UInt8))=true:=bne_iff_ne.mpr c21
           by_cases c23:t26.toList=([118,105,97]:List UInt8)
           ·rw [if_pos c23] at H
            have c23b0:(t26.toList == ([118,105,97]:List UInt8))=true:=beq_iff_eq.mpr c23
            have c23b1:(t26.toList != ([118,105,97]:List UInt8))=false:=bne_eq_false_iff_eq.mpr c23
            clear c23
            obtain rfl:=Option.some.inj H
            go_enter Tryd.func27,Tryd.ntmps27
            go_wp2_with (first|((with_reducible refine gate_callee (f:=29) rfl ?_);refine goesL_ (some 4) rfl rfl Tryd.func29 (by kernel_rfl) rfl #[.string a0] rfl (by (try simp only [List.map_toArray,List.map_cons,List.map_nil]);first|done|rfl|(simp only [List.length_drop,List.length_take];rfl)) ?_;(with_reducible refine (sign_Fold.calls a0 t26 _ A2.out).mono ?_);rintro e w24 ⟨rfl,hb⟩;(try clear A2);refine ⟨_,rfl,?_⟩;have n0_:=Aside0.mk (below_step (by repeat (first|(with_reducible first|exact HB.out|apply below_alloc|apply pw_below_drewN|apply below_drew1)|exact HB.out)) hb);clear HB;have HB:=n0_;clear n0_;(try clear hb);(try clear hb2);(try clear hk);(try clear hi)))
            go_ret
            exact ⟨by first|rfl|(simp [errW_none,errW_some] <;> rfl)|(simp [*,errW_none,errW_some] <;> rfl),by repeat (first|(with_reducible first|exact HB.out|apply below_alloc|apply pw_below_drewN|apply below_drew1)|exact HB.out)⟩
           ·rw [if_neg c23] at H
            have c23b0:(t26.toList == ([118,105,97]:List UInt8))=false:=beq_eq_false_iff_ne.mpr c23
            have c23b1:(t26.toList != ([118,105,97]:List UInt8))=true:=bne_iff_ne.mpr c23
            obtain rfl:=Option.some.inj H
            go_enter Tryd.func27,Tryd.ntmps27
            go_wp2_with (first|((with_reducible refine gate_callee (f:=29) rfl ?_);refine goesL_ (some 4) rfl rfl Tryd.func29 (by kernel_rfl) rfl #[.string a0] rfl (by (try simp only [List.map_toArray,List.map_cons,List.map_nil]);first|done|rfl|(simp only [List.length_drop,List.length_take];rfl)) ?_;(with_reducible refine (sign_Fold.calls a0 t26 _ A2.out).mono ?_);rintro e w25 ⟨rfl,hb⟩;(try clear A2);refine ⟨_,rfl,?_⟩;have n0_:=Aside0.mk (below_step (by repeat (first|(with_reducible first|exact HB.out|apply below_alloc|apply pw_below_drewN|apply below_drew1)|exact HB.out)) hb);clear HB;have HB:=n0_;clear n0_;(try clear hb);(try clear hb2);(try clear hk);(try clear hi)))
            go_ret
            exact ⟨by first|rfl|(simp [errW_none,errW_some] <;> rfl)|(simp [*,errW_none,errW_some] <;> rfl),by repeat (first|(with_reducible first|exact HB.out|apply below_alloc|apply pw_below_drewN|apply below_drew1)|exact HB.out)⟩
def sign_Same.f (a0:ByteArray) (a1:ByteArray):Option (Bool):=if (a0.size:Int)=(a1.size:Int) then ((sign_Fold.f a0).bind fun t126=>((sign_Fold.f a1).bind fun t127=>(some (t126.toList == t127.toList)))) else (some false)
set_option maxHeartbeats 8000000 in
set_option maxRecDepth 100000 in
theorem sign_Same.calls (a0:ByteArray) (a1:ByteArray) (r:Bool) (w:World) (h:sign_Same.f a0 a1=some r) :
  Calls Tryd.prog 62 #[.string a0,.string a1] w fun e w' => e = .returned (.bool r)∧Below w.heap.size w w' := by
 have HB:=Aside0.mk (Below.refl w.heap.size w)
 have H:(if (a0.size:Int)=(a1.size:Int) then ((sign_Fold.f a0).bind fun t126=>((sign_Fold.f a1).bind fun t127=>(some (t126.toList == t127.toList)))) else (some false))=some r:=h
 clear h
 by_cases c3:(a0.size:Int)=(a1.size:Int)
 ·rw [if_pos c3] at H
  have c3b0:((a0.size:Int) == (a1.size:Int))=true:=beq_iff_eq.mpr c3
  have c3b1:((a0.size:Int) != (a1.size:Int))=false:=bne_eq_false_iff_eq.mpr c3
  have c3b2:(a0.size == a1.size)=true:=by first|simpa using c3|(simp at c3 ⊢;omega)
  clear c3
  replace H:=Option.bind_eq_some_iff.mp H
  obtain ⟨t126,A40,H⟩:=H
  replace H:((sign_Fold.f a1).bind fun t127=>(some (t126.toList == t127.toList)))=some r:=H
  have A4:=Aside0.mk A40
  clear A40
  replace H:=Option.bind_eq_some_iff.mp H
  obtain ⟨t127,A50,H⟩:=H
  replace H:(some (t126.toList == t127.toList))=some r:=H
  have A5:=Aside0.mk A50
  clear A50
  obtain rfl:=Option.some.inj H
  go_enter Tryd.func62,Tryd.ntmps62
  go_wp2_with (first|(go_at_call 29;(with_reducible refine (sign_Fold.calls a0 t126 _ A4.out).mono ?_);rintro e w6 ⟨rfl,hb⟩;(try clear A4);have n0_:=Aside0.mk (below_step (by repeat (first|(with_reducible first|exact HB.out|apply below_alloc|apply pw_below_drewN|apply below_drew1)|exact HB.out)) hb);clear HB;have HB:=n0_;clear n0_;(try clear hb);(try clear hb2);(try clear hk);(try clear hi))|(go_at_call 29;(with_reducible refine (sign_Fold.calls a1 t127 _ A5.out).mono ?_);rintro e w7 ⟨rfl,hb⟩;(try clear A5);have n0_:=Aside0.mk (below_step (by repeat (first|(with_reducible first|exact HB.out|apply below_alloc|apply pw_below_drewN|apply below_drew1)|exact HB.out)) hb);clear HB;have HB:=n0_;clear n0_;(try clear hb);(try clear hb2);(try clear hk);(try clear hi)))
  go_ret
  exact ⟨by first|rfl|(simp [errW_none,errW_some] <;> rfl)|(simp [*,errW_none,errW_some] <;> rfl),by repeat (first|(with_reducible first|exact HB.out|apply below_alloc|apply pw_below_drewN|apply below_drew1)|exact HB.out)⟩
 ·rw [if_neg c3] at H
  have c3b0:((a0.size:Int) == (a1.size:Int))=false:=beq_eq_false_iff_ne.mpr c3
  have c3b1:((a0.size:Int) != (a1.size:Int))=true:=bne_iff_ne.mpr c3
  have c3b2:(a0.size == a1.size)=false:=by first|simpa using c3|(simp at c3 ⊢;omega)
  obtain rfl:=Option.some.inj H
  go_enter Tryd.func62,Tryd.ntmps62
  go_wp2
  go_ret
  exact ⟨by first|rfl|(simp [errW_none,errW_some] <;> rfl)|(simp [*,errW_none,errW_some] <;> rfl),by repeat (first|(with_reducible first|exact HB.out|apply below_alloc|apply pw_below_drewN|apply below_drew1)|exact HB.out)⟩
/-- The place of the first that a test takes,from a place on: -1: none. -/
def idxO {α:Type} (q:α → Option Bool):List α → Int → Option Int
 | [],_=>some (-1)
 | x :: r,i=>(q x).bind fun b=>if b=true then some i else idxO q r (i + 1)
/-- Does a test take one of them? -/
def anyO {α:Type} (q:α → Option Bool):List α → Option Bool
 | []=>some false
 | x :: r=>(q x).bind fun b=>if b=true then some true else anyO q r
theorem idxO_any {α:Type} (q:α → Option Bool) : ∀ (xs:List α) (i:Int) (b:Bool),0 ≤ i → anyO q xs=some b → ∃ j,idxO q xs i=some j∧decide (0 ≤ j)=b
 | [],i,b,_,h=>⟨-1,rfl,by simp only [anyO,Option.some.injEq] at h;rw [← h];rfl⟩
 | x :: r,i,b,hi,h=>by
  simp only [anyO] at h
  obtain ⟨c,hc,h⟩:=Option.bind_eq_some_iff.1 h
  simp only [idxO,hc,Option.bind_some]
  cases c
  ·simp only [Bool.false_eq_true,if_false] at h ⊢
   exact idxO_any q r (i + 1) b (by omega) h
  ·simp only [if_true,Option.some.injEq] at h ⊢
   exact ⟨i,rfl,by rw [← h];exact decide_eq_true hi⟩
theorem sl_base {w w1:World} {b g:Nat} (hg:b ≤ g) (h:Below g w w1):Below b w w1:=⟨h.os,h.tape,h.output,h.size,fun i hi=>h.block i (Nat.lt_of_lt_of_le hi hg)⟩
/-- What is asked of a test that is handed over: its answer,in every later world. -/
def TestOf (g:Nat) (lb:Array Value) (enc:ByteArray → Value) (q:ByteArray → Option Bool) (w:World):Prop :=
 ∀ (W:World) (x:ByteArray) (b:Bool),Below w.heap.size w W → q x=some b → Calls Tryd.prog g (#[enc x] ++ lb) W fun e w' => e = .returned (.bool b)∧Below W.heap.size W w'
set_option maxHeartbeats 4000000 in
set_option maxRecDepth 100000 in
theorem slices_IndexFunc_string_string.callsOf (q:ByteArray → Option Bool) (g:Nat) (lb:Array Value) (eg : ∀ args w,(callFunc g args).run Tryd.prog w = .ok (.enter g args) w) (A0:Option Addr) (c0:Nat) (l0:List ByteArray) (r:Int) (w:World) (hr0:Kd.C Kd.string w A0 l0.length l0) (hc0:l0.length ≤ c0)
  (hq:TestOf g lb Value.string q w) (h:idxO q l0 0=some r) :
  Calls Tryd.prog 89 #[.slice A0 l0.length c0,.func (.func g) #[] lb] w fun e w' => e = .returned (.int .i64 r)∧Below w.heap.size w w' := by
 have HR:=Aside0.mk hr0
 have HQ:=Aside0.mk hq
 have H0:=Aside0.mk (show idxO q (l0.drop (0:Int).toNat) 0=some r from h)
 have HM:=Aside0.mk (show l0.length ≤ 9223372036854775807 from hr0.2.1)
 clear hr0 hq h
 go_enter Tryd.func89,Tryd.ntmps89
 go_wp2
 go_loopg [5,8] l0.length (fun kq _ v8 wr => ∃ (x8:Int),v8 = .int .i64 x8∧Aside0 (0 ≤ x8∧x8 ≤ l0.length∧(l0.length:Int) - x8 ≤ kq)∧Aside0 (Below w.heap.size w wr)∧Aside0 (idxO q (l0.drop x8.toNat) x8=some r))
 case atStart=>exact ⟨0,rfl,⟨by omega⟩,⟨Below.refl _ w⟩,H0⟩
 case round =>
  obtain ⟨x8,rfl,HX,BW,HH⟩:=hrel
  clear H0
  by_cases c4:x8 < (l0.length:Int)
  ·have c4b0:decide (x8 < (l0.length:Int))=true:=decide_eq_true c4
   have hx:=HH.out
   have hlt:x8.toNat < l0.length:=by have:=HX.out;omega
   rw [List.drop_eq_getElem_cons hlt,idxO] at hx
   obtain ⟨b,hb,hx⟩:=Option.bind_eq_some_iff.1 hx
   have hrd:rdOf ByteArray.empty l0 x8=l0[x8.toNat]:=by simp [rdOf,List.getD_eq_getElem?_getD,List.getElem?_eq_getElem hlt]
   have hcall:=HQ.out wr l0[x8.toNat] b BW.out hb
   rw [← hrd] at hcall
   obtain ⟨ad,he,hcell⟩:=Kd.at_string HR.out x8 HX.out.1 c4
   replace hcell:=(BW.out.cell (World.block_lt_of_cell? w _ hcell)).trans hcell
   obtain ⟨y,hy⟩ : ∃ y,rdOf ByteArray.empty l0 x8=y:=⟨_,rfl⟩
   rw [hy] at hcall hcell
   have HCALL:=Aside0.mk hcall
   have HN:=Aside0.mk hx
   have p8:(0 ≤ x8)=True:=eq_true HX.out.1
   have q8:(x8 < (l0.length:Int))=True:=eq_true c4
   clear hx hb hrd HH hy hcall c4
   subst he
   cases b with
   | true =>
    go_wp2_with (go_at_fn g;refine HCALL.out.mono ?_;rintro e w' ⟨rfl,hb'⟩)
    go_ret
    have hx:=HN.out
    simp only [if_true,Option.some.injEq] at hx
    subst hx
    exact ⟨by first|rfl|(simp;done),BW.out.trans (sl_base (Below.size BW.out) hb')⟩
   | false =>
    go_wp2_with (go_at_fn g;refine HCALL.out.mono ?_;rintro e w' ⟨rfl,hb'⟩)
    go_roundg (gk - 1)
    case measure=>have:=HX.out;have:=of_eq_true q8;omega
    case rel =>
     have hx:=HN.out
     simp only [Bool.false_eq_true,if_false] at hx
     have hx8:=HX.out
     have hq8:=of_eq_true q8
     have hw:wrap64 (x8 + 1)=x8 + 1:=by have:=HM.out;unfold wrap64;omega
     refine ⟨wrap64 (x8 + 1),rfl,⟨by rw [hw];omega⟩,⟨BW.out.trans (sl_base (Below.size BW.out) hb')⟩,⟨?_⟩⟩
     rw [hw,show (x8 + 1).toNat=x8.toNat + 1 by omega]
     exact hx
  ·have c4b0:decide (x8 < (l0.length:Int))=false:=decide_eq_false c4
   have hx:=HH.out
   rw [List.drop_of_length_le (by have:=HX.out;omega),idxO] at hx
   injection hx with hx
   clear c4
   go_wp2
   go_ret
   subst hx
   exact ⟨by first|rfl|(simp;done),BW.out⟩
set_option maxHeartbeats 4000000 in
set_option maxRecDepth 100000 in
theorem field_Has_1.callsOf (B:Nat) (part:ByteArray) (w:World) (hc:w.cell? ⟨B,0,none⟩=some (.string part)):TestOf 61 #[.pointer (some ⟨B,0,none⟩)] Value.string (fun p=>sign_Same.f p part) w:=fun W x b hb h=>by
 have hB:B < w.heap.size:=World.block_lt_of_cell? w _ hc
 have hcell:W.cell? ⟨B,0,none⟩=some (.string part):=(hb.cell (p:=⟨B,0,none⟩) hB).trans hc
 have HS:=Aside0.mk h
 clear hc h hb
 show Calls Tryd.prog 61 #[.string x,.pointer (some ⟨B,0,none⟩)] W _
 go_enter Tryd.func61,Tryd.ntmps61
 go_wp2_with (go_at_call 62;refine (sign_Same.calls x part b W HS.out).mono ?_;rintro e w' ⟨rfl,hb'⟩)
 go_ret
 exact ⟨rfl,hb'⟩
/-- The reader's block: its bytes,its place,and whether more are needed. -/
def Rdr (w:World) (g:Nat) (A:Option Addr) (n c:Nat) (p:Int) (m:Bool):Prop:=w.heap[g]? = some (.cells #[.slice A n c,.int .i64 p,.bool m] 55 (0,0))
theorem keep_trans {w w1 w2:World} {g:Nat} (h:KeepBut w w1 g none) (k:KeepBut w1 w2 g none):KeepBut w w2 g none :=
 ⟨Nat.le_trans h.1 k.1,fun i hi hg hr=>(k.2 i (Nat.lt_of_lt_of_le hi h.1) hg hr).trans (h.2 i hi hg hr)⟩
theorem keep_below {w w1:World} (g:Nat) (h:Below w.heap.size w w1):KeepBut w w1 g none:=⟨h.size,fun i hi _ _=>h.block i hi⟩
theorem below_less {w w1:World} {g:Nat} (hg:g ≤ w.heap.size) (h:Below w.heap.size w w1):Below g w w1:=⟨h.os,h.tape,h.output,h.size,fun b hb=>h.block b (Nat.lt_of_lt_of_le hb hg)⟩
theorem below_base {w w1:World} {b g:Nat} (hg:b ≤ g) (h:Below g w w1):Below b w w1:=⟨h.os,h.tape,h.output,h.size,fun i hi=>h.block i (Nat.lt_of_lt_of_le hi hg)⟩
/-- What a call of the reader's has turned: its own block alone;new blocks. -/
def Went (w w' : World) (g:Nat) (A:Option Addr) (n c:Nat) (p:Int) (m:Bool):Prop:=Rdr w' g A n c p m∧Below g w w' ∧ KeepBut w w' g none
theorem Went.step {w w1 w2:World} {g:Nat} {A:Option Addr} {n c:Nat} {p:Int} {m:Bool} (h:Went w w1 g A n c p m) (hb:Below w1.heap.size w1 w2):Went w w2 g A n c p m :=
 ⟨blk_below h.1 hb,h.2.1.trans (below_less (Nat.le_of_lt (blk_lt h.1)) hb),keep_trans h.2.2 (keep_below g hb)⟩
theorem Went.place {w w1:World} {g:Nat} {A:Option Addr} {n c:Nat} {p:Int} {m:Bool} (h:Went w w1 g A n c p m):w1.cell? ⟨g,1,none⟩=some (.int .i64 p):=(blk_cell h.1 1).trans rfl
theorem Went.bytes {w w1:World} {g:Nat} {A:Option Addr} {n c:Nat} {p:Int} {m:Bool} (h:Went w w1 g A n c p m):w1.cell? ⟨g,0,none⟩=some (.slice A n c):=(blk_cell h.1 0).trans rfl
end Go.Proofs.YtfjeinnemimjoaaDoor.P
namespace Go.Proofs
open Go.Shelf
def Tryd.lays160_ren : Go.Shelf.Ren := ⟨fun | 160 => 103 | 232 => 81 | 231 => 118 | 227 => 82 | 234 => 83 | 233 => 119 | 236 => 84 | 235 => 120 | 228 => 100 | 271 => 101 | 151 => 102 | 197 => 116 | 120 => 115 | 152 => 117 | 260 => 131 | 137 => 99 | 119 => 132 | 224 => 113 | 225 => 112 | 217 => 111 | 266 => 129 | n => n, fun | 9 => 9 | 4 => 4 | 3 => 3 | 5 => 5 | 117 => 115 | 116 => 114 | 0 => 0 | 124 => 118 | 21 => 21 | 105 => 128 | 46 => 139 | 119 => 153 | 139 => 156 | 138 => 155 | n => n, fun | 3 => 2 | 4 => 3 | n => n⟩
theorem Tryd.lays160 : Go.Proofs.Lays.n160 Tryd.prog Tryd.lays160_ren := {
  mixed := by kernel_rfl
  f119 := Tryd.func132.trans (congrArg some (by kernel_rfl))
  f120 := Tryd.func115.trans (congrArg some (by kernel_rfl))
  f137 := Tryd.func99.trans (congrArg some (by kernel_rfl))
  f151 := Tryd.func102.trans (congrArg some (by kernel_rfl))
  f152 := Tryd.func117.trans (congrArg some (by kernel_rfl))
  f160 := Tryd.func103.trans (congrArg some (by kernel_rfl))
  f197 := Tryd.func116.trans (congrArg some (by kernel_rfl))
  f217 := Tryd.func111.trans (congrArg some (by kernel_rfl))
  f224 := Tryd.func113.trans (congrArg some (by kernel_rfl))
  f225 := Tryd.func112.trans (congrArg some (by kernel_rfl))
  f227 := Tryd.func82.trans (congrArg some (by kernel_rfl))
  f228 := Tryd.func100.trans (congrArg some (by kernel_rfl))
  f231 := Tryd.func118.trans (congrArg some (by kernel_rfl))
  f232 := Tryd.func81.trans (congrArg some (by kernel_rfl))
  f233 := Tryd.func119.trans (congrArg some (by kernel_rfl))
  f234 := Tryd.func83.trans (congrArg some (by kernel_rfl))
  f235 := Tryd.func120.trans (congrArg some (by kernel_rfl))
  f236 := Tryd.func84.trans (congrArg some (by kernel_rfl))
  f260 := Tryd.func131.trans (congrArg some (by kernel_rfl))
  f266 := Tryd.func129.trans (congrArg some (by kernel_rfl))
  f271 := Tryd.func101.trans (congrArg some (by kernel_rfl))
  t0 := Tryd.underlying0
  a0 := Tryd.isAgg0
  z0 := Tryd.sizeOf0
  v0 := Tryd.zeroValue0
  t3 := Tryd.underlying3
  a3 := Tryd.isAgg3
  z3 := Tryd.sizeOf3
  v3 := Tryd.zeroValue3
  t4 := Tryd.underlying4
  a4 := Tryd.isAgg4
  z4 := Tryd.sizeOf4
  v4 := Tryd.zeroValue4
  t5 := Tryd.underlying5
  a5 := Tryd.isAgg5
  z5 := Tryd.sizeOf5
  v5 := Tryd.zeroValue5
  t9 := Tryd.underlying9
  a9 := Tryd.isAgg9
  z9 := Tryd.sizeOf9
  v9 := Tryd.zeroValue9
  t21 := Tryd.underlying21
  a21 := Tryd.isAgg21
  z21 := Tryd.sizeOf21
  v21 := Tryd.zeroValue21
  t46 := Tryd.underlying139
  a46 := Tryd.isAgg139
  z46 := Tryd.sizeOf139
  v46 := Tryd.zeroValue139
  t105 := Tryd.underlying128
  a105 := Tryd.isAgg128
  z105 := Tryd.sizeOf128
  v105 := Tryd.zeroValue128
  t116 := Tryd.underlying114
  a116 := Tryd.isAgg114
  z116 := Tryd.sizeOf114
  t117 := Tryd.underlying115
  a117 := Tryd.isAgg115
  z117 := Tryd.sizeOf115
  v117 := Tryd.zeroValue115
  t119 := Tryd.underlying153
  a119 := Tryd.isAgg153
  z119 := Tryd.sizeOf153
  t124 := Tryd.underlying118
  a124 := Tryd.isAgg118
  z124 := Tryd.sizeOf118
  v124 := Tryd.zeroValue118
  t138 := Tryd.underlying155
  a138 := Tryd.isAgg155
  z138 := Tryd.sizeOf155
  v138 := Tryd.zeroValue155
  t139 := Tryd.underlying156
  a139 := Tryd.isAgg156
  z139 := Tryd.sizeOf156
  v139 := Tryd.zeroValue156
  g3 := by kernel_rfl
  g4 := by kernel_rfl }
def Tryd.lays137_ren : Go.Shelf.Ren := ⟨fun | 137 => 99 | 217 => 111 | 266 => 129 | n => n, fun | 9 => 9 | 5 => 5 | 3 => 3 | n => n, fun | n => n⟩
theorem Tryd.lays137 : Go.Proofs.Lays.n137 Tryd.prog Tryd.lays137_ren := {
  mixed := by kernel_rfl
  f137 := Tryd.func99.trans (congrArg some (by kernel_rfl))
  f217 := Tryd.func111.trans (congrArg some (by kernel_rfl))
  f266 := Tryd.func129.trans (congrArg some (by kernel_rfl))
  t3 := Tryd.underlying3
  a3 := Tryd.isAgg3
  z3 := Tryd.sizeOf3
  v3 := Tryd.zeroValue3
  t5 := Tryd.underlying5
  a5 := Tryd.isAgg5
  z5 := Tryd.sizeOf5
  v5 := Tryd.zeroValue5
  t9 := Tryd.underlying9
  a9 := Tryd.isAgg9
  z9 := Tryd.sizeOf9
  v9 := Tryd.zeroValue9 }
open Go.RowKit in
/-- strings.IndexByte: "IndexByte returns the index of the first instance of c in s, or -1 if c is not present in s.": IT RETURNS 'Lib.indexByte s c'; the world is as it was. (LAID: no walk: one application.) -/
theorem Tryd.strings_IndexByte (s : ByteArray) (c : Int) (w : World) :
    Calls Tryd.prog 99 #[.string s, .int .u8 c] w fun e w' => e = .returned (.int .i64 (Lib.indexByte s.data.toList c.toNat.toUInt8)) ∧ w' = w := Any.strings_IndexByte Tryd.lays137 s c w
def Tryd.laysM246_ren : Go.Shelf.Ren := ⟨fun | 246 => 97 | 283 => 107 | 284 => 108 | 285 => 109 | 286 => 110 | 129 => 125 | 317 => 124 | 318 => 126 | 319 => 127 | 320 => 128 | 337 => 136 | 338 => 137 | n => n, fun | 2 => 2 | 3 => 3 | 9 => 9 | 4 => 4 | 171 => 132 | 0 => 0 | 53 => 133 | 37 => 25 | 5 => 5 | 173 => 136 | 212 => 143 | 51 => 144 | 20 => 20 | 213 => 145 | 46 => 139 | 232 => 157 | 233 => 158 | n => n, fun | 17 => 1 | 18 => 4 | 19 => 5 | n => n⟩
theorem Tryd.laysM246 : Go.Proofs.LaysM.n246 Tryd.prog Tryd.laysM246_ren := {
  mixed := by kernel_rfl
  f129 := Tryd.func125.trans (congrArg some (by kernel_rfl))
  f246 := Tryd.func97.trans (congrArg some (by kernel_rfl))
  f283 := Tryd.func107.trans (congrArg some (by kernel_rfl))
  f284 := Tryd.func108.trans (congrArg some (by kernel_rfl))
  f285 := Tryd.func109.trans (congrArg some (by kernel_rfl))
  f286 := Tryd.func110.trans (congrArg some (by kernel_rfl))
  f317 := Tryd.func124.trans (congrArg some (by kernel_rfl))
  f318 := Tryd.func126.trans (congrArg some (by kernel_rfl))
  f319 := Tryd.func127.trans (congrArg some (by kernel_rfl))
  f320 := Tryd.func128.trans (congrArg some (by kernel_rfl))
  f337 := Tryd.func136.trans (congrArg some (by kernel_rfl))
  f338 := Tryd.func137.trans (congrArg some (by kernel_rfl))
  t0 := Tryd.underlying0
  a0 := Tryd.isAgg0
  z0 := Tryd.sizeOf0
  v0 := Tryd.zeroValue0
  t2 := Tryd.underlying2
  a2 := Tryd.isAgg2
  z2 := Tryd.sizeOf2
  v2 := Tryd.zeroValue2
  t3 := Tryd.underlying3
  a3 := Tryd.isAgg3
  z3 := Tryd.sizeOf3
  v3 := Tryd.zeroValue3
  t4 := Tryd.underlying4
  a4 := Tryd.isAgg4
  z4 := Tryd.sizeOf4
  v4 := Tryd.zeroValue4
  t5 := Tryd.underlying5
  a5 := Tryd.isAgg5
  z5 := Tryd.sizeOf5
  v5 := Tryd.zeroValue5
  t9 := Tryd.underlying9
  a9 := Tryd.isAgg9
  z9 := Tryd.sizeOf9
  v9 := Tryd.zeroValue9
  t20 := Tryd.underlying20
  a20 := Tryd.isAgg20
  z20 := Tryd.sizeOf20
  v20 := Tryd.zeroValue20
  t37 := Tryd.underlying25
  a37 := Tryd.isAgg25
  z37 := Tryd.sizeOf25
  v37 := Tryd.zeroValue25
  t46 := Tryd.underlying139
  a46 := Tryd.isAgg139
  z46 := Tryd.sizeOf139
  v46 := Tryd.zeroValue139
  t51 := Tryd.underlying144
  a51 := Tryd.isAgg144
  z51 := Tryd.sizeOf144
  v51 := Tryd.zeroValue144
  t53 := Tryd.underlying133
  a53 := Tryd.isAgg133
  z53 := Tryd.sizeOf133
  v53 := Tryd.zeroValue133
  t171 := Tryd.underlying132
  a171 := Tryd.isAgg132
  z171 := Tryd.sizeOf132
  v171 := Tryd.zeroValue132
  t173 := Tryd.underlying136
  a173 := Tryd.isAgg136
  z173 := Tryd.sizeOf136
  v173 := Tryd.zeroValue136
  t212 := Tryd.underlying143
  a212 := Tryd.isAgg143
  z212 := Tryd.sizeOf143
  v212 := Tryd.zeroValue143
  t213 := Tryd.underlying145
  a213 := Tryd.isAgg145
  z213 := Tryd.sizeOf145
  t232 := Tryd.underlying157
  a232 := Tryd.isAgg157
  z232 := Tryd.sizeOf157
  v232 := Tryd.zeroValue157
  t233 := Tryd.underlying158
  a233 := Tryd.isAgg158
  z233 := Tryd.sizeOf158
  v233 := Tryd.zeroValue158
  g17 := by kernel_rfl
  g18 := by kernel_rfl
  g19 := by kernel_rfl
  i0 := by kernel_rfl
  i2 := by kernel_rfl
  i3 := by kernel_rfl
  i4 := by kernel_rfl
  i5 := by kernel_rfl
  i9 := by kernel_rfl
  i20 := by kernel_rfl
  i37 := by kernel_rfl
  i46 := by kernel_rfl
  i51 := by kernel_rfl
  i53 := by kernel_rfl
  i171 := by kernel_rfl
  i173 := by kernel_rfl
  i212 := by kernel_rfl
  i232 := by kernel_rfl
  i233 := by kernel_rfl
  m17 := by kernel_rfl
  m18 := by kernel_rfl
  m19 := by kernel_rfl }
open Go.RowKit Go.Sort Go.Lib in
/-- internal/strconv.FormatInt: "FormatInt returns the string representation of i in the given base": AT BASE 10: i's decimal numeral, for every int64. The world behind the call: the world before it, new blocks behind the heap, draws. (LAID: no walk: one application.) -/
theorem Tryd.internal_strconv_FormatInt_10 (n : Int) (h0 : -9223372036854775808 ≤ n) (h1 : n ≤ 9223372036854775807) (w : World) (htab : Lib.TabIs Tryd.prog w "internal/strconv.uint64pow10" .u64 Lib.pow10Tab) :
    Calls Tryd.prog 97 #[.int .i64 n, .int .i64 10] w fun e w' => e = .returned (.string ⟨(Lib.itoa n).toArray⟩) ∧ ∃ k os, w' = grow (w.drewN k) os := Any.internal_strconv_FormatInt_10 Tryd.laysM246 n h0 h1 w htab
def Tryd.lays143_ren : Go.Shelf.Ren := ⟨fun | 143 => 135 | 219 => 98 | 217 => 111 | 225 => 112 | 224 => 113 | 267 => 114 | 266 => 129 | 314 => 130 | n => n, fun | 9 => 9 | 3 => 3 | 4 => 4 | 5 => 5 | 46 => 139 | 146 => 148 | 51 => 144 | n => n, fun | 1 => 0 | n => n⟩
theorem Tryd.lays143 : Go.Proofs.Lays.n143 Tryd.prog Tryd.lays143_ren := {
  mixed := by kernel_rfl
  f143 := Tryd.func135.trans (congrArg some (by kernel_rfl))
  f217 := Tryd.func111.trans (congrArg some (by kernel_rfl))
  f219 := Tryd.func98.trans (congrArg some (by kernel_rfl))
  f224 := Tryd.func113.trans (congrArg some (by kernel_rfl))
  f225 := Tryd.func112.trans (congrArg some (by kernel_rfl))
  f266 := Tryd.func129.trans (congrArg some (by kernel_rfl))
  f267 := Tryd.func114.trans (congrArg some (by kernel_rfl))
  f314 := Tryd.func130.trans (congrArg some (by kernel_rfl))
  t3 := Tryd.underlying3
  a3 := Tryd.isAgg3
  z3 := Tryd.sizeOf3
  v3 := Tryd.zeroValue3
  t4 := Tryd.underlying4
  a4 := Tryd.isAgg4
  z4 := Tryd.sizeOf4
  v4 := Tryd.zeroValue4
  t5 := Tryd.underlying5
  a5 := Tryd.isAgg5
  z5 := Tryd.sizeOf5
  v5 := Tryd.zeroValue5
  t9 := Tryd.underlying9
  a9 := Tryd.isAgg9
  z9 := Tryd.sizeOf9
  v9 := Tryd.zeroValue9
  t46 := Tryd.underlying139
  a46 := Tryd.isAgg139
  z46 := Tryd.sizeOf139
  v46 := Tryd.zeroValue139
  t51 := Tryd.underlying144
  a51 := Tryd.isAgg144
  z51 := Tryd.sizeOf144
  v51 := Tryd.zeroValue144
  t146 := Tryd.underlying148
  a146 := Tryd.isAgg148
  z146 := Tryd.sizeOf148
  v146 := Tryd.zeroValue148
  g1 := by kernel_rfl }
open Go.RowKit Go.Lib in
/-- strings.Index: "Index returns the index of the first instance of substr in s, or -1 if substr is not present in s.": AT A substr OF ONE BYTE c: IT RETURNS 'Lib.indexByte s c'; the world is as it was. (LAID: no walk: one application.) -/
theorem Tryd.strings_Index_one (s : ByteArray) (c : UInt8) (w : World) :
    Calls Tryd.prog 135 #[.string s, .string ⟨#[c]⟩] w fun e w' => e = .returned (.int .i64 (Lib.indexByte s.data.toList c)) ∧ w' = w := Any.strings_Index_one Tryd.lays143 s c w
open Go.RowKit Go.Lib in
/-- strings.Index: "Index returns the index of the first instance of substr in s, or -1 if substr is not present in s.": IT RETURNS 'Lib.index s substr'; the world is as it was. (LAID: no walk: one application.) -/
theorem Tryd.strings_Index (s sub : ByteArray) (m : Int) (w : World) (hs : s.size < 4294967281) (hm : w.cell? ⟨0, 0, none⟩ = some (.int .i64 m)) :
    Calls Tryd.prog 135 #[.string s, .string sub] w fun e w' => e = .returned (.int .i64 (Lib.index s.data.toList sub.data.toList)) ∧ w' = w := Any.strings_Index Tryd.lays143 s sub m w hs hm
def Tryd.lays138_ren : Go.Shelf.Ren := ⟨fun | 138 => 134 | 195 => 138 | 218 => 139 | 143 => 135 | 219 => 98 | 217 => 111 | 225 => 112 | 224 => 113 | 267 => 114 | 266 => 129 | 314 => 130 | n => n, fun | 9 => 9 | 3 => 3 | 4 => 4 | 5 => 5 | 0 => 0 | 46 => 139 | 146 => 148 | 51 => 144 | n => n, fun | 1 => 0 | n => n⟩
theorem Tryd.lays138 : Go.Proofs.Lays.n138 Tryd.prog Tryd.lays138_ren := {
  mixed := by kernel_rfl
  f138 := Tryd.func134.trans (congrArg some (by kernel_rfl))
  f143 := Tryd.func135.trans (congrArg some (by kernel_rfl))
  f195 := Tryd.func138.trans (congrArg some (by kernel_rfl))
  f217 := Tryd.func111.trans (congrArg some (by kernel_rfl))
  f218 := Tryd.func139.trans (congrArg some (by kernel_rfl))
  f219 := Tryd.func98.trans (congrArg some (by kernel_rfl))
  f224 := Tryd.func113.trans (congrArg some (by kernel_rfl))
  f225 := Tryd.func112.trans (congrArg some (by kernel_rfl))
  f266 := Tryd.func129.trans (congrArg some (by kernel_rfl))
  f267 := Tryd.func114.trans (congrArg some (by kernel_rfl))
  f314 := Tryd.func130.trans (congrArg some (by kernel_rfl))
  t0 := Tryd.underlying0
  a0 := Tryd.isAgg0
  z0 := Tryd.sizeOf0
  v0 := Tryd.zeroValue0
  t3 := Tryd.underlying3
  a3 := Tryd.isAgg3
  z3 := Tryd.sizeOf3
  v3 := Tryd.zeroValue3
  t4 := Tryd.underlying4
  a4 := Tryd.isAgg4
  z4 := Tryd.sizeOf4
  v4 := Tryd.zeroValue4
  t5 := Tryd.underlying5
  a5 := Tryd.isAgg5
  z5 := Tryd.sizeOf5
  v5 := Tryd.zeroValue5
  t9 := Tryd.underlying9
  a9 := Tryd.isAgg9
  z9 := Tryd.sizeOf9
  v9 := Tryd.zeroValue9
  t46 := Tryd.underlying139
  a46 := Tryd.isAgg139
  z46 := Tryd.sizeOf139
  v46 := Tryd.zeroValue139
  t51 := Tryd.underlying144
  a51 := Tryd.isAgg144
  z51 := Tryd.sizeOf144
  v51 := Tryd.zeroValue144
  t146 := Tryd.underlying148
  a146 := Tryd.isAgg148
  z146 := Tryd.sizeOf148
  v146 := Tryd.zeroValue148
  g1 := by kernel_rfl }
open Go.RowKit Go.Lib in
/-- strings.Count AT A substr OF ONE BYTE ('hp'): "Count counts the number of non-overlapping instances of substr in s.": IT RETURNS 'Lib.countByte s (that byte)'; the world is as it was. ✋ NO CONTRACT HERE YET at an empty substr (utf8.RuneCountInString) or at a longer one (a loop over strings.Index). (LAID: no walk: one application.) -/
theorem Tryd.strings_Count_one (s : ByteArray) (c : UInt8) (w : World) :
    Calls Tryd.prog 134 #[.string s, .string ⟨#[c]⟩] w fun e w' => e = .returned (.int .i64 (Lib.countByte s.data.toList c)) ∧ w' = w := Any.strings_Count_one Tryd.lays138 s c w
open Go.RowKit Go.Lib in
/-- strings.Count AT A substr OF TWO BYTES OR MORE: "Count counts the number of non-overlapping instances of substr in s.": IT RETURNS 'Lib.count s substr'; the world is as it was. (LAID: no walk: one application.) -/
theorem Tryd.strings_Count (s sub : ByteArray) (m : Int) (w : World) (hs : s.size < 4294967281) (hm : w.cell? ⟨0, 0, none⟩ = some (.int .i64 m)) (h2 : 2 ≤ sub.size) :
    Calls Tryd.prog 134 #[.string s, .string sub] w fun e w' => e = .returned (.int .i64 (Lib.countB s sub)) ∧ w' = w := Any.strings_Count Tryd.lays138 s sub m w hs hm h2
def Tryd.lays221_ren : Go.Shelf.Ren := ⟨fun | 221 => 123 | 268 => 133 | 138 => 134 | 143 => 135 | 195 => 138 | 197 => 116 | 218 => 139 | 219 => 98 | 260 => 131 | 217 => 111 | 225 => 112 | 224 => 113 | 267 => 114 | 266 => 129 | 314 => 130 | n => n, fun | 9 => 9 | 3 => 3 | 31 => 36 | 4 => 4 | 0 => 0 | 105 => 128 | 21 => 21 | 5 => 5 | 46 => 139 | 119 => 153 | 139 => 156 | 138 => 155 | 146 => 148 | 51 => 144 | n => n, fun | 1 => 0 | 3 => 2 | 4 => 3 | n => n⟩
theorem Tryd.lays221 : Go.Proofs.Lays.n221 Tryd.prog Tryd.lays221_ren := {
  mixed := by kernel_rfl
  f138 := Tryd.func134.trans (congrArg some (by kernel_rfl))
  f143 := Tryd.func135.trans (congrArg some (by kernel_rfl))
  f195 := Tryd.func138.trans (congrArg some (by kernel_rfl))
  f197 := Tryd.func116.trans (congrArg some (by kernel_rfl))
  f217 := Tryd.func111.trans (congrArg some (by kernel_rfl))
  f218 := Tryd.func139.trans (congrArg some (by kernel_rfl))
  f219 := Tryd.func98.trans (congrArg some (by kernel_rfl))
  f221 := Tryd.func123.trans (congrArg some (by kernel_rfl))
  f224 := Tryd.func113.trans (congrArg some (by kernel_rfl))
  f225 := Tryd.func112.trans (congrArg some (by kernel_rfl))
  f260 := Tryd.func131.trans (congrArg some (by kernel_rfl))
  f266 := Tryd.func129.trans (congrArg some (by kernel_rfl))
  f267 := Tryd.func114.trans (congrArg some (by kernel_rfl))
  f268 := Tryd.func133.trans (congrArg some (by kernel_rfl))
  f314 := Tryd.func130.trans (congrArg some (by kernel_rfl))
  t0 := Tryd.underlying0
  a0 := Tryd.isAgg0
  z0 := Tryd.sizeOf0
  v0 := Tryd.zeroValue0
  t3 := Tryd.underlying3
  a3 := Tryd.isAgg3
  z3 := Tryd.sizeOf3
  v3 := Tryd.zeroValue3
  t4 := Tryd.underlying4
  a4 := Tryd.isAgg4
  z4 := Tryd.sizeOf4
  v4 := Tryd.zeroValue4
  t5 := Tryd.underlying5
  a5 := Tryd.isAgg5
  z5 := Tryd.sizeOf5
  v5 := Tryd.zeroValue5
  t9 := Tryd.underlying9
  a9 := Tryd.isAgg9
  z9 := Tryd.sizeOf9
  v9 := Tryd.zeroValue9
  t21 := Tryd.underlying21
  a21 := Tryd.isAgg21
  z21 := Tryd.sizeOf21
  v21 := Tryd.zeroValue21
  t31 := Tryd.underlying36
  a31 := Tryd.isAgg36
  z31 := Tryd.sizeOf36
  v31 := Tryd.zeroValue36
  t46 := Tryd.underlying139
  a46 := Tryd.isAgg139
  z46 := Tryd.sizeOf139
  v46 := Tryd.zeroValue139
  t51 := Tryd.underlying144
  a51 := Tryd.isAgg144
  z51 := Tryd.sizeOf144
  v51 := Tryd.zeroValue144
  t105 := Tryd.underlying128
  a105 := Tryd.isAgg128
  z105 := Tryd.sizeOf128
  v105 := Tryd.zeroValue128
  t119 := Tryd.underlying153
  a119 := Tryd.isAgg153
  z119 := Tryd.sizeOf153
  t138 := Tryd.underlying155
  a138 := Tryd.isAgg155
  z138 := Tryd.sizeOf155
  v138 := Tryd.zeroValue155
  t139 := Tryd.underlying156
  a139 := Tryd.isAgg156
  z139 := Tryd.sizeOf156
  v139 := Tryd.zeroValue156
  t146 := Tryd.underlying148
  a146 := Tryd.isAgg148
  z146 := Tryd.sizeOf148
  v146 := Tryd.zeroValue148
  g1 := by kernel_rfl
  g3 := by kernel_rfl
  g4 := by kernel_rfl }
open Go.RowKit Go.Lib in
theorem Tryd.strings_genSplit (s sep : ByteArray) (sv : Nat) (n : Int) (N : Nat) (m : Int) (w : World) (hs : s.size < 4294967281) (hm : w.cell? ⟨0, 0, none⟩ = some (.int .i64 m)) (h1 : 1 ≤ sep.size) (hsv : sv ≤ sep.size) (hn0 : n ≠ 0) (hn63 : n ≤ 9223372036854775807) (hN : (N : Int) = min (if n < 0 then (Lib.countB s sep : Int) + 1 else n) ((s.size : Int) + 1)) :
    Calls Tryd.prog 123 #[.string s, .string sep, .int .i64 sv, .int .i64 n] w fun e w' =>
      e = .returned (.slice (some ⟨w.heap.size, 0, none⟩) (Lib.splitB sep sv (N - 1) s).length N) ∧ w' = w.alloc (.cells (Lib.cellsOf (Lib.splitB sep sv (N - 1) s) N) 9) := Any.strings_genSplit Tryd.lays221 (by kernel_rfl) s sep sv n N m w hs hm h1 hsv hn0 hn63 hN
def Tryd.lays146_ren : Go.Shelf.Ren := ⟨fun | 146 => 105 | 221 => 123 | 268 => 133 | 138 => 134 | 143 => 135 | 195 => 138 | 197 => 116 | 218 => 139 | 219 => 98 | 260 => 131 | 217 => 111 | 225 => 112 | 224 => 113 | 267 => 114 | 266 => 129 | 314 => 130 | n => n, fun | 9 => 9 | 31 => 36 | 3 => 3 | 4 => 4 | 0 => 0 | 105 => 128 | 21 => 21 | 5 => 5 | 46 => 139 | 119 => 153 | 139 => 156 | 138 => 155 | 146 => 148 | 51 => 144 | n => n, fun | 1 => 0 | 3 => 2 | 4 => 3 | n => n⟩
theorem Tryd.lays146 : Go.Proofs.Lays.n146 Tryd.prog Tryd.lays146_ren := {
  mixed := by kernel_rfl
  f138 := Tryd.func134.trans (congrArg some (by kernel_rfl))
  f143 := Tryd.func135.trans (congrArg some (by kernel_rfl))
  f146 := Tryd.func105.trans (congrArg some (by kernel_rfl))
  f195 := Tryd.func138.trans (congrArg some (by kernel_rfl))
  f197 := Tryd.func116.trans (congrArg some (by kernel_rfl))
  f217 := Tryd.func111.trans (congrArg some (by kernel_rfl))
  f218 := Tryd.func139.trans (congrArg some (by kernel_rfl))
  f219 := Tryd.func98.trans (congrArg some (by kernel_rfl))
  f221 := Tryd.func123.trans (congrArg some (by kernel_rfl))
  f224 := Tryd.func113.trans (congrArg some (by kernel_rfl))
  f225 := Tryd.func112.trans (congrArg some (by kernel_rfl))
  f260 := Tryd.func131.trans (congrArg some (by kernel_rfl))
  f266 := Tryd.func129.trans (congrArg some (by kernel_rfl))
  f267 := Tryd.func114.trans (congrArg some (by kernel_rfl))
  f268 := Tryd.func133.trans (congrArg some (by kernel_rfl))
  f314 := Tryd.func130.trans (congrArg some (by kernel_rfl))
  t0 := Tryd.underlying0
  a0 := Tryd.isAgg0
  z0 := Tryd.sizeOf0
  v0 := Tryd.zeroValue0
  t3 := Tryd.underlying3
  a3 := Tryd.isAgg3
  z3 := Tryd.sizeOf3
  v3 := Tryd.zeroValue3
  t4 := Tryd.underlying4
  a4 := Tryd.isAgg4
  z4 := Tryd.sizeOf4
  v4 := Tryd.zeroValue4
  t5 := Tryd.underlying5
  a5 := Tryd.isAgg5
  z5 := Tryd.sizeOf5
  v5 := Tryd.zeroValue5
  t9 := Tryd.underlying9
  a9 := Tryd.isAgg9
  z9 := Tryd.sizeOf9
  v9 := Tryd.zeroValue9
  t21 := Tryd.underlying21
  a21 := Tryd.isAgg21
  z21 := Tryd.sizeOf21
  v21 := Tryd.zeroValue21
  t31 := Tryd.underlying36
  a31 := Tryd.isAgg36
  z31 := Tryd.sizeOf36
  v31 := Tryd.zeroValue36
  t46 := Tryd.underlying139
  a46 := Tryd.isAgg139
  z46 := Tryd.sizeOf139
  v46 := Tryd.zeroValue139
  t51 := Tryd.underlying144
  a51 := Tryd.isAgg144
  z51 := Tryd.sizeOf144
  v51 := Tryd.zeroValue144
  t105 := Tryd.underlying128
  a105 := Tryd.isAgg128
  z105 := Tryd.sizeOf128
  v105 := Tryd.zeroValue128
  t119 := Tryd.underlying153
  a119 := Tryd.isAgg153
  z119 := Tryd.sizeOf153
  t138 := Tryd.underlying155
  a138 := Tryd.isAgg155
  z138 := Tryd.sizeOf155
  v138 := Tryd.zeroValue155
  t139 := Tryd.underlying156
  a139 := Tryd.isAgg156
  z139 := Tryd.sizeOf156
  v139 := Tryd.zeroValue156
  t146 := Tryd.underlying148
  a146 := Tryd.isAgg148
  z146 := Tryd.sizeOf148
  v146 := Tryd.zeroValue148
  g1 := by kernel_rfl
  g3 := by kernel_rfl
  g4 := by kernel_rfl }
open Go.RowKit Go.Lib in
/-- strings.Split. (LAID: no walk: one application.) -/
theorem Tryd.strings_Split (s sep : ByteArray) (m : Int) (w : World) (hs : s.size < 4294967281) (hm : w.cell? ⟨0, 0, none⟩ = some (.int .i64 m)) (h1 : 1 ≤ sep.size) :
    Calls Tryd.prog 105 #[.string s, .string sep] w fun e w' =>
      e = .returned (.slice (some ⟨w.heap.size, 0, none⟩) (Lib.countB s sep + 1) (Lib.countB s sep + 1)) ∧ w' = w.alloc (.cells ((Lib.splitB sep 0 (Lib.countB s sep) s).map Value.string).toArray 9) := Any.strings_Split Tryd.lays146 (by kernel_rfl) s sep m w hs hm h1
end Go.Proofs
namespace Go.Proofs.YtfjeinnemimjoaaDoor.P
open Go.RowKit Go.Proofs.YtfjeinnemimjoaaDoorW.PrintWords Go.Proofs.YtfjeinnemimjoaaDoorW.PrintLast Go.Proofs.YtfjeinnemimjoaaDoorW.PrintMore
attribute [local go_sem] max2_int min2_int max_two min_two max_three min_three max_four min_four
set_option linter.unusedVariables false
set_option linter.unusedSimpArgs false
def strings_IndexByte.f (a0:ByteArray) (a1:Int):Option Int:=some (Lib.indexByte a0.data.toList a1.toNat.toUInt8)
theorem strings_IndexByte.calls (a0:ByteArray) (a1:Int) (r:Int) (w:World) (h:strings_IndexByte.f a0 a1=some r) :
  Calls Tryd.prog 99 #[.string a0,.int .u8 a1] w fun e w' => e = .returned (.int .i64 r)∧Drawn0 w w' := by
 obtain rfl:=Option.some.inj h
 refine (Tryd.strings_IndexByte a0 a1 w).mono ?_
 rintro e w' ⟨rfl,rfl⟩
 exact ⟨rfl,Drawn0.refl _⟩
mutual
def sign_number.l0:Nat → ByteArray → Int → Int → Int → Int → Int → Option (Int × Bool)
 | 0,_,_,_,_,_,_=>none
 | k + 1,x0,x1,x2,x8,x12,x13=>if x13 < x12 then (if 0 ≤ x13 then (if x13 ≤ (wrap64 (x13 + 1)) then (if (wrap64 (x13 + 1)) ≤ (x0.size:Int) then ((sign_Fold.f (x0.extract (x13:Int).toNat ((wrap64 (x13 + 1)):Int).toNat)).bind fun t107=>(if 0 < (t107.size:Int) then ((strings_IndexByte.f (⟨#[48,49,50,51,52,53,54,55,56,57,97,98,99,100,101,102]⟩:ByteArray) (bt t107 0)).bind fun t108=>(if t108 < 0 then (sign_number.j1 k x0 x1 x2 x8 x13 t108 x12 x13 true) else (sign_number.j1 k x0 x1 x2 x8 x13 t108 x12 x13 (decide (t108 ≥ x1))))) else (none))) else (none)) else (none)) else (none)) else (if x0.toList=([]:List UInt8) then (some (0,false)) else (if (x0.size:Int) > x2 then (some (0,false)) else (some (x8,true))))
def sign_number.j1:Nat → ByteArray → Int → Int → Int → Int → Int → Int → Int → Bool → Option (Int × Bool)
 | 0,_,_,_,_,_,_,_,_,_=>none
 | k + 1,x0,x1,x2,x8,x9,x10,x12,x13,x30=>if x30=true then (some (0,false)) else (if x9 < x2 then (sign_number.l0 k x0 x1 x2 (wrap64 ((wrap64 (x8 * x1)) + x10)) x12 (wrap64 (x13 + 1))) else (sign_number.l0 k x0 x1 x2 x8 x12 (wrap64 (x13 + 1))))
end
def sign_number.f (k:Nat) (a0:ByteArray) (a1:Int) (a2:Int):Option (Int × Bool):=sign_number.l0 k a0 a1 a2 0 (a0.size:Int) 0
set_option maxHeartbeats 8000000 in
set_option maxRecDepth 100000 in
theorem sign_number.calls (k:Nat) (a0:ByteArray) (a1:Int) (a2:Int) (r1:Int) (r2:Bool) (w:World) (h:sign_number.f k a0 a1 a2=some (r1,r2)) :
  Calls Tryd.prog 80 #[.string a0,.int .i64 a1,.int .i64 a2] w fun e w' => e = .returned (.tuple #[.int .i64 r1,.bool r2])∧Below w.heap.size w w' := by
 have HB:=Aside0.mk (Below.refl w.heap.size w)
 have H:(sign_number.l0 k a0 a1 a2 0 (a0.size:Int) 0)=some (r1,r2):=h
 clear h
 have H' := Aside0.mk H
 clear H
 go_enter Tryd.func80,Tryd.ntmps80
 go_wp2
 go_loopg [8,13] k (fun kq v8 v13 w' => ∃ (x8_1:Int) (x13_1:Int),v8 = .int .i64 x8_1∧v13 = .int .i64 x13_1∧Aside0 (sign_number.l0 kq a0 a1 a2 x8_1 (a0.size:Int) x13_1=some (r1,r2))∧Aside0 (kq ≤ k)∧Aside0 (Below w.heap.size w w'))
 case atStart=>exact ⟨(0),(0),(by first|rfl|(simp;done)|(simp [*];done)),(by first|rfl|(simp;done)|(simp [*];done)),H',⟨Nat.le_refl _⟩,⟨by repeat (first|(with_reducible first|exact HB.out|apply below_alloc|apply pw_below_drewN|apply below_drew1)|exact HB.out)⟩⟩
 case round =>
  clear H'
  try clear p2
  obtain ⟨x8_1,x13_1,rfl,rfl,HA,HK1,HB⟩:=hrel
  cases gk with
  | zero=>exact absurd HA.out (by simp [sign_number.l0])
  | succ k1 =>
   have H:=HA.out
   clear HA
   simp only [sign_number.l0] at H
   by_cases c4:x13_1 < (a0.size:Int)
   ·rw [if_pos c4] at H
    have c4b0:decide (x13_1 < (a0.size:Int))=true:=decide_eq_true c4
    clear c4
    by_cases c5:0 ≤ x13_1
    ·rw [if_pos c5] at H
     have c5b0:=eq_true c5
     have c5b1:decide (0 ≤ x13_1)=true:=decide_eq_true c5
     clear c5
     by_cases c6:x13_1 ≤ (wrap64 (x13_1 + 1))
     ·rw [if_pos c6] at H
      have c6b0:=eq_true c6
      have c6b1:decide (x13_1 ≤ (wrap64 (x13_1 + 1)))=true:=decide_eq_true c6
      by_cases c7:(wrap64 (x13_1 + 1)) ≤ (a0.size:Int)
      ·rw [if_pos c7] at H
       have c7b0:=eq_true c7
       have c7b1:decide ((wrap64 (x13_1 + 1)) ≤ (a0.size:Int))=true:=decide_eq_true c7
       replace H:=Option.bind_eq_some_iff.mp H
       obtain ⟨t107,A80,H⟩:=H
       replace H:(if 0 < (t107.size:Int) then ((strings_IndexByte.f (⟨#[48,49,50,51,52,53,54,55,56,57,97,98,99,100,101,102]⟩:ByteArray) (bt t107 0)).bind fun t108=>(if t108 < 0 then (sign_number.j1 k1 a0 a1 a2 x8_1 x13_1 t108 (a0.size:Int) x13_1 true) else (sign_number.j1 k1 a0 a1 a2 x8_1 x13_1 t108 (a0.size:Int) x13_1 (decide (t108 ≥ a1))))) else (none))=some (r1,r2):=H
       have A8:=Aside0.mk A80
       clear A80
       by_cases c9:0 < (t107.size:Int)
       ·rw [if_pos c9] at H
        have c9b0:decide (0 < (t107.size:Int))=true:=decide_eq_true c9
        have c9b1:decide (0 < t107.size)=true:=decide_eq_true (by omega)
        clear c9
        replace H:=Option.bind_eq_some_iff.mp H
        obtain ⟨t108,A110,H⟩:=H
        replace H:(if t108 < 0 then (sign_number.j1 k1 a0 a1 a2 x8_1 x13_1 t108 (a0.size:Int) x13_1 true) else (sign_number.j1 k1 a0 a1 a2 x8_1 x13_1 t108 (a0.size:Int) x13_1 (decide (t108 ≥ a1))))=some (r1,r2):=H
        have A11:=Aside0.mk A110
        clear A110
        have HC12:=Aside0.mk H
        clear H
        go_upto_region 6 with (first|((with_reducible refine gate_callee (f:=29) rfl ?_);refine goesL_ (some 21) rfl rfl Tryd.func29 (by kernel_rfl) rfl #[.string (a0.extract (x13_1:Int).toNat ((wrap64 (x13_1 + 1)):Int).toNat)] rfl (by (try simp only [List.map_toArray,List.map_cons,List.map_nil]);first|done|rfl|(simp only [List.length_drop,List.length_take];rfl)) ?_;(with_reducible refine (sign_Fold.calls (a0.extract (x13_1:Int).toNat ((wrap64 (x13_1 + 1)):Int).toNat) t107 _ A8.out).mono ?_);rintro e w13 ⟨rfl,hb⟩;refine ⟨_,rfl,?_⟩;have n0_:=Aside0.mk (below_step (by repeat (first|(with_reducible first|exact HB.out|apply below_alloc|apply pw_below_drewN|apply below_drew1)|exact HB.out)) hb);clear HB;have HB:=n0_;clear n0_;(try clear hb);(try clear hb2);(try clear hk);(try clear hi);have p10:0 ≤ (0:Int):=(by omega);have q10:0 < t107.size:=(by have:(0:Int) < (t107.size:Int):=of_decide_eq_true (by first|(with_reducible assumption)|assumption);omega);have hx10 : ∀ h:0 < t107.size,((t107[0]'h).toNat:Int)=bt t107 0:=bt_at t107 0;clear p10;have qi10:(0 < (t107.size:Int))=True:=eq_true (of_decide_eq_true (by first|(with_reducible assumption)|assumption));replace q10:=eq_true q10)|((with_reducible refine gate_callee (f:=99) rfl ?_);refine goesL_ (some 23) rfl rfl Tryd.func99 (by kernel_rfl) rfl #[.string (⟨#[48,49,50,51,52,53,54,55,56,57,97,98,99,100,101,102]⟩:ByteArray),.int .u8 (bt t107 0)] rfl (by (try simp only [List.map_toArray,List.map_cons,List.map_nil]);first|done|rfl|(simp only [List.length_drop,List.length_take];rfl)) ?_;(with_reducible refine (strings_IndexByte.calls (⟨#[48,49,50,51,52,53,54,55,56,57,97,98,99,100,101,102]⟩:ByteArray) (bt t107 0) t108 _ A11.out).mono ?_);rintro e w' ⟨rfl,⟨nd,rfl⟩⟩;refine ⟨_,rfl,?_⟩))
        (try simp only [Act.put,zqA,zqB,zqC])
        go_cut [30] (fun v30 wc => ∃ (kq:Nat) (x30_11:Bool),v30 = .bool x30_11∧Aside0 (sign_number.j1 kq a0 a1 a2 x8_1 x13_1 t108 (a0.size:Int) x13_1 x30_11=some (r1,r2))∧Aside0 (kq ≤ k1)∧Aside0 (Below w.heap.size w wc))
        case first =>
         have H:=HC12.out
         clear HC12
         by_cases c14:t108 < 0
         ·rw [if_pos c14] at H
          have c14b0:decide (t108 < 0)=true:=decide_eq_true c14
          clear c14
          (first|rw [c14b0]|(simp only [i64_w,i32_w];rw [c14b0])|skip)
          have H' := Aside0.mk H
          clear H
          go_wp2
          go_meet
          case rel=>exact ⟨_,(true),(by first|rfl|(simp;done)|(simp [*];done)),H',⟨by have:=HK1.out;first|omega|exact Nat.le_refl _⟩,⟨by repeat (first|(with_reducible first|exact HB.out|apply below_alloc|apply pw_below_drewN|apply below_drew1)|exact HB.out)⟩⟩
         ·rw [if_neg c14] at H
          have c14b0:decide (t108 < 0)=false:=decide_eq_false c14
          clear c14
          (first|rw [c14b0]|(simp only [i64_w,i32_w];rw [c14b0])|skip)
          have H' := Aside0.mk H
          clear H
          go_wp2
          go_meet
          case rel=>exact ⟨_,(decide (t108 ≥ a1)),(by first|rfl|(simp;done)|(simp [*];done)),H',⟨by have:=HK1.out;first|omega|exact Nat.le_refl _⟩,⟨by repeat (first|(with_reducible first|exact HB.out|apply below_alloc|apply pw_below_drewN|apply below_drew1)|exact HB.out)⟩⟩
        case rest =>
         clear HC12
         try clear c1
         try clear p1
         try clear q1
         try clear hx1
         try clear qi1
         try clear c2
         try clear p2
         try clear c4
         try clear c4b0
         try clear c5
         try clear c5b0
         try clear c5b1
         try clear c6
         try clear c6b0
         try clear c6b1
         try clear p6
         try clear c7
         try clear c7b0
         try clear c7b1
         try clear c8
         try clear c9
         try clear c9b0
         try clear c9b1
         try clear p10
         try clear q10
         try clear hx10
         try clear qi10
         try clear c14
         try clear c14b0
         try clear p10
         try clear p2
         try clear q10
         obtain ⟨kq,x30_11,rfl,HA,HJ11,HB⟩:=hcut
         cases kq with
         | zero=>exact absurd HA.out (by simp [sign_number.j1])
         | succ kj11 =>
          have H:=HA.out
          clear HA
          simp only [sign_number.j1] at H
          by_cases c15:x30_11=true
          ·subst c15
           have H1:(some (0,false))=some (r1,r2):=by rw [if_pos rfl] at H;exact H
           clear H
           have H:=H1
           clear H1
           simp only [Option.some.injEq,Prod.mk.injEq] at H
           obtain ⟨rfl,rfl⟩:=H
           go_wp2
           go_ret2
           exact ⟨by first|rfl|(simp [errW_none,errW_some] <;> rfl)|(simp [*,errW_none,errW_some] <;> rfl),by repeat (first|(with_reducible first|exact HB.out|apply below_alloc|apply pw_below_drewN|apply below_drew1)|exact HB.out)⟩
          ·replace c15:=Bool.eq_false_iff.mpr c15
           subst c15
           have H1:(if x13_1 < a2 then (sign_number.l0 kj11 a0 a1 a2 (wrap64 ((wrap64 (x8_1 * a1)) + t108)) (a0.size:Int) (wrap64 (x13_1 + 1))) else (sign_number.l0 kj11 a0 a1 a2 x8_1 (a0.size:Int) (wrap64 (x13_1 + 1))))=some (r1,r2):=by rw [if_neg (show ¬ (false=true) by decide)] at H;exact H
           clear H
           have H:=H1
           clear H1
           by_cases c16:x13_1 < a2
           ·rw [if_pos c16] at H
            have c16b0:decide (x13_1 < a2)=true:=decide_eq_true c16
            clear c16
            have H' := Aside0.mk H
            clear H
            go_wp2
            go_roundg kj11
            case measure=>have:=HK1.out;have:=HJ11.out;omega
            case rel=>exact ⟨(wrap64 ((wrap64 (x8_1 * a1)) + t108)),(wrap64 (x13_1 + 1)),(by first|rfl|(simp;done)|(simp [*];done)),(by first|rfl|(simp;done)|(simp [*];done)),H',⟨by have:=HK1.out;have:=HJ11.out;omega⟩,⟨by repeat (first|(with_reducible first|exact HB.out|apply below_alloc|apply pw_below_drewN|apply below_drew1)|exact HB.out)⟩⟩
           ·rw [if_neg c16] at H
            have c16b0:decide (x13_1 < a2)=false:=decide_eq_false c16
            clear c16
            have H' := Aside0.mk H
            clear H
            go_wp2
            go_roundg kj11
            case measure=>have:=HK1.out;have:=HJ11.out;omega
            case rel=>exact ⟨(x8_1),(wrap64 (x13_1 + 1)),(by first|rfl|(simp;done)|(simp [*];done)),(by first|rfl|(simp;done)|(simp [*];done)),H',⟨by have:=HK1.out;have:=HJ11.out;omega⟩,⟨by repeat (first|(with_reducible first|exact HB.out|apply below_alloc|apply pw_below_drewN|apply below_drew1)|exact HB.out)⟩⟩
       ·rw [if_neg c9] at H
        exact absurd H (by simp)
      ·rw [if_neg c7] at H
       exact absurd H (by simp)
     ·rw [if_neg c6] at H
      exact absurd H (by simp)
    ·rw [if_neg c5] at H
     exact absurd H (by simp)
   ·rw [if_neg c4] at H
    have c4b0:decide (x13_1 < (a0.size:Int))=false:=decide_eq_false c4
    clear c4
    by_cases c17:a0.toList=([]:List UInt8)
    ·rw [if_pos c17] at H
     have c17b0:(a0.toList == ([]:List UInt8))=true:=beq_iff_eq.mpr c17
     have c17b1:(a0.toList != ([]:List UInt8))=false:=bne_eq_false_iff_eq.mpr c17
     clear c17
     simp only [Option.some.injEq,Prod.mk.injEq] at H
     obtain ⟨rfl,rfl⟩:=H
     go_wp2
     go_ret2
     exact ⟨by first|rfl|(simp [errW_none,errW_some] <;> rfl)|(simp [*,errW_none,errW_some] <;> rfl),by repeat (first|(with_reducible first|exact HB.out|apply below_alloc|apply pw_below_drewN|apply below_drew1)|exact HB.out)⟩
    ·rw [if_neg c17] at H
     have c17b0:(a0.toList == ([]:List UInt8))=false:=beq_eq_false_iff_ne.mpr c17
     have c17b1:(a0.toList != ([]:List UInt8))=true:=bne_iff_ne.mpr c17
     by_cases c18:(a0.size:Int) > a2
     ·rw [if_pos c18] at H
      have c18b0:decide (a2 < (a0.size:Int))=true:=decide_eq_true c18
      clear c18
      simp only [Option.some.injEq,Prod.mk.injEq] at H
      obtain ⟨rfl,rfl⟩:=H
      go_wp2
      go_ret2
      exact ⟨by first|rfl|(simp [errW_none,errW_some] <;> rfl)|(simp [*,errW_none,errW_some] <;> rfl),by repeat (first|(with_reducible first|exact HB.out|apply below_alloc|apply pw_below_drewN|apply below_drew1)|exact HB.out)⟩
     ·rw [if_neg c18] at H
      have c18b0:decide (a2 < (a0.size:Int))=false:=decide_eq_false c18
      clear c18
      simp only [Option.some.injEq,Prod.mk.injEq] at H
      obtain ⟨rfl,rfl⟩:=H
      go_wp2
      go_ret2
      exact ⟨by first|rfl|(simp [errW_none,errW_some] <;> rfl)|(simp [*,errW_none,errW_some] <;> rfl),by repeat (first|(with_reducible first|exact HB.out|apply below_alloc|apply pw_below_drewN|apply below_drew1)|exact HB.out)⟩
end Go.Proofs.YtfjeinnemimjoaaDoor.P
namespace Go.Proofs.YtfjeinnemimjoaaDoor.P
open Go.RowKit Go.Proofs.YtfjeinnemimjoaaDoorW.PrintWords Go.Proofs.YtfjeinnemimjoaaDoorW.PrintLast Go.Proofs.YtfjeinnemimjoaaDoorW.PrintMore
attribute [local go_sem] max2_int min2_int max_two min_two max_three min_three max_four min_four   -- for this text's walks alone
set_option linter.unusedVariables false
set_option linter.unusedSimpArgs false
/-- A row of bytes that a constant was turned into reads as these bytes. -/
theorem C_const (W : World) (e : Nat) (xs : List Int) (fr : Nat × Nat) (hm : xs.length ≤ 9223372036854775807) :
    Kd.C (Kd.int .u8) (W.alloc (.cells (nums .u8 xs).toArray e fr)) (some ⟨W.heap.size, 0, none⟩) xs.length xs := by
  refine Kd.C_of_reads (d := (0 : Int)) (h1 := fun _ => rfl) ⟨rfl, hm, fun _ => ⟨_, rfl, fun j hj => ?_⟩⟩
  have hl : (nums .u8 xs).length = xs.length := nums_length _ _
  have : (W.alloc (.cells (nums .u8 xs).toArray e fr)).heap[W.heap.size]? = some (.cells (nums .u8 xs).toArray e fr) := by
    show (W.heap.push _)[W.heap.size]? = _
    simp
  rw [add_plain]
  rw [cell_of_row _ _ _ _ _ _ this]
  simp [nums, List.getD_eq_getElem?_getD, List.getElem?_eq_getElem hj]
theorem bytes_drop_all (p : Int → Bool) (s : ByteArray) (x : Int) (h0 : 0 ≤ x) (h : x < (s.size : Int)) :
    ((bytesOf s).drop x.toNat).all p = (p (bt s x) && ((bytesOf s).drop (x.toNat + 1)).all p) := by
  have hl : x.toNat < (bytesOf s).length := by rw [bytesOf_length]; omega
  rw [List.drop_eq_getElem_cons hl]
  have e : (bytesOf s)[x.toNat] = bt s x := by
    rw [← rd_bytesOf]
    simp [rd, List.getD_eq_getElem?_getD, List.getElem?_eq_getElem hl]
  rw [e]
  rfl
end Go.Proofs.YtfjeinnemimjoaaDoor.P
namespace Go.Proofs.YtfjeinnemimjoaaDoor.P
open Go.RowKit Go.Proofs.YtfjeinnemimjoaaDoorW.PrintWords Go.Proofs.YtfjeinnemimjoaaDoorW.PrintLast Go.Proofs.YtfjeinnemimjoaaDoorW.PrintMore
attribute [local go_sem] max2_int min2_int max_two min_two max_three min_three max_four min_four
set_option linter.unusedVariables false
set_option linter.unusedSimpArgs false
/-- all,at any function value that tells p of every byte. -/
theorem sign_all.callsOf (K:Nat) (p:Int → Bool) (hK : ∀ args w,(callFunc K args).run Tryd.prog w = .ok (.enter K args) w)
  (hp : ∀ c w,0 ≤ c → c ≤ 255 → Calls Tryd.prog K #[.int .u8 c] w fun e w' => e = .returned (.bool (p c))∧Drawn0 w w')
  (a0:ByteArray) (h0:a0.size ≤ 140737488355328) (w:World) :
  Calls Tryd.prog 85 #[.string a0,.func (.func K) #[] #[]] w fun e w' => e = .returned (.bool ((bytesOf a0).all p))∧Drawn0 w w' := by
 go_enter Tryd.func85,Tryd.ntmps85
 go_wp2
 go_loopw [8] (fun v wr => ∃ x:Int,v = .int .i64 x∧Aside0 (0 ≤ x∧x ≤ a0.size)∧Aside0 ((bytesOf a0).all p=((bytesOf a0).drop x.toNat).all p)∧Drawn0 w wr) (fun v _=>a0.size - (intOf v).toNat)
 case atStart=>exact ⟨0,rfl,⟨by omega,by omega⟩,⟨by simp⟩,Drawn0.refl _⟩
 case round =>
  obtain ⟨x,rfl,HX,HA,⟨m,rfl⟩⟩:=hrel
  by_cases hlt:x < (a0.size:Int)
  ·have hx:=bt_at a0 x
   have hr:=bt_range a0 x
   have HR:=Aside0.mk hr
   clear hr
   have HN:=Aside0.mk (bytes_drop_all p a0 x HX.out.1 hlt)
   have p1:(0 ≤ x)=True:=eq_true HX.out.1
   have q1:(x < (a0.size:Int))=True:=eq_true hlt
   have q2:decide (x < (a0.size:Int))=true:=decide_eq_true hlt
   have hlt' := Aside0.mk hlt
   clear hlt
   cases hpc:p (bt a0 x)
   ·have HN' := HN.out
    rw [hpc] at HN'
    have HE:=Aside0.mk (HA.out.trans HN')
    clear HN' HN HA
    go_wp2_with ((with_reducible refine (hp (bt a0 x) _ HR.out.1 HR.out.2).mono ?_);rintro e w' ⟨rfl,⟨nd,rfl⟩⟩;rw [hpc])
    go_ret
    exact ⟨by rw [HE.out];rfl,by repeat (first|exact Drawn0.refl _|apply Drawn0.step)⟩
   ·have HN' := HN.out
    rw [hpc] at HN'
    have HE:=Aside0.mk (HA.out.trans HN')
    clear HN' HN HA
    go_wp2_with ((with_reducible refine (hp (bt a0 x) _ HR.out.1 HR.out.2).mono ?_);rintro e w' ⟨rfl,⟨nd,rfl⟩⟩;rw [hpc])
    go_roundw
    case rel =>
     have hw:wrap64 (x + 1)=x + 1:=by have:=HX.out;unfold wrap64;omega
     exact ⟨x + 1,by rw [hw],⟨by have:=HX.out;omega,by have:=hlt'.out;omega⟩,⟨by have:=HX.out;rw [HE.out,show (x + 1).toNat=x.toNat + 1 by omega];simp⟩,by repeat (first|exact Drawn0.refl _|apply Drawn0.step)⟩
    case measure =>
     have hw:wrap64 (x + 1)=x + 1:=by have:=HX.out;unfold wrap64;omega
     have:=HX.out
     have:=hlt'.out
     simp [intOf,hw]
     omega
  ·have HE:=Aside0.mk (HA.out)
   clear HA
   have hge:=Aside0.mk hlt
   have q2:decide (x < (a0.size:Int))=false:=decide_eq_false hlt
   clear hlt
   go_wp2
   go_ret
   exact ⟨by have:=hge.out;have:=HX.out;rw [HE.out,List.drop_of_length_le (by rw [bytesOf_length];omega)];rfl,by repeat (first|exact Drawn0.refl _|apply Drawn0.step)⟩
/-- At a cutset of ASCII bytes. -/
def strings_Trim.f (a0 a1:ByteArray):Option ByteArray :=
 if a0.size ≤ 9223372036854775807∧a1.size < 4294967281∧a1.data.toList.all (fun b=>decide (b.toNat < 128))=true then some ⟨(Lib.trimS a0.data.toList a1.data.toList).toArray⟩ else none
theorem strings_Trim.calls (a0 a1:ByteArray) (r:ByteArray) (w:World) (h:strings_Trim.f a0 a1=some r) :
  Calls Tryd.prog 103 #[.string a0,.string a1] w fun e w' => e = .returned (.string r)∧Below w.heap.size w w' := by
 unfold strings_Trim.f at h
 split at h
 ·rename_i hc
  obtain rfl:=Option.some.inj h
  exact Go.Proofs.Any.strings_Trim_laid Tryd.lays160 (by kernel_rfl) a0 a1 w hc.1 hc.2.1 (Go.Proofs.ascii_of_all hc.2.2)
 ·cases h
def sign_Trim.f (a0:ByteArray):Option (ByteArray):=(strings_Trim.f a0 (⟨#[32,9]⟩:ByteArray)).bind fun t137=>(some t137)
set_option maxHeartbeats 8000000 in
set_option maxRecDepth 100000 in
theorem sign_Trim.calls (a0:ByteArray) (r:ByteArray) (w:World) (h:sign_Trim.f a0=some r) :
  Calls Tryd.prog 87 #[.string a0] w fun e w' => e = .returned (.string r)∧Below w.heap.size w w' := by
 have HB:=Aside0.mk (Below.refl w.heap.size w)
 have H:((strings_Trim.f a0 (⟨#[32,9]⟩:ByteArray)).bind fun t137=>(some t137))=some r:=h
 clear h
 replace H:=Option.bind_eq_some_iff.mp H
 obtain ⟨t137,A20,H⟩:=H
 replace H:(some t137)=some r:=H
 have A2:=Aside0.mk A20
 clear A20
 obtain rfl:=Option.some.inj H
 go_enter Tryd.func87,Tryd.ntmps87
 go_wp2_with (first|((with_reducible refine gate_callee (f:=103) rfl ?_);refine goesL_ (some 4) rfl rfl Tryd.func103 (by kernel_rfl) rfl #[.string a0,.string (⟨#[32,9]⟩:ByteArray)] rfl (by (try simp only [List.map_toArray,List.map_cons,List.map_nil]);first|done|rfl|(simp only [List.length_drop,List.length_take];rfl)) ?_;(with_reducible refine (strings_Trim.calls a0 (⟨#[32,9]⟩:ByteArray) t137 _ A2.out).mono ?_);rintro e w3 ⟨rfl,hb⟩;(try clear A2);refine ⟨_,rfl,?_⟩;have n0_:=Aside0.mk (below_step (by repeat (first|(with_reducible first|exact HB.out|apply below_alloc|apply pw_below_drewN|apply below_drew1)|exact HB.out)) hb);clear HB;have HB:=n0_;clear n0_;(try clear hb);(try clear hb2);(try clear hk);(try clear hi)))
 go_ret
 exact ⟨by first|rfl|(simp [errW_none,errW_some] <;> rfl)|(simp [*,errW_none,errW_some] <;> rfl),by repeat (first|(with_reducible first|exact HB.out|apply below_alloc|apply pw_below_drewN|apply below_drew1)|exact HB.out)⟩
theorem blk_grown {w w1:World} {g:Nat} {o:Obj} {row:Option Nat} (h:w.heap[g]? = some o) (hg:w.grownBy w1 row) (hne:some g ≠ row):w1.heap[g]? = some o:=(hg.block g (blk_lt h) hne).trans h
/-- The reader and what was collected,beside it. -/
def Dec (w wr:World) (g:Nat) (A:Option Addr) (n c:Nat) (p:Int) (v:Value) (out:List Int):Prop:=Rdr wr g A n c p false∧Below w.heap.size w wr∧w.heap.size ≤ g∧Kd.R (Kd.int .u8) 5 wr w.heap.size (fun k=>k ≠ g) v out
theorem Dec.below {w wr w1:World} {g:Nat} {A:Option Addr} {n c:Nat} {p q:Int} {m:Bool} {v:Value} {out:List Int} (h:Dec w wr g A n c p v out) (k:Went wr w1 g A n c q m):Below w.heap.size w w1:=h.2.1.trans (below_base h.2.2.1 k.2.1)
def field_Get.l0:Nat → ByteArray → List ByteArray → List (S41) → Int → Int → Option (List ByteArray)
 | 0,_,_,_,_,_=>none
 | k + 1,x1,x5,x8,x9,x10=>if x10 < x9 then (if 0 ≤ x10 then (if x10 < (x8.length:Int) then ((sign_Same.f ((rd_T41 x8 x10).f0) x1).bind fun t261=>(if t261=true then (if x5.length < 8796093022208 then (field_Get.l0 k x1 (x5 ++ [(rd_T41 x8 x10).f1]) x8 x9 (wrap64 (x10 + 1))) else (none)) else (field_Get.l0 k x1 x5 x8 x9 (wrap64 (x10 + 1))))) else (none)) else (none)) else (some x5)
def field_Get.f (k:Nat) (l0:List (S41)) (a1:ByteArray):Option (List ByteArray):=field_Get.l0 k a1 ([]:List ByteArray) l0 (l0.length:Int) 0
set_option maxHeartbeats 8000000 in
set_option maxRecDepth 100000 in
theorem field_Get.calls (k:Nat) (A0:Option Addr) (c0:Nat) (l0:List (S41)) (a1:ByteArray) (r:List ByteArray) (w:World) (hr0:Kd.C k41 w A0 l0.length l0) (hc0:l0.length ≤ c0) (h:field_Get.f k l0 a1=some r) :
  Calls Tryd.prog 90 #[.slice A0 l0.length c0,.string a1] w fun e w' => ∃ v0_:Value,e = .returned (v0_)∧Kd.R Kd.string 9 w' w.heap.size (fun _=>True) v0_ r∧Below w.heap.size w w' := by
 have hu41:=Tryd.underlying41
 have HR0:=Aside0.mk hr0
 have HC0:=Aside0.mk hc0
 clear hr0 hc0
 have HB:=Aside0.mk (Below.refl w.heap.size w)
 have H:(field_Get.l0 k a1 ([]:List ByteArray) l0 (l0.length:Int) 0)=some r:=h
 clear h
 have H' := Aside0.mk H
 clear H
 go_enter Tryd.func90,Tryd.ntmps90
 go_wp2
 go_loopg [5,10] k (fun kq v5 v10 w' => ∃ (x5_1:List ByteArray) (x10_1:Int),v10 = .int .i64 x10_1∧Aside0 (field_Get.l0 kq a1 x5_1 l0 (l0.length:Int) x10_1=some r)∧Aside0 (kq ≤ k)∧Aside0 (Kd.R Kd.string 9 w' w.heap.size (fun _=>True) v5 x5_1)∧Aside0 (Below w.heap.size w w'))
 case atStart=>exact ⟨(([]:List ByteArray)),(0),(by first|rfl|(simp;done)|(simp [*];done)),H',⟨Nat.le_refl _⟩,⟨by first|exact Kd.R_nil _ _ _ _ _|exact Kd.N_nil _ _ _ _ _|exact Kd.V_nil _ _ _ _ _|exact Kd.Q_nil _ _ _ _ _|exact Kd.S_nil _ _ _ _ _⟩,⟨by repeat (first|(with_reducible first|exact HB.out|apply below_alloc|apply pw_below_drewN|apply below_drew1)|exact HB.out)⟩⟩
 case round =>
  clear H'
  try clear p2
  obtain ⟨x5_1,x10_1,rfl,HA,HK1,HO_5,HB⟩:=hrel
  cases gk with
  | zero=>exact absurd HA.out (by simp [field_Get.l0])
  | succ k1 =>
   have H:=HA.out
   clear HA
   simp only [field_Get.l0] at H
   by_cases c3:x10_1 < (l0.length:Int)
   ·rw [if_pos c3] at H
    have c3b0:decide (x10_1 < (l0.length:Int))=true:=decide_eq_true c3
    clear c3
    by_cases c4:0 ≤ x10_1
    ·rw [if_pos c4] at H
     have c4b0:decide (0 ≤ x10_1)=true:=decide_eq_true c4
     clear c4
     by_cases c5:x10_1 < (l0.length:Int)
     ·rw [if_pos c5] at H
      have c5b0:decide (x10_1 < (l0.length:Int))=true:=decide_eq_true c5
      clear c5
      replace H:=Option.bind_eq_some_iff.mp H
      obtain ⟨t261,A60,H⟩:=H
      replace H:(if t261=true then (if x5_1.length < 8796093022208 then (field_Get.l0 k1 a1 (x5_1 ++ [(rd_T41 l0 x10_1).f1]) l0 (l0.length:Int) (wrap64 (x10_1 + 1))) else (none)) else (field_Get.l0 k1 a1 x5_1 l0 (l0.length:Int) (wrap64 (x10_1 + 1))))=some r:=H
      have A6:=Aside0.mk A60
      clear A60
      by_cases c7:t261=true
      ·subst c7
       have H1:(if x5_1.length < 8796093022208 then (field_Get.l0 k1 a1 (x5_1 ++ [(rd_T41 l0 x10_1).f1]) l0 (l0.length:Int) (wrap64 (x10_1 + 1))) else (none))=some r:=by rw [if_pos rfl] at H;exact H
       clear H
       have H:=H1
       clear H1
       by_cases c8:x5_1.length < 8796093022208
       ·rw [if_pos c8] at H
        have LMc8:=Aside0.mk c8
        clear c8
        obtain ⟨y262,hy262⟩ : ∃ y_:List ByteArray,y_=(x5_1 ++ [(rd_T41 l0 x10_1).f1]):=⟨_,rfl⟩
        replace H:(field_Get.l0 k1 a1 y262 l0 (l0.length:Int) (wrap64 (x10_1 + 1)))=some r:=by first|(rw [hy262];with_reducible exact H)|(have H2_:=(Option.bind_some _ _).symm.trans H;rw [hy262];with_reducible exact H2_)|(have H2_:=(Option.bind_some _ _).symm.trans H;with_reducible exact H2_)|with_reducible exact H|(rw [hy262];exact H)|exact H
        have Ny262:=Aside0.mk hy262
        clear hy262
        have H' := Aside0.mk H
        clear H
        have p259:0 ≤ (x10_1:Int):=of_decide_eq_true (by first|(with_reducible assumption)|assumption)
        have q259:x10_1 < (l0.length:Int):=of_decide_eq_true (by first|(with_reducible assumption)|assumption)
        obtain ⟨ad259,e259,hx259_0,hx259_1⟩:=at_T41 HR0.out x10_1 p259 q259
        cases e259
        replace hx259_0:=(HB.out.cell (World.block_lt_of_cell? w _ hx259_0)).trans hx259_0
        replace hx259_1:=(HB.out.cell (World.block_lt_of_cell? w _ hx259_1)).trans hx259_1
        replace p259:=eq_true p259
        replace q259:=eq_true q259
        go_wp2_with (first|((with_reducible refine gate_dst (N:=7) rfl ?_);refine box_event ?hg (N:=7) ?hd (cs:=#[.string (⟨#[]⟩:ByteArray),.string (⟨#[]⟩:ByteArray)]) (t:=41) ?hr ?_;(case hd=>rfl);(case hg=>rfl);(case hr=>first|(go_simp;done)|(go_simp;rfl));intro gb260 hg w9 hbox hb;have n0_:=Aside0.mk (Kd.R_below (by (with_reducible repeat (first|apply Kd.R_alloc|apply Kd.R_drewN|apply Kd.R_drew));exact HO_5.out) hb);have n1_:=Aside0.mk (below_step (by repeat (first|(with_reducible first|exact HB.out|apply below_alloc|apply pw_below_drewN|apply below_drew1)|exact HB.out)) hb);have n2_:=Aside0.mk (hbox);have n3_:=Aside0.mk ((by rw [hg];exact (below_size (by repeat (first|(with_reducible first|exact HB.out|apply below_alloc|apply pw_below_drewN|apply below_drew1)|exact HB.out))):w.heap.size ≤ gb260));have n4_:=Aside0.mk ((by rw [hg];exact (below_size (by repeat (first|(with_reducible first|exact HB.out|apply below_alloc|apply pw_below_drewN|apply below_drew1)|exact HB.out))):w.heap.size ≤ gb260));clear HO_5;clear HB;have HO_5:=n0_;have HB:=n1_;have BK260:=n2_;have GW260:=n3_;have GE260:=n4_;clear n0_ n1_ n2_ n3_ n4_;clear hb hbox hg;have hcz10_0:w9.cell? ⟨gb260,0,none⟩=some (.string (⟨#[]⟩:ByteArray)):=(blk_cell BK260.out 0).trans rfl;have hcz10_1:w9.cell? ⟨gb260,1,none⟩=some (.string (⟨#[]⟩:ByteArray)):=(blk_cell BK260.out 1).trans rfl;have hfz10_0:=blk_frozen BK260.out 0;have hfz10_1:=blk_frozen BK260.out 1)|((with_reducible refine gate_callee (f:=62) rfl ?_);refine goesL_ (some 17) rfl rfl Tryd.func62 (by kernel_rfl) rfl #[.string ((rd_T41 l0 x10_1).f0),.string a1] rfl (by (try simp only [List.map_toArray,List.map_cons,List.map_nil]);first|done|rfl|(simp only [List.length_drop,List.length_take];rfl)) ?_;(with_reducible refine (sign_Same.calls ((rd_T41 l0 x10_1).f0) a1 true _ A6.out).mono ?_);rintro e w11 ⟨rfl,hb⟩;(try clear A6);refine ⟨_,rfl,?_⟩;have n0_:=Aside0.mk (Kd.R_below (by (with_reducible repeat (first|apply Kd.R_alloc|apply Kd.R_drewN|apply Kd.R_drew));exact (Kd.R_mono (Kd.R_far (p:=⟨gb260,1,none⟩) (Kd.R_far (p:=⟨gb260,0,none⟩) (Kd.R_types HO_5.out BK260.out (by decide)) (fun _ hk=>hk.2) (.string ((rd_T41 l0 x10_1).f0))) (fun _ hk=>hk.2) (.string ((rd_T41 l0 x10_1).f1))) (fun _ h_=>h_.1))) hb);have n1_:=Aside0.mk (blk_below (g:=gb260) (o:=.cells #[.string ((rd_T41 l0 x10_1).f0),.string ((rd_T41 l0 x10_1).f1)] 41 (0,0)) (by (with_reducible repeat (first|refine blk_drewN ?_ _|refine blk_drew ?_|refine blk_alloc ?_ _));refine blk_put (cs:=#[.string ((rd_T41 l0 x10_1).f0),.string (⟨#[]⟩:ByteArray)]) ?_ 1 _ rfl;(with_reducible repeat (first|refine blk_drewN ?_ _|refine blk_drew ?_|refine blk_alloc ?_ _));refine blk_put (cs:=#[.string (⟨#[]⟩:ByteArray),.string (⟨#[]⟩:ByteArray)]) ?_ 0 _ rfl;(with_reducible repeat (first|refine blk_drewN ?_ _|refine blk_drew ?_|refine blk_alloc ?_ _));exact BK260.out) hb);have n2_:=Aside0.mk (below_step (by repeat (first|(with_reducible first|exact HB.out|apply below_alloc|apply pw_below_drewN|apply below_drew1|refine below_set ?_ GE260.out)|exact HB.out)) hb);clear HO_5;clear BK260;clear HB;have HO_5:=n0_;have BK260:=n1_;have HB:=n2_;clear n0_ n1_ n2_;(try clear hb);(try clear hb2);(try clear hk);(try clear hi);have hcz12_0:w11.cell? ⟨gb260,0,none⟩=some (.string ((rd_T41 l0 x10_1).f0)):=(blk_cell BK260.out 0).trans rfl;have hcz12_1:w11.cell? ⟨gb260,1,none⟩=some (.string ((rd_T41 l0 x10_1).f1)):=(blk_cell BK260.out 1).trans rfl;have hfz12_0:=blk_frozen BK260.out 0;have hfz12_1:=blk_frozen BK260.out 1)|((with_reducible refine gate_builtin (b:=.append) (xs:=#[.tmp 18,.tmp 21]) rfl ?_);at_builtin;refine Kd.R_append Kd.string (w0:=w) w.heap.size rfl (.tmp 18) (.tmp 21) 36 9 (.string ⟨#[]⟩) 16 rfl Tryd.underlying36 info9 rfl (by decide) (by omega) u5 x5_1 ((rd_T41 l0 x10_1).f1) [.string ((rd_T41 l0 x10_1).f1)] (fun _=>True) (fun _=>False) rfl rfl ?aP (fun _ hk=>hk.elim) ?aF ?aO ?aB ?aS ?aL ?_;(case aP=>exact rfl);(case aB=>exact (by repeat (first|(with_reducible first|exact HB.out|apply below_alloc|apply pw_below_drewN|apply below_drew1|refine below_set ?_ GE260.out)|exact HB.out)));(case aF=>exact (fun _ _=>trivial));(case aO=>exact (by (with_reducible repeat (first|apply Kd.R_alloc|apply Kd.R_drewN|apply Kd.R_drew));exact HO_5.out));(case aS=>exact (below_size (by repeat (first|(with_reducible first|exact HB.out|apply below_alloc|apply pw_below_drewN|apply below_drew1|refine below_set ?_ GE260.out)|exact HB.out))));(case aL=>have:=LMc8.out;omega);intro v263 w13 ho hb hg hat;rw [← Ny262.out] at ho;have n0_:=Aside0.mk (blk_grown (g:=gb260) (o:=.cells #[.string ((rd_T41 l0 x10_1).f0),.string ((rd_T41 l0 x10_1).f1)] 41 (0,0)) (by (with_reducible repeat (first|refine blk_drewN ?_ _|refine blk_drew ?_|refine blk_alloc ?_ _));exact BK260.out) hg (Kd.R_ne HO_5.out BK260.out (by decide)));have n1_:=Aside0.mk (hb);have n2_:=Aside0.mk (ho);clear BK260;clear HB;clear HO_5;have BK260:=n0_;have HB:=n1_;have HO264:=n2_;clear n0_ n1_ n2_;clear ho hb hg hat))
        go_roundg k1
        case measure=>have:=HK1.out;omega
        case rel=>exact ⟨(y262),(wrap64 (x10_1 + 1)),(by first|rfl|(simp;done)|(simp [*];done)),H',⟨by have:=HK1.out;omega⟩,⟨by (with_reducible repeat (first|apply Kd.R_alloc|apply Kd.R_drewN|apply Kd.R_drew));exact HO264.out⟩,⟨by repeat (first|(with_reducible first|exact HB.out|apply below_alloc|apply pw_below_drewN|apply below_drew1|refine below_set ?_ GE260.out)|exact HB.out)⟩⟩
       ·rw [if_neg c8] at H
        exact absurd H (by simp)
      ·replace c7:=Bool.eq_false_iff.mpr c7
       subst c7
       have H1:(field_Get.l0 k1 a1 x5_1 l0 (l0.length:Int) (wrap64 (x10_1 + 1)))=some r:=by rw [if_neg (show ¬ (false=true) by decide)] at H;exact H
       clear H
       have H:=H1
       clear H1
       have H' := Aside0.mk H
       clear H
       have p259:0 ≤ (x10_1:Int):=of_decide_eq_true (by first|(with_reducible assumption)|assumption)
       have q259:x10_1 < (l0.length:Int):=of_decide_eq_true (by first|(with_reducible assumption)|assumption)
       obtain ⟨ad259,e259,hx259_0,hx259_1⟩:=at_T41 HR0.out x10_1 p259 q259
       cases e259
       replace hx259_0:=(HB.out.cell (World.block_lt_of_cell? w _ hx259_0)).trans hx259_0
       replace hx259_1:=(HB.out.cell (World.block_lt_of_cell? w _ hx259_1)).trans hx259_1
       replace p259:=eq_true p259
       replace q259:=eq_true q259
       go_wp2_with (first|((with_reducible refine gate_dst (N:=7) rfl ?_);refine box_event ?hg (N:=7) ?hd (cs:=#[.string (⟨#[]⟩:ByteArray),.string (⟨#[]⟩:ByteArray)]) (t:=41) ?hr ?_;(case hd=>rfl);(case hg=>rfl);(case hr=>first|(go_simp;done)|(go_simp;rfl));intro gb260 hg w14 hbox hb;have n0_:=Aside0.mk (Kd.R_below (by (with_reducible repeat (first|apply Kd.R_alloc|apply Kd.R_drewN|apply Kd.R_drew));exact HO_5.out) hb);have n1_:=Aside0.mk (below_step (by repeat (first|(with_reducible first|exact HB.out|apply below_alloc|apply pw_below_drewN|apply below_drew1)|exact HB.out)) hb);have n2_:=Aside0.mk (hbox);have n3_:=Aside0.mk ((by rw [hg];exact (below_size (by repeat (first|(with_reducible first|exact HB.out|apply below_alloc|apply pw_below_drewN|apply below_drew1)|exact HB.out))):w.heap.size ≤ gb260));have n4_:=Aside0.mk ((by rw [hg];exact (below_size (by repeat (first|(with_reducible first|exact HB.out|apply below_alloc|apply pw_below_drewN|apply below_drew1)|exact HB.out))):w.heap.size ≤ gb260));clear HO_5;clear HB;have HO_5:=n0_;have HB:=n1_;have BK260:=n2_;have GW260:=n3_;have GE260:=n4_;clear n0_ n1_ n2_ n3_ n4_;clear hb hbox hg;have hcz15_0:w14.cell? ⟨gb260,0,none⟩=some (.string (⟨#[]⟩:ByteArray)):=(blk_cell BK260.out 0).trans rfl;have hcz15_1:w14.cell? ⟨gb260,1,none⟩=some (.string (⟨#[]⟩:ByteArray)):=(blk_cell BK260.out 1).trans rfl;have hfz15_0:=blk_frozen BK260.out 0;have hfz15_1:=blk_frozen BK260.out 1)|((with_reducible refine gate_callee (f:=62) rfl ?_);refine goesL_ (some 17) rfl rfl Tryd.func62 (by kernel_rfl) rfl #[.string ((rd_T41 l0 x10_1).f0),.string a1] rfl (by (try simp only [List.map_toArray,List.map_cons,List.map_nil]);first|done|rfl|(simp only [List.length_drop,List.length_take];rfl)) ?_;(with_reducible refine (sign_Same.calls ((rd_T41 l0 x10_1).f0) a1 false _ A6.out).mono ?_);rintro e w16 ⟨rfl,hb⟩;(try clear A6);refine ⟨_,rfl,?_⟩;have n0_:=Aside0.mk (Kd.R_below (by (with_reducible repeat (first|apply Kd.R_alloc|apply Kd.R_drewN|apply Kd.R_drew));exact (Kd.R_mono (Kd.R_far (p:=⟨gb260,1,none⟩) (Kd.R_far (p:=⟨gb260,0,none⟩) (Kd.R_types HO_5.out BK260.out (by decide)) (fun _ hk=>hk.2) (.string ((rd_T41 l0 x10_1).f0))) (fun _ hk=>hk.2) (.string ((rd_T41 l0 x10_1).f1))) (fun _ h_=>h_.1))) hb);have n1_:=Aside0.mk (blk_below (g:=gb260) (o:=.cells #[.string ((rd_T41 l0 x10_1).f0),.string ((rd_T41 l0 x10_1).f1)] 41 (0,0)) (by (with_reducible repeat (first|refine blk_drewN ?_ _|refine blk_drew ?_|refine blk_alloc ?_ _));refine blk_put (cs:=#[.string ((rd_T41 l0 x10_1).f0),.string (⟨#[]⟩:ByteArray)]) ?_ 1 _ rfl;(with_reducible repeat (first|refine blk_drewN ?_ _|refine blk_drew ?_|refine blk_alloc ?_ _));refine blk_put (cs:=#[.string (⟨#[]⟩:ByteArray),.string (⟨#[]⟩:ByteArray)]) ?_ 0 _ rfl;(with_reducible repeat (first|refine blk_drewN ?_ _|refine blk_drew ?_|refine blk_alloc ?_ _));exact BK260.out) hb);have n2_:=Aside0.mk (below_step (by repeat (first|(with_reducible first|exact HB.out|apply below_alloc|apply pw_below_drewN|apply below_drew1|refine below_set ?_ GE260.out)|exact HB.out)) hb);clear HO_5;clear BK260;clear HB;have HO_5:=n0_;have BK260:=n1_;have HB:=n2_;clear n0_ n1_ n2_;(try clear hb);(try clear hb2);(try clear hk);(try clear hi)))
       go_roundg k1
       case measure=>have:=HK1.out;omega
       case rel=>exact ⟨(x5_1),(wrap64 (x10_1 + 1)),(by first|rfl|(simp;done)|(simp [*];done)),H',⟨by have:=HK1.out;omega⟩,⟨by (with_reducible repeat (first|apply Kd.R_alloc|apply Kd.R_drewN|apply Kd.R_drew));exact HO_5.out⟩,⟨by repeat (first|(with_reducible first|exact HB.out|apply below_alloc|apply pw_below_drewN|apply below_drew1|refine below_set ?_ GE260.out)|exact HB.out)⟩⟩
     ·rw [if_neg c5] at H
      exact absurd H (by simp)
    ·rw [if_neg c4] at H
     exact absurd H (by simp)
   ·rw [if_neg c3] at H
    have c3b0:decide (x10_1 < (l0.length:Int))=false:=decide_eq_false c3
    clear c3
    obtain rfl:=Option.some.inj H
    go_wp2
    go_ret
    exact ⟨_,by first|rfl|(simp [errW_none,errW_some] <;> rfl)|(simp [*,errW_none,errW_some] <;> rfl),by (with_reducible repeat (first|apply Kd.R_alloc|apply Kd.R_drewN|apply Kd.R_drew));exact HO_5.out,by repeat (first|(with_reducible first|exact HB.out|apply below_alloc|apply pw_below_drewN|apply below_drew1)|exact HB.out)⟩
/-- At a text of one byte alone. -/
def strings_Count.f (a0 a1:ByteArray):Option Int:=match a1.data.toList with
 | [c]=>some (Lib.countByte a0.data.toList c)
 | _=>none
theorem strings_Count.calls (a0 a1:ByteArray) (r:Int) (w:World) (h:strings_Count.f a0 a1=some r) :
  Calls Tryd.prog 134 #[.string a0,.string a1] w fun e w' => e = .returned (.int .i64 r)∧Drawn0 w w' := by
 obtain ⟨⟨l⟩⟩:=a1
 unfold strings_Count.f at h
 split at h
 ·rename_i c hc
  obtain rfl:l=[c]:=hc
  obtain rfl:=Option.some.inj h
  refine (Tryd.strings_Count_one a0 c w).mono ?_
  rintro e w' ⟨rfl,rfl⟩
  exact ⟨rfl,Drawn0.refl _⟩
 ·cases h
/-- At a text of one byte alone. -/
def strings_Index.f (a0 a1:ByteArray):Option Int:=match a1.data.toList with
 | [c]=>some (Lib.indexByte a0.data.toList c)
 | _=>none
theorem strings_Index.calls (a0 a1:ByteArray) (r:Int) (w:World) (h:strings_Index.f a0 a1=some r) :
  Calls Tryd.prog 135 #[.string a0,.string a1] w fun e w' => e = .returned (.int .i64 r)∧Drawn0 w w' := by
 obtain ⟨⟨l⟩⟩:=a1
 unfold strings_Index.f at h
 split at h
 ·rename_i c hc
  obtain rfl:l=[c]:=hc
  obtain rfl:=Option.some.inj h
  refine (Tryd.strings_Index_one a0 c w).mono ?_
  rintro e w' ⟨rfl,rfl⟩
  exact ⟨rfl,Drawn0.refl _⟩
 ·cases h
/-- Not followed: no law comes here. -/
def strings_explode.f (a0:ByteArray) (a1:Int):Option (List ByteArray):=none
theorem strings_explode.calls (a0:ByteArray) (a1:Int) (r:List ByteArray) (w:World) (h:strings_explode.f a0 a1=some r) :
  Calls Tryd.prog 133 #[.string a0,.int .i64 a1] w fun e w' => ∃ v0_:Value,e = .returned (v0_)∧Kd.R Kd.string 9 w' w.heap.size (fun _=>True) v0_ r∧Below w.heap.size w w' := by cases h
mutual
def strings_genSplit.j0:Nat → ByteArray → ByteArray → Int → Int → Option (List ByteArray)
 | 0,_,_,_,_=>none
 | k + 1,x0,x1,x2,x3=>if 0 ≤ (mn x3 (wrap64 ((x0.size:Int) + 1))) then (if (mn x3 (wrap64 ((x0.size:Int) + 1)):Int).toNat ≤ 17592186044416 then (strings_genSplit.l0 k x0 x1 x2 (wrap64 ((mn x3 (wrap64 ((x0.size:Int) + 1))) - 1)) (List.replicate (mn x3 (wrap64 ((x0.size:Int) + 1)):Int).toNat (⟨#[]⟩:ByteArray)) 0) else (none)) else (none)
def strings_genSplit.l0:Nat → ByteArray → ByteArray → Int → Int → List ByteArray → Int → Option (List ByteArray)
 | 0,_,_,_,_,_,_=>none
 | k + 1,x0,x1,x2,x3,x9,x10=>if x10 < x3 then ((strings_Index.f x0 x1).bind fun t272=>(if t272 < 0 then (if 0 ≤ x10 then (if x10 < (x9.length:Int) then (if 0 ≤ (wrap64 (x10 + 1)) then (if (wrap64 (x10 + 1)) ≤ (x9.length:Int) then (some ((x9.set (x10:Int).toNat x0).take ((wrap64 (x10 + 1)):Int).toNat)) else (none)) else (none)) else (none)) else (none)) else (if 0 ≤ (wrap64 (t272 + x2)) then (if (wrap64 (t272 + x2)) ≤ (x0.size:Int) then (if 0 ≤ x10 then (if x10 < (x9.length:Int) then (if 0 ≤ (wrap64 (t272 + (x1.size:Int))) then (if (wrap64 (t272 + (x1.size:Int))) ≤ (x0.size:Int) then (strings_genSplit.l0 k (x0.extract ((wrap64 (t272 + (x1.size:Int))):Int).toNat x0.size) x1 x2 x3 (x9.set (x10:Int).toNat (x0.extract 0 ((wrap64 (t272 + x2)):Int).toNat)) (wrap64 (x10 + 1))) else (none)) else (none)) else (none)) else (none)) else (none)) else (none)))) else (if 0 ≤ x10 then (if x10 < (x9.length:Int) then (if 0 ≤ (wrap64 (x10 + 1)) then (if (wrap64 (x10 + 1)) ≤ (x9.length:Int) then (some ((x9.set (x10:Int).toNat x0).take ((wrap64 (x10 + 1)):Int).toNat)) else (none)) else (none)) else (none)) else (none))
end
def strings_genSplit.f (k:Nat) (a0:ByteArray) (a1:ByteArray) (a2:Int) (a3:Int):Option (List ByteArray):=if a3=0 then (some ([]:List ByteArray)) else (if a1.toList=([]:List UInt8) then ((strings_explode.f a0 a3).bind fun t265=>(some t265)) else (if a3 < 0 then ((strings_Count.f a0 a1).bind fun t268=>(strings_genSplit.j0 k a0 a1 a2 (wrap64 (t268 + 1)))) else (strings_genSplit.j0 k a0 a1 a2 a3)))
set_option maxHeartbeats 8000000 in
set_option maxRecDepth 100000 in
theorem strings_genSplit.calls (k:Nat) (a0:ByteArray) (a1:ByteArray) (a2:Int) (a3:Int) (r:List ByteArray) (w:World) (h:strings_genSplit.f k a0 a1 a2 a3=some r) :
  Calls Tryd.prog 123 #[.string a0,.string a1,.int .i64 a2,.int .i64 a3] w fun e w' => ∃ v0_:Value,e = .returned (v0_)∧Kd.R Kd.string 9 w' w.heap.size (fun _=>True) v0_ r∧Below w.heap.size w w' := by
 have HB:=Aside0.mk (Below.refl w.heap.size w)
 have H:(if a3=0 then (some ([]:List ByteArray)) else (if a1.toList=([]:List UInt8) then ((strings_explode.f a0 a3).bind fun t58=>(some t58)) else (if a3 < 0 then ((strings_Count.f a0 a1).bind fun t57=>(strings_genSplit.j0 k a0 a1 a2 (wrap64 (t57 + 1)))) else (strings_genSplit.j0 k a0 a1 a2 a3))))=some r:=h
 clear h
 by_cases c5:a3=0
 ·rw [if_pos c5] at H
  have c5b0:(a3 == 0)=true:=beq_iff_eq.mpr c5
  have c5b1:(a3 != 0)=false:=bne_eq_false_iff_eq.mpr c5
  clear c5
  obtain rfl:=Option.some.inj H
  go_enter Tryd.func123,Tryd.ntmps123
  go_wp2
  go_ret
  exact ⟨_,by first|rfl|(simp [errW_none,errW_some] <;> rfl)|(simp [*,errW_none,errW_some] <;> rfl),by first|exact Kd.R_nil _ _ _ _ _|exact Kd.N_nil _ _ _ _ _|exact Kd.V_nil _ _ _ _ _|exact Kd.Q_nil _ _ _ _ _|exact Kd.S_nil _ _ _ _ _,by repeat (first|(with_reducible first|exact HB.out|apply below_alloc|apply pw_below_drewN|apply below_drew1)|exact HB.out)⟩
 ·rw [if_neg c5] at H
  have c5b0:(a3 == 0)=false:=beq_eq_false_iff_ne.mpr c5
  have c5b1:(a3 != 0)=true:=bne_iff_ne.mpr c5
  by_cases c6:a1.toList=([]:List UInt8)
  ·rw [if_pos c6] at H
   have c6b0:(a1.toList == ([]:List UInt8))=true:=beq_iff_eq.mpr c6
   have c6b1:(a1.toList != ([]:List UInt8))=false:=bne_eq_false_iff_eq.mpr c6
   clear c6
   replace H:=Option.bind_eq_some_iff.mp H
   obtain ⟨t58,A70,H⟩:=H
   replace H:(some t58)=some r:=H
   have A7:=Aside0.mk A70
   clear A70
   obtain rfl:=Option.some.inj H
   go_enter Tryd.func123,Tryd.ntmps123
   go_wp2_with (first|((with_reducible refine gate_callee (f:=133) rfl ?_);refine goesL_ (some 18) rfl rfl Tryd.func133 (by kernel_rfl) rfl #[.string a0,.int .i64 a3] rfl (by (try simp only [List.map_toArray,List.map_cons,List.map_nil]);first|done|rfl|(simp only [List.length_drop,List.length_take];rfl)) ?_;(with_reducible refine (strings_explode.calls a0 a3 t58 _ A7.out).mono ?_);rintro e w8 ⟨v65,rfl,ho0,hb⟩;(try clear A7);refine ⟨_,rfl,?_⟩;have n0_:=Aside0.mk (Kd.R_lower ho0 (below_size (by repeat (first|(with_reducible first|exact HB.out|apply below_alloc|apply pw_below_drewN|apply below_drew1)|exact HB.out))));have n1_:=Aside0.mk (below_step (by repeat (first|(with_reducible first|exact HB.out|apply below_alloc|apply pw_below_drewN|apply below_drew1)|exact HB.out)) hb);clear HB;have HO62:=n0_;have HB:=n1_;clear n0_ n1_;(try clear hb);(try clear hb2);(try clear hk);(try clear hi);(try clear ho0)))
   go_ret
   exact ⟨_,by first|rfl|(simp [errW_none,errW_some] <;> rfl)|(simp [*,errW_none,errW_some] <;> rfl),by (with_reducible repeat (first|apply Kd.R_alloc|apply Kd.R_drewN|apply Kd.R_drew));exact HO62.out,by repeat (first|(with_reducible first|exact HB.out|apply below_alloc|apply pw_below_drewN|apply below_drew1)|exact HB.out)⟩
  ·rw [if_neg c6] at H
   have c6b0:(a1.toList == ([]:List UInt8))=false:=beq_eq_false_iff_ne.mpr c6
   have c6b1:(a1.toList != ([]:List UInt8))=true:=bne_iff_ne.mpr c6
   have HC9:=Aside0.mk H
   clear H
   go_enter Tryd.func123,Tryd.ntmps123
   go_upto_if 20 with (fail)
   go_cut [3] (fun v3 wc => ∃ (kq:Nat) (x3_8:Int),v3 = .int .i64 x3_8∧Aside0 (strings_genSplit.j0 kq a0 a1 a2 x3_8=some r)∧Aside0 (kq ≤ k)∧Aside0 (Below w.heap.size w wc))
   case first =>
    have H:=HC9.out
    clear HC9
    by_cases c10:a3 < 0
    ·rw [if_pos c10] at H
     have c10b0:decide (a3 < 0)=true:=decide_eq_true c10
     clear c10
     (first|rw [c10b0]|(simp only [i64_w,i32_w];rw [c10b0])|skip)
     replace H:=Option.bind_eq_some_iff.mp H
     obtain ⟨t57,A60,H⟩:=H
     replace H:(strings_genSplit.j0 k a0 a1 a2 (wrap64 (t57 + 1)))=some r:=H
     have A11:=Aside0.mk A60
     clear A60
     have H' := Aside0.mk H
     clear H
     go_wp2_with (first|((with_reducible refine gate_callee (f:=134) rfl ?_);refine goesL_ (some 23) rfl rfl Tryd.func134 (by kernel_rfl) rfl #[.string a0,.string a1] rfl (by (try simp only [List.map_toArray,List.map_cons,List.map_nil]);first|done|rfl|(simp only [List.length_drop,List.length_take];rfl)) ?_;(with_reducible refine (strings_Count.calls a0 a1 t57 _ A11.out).mono ?_);rintro e w' ⟨rfl,⟨nd,rfl⟩⟩;(try clear A11);refine ⟨_,rfl,?_⟩))
     go_meet
     case rel=>exact ⟨_,(wrap64 (t57 + 1)),(by first|rfl|(simp;done)|(simp [*];done)),H',⟨by first|omega|exact Nat.le_refl _⟩,⟨by repeat (first|(with_reducible first|exact HB.out|apply below_alloc|apply pw_below_drewN|apply below_drew1)|exact HB.out)⟩⟩
    ·rw [if_neg c10] at H
     have c10b0:decide (a3 < 0)=false:=decide_eq_false c10
     clear c10
     (first|rw [c10b0]|(simp only [i64_w,i32_w];rw [c10b0])|skip)
     have H' := Aside0.mk H
     clear H
     go_wp2
     go_meet
     case rel=>exact ⟨_,(a3),(by first|rfl|(simp;done)|(simp [*];done)),H',⟨by first|omega|exact Nat.le_refl _⟩,⟨by repeat (first|(with_reducible first|exact HB.out|apply below_alloc|apply pw_below_drewN|apply below_drew1)|exact HB.out)⟩⟩
   case rest =>
    clear HC9
    try clear c1
    try clear p2
    try clear c5
    try clear c5b0
    try clear c5b1
    try clear c6
    try clear c6b0
    try clear c6b1
    try clear p6
    try clear c10
    try clear c10b0
    obtain ⟨kq,x3_8,rfl,HA,HJ8,HB⟩:=hcut
    cases kq with
    | zero=>exact absurd HA.out (by simp [strings_genSplit.j0])
    | succ kj8 =>
     have H:=HA.out
     clear HA
     simp only [strings_genSplit.j0] at H
     obtain ⟨ji12,hji12⟩ : ∃ j_:Int,(mn x3_8 (wrap64 ((a0.size:Int) + 1)))=j_:=⟨_,rfl⟩
     replace H:(if 0 ≤ (ji12) then (if (ji12:Int).toNat ≤ 17592186044416 then (strings_genSplit.l0 kj8 a0 a1 a2 (wrap64 ((ji12) - 1)) (List.replicate (ji12:Int).toNat (⟨#[]⟩:ByteArray)) 0) else (none)) else (none))=some r:=by first|(rw [hji12] at H;exact H)|(simp only [hji12] at H ⊢;exact H)
     have hji12_:(if (wrap64 ((a0.size:Int) + 1)) < x3_8 then (wrap64 ((a0.size:Int) + 1)) else x3_8)=ji12:=hji12
     by_cases c13:0 ≤ (ji12)
     ·rw [if_pos c13] at H
      have c13b0:=eq_true c13
      have c13b1:decide (0 ≤ (ji12))=true:=decide_eq_true c13
      clear c13
      by_cases c14:(ji12:Int).toNat ≤ 17592186044416
      ·rw [if_pos c14] at H
       have c14b0:=eq_true c14
       have c14b1:decide ((ji12:Int).toNat ≤ 17592186044416)=true:=decide_eq_true c14
       clear c14
       obtain ⟨y54,hy54⟩ : ∃ y_:List ByteArray,y_=(List.replicate (ji12:Int).toNat (⟨#[]⟩:ByteArray)):=⟨_,rfl⟩
       replace H:(strings_genSplit.l0 kj8 a0 a1 a2 (wrap64 ((ji12) - 1)) y54 0)=some r:=by first|(rw [hy54];with_reducible exact H)|(have H2_:=(Option.bind_some _ _).symm.trans H;rw [hy54];with_reducible exact H2_)|(have H2_:=(Option.bind_some _ _).symm.trans H;with_reducible exact H2_)|with_reducible exact H|(rw [hy54];exact H)|exact H
       have Ny54:=Aside0.mk hy54
       clear hy54
       have H' := Aside0.mk H
       clear H
       go_wp2_with (first|((with_reducible refine gate_dst (N:=31) rfl ?_);refine Kd.R_make Kd.string _ 9 rfl (N:=31) rfl 36 _ _ rfl ji12 rfl rfl Tryd.underlying36 (.string ⟨#[]⟩) 16 info9 rfl (by decide) (by omega) (⟨#[]⟩:ByteArray) (ok:=fun _=>True) (okp:=fun _=>True) rfl (fun _ hk=>hk) trivial (of_decide_eq_true (by first|(with_reducible assumption)|assumption)) (Nat.le_trans (Nat.mul_le_mul_right _ (of_decide_eq_true (by first|(with_reducible assumption)|assumption):ji12.toNat ≤ 17592186044416)) (by omega)) (Below.refl _ _) (Nat.le_refl _) ?_;intro v59 w15 ho16 hb hg_ hnew_;clear hg_ hnew_;(first|rw [← Ny54.out] at ho16|(simp only [Int.reduceToNat] at ho16;rw [← Ny54.out] at ho16));have n0_:=Aside0.mk (Kd.R_lower ho16 (below_size (by repeat (first|(with_reducible first|exact HB.out|apply below_alloc|apply pw_below_drewN|apply below_drew1)|exact HB.out))));have n1_:=Aside0.mk (below_step (by repeat (first|(with_reducible first|exact HB.out|apply below_alloc|apply pw_below_drewN|apply below_drew1)|exact HB.out)) hb);clear HB;have HO63:=n0_;have HB:=n1_;clear n0_ n1_;clear hb ho16))
       go_loopg [0,10] kj8 (fun kq v0 v10 w' => ∃ (x0_2:ByteArray) (x9_2:List ByteArray) (x10_2:Int),v0 = .string x0_2∧v10 = .int .i64 x10_2∧Aside0 (strings_genSplit.l0 kq x0_2 a1 a2 (wrap64 ((ji12) - 1)) x9_2 x10_2=some r)∧Aside0 (kq ≤ kj8)∧Aside0 (Kd.R Kd.string 9 w' w.heap.size (fun _=>True) v59 x9_2)∧Aside0 (Below w.heap.size w w'))
       case atStart=>exact ⟨(a0),(y54),(0),(by first|rfl|(simp;done)|(simp [*];done)),(by first|rfl|(simp;done)|(simp [*];done)),H',⟨Nat.le_refl _⟩,⟨by (with_reducible repeat (first|apply Kd.R_alloc|apply Kd.R_drewN|apply Kd.R_drew));exact HO63.out⟩,⟨by repeat (first|(with_reducible first|exact HB.out|apply below_alloc|apply pw_below_drewN|apply below_drew1)|exact HB.out)⟩⟩
       case round =>
        clear H'
        try clear c1
        try clear p2
        try clear c5
        try clear c5b0
        try clear c5b1
        try clear c6
        try clear c6b0
        try clear c6b1
        try clear p6
        try clear c10
        try clear c10b0
        try clear c12
        try clear c13
        try clear c13b0
        try clear c13b1
        try clear c14
        try clear c14b0
        try clear c14b1
        try clear p2
        try clear p6
        obtain ⟨x0_2,x9_2,x10_2,rfl,rfl,HA,HK2,HO_9,HB⟩:=hrel
        cases gk with
        | zero=>exact absurd HA.out (by simp [strings_genSplit.l0])
        | succ k2 =>
         have H:=HA.out
         clear HA
         simp only [strings_genSplit.l0] at H
         by_cases c17:x10_2 < (wrap64 ((ji12) - 1))
         ·rw [if_pos c17] at H
          have c17b0:decide (x10_2 < (wrap64 ((ji12) - 1)))=true:=decide_eq_true c17
          clear c17
          replace H:=Option.bind_eq_some_iff.mp H
          obtain ⟨t4,A61,H⟩:=H
          replace H:(if t4 < 0 then (if 0 ≤ x10_2 then (if x10_2 < (x9_2.length:Int) then (if 0 ≤ (wrap64 (x10_2 + 1)) then (if (wrap64 (x10_2 + 1)) ≤ (x9_2.length:Int) then (some ((x9_2.set (x10_2:Int).toNat x0_2).take ((wrap64 (x10_2 + 1)):Int).toNat)) else (none)) else (none)) else (none)) else (none)) else (if 0 ≤ (wrap64 (t4 + a2)) then (if (wrap64 (t4 + a2)) ≤ (x0_2.size:Int) then (if 0 ≤ x10_2 then (if x10_2 < (x9_2.length:Int) then (if 0 ≤ (wrap64 (t4 + (a1.size:Int))) then (if (wrap64 (t4 + (a1.size:Int))) ≤ (x0_2.size:Int) then (strings_genSplit.l0 k2 (x0_2.extract ((wrap64 (t4 + (a1.size:Int))):Int).toNat x0_2.size) a1 a2 (wrap64 ((ji12) - 1)) (x9_2.set (x10_2:Int).toNat (x0_2.extract 0 ((wrap64 (t4 + a2)):Int).toNat)) (wrap64 (x10_2 + 1))) else (none)) else (none)) else (none)) else (none)) else (none)) else (none)))=some r:=H
          have A18:=Aside0.mk A61
          clear A61
          by_cases c19:t4 < 0
          ·rw [if_pos c19] at H
           have c19b0:decide (t4 < 0)=true:=decide_eq_true c19
           clear c19
           by_cases c20:0 ≤ x10_2
           ·rw [if_pos c20] at H
            have c20b0:decide (0 ≤ x10_2)=true:=decide_eq_true c20
            clear c20
            by_cases c21:x10_2 < (x9_2.length:Int)
            ·rw [if_pos c21] at H
             have c21b0:decide (x10_2 < (x9_2.length:Int))=true:=decide_eq_true c21
             clear c21
             obtain ⟨y49,hy49⟩ : ∃ y_:List ByteArray,y_=(x9_2.set (x10_2:Int).toNat x0_2):=⟨_,rfl⟩
             replace H:(if 0 ≤ (wrap64 (x10_2 + 1)) then (if (wrap64 (x10_2 + 1)) ≤ (x9_2.length:Int) then (some (y49.take ((wrap64 (x10_2 + 1)):Int).toNat)) else (none)) else (none))=some r:=by first|(rw [hy49];with_reducible exact H)|(have H2_:=(Option.bind_some _ _).symm.trans H;rw [hy49];with_reducible exact H2_)|(have H2_:=(Option.bind_some _ _).symm.trans H;with_reducible exact H2_)|with_reducible exact H|(rw [hy49];exact H)|exact H
             have Ny49:=Aside0.mk hy49
             clear hy49
             obtain ⟨ji23,hji23⟩ : ∃ j_:Int,(wrap64 (x10_2 + 1))=j_:=⟨_,rfl⟩
             replace H:(if 0 ≤ (ji23) then (if (ji23) ≤ (x9_2.length:Int) then (some (y49.take ((ji23):Int).toNat)) else (none)) else (none))=some r:=by first|(rw [hji23] at H;exact H)|(simp only [hji23] at H ⊢;exact H)
             (try rw [hji23] at A18)
             have hji23w:(IntKind.i64.wrap (x10_2 + 1))=ji23:=(i64_w _).trans hji23
             by_cases c24:0 ≤ (ji23)
             ·rw [if_pos c24] at H
              have c24b0:=eq_true c24
              have c24b1:decide (0 ≤ (ji23))=true:=decide_eq_true c24
              clear c24
              by_cases c25:(ji23) ≤ (x9_2.length:Int)
              ·rw [if_pos c25] at H
               have c25b0:=eq_true c25
               have c25b1:decide ((ji23) ≤ (x9_2.length:Int))=true:=decide_eq_true c25
               clear c25
               obtain ⟨y51,hy51⟩ : ∃ y_:List ByteArray,y_=(y49.take ((ji23):Int).toNat):=⟨_,rfl⟩
               replace H:(some y51)=some r:=by first|(rw [hy51];with_reducible exact H)|(have H2_:=(Option.bind_some _ _).symm.trans H;rw [hy51];with_reducible exact H2_)|(have H2_:=(Option.bind_some _ _).symm.trans H;with_reducible exact H2_)|with_reducible exact H|(rw [hy51];exact H)|exact H
               have Ny51:=Aside0.mk hy51
               clear hy51
               obtain rfl:=Option.some.inj H
               go_wp2_with (first|((with_reducible refine gate_callee (f:=135) rfl ?_);refine goesL_ (some 39) rfl rfl Tryd.func135 (by kernel_rfl) rfl #[.string x0_2,.string a1] rfl (by (try simp only [List.map_toArray,List.map_cons,List.map_nil]);first|done|rfl|(simp only [List.length_drop,List.length_take];rfl)) ?_;(with_reducible refine (strings_Index.calls x0_2 a1 t4 _ A18.out).mono ?_);rintro e w' ⟨rfl,⟨nd,rfl⟩⟩;(try clear A18);refine ⟨_,rfl,?_⟩;(try (rw [drewN_self wr];generalize hq_:World.drewN wr _=wr;have n0_:Aside0 (Kd.R Kd.string 9 wr w.heap.size (fun _=>True) v59 x9_2):=⟨by rw [← hq_];exact (by (with_reducible repeat (first|apply Kd.R_alloc|apply Kd.R_drewN|apply Kd.R_drew));exact HO_9.out)⟩;have n1_:Aside0 (Below w.heap.size w wr):=⟨by rw [← hq_];exact (by repeat (first|(with_reducible first|exact HB.out|apply below_alloc|apply pw_below_drewN|apply below_drew1)|exact HB.out))⟩;clear HO_9 HB hq_;have HO_9:=n0_;have HB:=n1_;clear n0_ n1_));have p22:0 ≤ (x10_2:Int):=of_decide_eq_true (by first|(with_reducible assumption)|assumption);have q22:(x10_2:Int) < ((x9_2.length:Int):Int):=of_decide_eq_true (by first|(with_reducible assumption)|assumption);obtain ⟨go22,co22,eo22,gb22,gl22,cl22,HG22⟩:=Kd.R_form HO_9.out (by omega);(first|cases eo22|(injection eo22 with ea_ en_ ec_;(first|subst ea_|(injection ea_ with ea_;subst ea_));subst ec_;clear en_));have GB22:=Aside0.mk gb22;have GG22:=Aside0.mk HG22;clear gb22 gl22 HG22;obtain ⟨hx22_0,hf22_0⟩:=Kd.R_celln (⟨#[]⟩:ByteArray) HO_9.out (x10_2:Int) p22 q22;replace p22:=eq_true p22;replace q22:=eq_true q22;obtain ⟨hy26_,hz26_⟩:=Kd.R_celln (⟨#[]⟩:ByteArray) HO_9.out (x10_2:Int) (of_decide_eq_true (by first|(with_reducible assumption)|assumption)) (of_decide_eq_true (by first|(with_reducible assumption)|assumption));have HP26:=Kd.R_putg HO_9.out (x10_2:Int) x0_2;have q28:((ji23):Int) ≤ ((x9_2.length:Int):Int):=of_decide_eq_true (by first|(with_reducible assumption)|assumption);obtain ⟨i55,hi55,_,hsz28,_⟩:=info_parts info9;have hcut28:=cut_to (P:=Tryd.prog) 36 9 .i64 Tryd.underlying36 hi55 (some ⟨go22,0,none⟩) x9_2.length co22 (ji23) (of_decide_eq_true (by first|(with_reducible assumption)|assumption)) q28 (Kd.R_reads' HO_9.out).2.1;clear hi55 hsz28;replace q28:=eq_true q28)|((with_reducible refine gate_store (t:=9) (p:=61) rfl ?_);refine store_event (t:=9) (p:=61) (v:=?vo_w27) (w1:=(wr.setCell ⟨go22,(x10_2:Int).toNat,none⟩ (.string x0_2))) ?hg ?ho ?hn ?hr ?_;(case ho=>rfl);(case hg=>rfl);(case hn=>rfl);(case hr=>first|(go_simp;done)|(go_simp;rfl));intro w27 hw;have hg:wr.grownBy w27 (some go22):=(by rw [hw];exact HP26.2);have hp_:Kd.R Kd.string 9 w27 w.heap.size (fun _=>True) (.slice (some ⟨go22,0,none⟩) x9_2.length co22) y49:=(by rw [hw,Ny49.out];exact HP26.1);clear HP26;have n0_:=Aside0.mk (hp_);have n1_:=Aside0.mk ((by rw [hw];exact below_set (HB.out) GB22.out:Below w.heap.size w w27));clear HO_9;clear HB;have HO_9:=n0_;have HB:=n1_;clear n0_ n1_;clear hg hw hp_;have q28:((ji23):Int) ≤ ((x9_2.length:Int):Int):=of_decide_eq_true (by first|(with_reducible assumption)|assumption);obtain ⟨i55,hi55,_,hsz28,_⟩:=info_parts info9;have hcut28:=cut_to (P:=Tryd.prog) 36 9 .i64 Tryd.underlying36 hi55 (some ⟨go22,0,none⟩) x9_2.length co22 (ji23) (of_decide_eq_true (by first|(with_reducible assumption)|assumption)) q28 (Kd.R_reads' HO_9.out).2.1;have hr28:=Kd.R_take (m:=((ji23):Int).toNat) HO_9.out (by omega);have hy28:y51.length=((ji23):Int).toNat:=(by rw [Ny51.out,List.length_take];omega);rw [← Ny51.out] at hr28;rw [← hy28] at hr28 hcut28;clear hy28 hi55 hsz28 HO_9;have HO66:=Aside0.mk hr28;clear hr28;replace q28:=eq_true q28))
               go_ret
               exact ⟨_,by first|rfl|(simp [errW_none,errW_some] <;> rfl)|(simp only [← hji12,← hji23];first|rfl|(simp [errW_none,errW_some] <;> rfl))|(simp [*,errW_none,errW_some] <;> rfl),(by rw [Ny51.out,Ny49.out];exact Kd.R_take (m:=((ji23):Int).toNat) HP26.1 (by have q_:(ji23:Int) ≤ (x9_2.length:Int):=of_decide_eq_true (by first|(with_reducible assumption)|assumption);rw [List.length_set];omega)),below_set (HB.out) GB22.out⟩
              ·rw [if_neg c25] at H
               exact absurd H (by simp)
             ·rw [if_neg c24] at H
              exact absurd H (by simp)
            ·rw [if_neg c21] at H
             exact absurd H (by simp)
           ·rw [if_neg c20] at H
            exact absurd H (by simp)
          ·rw [if_neg c19] at H
           have c19b0:decide (t4 < 0)=false:=decide_eq_false c19
           clear c19
           obtain ⟨ji29,hji29⟩ : ∃ j_:Int,(wrap64 (t4 + a2))=j_:=⟨_,rfl⟩
           replace H:(if 0 ≤ (ji29) then (if (ji29) ≤ (x0_2.size:Int) then (if 0 ≤ x10_2 then (if x10_2 < (x9_2.length:Int) then (if 0 ≤ (wrap64 (t4 + (a1.size:Int))) then (if (wrap64 (t4 + (a1.size:Int))) ≤ (x0_2.size:Int) then (strings_genSplit.l0 k2 (x0_2.extract ((wrap64 (t4 + (a1.size:Int))):Int).toNat x0_2.size) a1 a2 (wrap64 ((ji12) - 1)) (x9_2.set (x10_2:Int).toNat (x0_2.extract 0 ((ji29):Int).toNat)) (wrap64 (x10_2 + 1))) else (none)) else (none)) else (none)) else (none)) else (none)) else (none))=some r:=by first|(rw [hji29] at H;exact H)|(simp only [hji29] at H ⊢;exact H)
           (try rw [hji29] at A18)
           have hji29w:(IntKind.i64.wrap (t4 + a2))=ji29:=(i64_w _).trans hji29
           by_cases c30:0 ≤ (ji29)
           ·rw [if_pos c30] at H
            have c30b0:=eq_true c30
            have c30b1:decide (0 ≤ (ji29))=true:=decide_eq_true c30
            clear c30
            by_cases c31:(ji29) ≤ (x0_2.size:Int)
            ·rw [if_pos c31] at H
             have c31b0:=eq_true c31
             have c31b1:decide ((ji29) ≤ (x0_2.size:Int))=true:=decide_eq_true c31
             clear c31
             by_cases c32:0 ≤ x10_2
             ·rw [if_pos c32] at H
              have c32b0:decide (0 ≤ x10_2)=true:=decide_eq_true c32
              clear c32
              by_cases c33:x10_2 < (x9_2.length:Int)
              ·rw [if_pos c33] at H
               have c33b0:decide (x10_2 < (x9_2.length:Int))=true:=decide_eq_true c33
               clear c33
               obtain ⟨y52,hy52⟩ : ∃ y_:List ByteArray,y_=(x9_2.set (x10_2:Int).toNat (x0_2.extract 0 ((ji29):Int).toNat)):=⟨_,rfl⟩
               replace H:(if 0 ≤ (wrap64 (t4 + (a1.size:Int))) then (if (wrap64 (t4 + (a1.size:Int))) ≤ (x0_2.size:Int) then (strings_genSplit.l0 k2 (x0_2.extract ((wrap64 (t4 + (a1.size:Int))):Int).toNat x0_2.size) a1 a2 (wrap64 ((ji12) - 1)) y52 (wrap64 (x10_2 + 1))) else (none)) else (none))=some r:=by first|(rw [hy52];with_reducible exact H)|(have H2_:=(Option.bind_some _ _).symm.trans H;rw [hy52];with_reducible exact H2_)|(have H2_:=(Option.bind_some _ _).symm.trans H;with_reducible exact H2_)|with_reducible exact H|(rw [hy52];exact H)|exact H
               have Ny52:=Aside0.mk hy52
               clear hy52
               obtain ⟨ji35,hji35⟩ : ∃ j_:Int,(wrap64 (t4 + (a1.size:Int)))=j_:=⟨_,rfl⟩
               replace H:(if 0 ≤ (ji35) then (if (ji35) ≤ (x0_2.size:Int) then (strings_genSplit.l0 k2 (x0_2.extract ((ji35):Int).toNat x0_2.size) a1 a2 (wrap64 ((ji12) - 1)) y52 (wrap64 (x10_2 + 1))) else (none)) else (none))=some r:=by first|(rw [hji35] at H;exact H)|(simp only [hji35] at H ⊢;exact H)
               (try rw [hji35] at A18)
               have hji35w:(IntKind.i64.wrap (t4 + (a1.size:Int)))=ji35:=(i64_w _).trans hji35
               by_cases c36:0 ≤ (ji35)
               ·rw [if_pos c36] at H
                have c36b0:=eq_true c36
                have c36b1:decide (0 ≤ (ji35))=true:=decide_eq_true c36
                clear c36
                by_cases c37:(ji35) ≤ (x0_2.size:Int)
                ·rw [if_pos c37] at H
                 have c37b0:=eq_true c37
                 have c37b1:decide ((ji35) ≤ (x0_2.size:Int))=true:=decide_eq_true c37
                 clear c37
                 have H' := Aside0.mk H
                 clear H
                 go_wp2_with (first|((with_reducible refine gate_callee (f:=135) rfl ?_);refine goesL_ (some 39) rfl rfl Tryd.func135 (by kernel_rfl) rfl #[.string x0_2,.string a1] rfl (by (try simp only [List.map_toArray,List.map_cons,List.map_nil]);first|done|rfl|(simp only [List.length_drop,List.length_take];rfl)) ?_;(with_reducible refine (strings_Index.calls x0_2 a1 t4 _ A18.out).mono ?_);rintro e w' ⟨rfl,⟨nd,rfl⟩⟩;(try clear A18);refine ⟨_,rfl,?_⟩;(try (rw [drewN_self wr];generalize hq_:World.drewN wr _=wr;have n0_:Aside0 (Kd.R Kd.string 9 wr w.heap.size (fun _=>True) v59 x9_2):=⟨by rw [← hq_];exact (by (with_reducible repeat (first|apply Kd.R_alloc|apply Kd.R_drewN|apply Kd.R_drew));exact HO_9.out)⟩;have n1_:Aside0 (Below w.heap.size w wr):=⟨by rw [← hq_];exact (by repeat (first|(with_reducible first|exact HB.out|apply below_alloc|apply pw_below_drewN|apply below_drew1)|exact HB.out))⟩;clear HO_9 HB hq_;have HO_9:=n0_;have HB:=n1_;clear n0_ n1_));have p34:0 ≤ (x10_2:Int):=of_decide_eq_true (by first|(with_reducible assumption)|assumption);have q34:(x10_2:Int) < ((x9_2.length:Int):Int):=of_decide_eq_true (by first|(with_reducible assumption)|assumption);obtain ⟨go34,co34,eo34,gb34,gl34,cl34,HG34⟩:=Kd.R_form HO_9.out (by omega);(first|cases eo34|(injection eo34 with ea_ en_ ec_;(first|subst ea_|(injection ea_ with ea_;subst ea_));subst ec_;clear en_));have GB34:=Aside0.mk gb34;have GG34:=Aside0.mk HG34;clear gb34 gl34 HG34;obtain ⟨hx34_0,hf34_0⟩:=Kd.R_celln (⟨#[]⟩:ByteArray) HO_9.out (x10_2:Int) p34 q34;replace p34:=eq_true p34;replace q34:=eq_true q34;obtain ⟨hy38_,hz38_⟩:=Kd.R_celln (⟨#[]⟩:ByteArray) HO_9.out (x10_2:Int) (of_decide_eq_true (by first|(with_reducible assumption)|assumption)) (of_decide_eq_true (by first|(with_reducible assumption)|assumption));have HP38:=Kd.R_putg HO_9.out (x10_2:Int) (x0_2.extract 0 ((ji29):Int).toNat))|((with_reducible refine gate_store (t:=9) (p:=49) rfl ?_);refine store_event (t:=9) (p:=49) (v:=?vo_w39) (w1:=(wr.setCell ⟨go34,(x10_2:Int).toNat,none⟩ (.string (x0_2.extract 0 ((ji29):Int).toNat)))) ?hg ?ho ?hn ?hr ?_;(case ho=>rfl);(case hg=>rfl);(case hn=>rfl);(case hr=>first|(go_simp;done)|(go_simp;rfl));intro w39 hw;have hg:wr.grownBy w39 (some go34):=(by rw [hw];exact HP38.2);have hp_:Kd.R Kd.string 9 w39 w.heap.size (fun _=>True) (.slice (some ⟨go34,0,none⟩) x9_2.length co34) y52:=(by rw [hw,Ny52.out];exact HP38.1);clear HP38;have n0_:=Aside0.mk (hp_);have n1_:=Aside0.mk ((by rw [hw];exact below_set (HB.out) GB34.out:Below w.heap.size w w39));clear HO_9;clear HB;have HO_9:=n0_;have HB:=n1_;clear n0_ n1_;clear hg hw hp_))
                 go_roundg k2
                 case measure=>have:=HJ8.out;have:=HK2.out;omega
                 case rel=>exact ⟨(x0_2.extract ((ji35):Int).toNat x0_2.size),(y52),(wrap64 (x10_2 + 1)),(by first|rfl|(simp;done)|(simp only [← hji35] <;> (first|rfl|simp))|(simp [*];done)),(by first|rfl|(simp;done)|(simp [*];done)),H',⟨by have:=HJ8.out;have:=HK2.out;omega⟩,⟨by (with_reducible repeat (first|apply Kd.R_alloc|apply Kd.R_drewN|apply Kd.R_drew));exact HO_9.out⟩,⟨by repeat (first|(with_reducible first|exact HB.out|apply below_alloc|apply pw_below_drewN|apply below_drew1)|exact HB.out)⟩⟩
                ·rw [if_neg c37] at H
                 exact absurd H (by simp)
               ·rw [if_neg c36] at H
                exact absurd H (by simp)
              ·rw [if_neg c33] at H
               exact absurd H (by simp)
             ·rw [if_neg c32] at H
              exact absurd H (by simp)
            ·rw [if_neg c31] at H
             exact absurd H (by simp)
           ·rw [if_neg c30] at H
            exact absurd H (by simp)
         ·rw [if_neg c17] at H
          have c17b0:decide (x10_2 < (wrap64 ((ji12) - 1)))=false:=decide_eq_false c17
          clear c17
          by_cases c40:0 ≤ x10_2
          ·rw [if_pos c40] at H
           have c40b0:decide (0 ≤ x10_2)=true:=decide_eq_true c40
           clear c40
           by_cases c41:x10_2 < (x9_2.length:Int)
           ·rw [if_pos c41] at H
            have c41b0:decide (x10_2 < (x9_2.length:Int))=true:=decide_eq_true c41
            clear c41
            obtain ⟨y50,hy50⟩ : ∃ y_:List ByteArray,y_=(x9_2.set (x10_2:Int).toNat x0_2):=⟨_,rfl⟩
            replace H:(if 0 ≤ (wrap64 (x10_2 + 1)) then (if (wrap64 (x10_2 + 1)) ≤ (x9_2.length:Int) then (some (y50.take ((wrap64 (x10_2 + 1)):Int).toNat)) else (none)) else (none))=some r:=by first|(rw [hy50];with_reducible exact H)|(have H2_:=(Option.bind_some _ _).symm.trans H;rw [hy50];with_reducible exact H2_)|(have H2_:=(Option.bind_some _ _).symm.trans H;with_reducible exact H2_)|with_reducible exact H|(rw [hy50];exact H)|exact H
            have Ny50:=Aside0.mk hy50
            clear hy50
            obtain ⟨ji43,hji43⟩ : ∃ j_:Int,(wrap64 (x10_2 + 1))=j_:=⟨_,rfl⟩
            replace H:(if 0 ≤ (ji43) then (if (ji43) ≤ (x9_2.length:Int) then (some (y50.take ((ji43):Int).toNat)) else (none)) else (none))=some r:=by first|(rw [hji43] at H;exact H)|(simp only [hji43] at H ⊢;exact H)
            have hji43w:(IntKind.i64.wrap (x10_2 + 1))=ji43:=(i64_w _).trans hji43
            by_cases c44:0 ≤ (ji43)
            ·rw [if_pos c44] at H
             have c44b0:=eq_true c44
             have c44b1:decide (0 ≤ (ji43))=true:=decide_eq_true c44
             clear c44
             by_cases c45:(ji43) ≤ (x9_2.length:Int)
             ·rw [if_pos c45] at H
              have c45b0:=eq_true c45
              have c45b1:decide ((ji43) ≤ (x9_2.length:Int))=true:=decide_eq_true c45
              clear c45
              obtain ⟨y53,hy53⟩ : ∃ y_:List ByteArray,y_=(y50.take ((ji43):Int).toNat):=⟨_,rfl⟩
              replace H:(some y53)=some r:=by first|(rw [hy53];with_reducible exact H)|(have H2_:=(Option.bind_some _ _).symm.trans H;rw [hy53];with_reducible exact H2_)|(have H2_:=(Option.bind_some _ _).symm.trans H;with_reducible exact H2_)|with_reducible exact H|(rw [hy53];exact H)|exact H
              have Ny53:=Aside0.mk hy53
              clear hy53
              obtain rfl:=Option.some.inj H
              have p42:0 ≤ (x10_2:Int):=of_decide_eq_true (by first|(with_reducible assumption)|assumption)
              have q42:(x10_2:Int) < ((x9_2.length:Int):Int):=of_decide_eq_true (by first|(with_reducible assumption)|assumption)
              obtain ⟨go42,co42,eo42,gb42,gl42,cl42,HG42⟩:=Kd.R_form HO_9.out (by omega)
              (first|cases eo42|(injection eo42 with ea_ en_ ec_;(first|subst ea_|(injection ea_ with ea_;subst ea_));subst ec_;clear en_))
              have GB42:=Aside0.mk gb42
              have GG42:=Aside0.mk HG42
              clear gb42 gl42 HG42
              obtain ⟨hx42_0,hf42_0⟩:=Kd.R_celln (⟨#[]⟩:ByteArray) HO_9.out (x10_2:Int) p42 q42
              replace p42:=eq_true p42
              replace q42:=eq_true q42
              have HP46:=Kd.R_putg HO_9.out (x10_2:Int) x0_2
              have q48:((ji43):Int) ≤ ((x9_2.length:Int):Int):=of_decide_eq_true (by first|(with_reducible assumption)|assumption)
              obtain ⟨i56,hi56,_,hsz48,_⟩:=info_parts info9
              have hcut48:=cut_to (P:=Tryd.prog) 36 9 .i64 Tryd.underlying36 hi56 (some ⟨go42,0,none⟩) x9_2.length co42 (ji43) (of_decide_eq_true (by first|(with_reducible assumption)|assumption)) q48 (Kd.R_reads' HO_9.out).2.1
              clear hi56 hsz48
              replace q48:=eq_true q48
              go_wp2_with (first|((with_reducible refine gate_store (t:=9) (p:=61) rfl ?_);refine store_event (t:=9) (p:=61) (v:=?vo_w47) (w1:=(wr.setCell ⟨go42,(x10_2:Int).toNat,none⟩ (.string x0_2))) ?hg ?ho ?hn ?hr ?_;(case ho=>rfl);(case hg=>rfl);(case hn=>rfl);(case hr=>first|(go_simp;done)|(go_simp;rfl));intro w47 hw;have hg:wr.grownBy w47 (some go42):=(by rw [hw];exact HP46.2);have hp_:Kd.R Kd.string 9 w47 w.heap.size (fun _=>True) (.slice (some ⟨go42,0,none⟩) x9_2.length co42) y50:=(by rw [hw,Ny50.out];exact HP46.1);clear HP46;have n0_:=Aside0.mk (hp_);have n1_:=Aside0.mk ((by rw [hw];exact below_set (HB.out) GB42.out:Below w.heap.size w w47));clear HO_9;clear HB;have HO_9:=n0_;have HB:=n1_;clear n0_ n1_;clear hg hw hp_;have q48:((ji43):Int) ≤ ((x9_2.length:Int):Int):=of_decide_eq_true (by first|(with_reducible assumption)|assumption);obtain ⟨i56,hi56,_,hsz48,_⟩:=info_parts info9;have hcut48:=cut_to (P:=Tryd.prog) 36 9 .i64 Tryd.underlying36 hi56 (some ⟨go42,0,none⟩) x9_2.length co42 (ji43) (of_decide_eq_true (by first|(with_reducible assumption)|assumption)) q48 (Kd.R_reads' HO_9.out).2.1;have hr48:=Kd.R_take (m:=((ji43):Int).toNat) HO_9.out (by omega);have hy48:y53.length=((ji43):Int).toNat:=(by rw [Ny53.out,List.length_take];omega);rw [← Ny53.out] at hr48;rw [← hy48] at hr48 hcut48;clear hy48 hi56 hsz48 HO_9;have HO67:=Aside0.mk hr48;clear hr48;replace q48:=eq_true q48))
              go_ret
              exact ⟨_,by first|rfl|(simp [errW_none,errW_some] <;> rfl)|(simp only [← hji12,← hji43];first|rfl|(simp [errW_none,errW_some] <;> rfl))|(simp [*,errW_none,errW_some] <;> rfl),(by rw [Ny53.out,Ny50.out];exact Kd.R_take (m:=((ji43):Int).toNat) HP46.1 (by have q_:(ji43:Int) ≤ (x9_2.length:Int):=of_decide_eq_true (by first|(with_reducible assumption)|assumption);rw [List.length_set];omega)),below_set (HB.out) GB42.out⟩
             ·rw [if_neg c45] at H
              exact absurd H (by simp)
            ·rw [if_neg c44] at H
             exact absurd H (by simp)
           ·rw [if_neg c41] at H
            exact absurd H (by simp)
          ·rw [if_neg c40] at H
           exact absurd H (by simp)
      ·rw [if_neg c14] at H
       exact absurd H (by simp)
     ·rw [if_neg c13] at H
      exact absurd H (by simp)
def strings_Split.f (k:Nat) (a0:ByteArray) (a1:ByteArray):Option (List ByteArray):=(strings_genSplit.f k a0 a1 0 (-1)).bind fun t282=>(some t282)
set_option maxHeartbeats 8000000 in
set_option maxRecDepth 100000 in
theorem strings_Split.calls (k:Nat) (a0:ByteArray) (a1:ByteArray) (r:List ByteArray) (w:World) (h:strings_Split.f k a0 a1=some r) :
  Calls Tryd.prog 105 #[.string a0,.string a1] w fun e w' => ∃ v0_:Value,e = .returned (v0_)∧Kd.R Kd.string 9 w' w.heap.size (fun _=>True) v0_ r∧Below w.heap.size w w' := by
 have HB:=Aside0.mk (Below.refl w.heap.size w)
 have H:((strings_genSplit.f k a0 a1 0 (-1)).bind fun t282=>(some t282))=some r:=h
 clear h
 replace H:=Option.bind_eq_some_iff.mp H
 obtain ⟨t282,A30,H⟩:=H
 replace H:(some t282)=some r:=H
 have A3:=Aside0.mk A30
 clear A30
 obtain rfl:=Option.some.inj H
 go_enter Tryd.func105,Tryd.ntmps105
 go_wp2_with (first|((with_reducible refine gate_callee (f:=123) rfl ?_);refine goesL_ (some 7) rfl rfl Tryd.func123 (by kernel_rfl) rfl #[.string a0,.string a1,.int .i64 0,.int .i64 (-1)] rfl (by (try simp only [List.map_toArray,List.map_cons,List.map_nil]);first|done|rfl|(simp only [List.length_drop,List.length_take];rfl)) ?_;(with_reducible refine (strings_genSplit.calls k a0 a1 0 (-1) t282 _ A3.out).mono ?_);rintro e w4 ⟨v283,rfl,ho0,hb⟩;(try clear A3);refine ⟨_,rfl,?_⟩;have n0_:=Aside0.mk (Kd.R_lower ho0 (below_size (by repeat (first|(with_reducible first|exact HB.out|apply below_alloc|apply pw_below_drewN|apply below_drew1)|exact HB.out))));have n1_:=Aside0.mk (below_step (by repeat (first|(with_reducible first|exact HB.out|apply below_alloc|apply pw_below_drewN|apply below_drew1)|exact HB.out)) hb);clear HB;have HO284:=n0_;have HB:=n1_;clear n0_ n1_;(try clear hb);(try clear hb2);(try clear hk);(try clear hi);(try clear ho0)))
 go_ret
 exact ⟨_,by first|rfl|(simp [errW_none,errW_some] <;> rfl)|(simp [*,errW_none,errW_some] <;> rfl),by (with_reducible repeat (first|apply Kd.R_alloc|apply Kd.R_drewN|apply Kd.R_drew));exact HO284.out,by repeat (first|(with_reducible first|exact HB.out|apply below_alloc|apply pw_below_drewN|apply below_drew1)|exact HB.out)⟩
def sign_Split.l0:Nat → List ByteArray → List ByteArray → Int → Int → Option (List ByteArray)
 | 0,_,_,_,_=>none
 | k + 1,x3,x7,x8,x9=>if x9 < x8 then (if 0 ≤ x9 then (if x9 < (x7.length:Int) then ((sign_Trim.f (rdOf ByteArray.empty x7 x9)).bind fun t289=>(if t289.toList=([]:List UInt8) then (sign_Split.l0 k x3 x7 x8 (wrap64 (x9 + 1))) else (if x3.length < 8796093022208 then (sign_Split.l0 k (x3 ++ [t289]) x7 x8 (wrap64 (x9 + 1))) else (none)))) else (none)) else (none)) else (some x3)
def sign_Split.f (k:Nat) (a0:ByteArray):Option (List ByteArray):=(strings_Split.f k a0 (⟨#[44]⟩:ByteArray)).bind fun t285=>(sign_Split.l0 k ([]:List ByteArray) t285 (t285.length:Int) 0)
set_option maxHeartbeats 8000000 in
set_option maxRecDepth 100000 in
theorem sign_Split.calls (k:Nat) (a0:ByteArray) (r:List ByteArray) (w:World) (h:sign_Split.f k a0=some r) :
  Calls Tryd.prog 91 #[.string a0] w fun e w' => ∃ v0_:Value,e = .returned (v0_)∧Kd.R Kd.string 9 w' w.heap.size (fun _=>True) v0_ r∧Below w.heap.size w w' := by
 have HB:=Aside0.mk (Below.refl w.heap.size w)
 have H:((strings_Split.f k a0 (⟨#[44]⟩:ByteArray)).bind fun t285=>(sign_Split.l0 k ([]:List ByteArray) t285 (t285.length:Int) 0))=some r:=h
 clear h
 replace H:=Option.bind_eq_some_iff.mp H
 obtain ⟨t285,A20,H⟩:=H
 replace H:(sign_Split.l0 k ([]:List ByteArray) t285 (t285.length:Int) 0)=some r:=H
 have A2:=Aside0.mk A20
 clear A20
 have H' := Aside0.mk H
 clear H
 go_enter Tryd.func91,Tryd.ntmps91
 go_wp2_with (first|((with_reducible refine gate_callee (f:=105) rfl ?_);refine goesL_ (some 7) rfl rfl Tryd.func105 (by kernel_rfl) rfl #[.string a0,.string (⟨#[44]⟩:ByteArray)] rfl (by (try simp only [List.map_toArray,List.map_cons,List.map_nil]);first|done|rfl|(simp only [List.length_drop,List.length_take];rfl)) ?_;(with_reducible refine (strings_Split.calls k a0 (⟨#[44]⟩:ByteArray) t285 _ A2.out).mono ?_);rintro e w3 ⟨v286,rfl,ho0,hb⟩;(try clear A2);refine ⟨_,rfl,?_⟩;have n0_:=Aside0.mk (Kd.R_lower ho0 (below_size (by repeat (first|(with_reducible first|exact HB.out|apply below_alloc|apply pw_below_drewN|apply below_drew1)|exact HB.out))));have n1_:=Aside0.mk (below_step (by repeat (first|(with_reducible first|exact HB.out|apply below_alloc|apply pw_below_drewN|apply below_drew1)|exact HB.out)) hb);clear HB;have HO287:=n0_;have HB:=n1_;clear n0_ n1_;(try clear hb);(try clear hb2);(try clear hk);(try clear hi);(try clear ho0);obtain ⟨Ao4,co4,eo4⟩:=Kd.R_slice HO287.out;subst eo4))
 go_loopg [3,9] k (fun kq v3 v9 w' => ∃ (x3_1:List ByteArray) (x9_1:Int),v9 = .int .i64 x9_1∧Aside0 (sign_Split.l0 kq x3_1 t285 (t285.length:Int) x9_1=some r)∧Aside0 (kq ≤ k)∧Aside0 (Kd.R Kd.string 9 w' w.heap.size (fun k_=>some k_ ≠ ((.slice Ao4 t285.length co4):Value).ownBlock) v3 x3_1)∧Aside0 (Kd.R Kd.string 9 w' w.heap.size (fun k_=>some k_ ≠ (v3:Value).ownBlock) (.slice Ao4 t285.length co4) t285)∧Aside0 (Below w.heap.size w w'))
 case atStart=>exact ⟨(([]:List ByteArray)),(0),(by first|rfl|(simp;done)|(simp [*];done)),H',⟨Nat.le_refl _⟩,⟨by first|exact Kd.R_nil _ _ _ _ _|exact Kd.N_nil _ _ _ _ _|exact Kd.V_nil _ _ _ _ _|exact Kd.Q_nil _ _ _ _ _|exact Kd.S_nil _ _ _ _ _⟩,⟨by (with_reducible repeat (first|apply Kd.R_alloc|apply Kd.R_drewN|apply Kd.R_drew));exact Kd.R_mono HO287.out (fun _ hk=>(by simp [Value.ownBlock]))⟩,⟨by repeat (first|(with_reducible first|exact HB.out|apply below_alloc|apply pw_below_drewN|apply below_drew1)|exact HB.out)⟩⟩
 case round =>
  clear H'
  try clear c1
  try clear p2
  obtain ⟨x3_1,x9_1,rfl,HA,HK1,HO_3,HO_7,HB⟩:=hrel
  cases gk with
  | zero=>exact absurd HA.out (by simp [sign_Split.l0])
  | succ k1 =>
   have H:=HA.out
   clear HA
   simp only [sign_Split.l0] at H
   by_cases c5:x9_1 < (t285.length:Int)
   ·rw [if_pos c5] at H
    have c5b0:decide (x9_1 < (t285.length:Int))=true:=decide_eq_true c5
    clear c5
    by_cases c6:0 ≤ x9_1
    ·rw [if_pos c6] at H
     have c6b0:decide (0 ≤ x9_1)=true:=decide_eq_true c6
     clear c6
     by_cases c7:x9_1 < (t285.length:Int)
     ·rw [if_pos c7] at H
      have c7b0:decide (x9_1 < (t285.length:Int))=true:=decide_eq_true c7
      clear c7
      replace H:=Option.bind_eq_some_iff.mp H
      obtain ⟨t289,A80,H⟩:=H
      replace H:(if t289.toList=([]:List UInt8) then (sign_Split.l0 k1 x3_1 t285 (t285.length:Int) (wrap64 (x9_1 + 1))) else (if x3_1.length < 8796093022208 then (sign_Split.l0 k1 (x3_1 ++ [t289]) t285 (t285.length:Int) (wrap64 (x9_1 + 1))) else (none)))=some r:=H
      have A8:=Aside0.mk A80
      clear A80
      by_cases c9:t289.toList=([]:List UInt8)
      ·rw [if_pos c9] at H
       have c9b0:(t289.toList == ([]:List UInt8))=true:=beq_iff_eq.mpr c9
       have c9b1:(t289.toList != ([]:List UInt8))=false:=bne_eq_false_iff_eq.mpr c9
       clear c9
       have H' := Aside0.mk H
       clear H
       have p288:0 ≤ (x9_1:Int):=of_decide_eq_true (by first|(with_reducible assumption)|assumption)
       have q288:x9_1 < (t285.length:Int):=of_decide_eq_true (by first|(with_reducible assumption)|assumption)
       obtain ⟨ad288,e288,hx288_0⟩:=Kd.at_string (Kd.R_reads' HO_7.out).2.2 x9_1 p288 q288
       cases e288
       replace p288:=eq_true p288
       replace q288:=eq_true q288
       go_wp2_with (first|((with_reducible refine gate_callee (f:=87) rfl ?_);refine goesL_ (some 14) rfl rfl Tryd.func87 (by kernel_rfl) rfl #[.string (rdOf ByteArray.empty t285 x9_1)] rfl (by (try simp only [List.map_toArray,List.map_cons,List.map_nil]);first|done|rfl|(simp only [List.length_drop,List.length_take];rfl)) ?_;(with_reducible refine (sign_Trim.calls (rdOf ByteArray.empty t285 x9_1) t289 _ A8.out).mono ?_);rintro e w10 ⟨rfl,hb⟩;(try clear A8);refine ⟨_,rfl,?_⟩;have n0_:=Aside0.mk (Kd.R_below (by (with_reducible repeat (first|apply Kd.R_alloc|apply Kd.R_drewN|apply Kd.R_drew));exact HO_3.out) hb);have n1_:=Aside0.mk (Kd.R_below (by (with_reducible repeat (first|apply Kd.R_alloc|apply Kd.R_drewN|apply Kd.R_drew));exact HO_7.out) hb);have n2_:=Aside0.mk (below_step (by repeat (first|(with_reducible first|exact HB.out|apply below_alloc|apply pw_below_drewN|apply below_drew1)|exact HB.out)) hb);clear HO_3;clear HO_7;clear HB;have HO_3:=n0_;have HO_7:=n1_;have HB:=n2_;clear n0_ n1_ n2_;(try clear hb);(try clear hb2);(try clear hk);(try clear hi)))
       go_roundg k1
       case measure=>have:=HK1.out;omega
       case rel=>exact ⟨(x3_1),(wrap64 (x9_1 + 1)),(by first|rfl|(simp;done)|(simp [*];done)),H',⟨by have:=HK1.out;omega⟩,⟨by (with_reducible repeat (first|apply Kd.R_alloc|apply Kd.R_drewN|apply Kd.R_drew));exact HO_3.out⟩,⟨by (with_reducible repeat (first|apply Kd.R_alloc|apply Kd.R_drewN|apply Kd.R_drew));exact HO_7.out⟩,⟨by repeat (first|(with_reducible first|exact HB.out|apply below_alloc|apply pw_below_drewN|apply below_drew1)|exact HB.out)⟩⟩
      ·rw [if_neg c9] at H
       have c9b0:(t289.toList == ([]:List UInt8))=false:=beq_eq_false_iff_ne.mpr c9
       have c9b1:(t289.toList != ([]:List UInt8))=true:=bne_iff_ne.mpr c9
       by_cases c11:x3_1.length < 8796093022208
       ·rw [if_pos c11] at H
        have LMc11:=Aside0.mk c11
        clear c11
        obtain ⟨y290,hy290⟩ : ∃ y_:List ByteArray,y_=(x3_1 ++ [t289]):=⟨_,rfl⟩
        replace H:(sign_Split.l0 k1 y290 t285 (t285.length:Int) (wrap64 (x9_1 + 1)))=some r:=by first|(rw [hy290];with_reducible exact H)|(have H2_:=(Option.bind_some _ _).symm.trans H;rw [hy290];with_reducible exact H2_)|(have H2_:=(Option.bind_some _ _).symm.trans H;with_reducible exact H2_)|with_reducible exact H|(rw [hy290];exact H)|exact H
        have Ny290:=Aside0.mk hy290
        clear hy290
        have H' := Aside0.mk H
        clear H
        have p288:0 ≤ (x9_1:Int):=of_decide_eq_true (by first|(with_reducible assumption)|assumption)
        have q288:x9_1 < (t285.length:Int):=of_decide_eq_true (by first|(with_reducible assumption)|assumption)
        obtain ⟨ad288,e288,hx288_0⟩:=Kd.at_string (Kd.R_reads' HO_7.out).2.2 x9_1 p288 q288
        cases e288
        replace p288:=eq_true p288
        replace q288:=eq_true q288
        go_wp2_with (first|((with_reducible refine gate_callee (f:=87) rfl ?_);refine goesL_ (some 14) rfl rfl Tryd.func87 (by kernel_rfl) rfl #[.string (rdOf ByteArray.empty t285 x9_1)] rfl (by (try simp only [List.map_toArray,List.map_cons,List.map_nil]);first|done|rfl|(simp only [List.length_drop,List.length_take];rfl)) ?_;(with_reducible refine (sign_Trim.calls (rdOf ByteArray.empty t285 x9_1) t289 _ A8.out).mono ?_);rintro e w12 ⟨rfl,hb⟩;(try clear A8);refine ⟨_,rfl,?_⟩;have n0_:=Aside0.mk (Kd.R_below (by (with_reducible repeat (first|apply Kd.R_alloc|apply Kd.R_drewN|apply Kd.R_drew));exact HO_3.out) hb);have n1_:=Aside0.mk (Kd.R_below (by (with_reducible repeat (first|apply Kd.R_alloc|apply Kd.R_drewN|apply Kd.R_drew));exact HO_7.out) hb);have n2_:=Aside0.mk (below_step (by repeat (first|(with_reducible first|exact HB.out|apply below_alloc|apply pw_below_drewN|apply below_drew1)|exact HB.out)) hb);clear HO_3;clear HO_7;clear HB;have HO_3:=n0_;have HO_7:=n1_;have HB:=n2_;clear n0_ n1_ n2_;(try clear hb);(try clear hb2);(try clear hk);(try clear hi))|((with_reducible refine gate_builtin (b:=.append) (xs:=#[.tmp 17,.tmp 19]) rfl ?_);at_builtin;refine Kd.R_append Kd.string (w0:=w) w.heap.size rfl (.tmp 17) (.tmp 19) 36 9 (.string ⟨#[]⟩) 16 rfl Tryd.underlying36 info9 rfl (by decide) (by omega) u3 x3_1 t289 [.string t289] (fun k_=>some k_ ≠ (.slice (some ad288) t285.length co4:Value).ownBlock) (fun _=>False) rfl rfl ?aP (fun _ hk=>hk.elim) ?aF ?aO ?aB ?aS ?aL ?_;(case aP=>exact rfl);(case aB=>exact (by repeat (first|(with_reducible first|exact HB.out|apply below_alloc|apply pw_below_drewN|apply below_drew1)|exact HB.out)));(case aF=>exact (fun k_ hk=>Kd.fresh' (Kd.R_lt (by (with_reducible repeat (first|apply Kd.R_alloc|apply Kd.R_drewN|apply Kd.R_drew));exact HO_7.out)) k_ hk));(case aO=>exact (by (with_reducible repeat (first|apply Kd.R_alloc|apply Kd.R_drewN|apply Kd.R_drew));exact HO_3.out));(case aS=>exact (below_size (by repeat (first|(with_reducible first|exact HB.out|apply below_alloc|apply pw_below_drewN|apply below_drew1)|exact HB.out))));(case aL=>have:=LMc11.out;omega);intro v291 w13 ho hb hg hat;rw [← Ny290.out] at ho;have n0_:=Aside0.mk (Kd.R_after (ok:=(fun _=>True)) (by (with_reducible repeat (first|apply Kd.R_alloc|apply Kd.R_drewN|apply Kd.R_drew));exact Kd.R_mono HO_7.out (fun _ hk=>⟨trivial,hk⟩)) hg hat);have n1_:=Aside0.mk (hb);have n2_:=Aside0.mk (ho);clear HO_7;clear HB;clear HO_3;have HO_7:=n0_;have HB:=n1_;have HO292:=n2_;clear n0_ n1_ n2_;clear ho hb hg hat))
        go_roundg k1
        case measure=>have:=HK1.out;omega
        case rel=>exact ⟨(y290),(wrap64 (x9_1 + 1)),(by first|rfl|(simp;done)|(simp [*];done)),H',⟨by have:=HK1.out;omega⟩,⟨by (with_reducible repeat (first|apply Kd.R_alloc|apply Kd.R_drewN|apply Kd.R_drew));exact HO292.out⟩,⟨by (with_reducible repeat (first|apply Kd.R_alloc|apply Kd.R_drewN|apply Kd.R_drew));exact Kd.R_mono HO_7.out (fun _ hk=>hk.2)⟩,⟨by repeat (first|(with_reducible first|exact HB.out|apply below_alloc|apply pw_below_drewN|apply below_drew1)|exact HB.out)⟩⟩
       ·rw [if_neg c11] at H
        exact absurd H (by simp)
     ·rw [if_neg c7] at H
      exact absurd H (by simp)
    ·rw [if_neg c6] at H
     exact absurd H (by simp)
   ·rw [if_neg c5] at H
    have c5b0:decide (x9_1 < (t285.length:Int))=false:=decide_eq_false c5
    clear c5
    obtain rfl:=Option.some.inj H
    go_wp2
    go_ret
    exact ⟨_,by first|rfl|(simp [errW_none,errW_some] <;> rfl)|(simp [*,errW_none,errW_some] <;> rfl),by (with_reducible repeat (first|apply Kd.R_alloc|apply Kd.R_drewN|apply Kd.R_drew));exact Kd.R_mono HO_3.out (fun _ hk=>trivial),by repeat (first|(with_reducible first|exact HB.out|apply below_alloc|apply pw_below_drewN|apply below_drew1)|exact HB.out)⟩
def field_List.l0:Nat → List ByteArray → List ByteArray → Int → Int → Option (List ByteArray)
 | 0,_,_,_,_=>none
 | k + 1,x5,x10,x11,x12=>if x12 < x11 then (if 0 ≤ x12 then (if x12 < (x10.length:Int) then ((sign_Split.f k (rdOf ByteArray.empty x10 x12)).bind fun t297=>(if x5.length + t297.length < 8796093022208 then (field_List.l0 k (x5 ++ t297) x10 x11 (wrap64 (x12 + 1))) else (none))) else (none)) else (none)) else (some x5)
def field_List.f (k:Nat) (l0:List (S41)) (a1:ByteArray):Option (List ByteArray):=(field_Get.f k l0 a1).bind fun t293=>(field_List.l0 k ([]:List ByteArray) t293 (t293.length:Int) 0)
set_option maxHeartbeats 8000000 in
set_option maxRecDepth 100000 in
theorem field_List.calls (k:Nat) (A0:Option Addr) (c0:Nat) (l0:List (S41)) (a1:ByteArray) (r:List ByteArray) (w:World) (hr0:Kd.C k41 w A0 l0.length l0) (hc0:l0.length ≤ c0) (h:field_List.f k l0 a1=some r) :
  Calls Tryd.prog 60 #[.slice A0 l0.length c0,.string a1] w fun e w' => ∃ v0_:Value,e = .returned (v0_)∧Kd.R Kd.string 9 w' w.heap.size (fun _=>True) v0_ r∧Below w.heap.size w w' := by
 have HR0:=Aside0.mk hr0
 have HC0:=Aside0.mk hc0
 clear hr0 hc0
 have HB:=Aside0.mk (Below.refl w.heap.size w)
 have H:((field_Get.f k l0 a1).bind fun t293=>(field_List.l0 k ([]:List ByteArray) t293 (t293.length:Int) 0))=some r:=h
 clear h
 replace H:=Option.bind_eq_some_iff.mp H
 obtain ⟨t293,A30,H⟩:=H
 replace H:(field_List.l0 k ([]:List ByteArray) t293 (t293.length:Int) 0)=some r:=H
 have A3:=Aside0.mk A30
 clear A30
 have H' := Aside0.mk H
 clear H
 go_enter Tryd.func60,Tryd.ntmps60
 go_wp2_with (first|((with_reducible refine gate_callee (f:=90) rfl ?_);refine goesL_ (some 10) rfl rfl Tryd.func90 (by kernel_rfl) rfl #[.slice A0 l0.length c0,.string a1] rfl (by (try simp only [List.map_toArray,List.map_cons,List.map_nil]);first|done|rfl|(simp only [List.length_drop,List.length_take];rfl)) ?_;(with_reducible refine (field_Get.calls k _ _ l0 a1 t293 _ ?side1 ?side2 A3.out).mono ?_);(case side1=>repeat (first|exact HR0.out|(with_reducible refine Kd.C_alloc ?_ _)|(with_reducible refine Kd.C_drewN ?_ _)|(with_reducible refine Kd.C_drew ?_)));(case side2=>exact HC0.out);rintro e w4 ⟨v294,rfl,ho0,hb⟩;(try clear A3);refine ⟨_,rfl,?_⟩;have n0_:=Aside0.mk (Kd.R_lower ho0 (below_size (by repeat (first|(with_reducible first|exact HB.out|apply below_alloc|apply pw_below_drewN|apply below_drew1)|exact HB.out))));have n1_:=Aside0.mk (below_step (by repeat (first|(with_reducible first|exact HB.out|apply below_alloc|apply pw_below_drewN|apply below_drew1)|exact HB.out)) hb);clear HB;have HO295:=n0_;have HB:=n1_;clear n0_ n1_;(try clear hb);(try clear hb2);(try clear hk);(try clear hi);(try clear ho0);obtain ⟨Ao5,co5,eo5⟩:=Kd.R_slice HO295.out;subst eo5))
 go_loopg [5,12] k (fun kq v5 v12 w' => ∃ (x5_1:List ByteArray) (x12_1:Int),v12 = .int .i64 x12_1∧Aside0 (field_List.l0 kq x5_1 t293 (t293.length:Int) x12_1=some r)∧Aside0 (kq ≤ k)∧Aside0 (Kd.R Kd.string 9 w' w.heap.size (fun k_=>some k_ ≠ ((.slice Ao5 t293.length co5):Value).ownBlock) v5 x5_1)∧Aside0 (Kd.R Kd.string 9 w' w.heap.size (fun k_=>some k_ ≠ (v5:Value).ownBlock) (.slice Ao5 t293.length co5) t293)∧Aside0 (Below w.heap.size w w'))
 case atStart=>exact ⟨(([]:List ByteArray)),(0),(by first|rfl|(simp;done)|(simp [*];done)),H',⟨Nat.le_refl _⟩,⟨by first|exact Kd.R_nil _ _ _ _ _|exact Kd.N_nil _ _ _ _ _|exact Kd.V_nil _ _ _ _ _|exact Kd.Q_nil _ _ _ _ _|exact Kd.S_nil _ _ _ _ _⟩,⟨by (with_reducible repeat (first|apply Kd.R_alloc|apply Kd.R_drewN|apply Kd.R_drew));exact Kd.R_mono HO295.out (fun _ hk=>(by simp [Value.ownBlock]))⟩,⟨by repeat (first|(with_reducible first|exact HB.out|apply below_alloc|apply pw_below_drewN|apply below_drew1)|exact HB.out)⟩⟩
 case round =>
  clear H'
  try clear p2
  obtain ⟨x5_1,x12_1,rfl,HA,HK1,HO_5,HO_10,HB⟩:=hrel
  cases gk with
  | zero=>exact absurd HA.out (by simp [field_List.l0])
  | succ k1 =>
   have H:=HA.out
   clear HA
   simp only [field_List.l0] at H
   by_cases c6:x12_1 < (t293.length:Int)
   ·rw [if_pos c6] at H
    have c6b0:decide (x12_1 < (t293.length:Int))=true:=decide_eq_true c6
    clear c6
    by_cases c7:0 ≤ x12_1
    ·rw [if_pos c7] at H
     have c7b0:decide (0 ≤ x12_1)=true:=decide_eq_true c7
     clear c7
     by_cases c8:x12_1 < (t293.length:Int)
     ·rw [if_pos c8] at H
      have c8b0:decide (x12_1 < (t293.length:Int))=true:=decide_eq_true c8
      clear c8
      replace H:=Option.bind_eq_some_iff.mp H
      obtain ⟨t297,A90,H⟩:=H
      replace H:(if x5_1.length + t297.length < 8796093022208 then (field_List.l0 k1 (x5_1 ++ t297) t293 (t293.length:Int) (wrap64 (x12_1 + 1))) else (none))=some r:=H
      have A9:=Aside0.mk A90
      clear A90
      by_cases c10:x5_1.length + t297.length < 8796093022208
      ·rw [if_pos c10] at H
       have LMc10:=Aside0.mk c10
       clear c10
       obtain ⟨y300,hy300⟩ : ∃ y_:List ByteArray,y_=(x5_1 ++ t297):=⟨_,rfl⟩
       replace H:(field_List.l0 k1 y300 t293 (t293.length:Int) (wrap64 (x12_1 + 1)))=some r:=by first|(rw [hy300];with_reducible exact H)|(have H2_:=(Option.bind_some _ _).symm.trans H;rw [hy300];with_reducible exact H2_)|(have H2_:=(Option.bind_some _ _).symm.trans H;with_reducible exact H2_)|with_reducible exact H|(rw [hy300];exact H)|exact H
       have Ny300:=Aside0.mk hy300
       clear hy300
       have H' := Aside0.mk H
       clear H
       have p296:0 ≤ (x12_1:Int):=of_decide_eq_true (by first|(with_reducible assumption)|assumption)
       have q296:x12_1 < (t293.length:Int):=of_decide_eq_true (by first|(with_reducible assumption)|assumption)
       obtain ⟨ad296,e296,hx296_0⟩:=Kd.at_string (Kd.R_reads' HO_10.out).2.2 x12_1 p296 q296
       cases e296
       replace p296:=eq_true p296
       replace q296:=eq_true q296
       go_wp2_with (first|((with_reducible refine gate_callee (f:=91) rfl ?_);refine goesL_ (some 18) rfl rfl Tryd.func91 (by kernel_rfl) rfl #[.string (rdOf ByteArray.empty t293 x12_1)] rfl (by (try simp only [List.map_toArray,List.map_cons,List.map_nil]);first|done|rfl|(simp only [List.length_drop,List.length_take];rfl)) ?_;(with_reducible refine (sign_Split.calls k1 (rdOf ByteArray.empty t293 x12_1) t297 _ A9.out).mono ?_);rintro e w11 ⟨v298,rfl,ho0,hb⟩;(try clear A9);refine ⟨_,rfl,?_⟩;have n0_:=Aside0.mk (Kd.R_elder' (by (with_reducible repeat (first|apply Kd.R_alloc|apply Kd.R_drewN|apply Kd.R_drew));exact HO_5.out) (Kd.R_base ho0) hb);have n1_:=Aside0.mk (Kd.R_elder' (by (with_reducible repeat (first|apply Kd.R_alloc|apply Kd.R_drewN|apply Kd.R_drew));exact HO_10.out) (Kd.R_base ho0) hb);have n2_:=Aside0.mk (Kd.R_lower (Kd.R_new' (Kd.R_new' ho0 (Kd.R_lt (by (with_reducible repeat (first|apply Kd.R_alloc|apply Kd.R_drewN|apply Kd.R_drew));exact HO_5.out))) (Kd.R_lt (by (with_reducible repeat (first|apply Kd.R_alloc|apply Kd.R_drewN|apply Kd.R_drew));exact HO_10.out))) (below_size (by repeat (first|(with_reducible first|exact HB.out|apply below_alloc|apply pw_below_drewN|apply below_drew1)|exact HB.out))));have n3_:=Aside0.mk (below_step (by repeat (first|(with_reducible first|exact HB.out|apply below_alloc|apply pw_below_drewN|apply below_drew1)|exact HB.out)) hb);clear HO_5;clear HO_10;clear HB;have HO_5:=n0_;have HO_10:=n1_;have HO299:=n2_;have HB:=n3_;clear n0_ n1_ n2_ n3_;(try clear hb);(try clear hb2);(try clear hk);(try clear hi);(try clear ho0);obtain ⟨Ao13,co13,eo13⟩:=Kd.R_slice HO299.out;subst eo13)|((with_reducible refine gate_builtin (b:=.append) (xs:=#[.tmp 16,.tmp 18]) rfl ?_);at_builtin;refine Kd.R_append_rows Kd.string (w0:=w) w.heap.size rfl (.tmp 16) (.tmp 18) 36 9 (.string ⟨#[]⟩) 16 rfl Tryd.underlying36 info9 rfl (by decide) (by omega) u5 x5_1 t297 _ _ _ (fun k_=>some k_ ≠ (.slice (some ad296) t293.length co5:Value).ownBlock∧some k_ ≠ (.slice Ao13 t297.length co13:Value).ownBlock) (fun _=>False) rfl rfl ?aO ?aR (fun _ _ h=>h) (fun _ h=>h.elim) ?aF ?aB ?aS ?aL ?_;(case aR=>repeat (first|exact (Kd.R_reads' HO299.out).2.2|(with_reducible refine Kd.C_alloc ?_ _)|(with_reducible refine Kd.C_drewN ?_ _)|(with_reducible refine Kd.C_drew ?_)));(case aB=>exact (by repeat (first|(with_reducible first|exact HB.out|apply below_alloc|apply pw_below_drewN|apply below_drew1)|exact HB.out)));(case aF=>exact (fun k_ hk=>⟨Kd.fresh' (Kd.R_lt (by (with_reducible repeat (first|apply Kd.R_alloc|apply Kd.R_drewN|apply Kd.R_drew));exact HO_10.out)) k_ hk,Kd.fresh' (Kd.R_lt (by (with_reducible repeat (first|apply Kd.R_alloc|apply Kd.R_drewN|apply Kd.R_drew));exact HO299.out)) k_ hk⟩));(case aO=>exact (by (with_reducible repeat (first|apply Kd.R_alloc|apply Kd.R_drewN|apply Kd.R_drew));exact HO_5.out));(case aS=>exact (below_size (by repeat (first|(with_reducible first|exact HB.out|apply below_alloc|apply pw_below_drewN|apply below_drew1)|exact HB.out))));(case aL=>have:=LMc10.out;omega);intro v301 w12 ho hb hg hat;rw [← Ny300.out] at ho;have n0_:=Aside0.mk (Kd.R_after (ok:=(fun k_=>some k_ ≠ (.slice Ao13 t297.length co13:Value).ownBlock)) (by (with_reducible repeat (first|apply Kd.R_alloc|apply Kd.R_drewN|apply Kd.R_drew));exact Kd.R_mono HO_10.out (fun _ hk=>⟨hk.2,hk.1⟩)) hg hat);have n1_:=Aside0.mk (Kd.R_after (ok:=(fun k_=>some k_ ≠ (.slice (some ad296) t293.length co5:Value).ownBlock)) (by (with_reducible repeat (first|apply Kd.R_alloc|apply Kd.R_drewN|apply Kd.R_drew));exact Kd.R_mono HO299.out (fun _ hk=>⟨hk.2,hk.1.2⟩)) hg hat);have n2_:=Aside0.mk (hb);have n3_:=Aside0.mk (ho);clear HO_10;clear HO299;clear HB;clear HO_5;have HO_10:=n0_;have HO299:=n1_;have HB:=n2_;have HO302:=n3_;clear n0_ n1_ n2_ n3_;clear ho hb hg hat))
       go_roundg k1
       case measure=>have:=HK1.out;omega
       case rel=>exact ⟨(y300),(wrap64 (x12_1 + 1)),(by first|rfl|(simp;done)|(simp [*];done)),H',⟨by have:=HK1.out;omega⟩,⟨by (with_reducible repeat (first|apply Kd.R_alloc|apply Kd.R_drewN|apply Kd.R_drew));exact Kd.R_mono HO302.out (fun _ hk=>hk.1)⟩,⟨by (with_reducible repeat (first|apply Kd.R_alloc|apply Kd.R_drewN|apply Kd.R_drew));exact Kd.R_mono HO_10.out (fun _ hk=>hk.2)⟩,⟨by repeat (first|(with_reducible first|exact HB.out|apply below_alloc|apply pw_below_drewN|apply below_drew1)|exact HB.out)⟩⟩
      ·rw [if_neg c10] at H
       exact absurd H (by simp)
     ·rw [if_neg c8] at H
      exact absurd H (by simp)
    ·rw [if_neg c7] at H
     exact absurd H (by simp)
   ·rw [if_neg c6] at H
    have c6b0:decide (x12_1 < (t293.length:Int))=false:=decide_eq_false c6
    clear c6
    obtain rfl:=Option.some.inj H
    go_wp2
    go_ret
    exact ⟨_,by first|rfl|(simp [errW_none,errW_some] <;> rfl)|(simp [*,errW_none,errW_some] <;> rfl),by (with_reducible repeat (first|apply Kd.R_alloc|apply Kd.R_drewN|apply Kd.R_drew));exact Kd.R_mono HO_5.out (fun _ hk=>trivial),by repeat (first|(with_reducible first|exact HB.out|apply below_alloc|apply pw_below_drewN|apply below_drew1)|exact HB.out)⟩
set_option maxHeartbeats 4000000 in
set_option maxRecDepth 100000 in
theorem slices_ContainsFunc_string_string.callsOf (q:ByteArray → Option Bool) (g:Nat) (lb:Array Value) (eg : ∀ args w,(callFunc g args).run Tryd.prog w = .ok (.enter g args) w) (A0:Option Addr) (c0:Nat) (l0:List ByteArray) (r:Bool) (w:World) (hr0:Kd.C Kd.string w A0 l0.length l0) (hc0:l0.length ≤ c0)
  (hq:TestOf g lb Value.string q w) (h:anyO q l0=some r) :
  Calls Tryd.prog 59 #[.slice A0 l0.length c0,.func (.func g) #[] lb] w fun e w' => e = .returned (.bool r)∧Below w.heap.size w w' := by
 obtain ⟨j,hj,hb⟩:=idxO_any q l0 0 r (by omega) h
 have HC:=Aside0.mk (slices_IndexFunc_string_string.callsOf q g lb eg A0 c0 l0 j w hr0 hc0 hq hj)
 have HBB:=Aside0.mk hb
 clear hb hj h hq hr0 hc0 eg
 go_enter Tryd.func59,Tryd.ntmps59
 go_wp2_with (go_at_call 89;refine HC.out.mono ?_;rintro e w' ⟨rfl,hb'⟩)
 go_ret
 have e:=HBB.out
 subst e
 exact ⟨by first|rfl|(simp;done),hb'⟩
def field_Has.f (k:Nat) (l0:List (S41)) (a1 a2:ByteArray):Option Bool:=(field_List.f k l0 a1).bind fun l=>anyO (fun p=>sign_Same.f p a2) l
set_option maxHeartbeats 4000000 in
set_option maxRecDepth 100000 in
theorem field_Has.calls (k:Nat) (A0:Option Addr) (c0:Nat) (l0:List (S41)) (a1:ByteArray) (a2:ByteArray) (r:Bool) (w:World) (hr0:Kd.C k41 w A0 l0.length l0) (hc0:l0.length ≤ c0) (h:field_Has.f k l0 a1 a2=some r) :
  Calls Tryd.prog 30 #[.slice A0 l0.length c0,.string a1,.string a2] w fun e w' => e = .returned (.bool r)∧Below w.heap.size w w' := by
 unfold field_Has.f at h
 obtain ⟨l,hl,h⟩:=Option.bind_eq_some_iff.1 h
 have HR:=Aside0.mk hr0
 have HC:=Aside0.mk hc0
 have HL:=Aside0.mk hl
 have HA:=Aside0.mk h
 have eg : ∀ args w,(callFunc 61 args).run Tryd.prog w = .ok (.enter 61 args) w:=enters_of Tryd.func61 (by kernel_rfl) rfl
 have EG:=Aside0.mk eg
 clear hr0 hc0 hl h eg
 have hcell:(w.alloc (.cells #[.string a2] 9)).cell? ⟨w.heap.size,0,none⟩=some (.string a2):=(blk_cell (blk_new w _) 0).trans rfl
 go_enter Tryd.func30,Tryd.ntmps30
 go_wp2_with (first
  | (go_at_call 60;refine (field_List.calls k A0 c0 l0 a1 l _ (Kd.C_alloc HR.out _) HC.out HL.out).mono ?_;rintro e w1 ⟨v,rfl,hR,hb⟩;obtain ⟨A1,c1,rfl,hc1,hC1⟩:=Kd.R_reads hR;have HC1:=Aside0.mk hC1;have HB1:=Aside0.mk hb;have hcell1:=pw_cell_below hb hcell;clear hR hC1 hb)
  | (go_at_call 59;refine (slices_ContainsFunc_string_string.callsOf (fun p=>sign_Same.f p a2) 61 #[.pointer (some ⟨w.heap.size,0,none⟩)] EG.out A1 c1 l r _ HC1.out hc1 (field_Has_1.callsOf w.heap.size a2 _ hcell1) HA.out).mono ?_;rintro e w2 ⟨rfl,hb2⟩))
 go_ret
 exact ⟨rfl,((Below.refl _ w).alloc (Nat.le_refl _) _).trans (sl_base (by simp) (HB1.out.trans (sl_base HB1.out.size hb2)))⟩
def stringslite_HasPrefix.f (a0:ByteArray) (a1:ByteArray):Option (Bool):=if (a0.size:Int) ≥ (a1.size:Int) then (if 0 ≤ (a1.size:Int) then (if (a1.size:Int) ≤ (a0.size:Int) then (some ((a0.extract 0 ((a1.size:Int):Int).toNat).toList == a1.toList)) else (none)) else (none)) else (some false)
set_option maxHeartbeats 8000000 in
set_option maxRecDepth 100000 in
theorem stringslite_HasPrefix.calls (a0:ByteArray) (a1:ByteArray) (r:Bool) (w:World) (h:stringslite_HasPrefix.f a0 a1=some r) :
  Calls Tryd.prog 58 #[.string a0,.string a1] w fun e w' => e = .returned (.bool r)∧Drawn0 w w' := by
 have H:(if (a0.size:Int) ≥ (a1.size:Int) then (if 0 ≤ (a1.size:Int) then (if (a1.size:Int) ≤ (a0.size:Int) then (some ((a0.extract 0 ((a1.size:Int):Int).toNat).toList == a1.toList)) else (none)) else (none)) else (some false))=some r:=h
 clear h
 by_cases c3:(a0.size:Int) ≥ (a1.size:Int)
 ·rw [if_pos c3] at H
  have c3b0:decide ((a1.size:Int) ≤ (a0.size:Int))=true:=decide_eq_true c3
  have c3b1:decide (a1.size ≤ a0.size)=true:=decide_eq_true (Int.ofNat_le.mp c3)
  clear c3
  by_cases c4:0 ≤ (a1.size:Int)
  ·rw [if_pos c4] at H
   have c4b0:=eq_true c4
   have c4b1:decide (0 ≤ (a1.size:Int))=true:=decide_eq_true c4
   clear c4
   by_cases c5:(a1.size:Int) ≤ (a0.size:Int)
   ·rw [if_pos c5] at H
    have c5b0:=eq_true c5
    have c5b1:decide ((a1.size:Int) ≤ (a0.size:Int))=true:=decide_eq_true c5
    clear c5
    obtain rfl:=Option.some.inj H
    go_enter Tryd.func58,Tryd.ntmps58
    go_wp2
    go_ret
    exact ⟨by first|rfl|(simp;done)|(simp [*];done),by repeat (first|exact Drawn0.refl _|apply Drawn0.step)⟩
   ·rw [if_neg c5] at H
    exact absurd H (by simp)
  ·rw [if_neg c4] at H
   exact absurd H (by simp)
 ·rw [if_neg c3] at H
  have c3b0:decide ((a1.size:Int) ≤ (a0.size:Int))=false:=decide_eq_false c3
  have c3b1:decide (a1.size ≤ a0.size)=false:=decide_eq_false (fun h=>c3 (Int.ofNat_le.mpr h))
  clear c3
  obtain rfl:=Option.some.inj H
  go_enter Tryd.func58,Tryd.ntmps58
  go_wp2
  go_ret
  exact ⟨by first|rfl|(simp;done)|(simp [*];done),by repeat (first|exact Drawn0.refl _|apply Drawn0.step)⟩
def strings_HasPrefix.f (a0:ByteArray) (a1:ByteArray):Option (Bool):=(stringslite_HasPrefix.f a0 a1).bind fun t258=>(some t258)
set_option maxHeartbeats 8000000 in
set_option maxRecDepth 100000 in
theorem strings_HasPrefix.calls (a0:ByteArray) (a1:ByteArray) (r:Bool) (w:World) (h:strings_HasPrefix.f a0 a1=some r) :
  Calls Tryd.prog 28 #[.string a0,.string a1] w fun e w' => e = .returned (.bool r)∧Drawn0 w w' := by
 have H:((stringslite_HasPrefix.f a0 a1).bind fun t258=>(some t258))=some r:=h
 clear h
 replace H:=Option.bind_eq_some_iff.mp H
 obtain ⟨t258,A30,H⟩:=H
 replace H:(some t258)=some r:=H
 have A3:=Aside0.mk A30
 clear A30
 obtain rfl:=Option.some.inj H
 go_enter Tryd.func28,Tryd.ntmps28
 go_wp2_with (first|((with_reducible refine gate_callee (f:=58) rfl ?_);refine goesL_ (some 7) rfl rfl Tryd.func58 (by kernel_rfl) rfl #[.string a0,.string a1] rfl (by (try simp only [List.map_toArray,List.map_cons,List.map_nil]);first|done|rfl|(simp only [List.length_drop,List.length_take];rfl)) ?_;(with_reducible refine (stringslite_HasPrefix.calls a0 a1 t258 _ A3.out).mono ?_);rintro e w' ⟨rfl,⟨nd,rfl⟩⟩;(try clear A3);refine ⟨_,rfl,?_⟩))
 go_ret
 exact ⟨by first|rfl|(simp;done)|(simp [*];done),by repeat (first|exact Drawn0.refl _|apply Drawn0.step)⟩
def scrub_Hop.f (k:Nat) (l0:List (S41)) (a1:ByteArray):Option (Bool):=(conf_Kept.f a1).bind fun t303=>(if t303=true then (some true) else ((sign_Fold.f a1).bind fun t304=>((strings_HasPrefix.f t304 (⟨#[120,45,116,111,108,108,98,97,114,45]⟩:ByteArray)).bind fun t305=>(if t305=true then (some true) else ((field_Has.f k l0 (⟨#[67,111,110,110,101,99,116,105,111,110]⟩:ByteArray) a1).bind fun t306=>(some t306))))))
set_option maxHeartbeats 8000000 in
set_option maxRecDepth 100000 in
theorem scrub_Hop.calls (k:Nat) (A0:Option Addr) (c0:Nat) (l0:List (S41)) (a1:ByteArray) (r:Bool) (w:World) (hr0:Kd.C k41 w A0 l0.length l0) (hc0:l0.length ≤ c0) (h:scrub_Hop.f k l0 a1=some r) :
  Calls Tryd.prog 12 #[.slice A0 l0.length c0,.string a1] w fun e w' => e = .returned (.bool r)∧Below w.heap.size w w' := by
 have HR0:=Aside0.mk hr0
 have HC0:=Aside0.mk hc0
 clear hr0 hc0
 have HB:=Aside0.mk (Below.refl w.heap.size w)
 have H:((conf_Kept.f a1).bind fun t303=>(if t303=true then (some true) else ((sign_Fold.f a1).bind fun t304=>((strings_HasPrefix.f t304 (⟨#[120,45,116,111,108,108,98,97,114,45]⟩:ByteArray)).bind fun t305=>(if t305=true then (some true) else ((field_Has.f k l0 (⟨#[67,111,110,110,101,99,116,105,111,110]⟩:ByteArray) a1).bind fun t306=>(some t306)))))))=some r:=h
 clear h
 replace H:=Option.bind_eq_some_iff.mp H
 obtain ⟨t303,A30,H⟩:=H
 replace H:(if t303=true then (some true) else ((sign_Fold.f a1).bind fun t304=>((strings_HasPrefix.f t304 (⟨#[120,45,116,111,108,108,98,97,114,45]⟩:ByteArray)).bind fun t305=>(if t305=true then (some true) else ((field_Has.f k l0 (⟨#[67,111,110,110,101,99,116,105,111,110]⟩:ByteArray) a1).bind fun t306=>(some t306))))))=some r:=H
 have A3:=Aside0.mk A30
 clear A30
 by_cases c4:t303=true
 ·subst c4
  have H1:(some true)=some r:=by rw [if_pos rfl] at H;exact H
  clear H
  have H:=H1
  clear H1
  obtain rfl:=Option.some.inj H
  go_enter Tryd.func12,Tryd.ntmps12
  go_wp2_with (first|((with_reducible refine gate_callee (f:=27) rfl ?_);refine goesL_ (some 6) rfl rfl Tryd.func27 (by kernel_rfl) rfl #[.string a1] rfl (by (try simp only [List.map_toArray,List.map_cons,List.map_nil]);first|done|rfl|(simp only [List.length_drop,List.length_take];rfl)) ?_;(with_reducible refine (conf_Kept.calls a1 true _ A3.out).mono ?_);rintro e w5 ⟨rfl,hb⟩;(try clear A3);refine ⟨_,rfl,?_⟩;have n0_:=Aside0.mk (below_step (by repeat (first|(with_reducible first|exact HB.out|apply below_alloc|apply pw_below_drewN|apply below_drew1)|exact HB.out)) hb);clear HB;have HB:=n0_;clear n0_;(try clear hb);(try clear hb2);(try clear hk);(try clear hi)))
  go_ret
  exact ⟨by first|rfl|(simp [errW_none,errW_some] <;> rfl)|(simp [*,errW_none,errW_some] <;> rfl),by repeat (first|(with_reducible first|exact HB.out|apply below_alloc|apply pw_below_drewN|apply below_drew1)|exact HB.out)⟩
 ·replace c4:=Bool.eq_false_iff.mpr c4
  subst c4
  have H1:((sign_Fold.f a1).bind fun t304=>((strings_HasPrefix.f t304 (⟨#[120,45,116,111,108,108,98,97,114,45]⟩:ByteArray)).bind fun t305=>(if t305=true then (some true) else ((field_Has.f k l0 (⟨#[67,111,110,110,101,99,116,105,111,110]⟩:ByteArray) a1).bind fun t306=>(some t306)))))=some r:=by rw [if_neg (show ¬ (false=true) by decide)] at H;exact H
  clear H
  have H:=H1
  clear H1
  replace H:=Option.bind_eq_some_iff.mp H
  obtain ⟨t304,A60,H⟩:=H
  replace H:((strings_HasPrefix.f t304 (⟨#[120,45,116,111,108,108,98,97,114,45]⟩:ByteArray)).bind fun t305=>(if t305=true then (some true) else ((field_Has.f k l0 (⟨#[67,111,110,110,101,99,116,105,111,110]⟩:ByteArray) a1).bind fun t306=>(some t306))))=some r:=H
  have A6:=Aside0.mk A60
  clear A60
  replace H:=Option.bind_eq_some_iff.mp H
  obtain ⟨t305,A70,H⟩:=H
  replace H:(if t305=true then (some true) else ((field_Has.f k l0 (⟨#[67,111,110,110,101,99,116,105,111,110]⟩:ByteArray) a1).bind fun t306=>(some t306)))=some r:=H
  have A7:=Aside0.mk A70
  clear A70
  by_cases c8:t305=true
  ·subst c8
   have H1:(some true)=some r:=by rw [if_pos rfl] at H;exact H
   clear H
   have H:=H1
   clear H1
   obtain rfl:=Option.some.inj H
   go_enter Tryd.func12,Tryd.ntmps12
   go_wp2_with (first|((with_reducible refine gate_callee (f:=27) rfl ?_);refine goesL_ (some 6) rfl rfl Tryd.func27 (by kernel_rfl) rfl #[.string a1] rfl (by (try simp only [List.map_toArray,List.map_cons,List.map_nil]);first|done|rfl|(simp only [List.length_drop,List.length_take];rfl)) ?_;(with_reducible refine (conf_Kept.calls a1 false _ A3.out).mono ?_);rintro e w9 ⟨rfl,hb⟩;(try clear A3);refine ⟨_,rfl,?_⟩;have n0_:=Aside0.mk (below_step (by repeat (first|(with_reducible first|exact HB.out|apply below_alloc|apply pw_below_drewN|apply below_drew1)|exact HB.out)) hb);clear HB;have HB:=n0_;clear n0_;(try clear hb);(try clear hb2);(try clear hk);(try clear hi))|(go_at_call 29;(with_reducible refine (sign_Fold.calls a1 t304 _ A6.out).mono ?_);rintro e w10 ⟨rfl,hb⟩;(try clear A6);have n0_:=Aside0.mk (below_step (by repeat (first|(with_reducible first|exact HB.out|apply below_alloc|apply pw_below_drewN|apply below_drew1)|exact HB.out)) hb);clear HB;have HB:=n0_;clear n0_;(try clear hb);(try clear hb2);(try clear hk);(try clear hi))|(go_at_call 28;(with_reducible refine (strings_HasPrefix.calls t304 (⟨#[120,45,116,111,108,108,98,97,114,45]⟩:ByteArray) true _ A7.out).mono ?_);rintro e w' ⟨rfl,⟨nd,rfl⟩⟩;(try clear A7)))
   go_ret
   exact ⟨by first|rfl|(simp [errW_none,errW_some] <;> rfl)|(simp [*,errW_none,errW_some] <;> rfl),by repeat (first|(with_reducible first|exact HB.out|apply below_alloc|apply pw_below_drewN|apply below_drew1)|exact HB.out)⟩
  ·replace c8:=Bool.eq_false_iff.mpr c8
   subst c8
   have H1:((field_Has.f k l0 (⟨#[67,111,110,110,101,99,116,105,111,110]⟩:ByteArray) a1).bind fun t306=>(some t306))=some r:=by rw [if_neg (show ¬ (false=true) by decide)] at H;exact H
   clear H
   have H:=H1
   clear H1
   replace H:=Option.bind_eq_some_iff.mp H
   obtain ⟨t306,A110,H⟩:=H
   replace H:(some t306)=some r:=H
   have A11:=Aside0.mk A110
   clear A110
   obtain rfl:=Option.some.inj H
   go_enter Tryd.func12,Tryd.ntmps12
   go_wp2_with (first|((with_reducible refine gate_callee (f:=27) rfl ?_);refine goesL_ (some 6) rfl rfl Tryd.func27 (by kernel_rfl) rfl #[.string a1] rfl (by (try simp only [List.map_toArray,List.map_cons,List.map_nil]);first|done|rfl|(simp only [List.length_drop,List.length_take];rfl)) ?_;(with_reducible refine (conf_Kept.calls a1 false _ A3.out).mono ?_);rintro e w12 ⟨rfl,hb⟩;(try clear A3);refine ⟨_,rfl,?_⟩;have n0_:=Aside0.mk (below_step (by repeat (first|(with_reducible first|exact HB.out|apply below_alloc|apply pw_below_drewN|apply below_drew1)|exact HB.out)) hb);clear HB;have HB:=n0_;clear n0_;(try clear hb);(try clear hb2);(try clear hk);(try clear hi))|(go_at_call 29;(with_reducible refine (sign_Fold.calls a1 t304 _ A6.out).mono ?_);rintro e w13 ⟨rfl,hb⟩;(try clear A6);have n0_:=Aside0.mk (below_step (by repeat (first|(with_reducible first|exact HB.out|apply below_alloc|apply pw_below_drewN|apply below_drew1)|exact HB.out)) hb);clear HB;have HB:=n0_;clear n0_;(try clear hb);(try clear hb2);(try clear hk);(try clear hi))|(go_at_call 28;(with_reducible refine (strings_HasPrefix.calls t304 (⟨#[120,45,116,111,108,108,98,97,114,45]⟩:ByteArray) false _ A7.out).mono ?_);rintro e w' ⟨rfl,⟨nd,rfl⟩⟩;(try clear A7))|(go_at_call 30;(with_reducible refine (field_Has.calls k _ _ l0 (⟨#[67,111,110,110,101,99,116,105,111,110]⟩:ByteArray) a1 t306 _ ?side1 ?side2 A11.out).mono ?_);(case side1=>repeat (first|exact (Kd.C_below HR0.out (by repeat (first|(with_reducible first|exact HB.out|apply below_alloc|apply pw_below_drewN|apply below_drew1)|exact HB.out)))|(with_reducible refine Kd.C_alloc ?_ _)|(with_reducible refine Kd.C_drewN ?_ _)|(with_reducible refine Kd.C_drew ?_)));(case side2=>exact HC0.out);rintro e w14 ⟨rfl,hb⟩;(try clear A11);have n0_:=Aside0.mk (below_step (by repeat (first|(with_reducible first|exact HB.out|apply below_alloc|apply pw_below_drewN|apply below_drew1)|exact HB.out)) hb);clear HB;have HB:=n0_;clear n0_;(try clear hb);(try clear hb2);(try clear hk);(try clear hi)))
   go_ret
   exact ⟨by first|rfl|(simp [errW_none,errW_some] <;> rfl)|(simp [*,errW_none,errW_some] <;> rfl),by repeat (first|(with_reducible first|exact HB.out|apply below_alloc|apply pw_below_drewN|apply below_drew1)|exact HB.out)⟩
def bytes_Clone.f (l0:List Int):Option (List Int):=if l0.length ≤ 140737488355328 then some l0 else none
set_option maxHeartbeats 4000000 in
set_option maxRecDepth 100000 in
theorem bytes_Clone.calls (A0:Option Addr) (c0:Nat) (l0:List Int) (r:List Int) (w:World) (hr0:Kd.C (Kd.int .u8) w A0 l0.length l0) (hc0:l0.length ≤ c0) (h:bytes_Clone.f l0=some r) :
  Calls Tryd.prog 39 #[.slice A0 l0.length c0] w fun e w' => ∃ v0_:Value,e = .returned (v0_)∧Kd.R (Kd.int .u8) 5 w' w.heap.size (fun _=>True) v0_ r∧Below w.heap.size w w' := by
 have hl:l0.length ≤ 140737488355328∧l0=r:=by
  unfold bytes_Clone.f at h
  split at h
  ·exact ⟨by assumption,by simpa using h⟩
  ·cases h
 obtain ⟨hl,rfl⟩:=hl
 clear h
 have HR:=Aside0.mk hr0
 cases A0 with
 | none =>
  have he:l0=[]:=by
   cases l0 with
   | nil=>rfl
   | cons x y=>obtain ⟨ad,e,_⟩:=hr0.2.2 (by simp);cases e
  subst he
  clear HR hr0
  have hnil : ∀ W:World,(binOp .eql 25 (.slice none 0 c0) (.slice none 0 0)).run Tryd.prog W = .ok (.bool true) W:=fun W=>by
   simp only [binOp]
   simp [Op.equal,Op.maxDepth,Lib.run_equalIn_slice_nil W 9999 25 _ none 0 c0 0 0 Tryd.underlying25]
  go_enter Tryd.func39,Tryd.ntmps39
  go_wp2
  go_ret
  exact ⟨_,rfl,Kd.R_nil _ _ _ _ _,Below.refl _ _⟩
 | some ad =>
  have HL:=Aside0.mk hl
  have hnil : ∀ W:World,(binOp .eql 25 (.slice (some ad) l0.length c0) (.slice none 0 0)).run Tryd.prog W = .ok (.bool false) W:=fun W=>by
   simp only [binOp]
   simp [Op.equal,Op.maxDepth,Lib.run_equalIn_slice_nil W 9999 25 _ (some ad) l0.length c0 0 0 Tryd.underlying25]
  have HB:=Aside0.mk (Below.refl w.heap.size w)
  clear hr0 hl hc0
  go_enter Tryd.func39,Tryd.ntmps39
  go_wp2_with (first
   | ((with_reducible refine gate_dst (N:=5) rfl ?_);refine Kd.R_lit (Kd.int .u8) _ 5 ?hg (N:=5) ?hd (xs:=([]:List Int)) (inner:=[]) (ok:=fun _=>True) (okp:=fun _=>True) ?hr ?hp (fun _ hk=>hk) trivial (Below.refl _ _) (Nat.le_refl _) (by simp) ?_;(case hd=>rfl);(case hg=>rfl);(case hr=>first|(go_simp;done)|(go_simp;rfl));(case hp=>exact (Reps.none _ _));intro v5 w2 ho3 hb hg_ hnew_;clear hg_ hnew_;have HO5:=Aside0.mk (Kd.R_lower ho3 (below_size (by repeat (first|(with_reducible first|exact HB.out|apply below_alloc|apply pw_below_drewN|apply below_drew1)|exact HB.out))));have n1_:=Aside0.mk (below_step (by repeat (first|(with_reducible first|exact HB.out|apply below_alloc|apply pw_below_drewN|apply below_drew1)|exact HB.out)) hb);clear HB;have HB:=n1_;clear n1_;clear hb ho3)
   | ((with_reducible refine gate_builtin (b:=.append) (xs:=#[.tmp 5,.tmp 6]) rfl ?_);at_builtin;refine Kd.R_append_rows (Kd.int .u8) (w0:=w) w.heap.size rfl (.tmp 5) (.tmp 6) 25 5 (.int .u8 0) 1 rfl Tryd.underlying25 info5 rfl (by decide) (by omega) v5 [] l0 _ _ _ (fun _=>True) (fun _=>False) rfl rfl ?aO ?aR (fun _ _ h=>h) (fun _ h=>h.elim) (fun _ _=>trivial) ?aB ?aS ?aL ?_;(case aO=>exact HO5.out);(case aR=>exact Kd.C_below HR.out HB.out);(case aB=>exact HB.out);(case aS=>exact HB.out.size);(case aL=>have:=HL.out;simp only [List.length_nil];omega);intro v3 w3 ho hb3 hg3 hat;have HO7:=Aside0.mk ho;have HB7:=Aside0.mk hb3;clear ho hb3 hg3 hat))
  go_ret
  exact ⟨_,by first|rfl|(simp;done),HO7.out,HB7.out⟩
set_option maxHeartbeats 4000000 in
set_option maxRecDepth 100000 in
theorem field_Without_1.callsOf (B:Nat) (name:ByteArray) (w:World) (hc:w.cell? ⟨B,0,none⟩=some (.string name)):TestOf 66 #[.pointer (some ⟨B,0,none⟩)] Value.string (fun n=>sign_Same.f n name) w:=fun W x b hb h=>by
 have hB:B < w.heap.size:=World.block_lt_of_cell? w _ hc
 have hcell:W.cell? ⟨B,0,none⟩=some (.string name):=(hb.cell (p:=⟨B,0,none⟩) hB).trans hc
 have HS:=Aside0.mk h
 clear hc h hb
 show Calls Tryd.prog 66 #[.string x,.pointer (some ⟨B,0,none⟩)] W _
 go_enter Tryd.func66,Tryd.ntmps66
 go_wp2_with (go_at_call 62;refine (sign_Same.calls x name b W HS.out).mono ?_;rintro e w' ⟨rfl,hb'⟩)
 go_ret
 exact ⟨rfl,hb'⟩
def field_Without.l0:Nat → List (S41) → List ByteArray → List (S41) → Int → Option (List (S41))
 | 0,_,_,_,_=>none
 | k + 1,x0,x1,x5,x10=>if x10 < (x0.length:Int) then (if 0 ≤ x10 then ((anyO (fun n=>sign_Same.f n (rd_T41 x0 x10).f0) x1).bind fun t=>(if t=true then (field_Without.l0 k x0 x1 x5 (wrap64 (x10 + 1))) else (if x5.length < 4398046511104 then (field_Without.l0 k x0 x1 (x5 ++ [(⟨(rd_T41 x0 x10).f0,(rd_T41 x0 x10).f1⟩:S41)]) (wrap64 (x10 + 1))) else (none)))) else (none)) else (some x5)
def field_Without.f (k:Nat) (l0:List (S41)) (l1:List ByteArray):Option (List (S41)):=field_Without.l0 k l0 l1 [] 0
set_option maxHeartbeats 8000000 in
set_option maxRecDepth 100000 in
theorem field_Without.calls (k:Nat) (A0:Option Addr) (c0:Nat) (l0:List (S41)) (A1:Option Addr) (c1:Nat) (l1:List ByteArray) (r:List (S41)) (w:World) (hr0:Kd.C k41 w A0 l0.length l0) (hc0:l0.length ≤ c0) (hr1:Kd.C Kd.string w A1 l1.length l1) (hc1:l1.length ≤ c1) (h:field_Without.f k l0 l1=some r) :
  Calls Tryd.prog 36 #[.slice A0 l0.length c0,.slice A1 l1.length c1] w fun e w' => ∃ v0_:Value,e = .returned (v0_)∧Kd.R k41 41 w' w.heap.size (fun _=>True) v0_ r∧Below w.heap.size w w' := by
 have hu:=Tryd.underlying41
 have HR0:=Aside0.mk hr0
 have HR1:=Aside0.mk hr1
 have HC1:=Aside0.mk hc1
 have H' := Aside0.mk (show field_Without.l0 k l0 l1 [] 0=some r from h)
 have EG:=Aside0.mk (show ∀ args w,(callFunc 66 args).run Tryd.prog w = .ok (.enter 66 args) w from enters_of Tryd.func66 (by kernel_rfl) rfl)
 clear hr0 hr1 hc1 h
 go_enter Tryd.func36,Tryd.ntmps36
 go_wp2_with fail
 go_loopg [5,10] k (fun kq v5 v10 w' => ∃ (x5:List (S41)) (x10:Int),v10 = .int .i64 x10∧Aside0 (field_Without.l0 kq l0 l1 x5 x10=some r)∧Aside0 (kq ≤ k)∧Aside0 (Kd.R k41 41 w' w.heap.size (fun _=>True) v5 x5)∧Aside0 (Below w.heap.size w w'))
 case atStart=>exact ⟨[],0,rfl,H',⟨Nat.le_refl _⟩,⟨Kd.R_nil _ _ _ _ _⟩,⟨Below.refl _ _⟩⟩
 case round =>
  clear H'
  obtain ⟨x5,x10,rfl,HA,HK1,HO,HB⟩:=hrel
  cases gk with
  | zero=>exact absurd HA.out (by simp [field_Without.l0])
  | succ k1 =>
   have H:=HA.out
   clear HA
   simp only [field_Without.l0] at H
   by_cases c4:x10 < (l0.length:Int)
   ·rw [if_pos c4] at H
    have c4b0:decide (x10 < (l0.length:Int))=true:=decide_eq_true c4
    by_cases c5:0 ≤ x10
    ·rw [if_pos c5] at H
     obtain ⟨t,hany,H⟩:=Option.bind_eq_some_iff.mp H
     have HANY:=Aside0.mk hany
     have HN:=Aside0.mk H
     clear hany H
     obtain ⟨ad,e0,hx0,hx1⟩:=at_T41 HR0.out x10 c5 c4
     cases e0
     replace hx0:=(HB.out.cell (World.block_lt_of_cell? w _ hx0)).trans hx0
     replace hx1:=(HB.out.cell (World.block_lt_of_cell? w _ hx1)).trans hx1
     replace c4:=eq_true c4
     replace c5:=eq_true c5
     have hcell:(wr.alloc (.cells #[.string (rd_T41 l0 x10).f0,.string (rd_T41 l0 x10).f1] 41)).cell? ⟨wr.heap.size,0,none⟩=some (.string (rd_T41 l0 x10).f0):=(blk_cell (blk_new wr _) 0).trans rfl
     have hcell2:(wr.alloc (.cells #[.string (rd_T41 l0 x10).f0,.string (rd_T41 l0 x10).f1] 41)).cell? ⟨wr.heap.size,1,none⟩=some (.string (rd_T41 l0 x10).f1):=(blk_cell (blk_new wr _) 1).trans rfl
     have HCE:=Aside0.mk hcell
     have HCE2:=Aside0.mk hcell2
     clear hcell hcell2
     cases t with
     | true =>
      have H1:field_Without.l0 k1 l0 l1 x5 (wrap64 (x10 + 1))=some r:=by have h:=HN.out;rw [if_pos rfl] at h;exact h
      have H' := Aside0.mk H1
      clear H1 HN
      go_wp2_with (go_at_call 59;refine (slices_ContainsFunc_string_string.callsOf (fun n=>sign_Same.f n (rd_T41 l0 x10).f0) 66 #[.pointer (some ⟨wr.heap.size,0,none⟩)] EG.out A1 c1 l1 true _ (Kd.C_alloc (Kd.C_below HR1.out HB.out) _) HC1.out (field_Without_1.callsOf wr.heap.size _ _ HCE.out) HANY.out).mono ?_;rintro e w1 ⟨rfl,hb⟩;have n0:=Aside0.mk (Kd.R_below (Kd.R_alloc HO.out _) hb);have n1:=Aside0.mk (below_step (below_alloc HB.out _) hb);clear HO HB;have HO:=n0;have HB:=n1;clear n0 n1 hb)
      go_roundg k1
      case measure=>have:=HK1.out;omega
      case rel=>exact ⟨x5,wrap64 (x10 + 1),(by first|rfl|(simp;done)),H',⟨by have:=HK1.out;omega⟩,HO,HB⟩
     | false =>
      have H1:(if x5.length < 4398046511104 then (field_Without.l0 k1 l0 l1 (x5 ++ [(⟨(rd_T41 l0 x10).f0,(rd_T41 l0 x10).f1⟩:S41)]) (wrap64 (x10 + 1))) else none)=some r:=by have h:=HN.out;rw [if_neg (by decide)] at h;exact h
      clear HN
      by_cases c9:x5.length < 4398046511104
      ·rw [if_pos c9] at H1
       have LM:=Aside0.mk c9
       have H' := Aside0.mk H1
       clear H1 c9
       go_wp2_with (first
        | (go_at_call 59;refine (slices_ContainsFunc_string_string.callsOf (fun n=>sign_Same.f n (rd_T41 l0 x10).f0) 66 #[.pointer (some ⟨wr.heap.size,0,none⟩)] EG.out A1 c1 l1 false _ (Kd.C_alloc (Kd.C_below HR1.out HB.out) _) HC1.out (field_Without_1.callsOf wr.heap.size _ _ HCE.out) HANY.out).mono ?_;rintro e w1 ⟨rfl,hb⟩;have n0:=Aside0.mk (Kd.R_below (Kd.R_alloc HO.out _) hb);have n1:=Aside0.mk (below_step (below_alloc HB.out _) hb);have hy0:=pw_cell_below hb HCE.out;have hy1:=pw_cell_below hb HCE2.out;clear HO HB;have HO:=n0;have HB:=n1;clear n0 n1 hb)
        | ((with_reducible refine gate_builtin (b:=.append) (xs:=#[.tmp 18,.tmp 20]) rfl ?_);at_builtin;refine Kd.R_append k41 (w0:=w) w.heap.size rfl (.tmp 18) (.tmp 20) 31 41 (.agg #[(.string ⟨#[]⟩),(.string ⟨#[]⟩)]) 32 rfl Tryd.underlying31 info41 rfl (by decide) (by omega) u5 x5 (⟨(rd_T41 l0 x10).f0,(rd_T41 l0 x10).f1⟩:S41) [.string ((rd_T41 l0 x10).f0),.string ((rd_T41 l0 x10).f1)] (fun _=>True) (fun _=>False) rfl rfl ?aP (fun _ hk=>hk.elim) ?aF ?aO ?aB ?aS ?aL ?_;(case aP=>exact k41_mkM _ _ _ (⟨(rd_T41 l0 x10).f0,(rd_T41 l0 x10).f1⟩:S41));(case aB=>exact (by repeat (first|(with_reducible first|exact HB.out|apply below_alloc|apply pw_below_drewN|apply below_drew1)|exact HB.out)));(case aF=>exact (fun _ _=>trivial));(case aO=>exact (by (with_reducible repeat (first|apply Kd.R_alloc|apply Kd.R_drewN|apply Kd.R_drew));exact HO.out));(case aS=>exact (below_size (by repeat (first|(with_reducible first|exact HB.out|apply below_alloc|apply pw_below_drewN|apply below_drew1)|exact HB.out))));(case aL=>have:=LM.out;omega);intro v3 w3 ho hb hg hat;have n0_:=Aside0.mk (hb);have n1_:=Aside0.mk (ho);clear HB;clear HO;have HB:=n0_;have HO:=n1_;clear n0_ n1_;clear ho hb hg hat))
       go_roundg k1
       case measure=>have:=HK1.out;omega
       case rel=>exact ⟨_,wrap64 (x10 + 1),(by first|rfl|(simp;done)),H',⟨by have:=HK1.out;omega⟩,HO,HB⟩
      ·rw [if_neg c9] at H1
       cases H1
    ·rw [if_neg c5] at H
     exact absurd H (by simp)
   ·rw [if_neg c4] at H
    have c4b0:decide (x10 < (l0.length:Int))=false:=decide_eq_false c4
    clear c4
    obtain rfl:=Option.some.inj H
    go_wp2
    go_ret
    exact ⟨_,by first|rfl|(simp;done),HO.out,HB.out⟩
end Go.Proofs.YtfjeinnemimjoaaDoor.P
namespace Go.Proofs.YtfjeinnemimjoaaDoor.P
open Go.RowKit Go.Proofs.YtfjeinnemimjoaaDoorW.PrintWords Go.Proofs.YtfjeinnemimjoaaDoorW.PrintLast Go.Proofs.YtfjeinnemimjoaaDoorW.PrintMore
attribute [local go_sem] max2_int min2_int max_two min_two max_three min_three max_four min_four   -- for this text's walks alone
set_option linter.unusedVariables false
set_option linter.unusedSimpArgs false
theorem globalPow10 : Tryd.prog.globalNamed "internal/strconv.uint64pow10" = some 1 := by kernel_rfl
theorem globalDeBruijn64 : Tryd.prog.globalNamed "math/bits.deBruijn64tab" = some 5 := by kernel_rfl
/-- The two tables of Go's library that numbers' texts read. -/
def Tabs (w : World) : Prop := Lib.TabIs Tryd.prog w "internal/strconv.uint64pow10" .u64 Lib.pow10Tab ∧ Lib.TabIs Tryd.prog w "math/bits.deBruijn64tab" .u8 (Lib.deBruijn64tab.map fun (n : Nat) => (n : Int))
theorem tabIs_below {P : Program} {w W : World} {name : String} {k : IntKind} {zs : List Int} (h : Lib.TabIs P w name k zs) (hb : Below w.heap.size w W) : Lib.TabIs P W name k zs := by
  unfold Lib.TabIs World.var? at h ⊢
  cases hg : P.globalNamed name with
  | none => simp [hg] at h
  | some g =>
    simp only [hg, Option.bind_some] at h ⊢
    have hlt : g < w.heap.size := by
      rcases Nat.lt_or_ge g w.heap.size with h' | h'
      · exact h'
      · simp [Array.getElem?_eq_none h'] at h
    rw [hb.block g hlt]
    exact h
theorem Tabs.below {w W : World} (h : Tabs w) (hb : Below w.heap.size w W) : Tabs W := ⟨tabIs_below h.1 hb, tabIs_below h.2 hb⟩
theorem laidVars_tab {P : Program} {W : World} {name : String} {k : IntKind} {zs : List Int} {g : Nat} {t e : TypeId} {n : Nat}
    (hg : P.globalNamed name = some g) (hty : (P.globals[g]?).map (·.type) = some t) (ht : P.underlying t = some (.array n e)) (he : P.underlying e = some (.int k)) (hce : P.cellsOf e = 1) (hct : P.cellsOf t = n) :
    ∀ {laid : List (String × DataW Unit)} {ps : List MemPlace}, DataW.LaidVars P W laid ps → (name, Lib.tabData k zs) ∈ laid → Lib.TabIs P W name k zs
  | [], _, _, hm => by cases hm
  | (nm, dt) :: rest, ps, h, hm => by
    obtain ⟨g', t', cs, fuel, p, q, hg', ht', hvar, hd, h1, h2⟩ := h
    rcases List.mem_cons.1 hm with e1 | hm
    · obtain ⟨rfl, rfl⟩ := Prod.mk.inj e1
      obtain rfl := Option.some.inj (hg.symm.trans hg')
      obtain rfl := Option.some.inj (hty.symm.trans ht')
      unfold Lib.TabIs
      rw [hvar, ← Lib.cells_of_tab ht he hce hct hd]
    · first | exact laidVars_tab hg hty ht he hce hct h1 hm | exact laidVars_tab hg hty ht he hce hct h2 hm
theorem Tabs.of_vars {W : World} {laid : List (String × DataW Unit)} {ps : List MemPlace} (h : DataW.LaidVars Tryd.prog W laid ps)
    (h1 : ("internal/strconv.uint64pow10", Lib.tabData .u64 Lib.pow10Tab) ∈ laid) (h2 : ("math/bits.deBruijn64tab", Lib.tabData .u8 (Lib.deBruijn64tab.map fun (n : Nat) => (n : Int))) ∈ laid) : Tabs W :=
  ⟨laidVars_tab globalPow10 (by kernel_rfl) Tryd.underlying143 Tryd.underlying133 (by kernel_rfl) (by kernel_rfl) h h1, laidVars_tab globalDeBruijn64 (by kernel_rfl) Tryd.underlying158 Tryd.underlying5 (by kernel_rfl) (by kernel_rfl) h h2⟩
theorem Tabs.of_met {W : World} {laid : List (String × DataW Unit)} (h : laidMet Tryd.prog laid W)
    (h1 : ("internal/strconv.uint64pow10", Lib.tabData .u64 Lib.pow10Tab) ∈ laid) (h2 : ("math/bits.deBruijn64tab", Lib.tabData .u8 (Lib.deBruijn64tab.map fun (n : Nat) => (n : Int))) ∈ laid) : Tabs W := by
  obtain ⟨ps, hv, _⟩ := h
  exact Tabs.of_vars hv h1 h2
end Go.Proofs.YtfjeinnemimjoaaDoor.P
namespace Go.Proofs.YtfjeinnemimjoaaDoor.P
open Go.RowKit Go.Proofs.YtfjeinnemimjoaaDoorW.PrintWords Go.Proofs.YtfjeinnemimjoaaDoorW.PrintLast Go.Proofs.YtfjeinnemimjoaaDoorW.PrintMore
attribute [local go_sem] max2_int min2_int max_two min_two max_three min_three max_four min_four
set_option linter.unusedVariables false
set_option linter.unusedSimpArgs false
theorem tz64_16 (w:World) (ht:Tabs w):Calls Tryd.prog 137 #[.int .u64 16] w fun e w' => e = .returned (.int .i64 4)∧Drawn0 w w' := by
 have hc:w.cell? ⟨5,15,none⟩=some (.int .u8 4):=ht.2.cell globalDeBruijn64 15 (by decide)
 have hb:Go.bits .and .u64 16 18446744073709551600=16:=by decide +kernel
 have hw1:IntKind.u64.wrap (-16)=18446744073709551600:=by decide +kernel
 have hw2:IntKind.u64.wrap (16 * 285870213051353865)=4573923408821661840:=by decide +kernel
 have hw3:IntKind.u64.wrap 4573923408821661840=4573923408821661840:=by decide +kernel
 have hw4:(4573923408821661840:Int) / 288230376151711744=15:=by decide +kernel
 clear ht
 go_enter Tryd.func137,Tryd.ntmps137
 go_wp2
 go_ret
 exact ⟨rfl,by repeat (first|exact Drawn0.refl _|apply Drawn0.step)⟩
theorem tz_16 (w:World) (ht:Tabs w):Calls Tryd.prog 128 #[.int .u64 16] w fun e w' => e = .returned (.int .i64 4)∧Drawn0 w w' := by
 go_enter Tryd.func128,Tryd.ntmps128
 go_wp2_with (go_at_call 137;(with_reducible refine (tz64_16 _ ht).mono ?_);rintro e w' ⟨rfl,⟨nd,rfl⟩⟩)
 go_ret
 exact ⟨rfl,by repeat (first|exact Drawn0.refl _|apply Drawn0.step)⟩
def strconv_isPowerOfTwo.f (a0:Int):Option (Bool):=some ((Go.bits .and .i64 a0 (wrap64 (a0 - 1))) == 0)
set_option maxHeartbeats 8000000 in
set_option maxRecDepth 100000 in
theorem strconv_isPowerOfTwo.calls (a0:Int) (r:Bool) (w:World) (h:strconv_isPowerOfTwo.f a0=some r) :
  Calls Tryd.prog 127 #[.int .i64 a0] w fun e w' => e = .returned (.bool r)∧Drawn0 w w' := by
 have H:(some ((Go.bits .and .i64 a0 (wrap64 (a0 - 1))) == 0))=some r:=h
 clear h
 obtain rfl:=Option.some.inj H
 go_enter Tryd.func127,Tryd.ntmps127
 go_wp2
 go_ret
 exact ⟨by first|rfl|(simp;done)|(simp [*];done),by repeat (first|exact Drawn0.refl _|apply Drawn0.step)⟩
/-- A digit of the base 16. -/
def hexd (d:Nat):Int:=if d < 10 then 48 + d else 87 + d
/-- The digits of the base 16. -/
def hexD (u:Nat):List Int:=if h:u < 16 then [hexd u] else hexD (u / 16) ++ [hexd (u % 16)]
termination_by u
decreasing_by omega
theorem hexD_small (u:Nat) (h:u < 16):hexD u=[hexd u]:=by rw [hexD,dif_pos h]
theorem hexD_big (u:Nat) (h:16 ≤ u):hexD u=hexD (u / 16) ++ [hexd (u % 16)]:=by rw [hexD,dif_neg (by omega)]
/-- The last cells of the array of 65. -/
def Row65 (w:World) (g:Nat) (suf:List Int):Prop := ∃ cs,w.heap[g]? = some (.cells cs 145 (0,0))∧cs.size=65∧cs.toList.drop (65 - suf.length)=nums .u8 suf
theorem Row65.cell {w:World} {g:Nat} {suf:List Int} (h:Row65 w g suf) (j:Nat) (hj:j < 65) : ∃ v,w.cell? ⟨g,j,none⟩=some v:=by
 obtain ⟨cs,hb,hs,_⟩:=h
 rw [cell_of_row _ _ _ _ _ _ hb]
 exact ⟨_,Array.getElem?_eq_getElem (by omega)⟩
theorem Row65.free {w:World} {g:Nat} {suf:List Int} (h:Row65 w g suf) (j:Nat):w.frozen? ⟨g,j,none⟩=false:=by
 obtain ⟨cs,hb,_,_⟩:=h
 simp [World.frozen?,hb]
theorem Row65.set {w:World} {g:Nat} {suf:List Int} (h:Row65 w g suf) (hl:suf.length < 65) (v:Int):Row65 (w.setCell ⟨g,64 - suf.length,none⟩ (.int .u8 v)) g (v :: suf):=by
 obtain ⟨cs,hb,hs,hd⟩:=h
 refine ⟨cs.setIfInBounds (64 - suf.length) (.int .u8 v),by simp [World.setCell,Array.getElem?_modify,hb],by simpa using hs,?_⟩
 have hlen:cs.toList.length=65:=by rw [Array.length_toList];exact hs
 rw [Array.toList_setIfInBounds,List.length_cons,show 65 - (suf.length + 1)=64 - suf.length by omega,List.drop_set,if_neg (by omega),Nat.sub_self,List.drop_eq_getElem_cons (by omega),List.set_cons_zero,show 64 - suf.length + 1=65 - suf.length by omega,hd]
 rfl
theorem Row65.reads {w:World} {g:Nat} {suf:List Int} (h:Row65 w g suf) (hl:suf.length ≤ 65):ReadsInt w .u8 (some ⟨g,65 - suf.length,none⟩) suf.length suf:=by
 obtain ⟨cs,hb,hs,hd⟩:=h
 refine ⟨rfl,by omega,fun _=>⟨_,rfl,fun j hj=>?_⟩⟩
 have ha:(⟨g,65 - suf.length,none⟩:Addr).add j=⟨g,65 - suf.length + j,none⟩:=by
  unfold Addr.add;split <;> simp_all
 rw [ha,cell_of_row _ _ _ _ _ _ hb]
 have h1:(cs.toList.drop (65 - suf.length))[j]? = (nums .u8 suf)[j]?:=by rw [hd]
 rw [List.getElem?_drop] at h1
 rw [← Array.getElem?_toList,h1]
 simp [nums,List.getD_eq_getElem?_getD,List.getElem?_eq_getElem hj]
theorem pow_step (u l:Nat) (hl:l ≤ 15) (h:u < 16 ^ (16 - l)) (hu:16 ≤ u):l ≤ 14∧u / 16 < 16 ^ (16 - (l + 1)):=by
 have h14:l ≤ 14:=by
  rcases Nat.lt_or_ge l 15 with h1|h1
  ·omega
  ·obtain rfl:l=15:=by omega
   simp at h
   omega
 refine ⟨h14,?_⟩
 have e:16 ^ (16 - l)=16 ^ (16 - (l + 1)) * 16:=by rw [← Nat.pow_succ];congr 1;omega
 rw [e] at h
 exact (Nat.div_lt_iff_lt_mul (by decide)).2 h
theorem hexd_at (d:Int) (h0:0 ≤ d) (h1:d < 16):bt (⟨#[48,49,50,51,52,53,54,55,56,57,97,98,99,100,101,102,103,104,105,106,107,108,109,110,111,112,113,114,115,116,117,118,119,120,121,122]⟩:ByteArray) d=hexd d.toNat:=by
 obtain ⟨n,rfl⟩:=Int.eq_ofNat_of_zero_le h0
 have h : ∀ m:Fin 16,bt (⟨#[48,49,50,51,52,53,54,55,56,57,97,98,99,100,101,102,103,104,105,106,107,108,109,110,111,112,113,114,115,116,117,118,119,120,121,122]⟩:ByteArray) (m.val:Int)=hexd m.val:=by decide +kernel
 exact h ⟨n,by omega⟩
set_option maxHeartbeats 8000000 in
set_option maxRecDepth 100000 in
theorem formatBits_16 (n:Nat) (hn:n < 18446744073709551616) (w:World) (ht:Tabs w) :
  Calls Tryd.prog 110 #[.slice none 0 0,.int .u64 n,.int .i64 16,.bool false,.bool false] w fun e w' => e = .returned (.tuple #[.slice none 0 0,.string (strOfNums (hexD n))])∧Below w.heap.size w w' := by
 have HT:=Aside0.mk ht
 clear ht
 have HB:=Aside0.mk (Below.refl w.heap.size w)
 have HN:=Aside0.mk hn
 clear hn
 go_enter Tryd.func110,Tryd.ntmps110
 go_wp2_with (first
  | (go_at_call 127;(with_reducible refine (strconv_isPowerOfTwo.calls 16 true _ (by decide +kernel)).mono ?_);rintro e w1 ⟨rfl,⟨nd,rfl⟩⟩)
  | (go_at_call 128;(with_reducible refine (tz_16 _ ?ht).mono ?_);(case ht=>exact HT.out.below (by repeat (first|exact HB.out|apply below_alloc|apply pw_below_drewN)));rintro e w2 ⟨rfl,⟨nd2,rfl⟩⟩))
 go_loopw [1,13] (fun v1 v13 wr => ∃ (u i:Int) (suf:List Int),v1 = .int .u64 u∧v13 = .int .i64 i∧Aside0 (0 ≤ u∧i=65 - suf.length∧suf.length ≤ 15∧u.toNat < 16 ^ (16 - suf.length))∧Aside0 (hexD n=hexD u.toNat ++ suf)∧Aside0 (Row65 wr w.heap.size suf)∧Aside0 (Below w.heap.size w wr)) (fun v1 _ _=>(intOf v1).toNat)
 case atStart =>
  refine ⟨n,65,[],rfl,rfl,⟨by omega,by simp,by simp,by have:=HN.out;simpa using this⟩,⟨by simp⟩,⟨⟨Tryd.zeroCells145,?_,by kernel_rfl,by kernel_rfl⟩⟩,⟨by repeat (first|exact HB.out|apply below_alloc|apply pw_below_drewN)⟩⟩
  show (w.heap.push _)[w.heap.size]? = _
  simp
 case round =>
  obtain ⟨u,i,suf,rfl,rfl,HU,HE,HR,HB2⟩:=hrel
  clear HB
  have hu0:0 ≤ u:=HU.out.1
  have hi0:1 ≤ i:=by have:=HU.out;omega
  have hi1:i ≤ 65:=by have:=HU.out;omega
  have hu1:u ≤ 18446744073709551615:=by
   have h1:=HU.out.2.2.2
   have h2:16 ^ (16 - suf.length) ≤ 16 ^ 16:=Nat.pow_le_pow_right (by decide) (by omega)
   have h3:(16:Nat) ^ 16=18446744073709551616:=by decide
   omega
  have hj:i - 1=((64 - suf.length:Nat):Int):=by have:=HU.out;omega
  obtain ⟨cv,hc⟩:=HR.out.cell (64 - suf.length) (by omega)
  have hf:=HR.out.free (64 - suf.length)
  have hjt:i.toNat - 1=64 - suf.length:=by omega
  rw [← hjt] at hc hf
  by_cases hb:16 ≤ u
  ·have hb1:decide (16 ≤ u)=true:=decide_eq_true hb
   have hb2:decide (u ≥ 16)=true:=decide_eq_true hb
   obtain ⟨D,hD⟩ : ∃ D,Go.bits .and .u64 u 15=D:=⟨_,rfl⟩
   have hDm:D=u % 16:=by rw [← hD];exact bits_mask .u64 64 (by decide) (by intro x h0 h1;simp [IntKind.wrap,IntKind.bits,IntKind.signed];omega) 4 (by decide) u hu0 (by omega)
   have hD0:0 ≤ D:=by omega
   have hD1:D < 16:=by omega
   have hx:=bt_at (⟨#[48,49,50,51,52,53,54,55,56,57,97,98,99,100,101,102,103,104,105,106,107,108,109,110,111,112,113,114,115,116,117,118,119,120,121,122]⟩:ByteArray) D
   have HD:=Aside0.mk hDm
   have HX:=hexd_at D hD0 hD1
   have HX' := Aside0.mk HX
   have HJ:=Aside0.mk (And.intro hj hjt)
   have HB' := Aside0.mk hb
   clear HX hDm hj hjt hb
   go_wp2
   refine ⟨⟨u / 16,i - 1,hexd D.toNat :: suf,rfl,rfl,?_,⟨?_⟩,⟨?_⟩,⟨HB2.out.setCell (Nat.le_refl _) _⟩⟩,?_⟩
   ·obtain ⟨h14,hp⟩:=pow_step u.toNat suf.length HU.out.2.2.1 HU.out.2.2.2 (by have:=HB'.out;omega)
    have hq:(u / 16).toNat=u.toNat / 16:=by omega
    exact ⟨by omega,by have:=HU.out;rw [List.length_cons];omega,by rw [List.length_cons];omega,by rw [hq,List.length_cons];exact hp⟩
   ·rw [HE.out,hexD_big u.toNat (by have:=HB'.out;omega),show (u / 16).toNat=u.toNat / 16 by omega,show D.toNat=u.toNat % 16 by have:=HD.out;omega,List.append_assoc]
    rfl
   ·rw [HJ.out.2,HX'.out]
    exact HR.out.set (by have:=HU.out;omega) _
   ·have:=HB'.out
    simp only [intOf]
    omega
  ·have hb1:decide (16 ≤ u)=false:=decide_eq_false hb
   have hb2:decide (u ≥ 16)=false:=decide_eq_false hb
   have hu2:u < 16:=by omega
   have hx:=bt_at (⟨#[48,49,50,51,52,53,54,55,56,57,97,98,99,100,101,102,103,104,105,106,107,108,109,110,111,112,113,114,115,116,117,118,119,120,121,122]⟩:ByteArray) u
   have HX' := Aside0.mk (hexd_at u hu0 hu2)
   have HJ:=Aside0.mk (And.intro hj hjt)
   have HB' := Aside0.mk hb
   have hal:Tryd.prog.arrayLen 145=65:=by simp [Program.arrayLen,Tryd.underlying145]
   have hsl : ∀ W,(Instr.sliceAt 145 (.pointer (some ⟨w.heap.size,0,none⟩)) (some (.int .i64 (i - 1))) none none).run Tryd.prog W = .ok (.slice (some ⟨w.heap.size,64 - suf.length,none⟩) (suf.length + 1) (suf.length + 1)) W:=by
    intro W
    have hl65:64 - suf.length + (suf.length + 1)=65:=by have:=HU.out;omega
    rw [hj,run_sliceAt_array_l W 145 ⟨w.heap.size,0,none⟩ (by simp [Program.arrayLen,Program.elem,Tryd.underlying145]) .i64 _ (by omega) (by rw [hal];omega),hal,Int.toNat_natCast]
    have he:Tryd.prog.elem 145=5:=by simp [Program.elem,Tryd.underlying145]
    rw [he,(show (sizeOf 5).run Tryd.prog W = .ok 1 W by kernel_rfl)]
    show Result.ok (slicedAt ⟨w.heap.size,0,none⟩ (64 - suf.length) 65 65 1) W=_
    unfold slicedAt
    rw [if_neg (by omega),Nat.mul_one,add_plain,show 65 - (64 - suf.length)=suf.length + 1 by omega]
   have hR2:=(HR.out.set (by have:=HU.out;omega) (bt (⟨#[48,49,50,51,52,53,54,55,56,57,97,98,99,100,101,102,103,104,105,106,107,108,109,110,111,112,113,114,115,116,117,118,119,120,121,122]⟩:ByteArray) u)).reads (by rw [List.length_cons];have:=HU.out;omega)
   rw [List.length_cons,show 65 - (suf.length + 1)=64 - suf.length by omega,← hjt] at hR2
   have hcv:=string_of_reads (P:=Tryd.prog) (src:=25) (dst:=9) (c:=suf.length + 1) Tryd.underlying25 Tryd.underlying5 Tryd.underlying9 hR2
   rw [hjt] at hcv
   rw [← hjt] at hsl hcv
   have HE2:=Aside0.mk (show strOfNums (bt (⟨#[48,49,50,51,52,53,54,55,56,57,97,98,99,100,101,102,103,104,105,106,107,108,109,110,111,112,113,114,115,116,117,118,119,120,121,122]⟩:ByteArray) u :: suf)=strOfNums (hexD n) by rw [HE.out,hexD_small u.toNat (by omega),HX'.out];rfl)
   have q3:(u < 36)=True:=eq_true (by omega)
   have q4:(36 ≤ u)=False:=eq_false (by omega)
   clear hj hjt hb hR2 hal hu2
   go_wp2
   go_ret2
   exact ⟨by first|rfl|(rw [HE2.out];rfl),HB2.out.setCell (Nat.le_refl _) _⟩
/-- At the base 10,and of a number from 0 on at the base 16. -/
def strconv_FormatInt_97.f (a0 a1:Int):Option ByteArray :=
 if a1=10 then (if -9223372036854775808 ≤ a0∧a0 ≤ 9223372036854775807 then some ⟨(Lib.itoa a0).toArray⟩ else none)
 else if a1=16 then (if 0 ≤ a0∧a0 ≤ 9223372036854775807 then some (strOfNums (hexD a0.toNat)) else none)
 else none
theorem below_grow {w:World} (k:Nat) (os:Array Obj):Below w.heap.size w (Go.Sort.grow (w.drewN k) os) :=
 ⟨rfl,rfl,rfl,by simp [Go.Sort.grow],fun b hb=>by simp only [Go.Sort.grow];rw [Array.getElem?_append_left (by simpa using hb)];rfl⟩
set_option maxHeartbeats 4000000 in
theorem formatInt_16 (a0:Int) (h0:0 ≤ a0) (h1:a0 ≤ 9223372036854775807) (w:World) (ht:Tabs w) :
  Calls Tryd.prog 97 #[.int .i64 a0,.int .i64 16] w fun e w' => e = .returned (.string (strOfNums (hexD a0.toNat)))∧Below w.heap.size w w' := by
 have HT:=Aside0.mk ht
 clear ht
 have hw:IntKind.u64.wrap a0=a0:=by simp [IntKind.wrap,IntKind.bits,IntKind.signed];omega
 have HF:=Aside0.mk (formatBits_16 a0.toNat (by omega))
 have hn:((a0.toNat:Nat):Int)=a0:=by omega
 rw [hn] at HF
 clear hn
 have hneg:decide (a0 < 0)=false:=decide_eq_false (by omega)
 go_enter Tryd.func97,Tryd.ntmps97
 go_wp2_with (go_at_call 110;(with_reducible refine (HF.out _ HT.out).mono ?_);rintro e w1 ⟨rfl,hb⟩)
 go_ret
 exact ⟨rfl,hb⟩
theorem strconv_FormatInt_97.calls (a0 a1:Int) (r:ByteArray) (w:World) (h:strconv_FormatInt_97.f a0 a1=some r) (ht:Tabs w) :
  Calls Tryd.prog 97 #[.int .i64 a0,.int .i64 a1] w fun e w' => e = .returned (.string r)∧Below w.heap.size w w' := by
 unfold strconv_FormatInt_97.f at h
 split at h
 ·rename_i h10
  subst h10
  split at h
  ·rename_i hr
   obtain rfl:=Option.some.inj h
   refine (Tryd.internal_strconv_FormatInt_10 a0 hr.1 hr.2 w ht.1).mono ?_
   rintro e w' ⟨rfl,k,os,rfl⟩
   exact ⟨rfl,below_grow k os⟩
  ·cases h
 ·split at h
  ·rename_i h16
   subst h16
   split at h
   ·rename_i hr
    obtain rfl:=Option.some.inj h
    exact formatInt_16 a0 hr.1 hr.2 w ht
   ·cases h
  ·cases h
def strconv_FormatInt_78.f (a0:Int) (a1:Int):Option (ByteArray):=(strconv_FormatInt_97.f a0 a1).bind fun t167=>(some t167)
set_option maxHeartbeats 8000000 in
set_option maxRecDepth 100000 in
theorem strconv_FormatInt_78.calls (a0:Int) (a1:Int) (r:ByteArray) (w:World) (h:strconv_FormatInt_78.f a0 a1=some r) (ht:Tabs w) :
  Calls Tryd.prog 78 #[.int .i64 a0,.int .i64 a1] w fun e w' => e = .returned (.string r)∧Below w.heap.size w w' := by
 have HTB:=Aside0.mk ht
 clear ht
 have HB:=Aside0.mk (Below.refl w.heap.size w)
 have H:((strconv_FormatInt_97.f a0 a1).bind fun t167=>(some t167))=some r:=h
 clear h
 replace H:=Option.bind_eq_some_iff.mp H
 obtain ⟨t167,A30,H⟩:=H
 replace H:(some t167)=some r:=H
 have A3:=Aside0.mk A30
 clear A30
 obtain rfl:=Option.some.inj H
 go_enter Tryd.func78,Tryd.ntmps78
 go_wp2_with (first|((with_reducible refine gate_callee (f:=97) rfl ?_);refine goesL_ (some 7) rfl rfl Tryd.func97 (by kernel_rfl) rfl #[.int .i64 a0,.int .i64 a1] rfl (by (try simp only [List.map_toArray,List.map_cons,List.map_nil]);first|done|rfl|(simp only [List.length_drop,List.length_take];rfl)) ?_;(with_reducible refine (strconv_FormatInt_97.calls a0 a1 t167 _ A3.out ?hT).mono ?_);(case hT=>exact HTB.out.below (by repeat (first|(with_reducible first|exact HB.out|apply below_alloc|apply pw_below_drewN|apply below_drew1)|exact HB.out)));rintro e w4 ⟨rfl,hb⟩;(try clear A3);refine ⟨_,rfl,?_⟩;have n0_:=Aside0.mk (below_step (by repeat (first|(with_reducible first|exact HB.out|apply below_alloc|apply pw_below_drewN|apply below_drew1)|exact HB.out)) hb);clear HB;have HB:=n0_;clear n0_;(try clear hb);(try clear hb2);(try clear hk);(try clear hi)))
 go_ret
 exact ⟨by first|rfl|(simp [errW_none,errW_some] <;> rfl)|(simp [*,errW_none,errW_some] <;> rfl),by repeat (first|(with_reducible first|exact HB.out|apply below_alloc|apply pw_below_drewN|apply below_drew1)|exact HB.out)⟩
def sign_Text.f (a0:Int):Option (ByteArray):=(strconv_FormatInt_78.f a0 10).bind fun t313=>(some t313)
set_option maxHeartbeats 8000000 in
set_option maxRecDepth 100000 in
theorem sign_Text.calls (a0:Int) (r:ByteArray) (w:World) (h:sign_Text.f a0=some r) (ht:Tabs w) :
  Calls Tryd.prog 67 #[.int .i64 a0] w fun e w' => e = .returned (.string r)∧Below w.heap.size w w' := by
 have HTB:=Aside0.mk ht
 clear ht
 have HB:=Aside0.mk (Below.refl w.heap.size w)
 have H:((strconv_FormatInt_78.f a0 10).bind fun t313=>(some t313))=some r:=h
 clear h
 replace H:=Option.bind_eq_some_iff.mp H
 obtain ⟨t313,A20,H⟩:=H
 replace H:(some t313)=some r:=H
 have A2:=Aside0.mk A20
 clear A20
 obtain rfl:=Option.some.inj H
 go_enter Tryd.func67,Tryd.ntmps67
 go_wp2_with (first|((with_reducible refine gate_callee (f:=78) rfl ?_);refine goesL_ (some 4) rfl rfl Tryd.func78 (by kernel_rfl) rfl #[.int .i64 a0,.int .i64 10] rfl (by (try simp only [List.map_toArray,List.map_cons,List.map_nil]);first|done|rfl|(simp only [List.length_drop,List.length_take];rfl)) ?_;(with_reducible refine (strconv_FormatInt_78.calls a0 10 t313 _ A2.out ?hT).mono ?_);(case hT=>exact HTB.out.below (by repeat (first|(with_reducible first|exact HB.out|apply below_alloc|apply pw_below_drewN|apply below_drew1)|exact HB.out)));rintro e w3 ⟨rfl,hb⟩;(try clear A2);refine ⟨_,rfl,?_⟩;have n0_:=Aside0.mk (below_step (by repeat (first|(with_reducible first|exact HB.out|apply below_alloc|apply pw_below_drewN|apply below_drew1)|exact HB.out)) hb);clear HB;have HB:=n0_;clear n0_;(try clear hb);(try clear hb2);(try clear hk);(try clear hi)))
 go_ret
 exact ⟨by first|rfl|(simp [errW_none,errW_some] <;> rfl)|(simp [*,errW_none,errW_some] <;> rfl),by repeat (first|(with_reducible first|exact HB.out|apply below_alloc|apply pw_below_drewN|apply below_drew1)|exact HB.out)⟩
def scrub_length.f (a0:Int):Option (ByteArray × ByteArray):=(sign_Text.f a0).bind fun t315=>(some ((⟨#[67,111,110,116,101,110,116,45,76,101,110,103,116,104]⟩:ByteArray),t315))
set_option maxHeartbeats 8000000 in
set_option maxRecDepth 100000 in
theorem scrub_length.calls (a0:Int) (r1:ByteArray) (r2:ByteArray) (w:World) (h:scrub_length.f a0=some (r1,r2)) (ht:Tabs w) :
  Calls Tryd.prog 38 #[.int .i64 a0] w fun e w' => e = .returned (.agg #[.string r1,.string r2])∧Below w.heap.size w w' := by
 have HTB:=Aside0.mk ht
 clear ht
 have hu41:=Tryd.underlying41
 have HB:=Aside0.mk (Below.refl w.heap.size w)
 have H:((sign_Text.f a0).bind fun t315=>(some ((⟨#[67,111,110,116,101,110,116,45,76,101,110,103,116,104]⟩:ByteArray),t315)))=some (r1,r2):=h
 clear h
 replace H:=Option.bind_eq_some_iff.mp H
 obtain ⟨t315,A20,H⟩:=H
 replace H:(some ((⟨#[67,111,110,116,101,110,116,45,76,101,110,103,116,104]⟩:ByteArray),t315))=some (r1,r2):=H
 have A2:=Aside0.mk A20
 clear A20
 simp only [Option.some.injEq,Prod.mk.injEq] at H
 obtain ⟨rfl,rfl⟩:=H
 go_enter Tryd.func38,Tryd.ntmps38
 go_wp2_with (first|((with_reducible refine gate_dst (N:=2) rfl ?_);refine box_event ?hg (N:=2) ?hd (cs:=#[.string (⟨#[]⟩:ByteArray),.string (⟨#[]⟩:ByteArray)]) (t:=41) ?hr ?_;(case hd=>rfl);(case hg=>rfl);(case hr=>first|(go_simp;done)|(go_simp;rfl));intro gb314 hg w3 hbox hb;have n0_:=Aside0.mk (below_step (by repeat (first|(with_reducible first|exact HB.out|apply below_alloc|apply pw_below_drewN|apply below_drew1)|exact HB.out)) hb);have n1_:=Aside0.mk (hbox);have n2_:=Aside0.mk ((by rw [hg];exact (below_size (by repeat (first|(with_reducible first|exact HB.out|apply below_alloc|apply pw_below_drewN|apply below_drew1)|exact HB.out))):w.heap.size ≤ gb314));have n3_:=Aside0.mk ((by rw [hg];exact (below_size (by repeat (first|(with_reducible first|exact HB.out|apply below_alloc|apply pw_below_drewN|apply below_drew1)|exact HB.out))):w.heap.size ≤ gb314));clear HB;have HB:=n0_;have BK314:=n1_;have GW314:=n2_;have GE314:=n3_;clear n0_ n1_ n2_ n3_;clear hb hbox hg)|((with_reducible refine gate_callee (f:=67) rfl ?_);refine goesL_ (some 4) rfl rfl Tryd.func67 (by kernel_rfl) rfl #[.int .i64 a0] rfl (by (try simp only [List.map_toArray,List.map_cons,List.map_nil]);first|done|rfl|(simp only [List.length_drop,List.length_take];rfl)) ?_;(with_reducible refine (sign_Text.calls a0 t315 _ A2.out ?hT).mono ?_);(case hT=>exact HTB.out.below (by repeat (first|(with_reducible first|exact HB.out|apply below_alloc|apply pw_below_drewN|apply below_drew1|refine below_set ?_ GE314.out)|exact HB.out)));rintro e w4 ⟨rfl,hb⟩;(try clear A2);refine ⟨_,rfl,?_⟩;have n0_:=Aside0.mk (blk_below (g:=gb314) (o:=.cells #[.string (⟨#[]⟩:ByteArray),.string (⟨#[]⟩:ByteArray)] 41 (0,0)) (by (with_reducible repeat (first|refine blk_drewN ?_ _|refine blk_drew ?_|refine blk_alloc ?_ _));exact BK314.out) hb);have n1_:=Aside0.mk (below_step (by repeat (first|(with_reducible first|exact HB.out|apply below_alloc|apply pw_below_drewN|apply below_drew1|refine below_set ?_ GE314.out)|exact HB.out)) hb);clear BK314;clear HB;have BK314:=n0_;have HB:=n1_;clear n0_ n1_;(try clear hb);(try clear hb2);(try clear hk);(try clear hi);have hcz5_0:w4.cell? ⟨gb314,0,none⟩=some (.string (⟨#[]⟩:ByteArray)):=(blk_cell BK314.out 0).trans rfl;have hcz5_1:w4.cell? ⟨gb314,1,none⟩=some (.string (⟨#[]⟩:ByteArray)):=(blk_cell BK314.out 1).trans rfl;have hfz5_0:=blk_frozen BK314.out 0;have hfz5_1:=blk_frozen BK314.out 1))
 refine bodyPost_ret (results_cell_row rfl _ _ gb314 41 #[.string (⟨#[67,111,110,116,101,110,116,45,76,101,110,103,116,104]⟩:ByteArray),.string t315] (0,0) _ rfl (by (with_reducible repeat (first|refine blk_drewN ?_ _|refine blk_drew ?_|refine blk_alloc ?_ _));refine blk_put (cs:=#[.string (⟨#[67,111,110,116,101,110,116,45,76,101,110,103,116,104]⟩:ByteArray),.string (⟨#[]⟩:ByteArray)]) ?_ 1 _ rfl;(with_reducible repeat (first|refine blk_drewN ?_ _|refine blk_drew ?_|refine blk_alloc ?_ _));refine blk_put (cs:=#[.string (⟨#[]⟩:ByteArray),.string (⟨#[]⟩:ByteArray)]) ?_ 0 _ rfl;(with_reducible repeat (first|refine blk_drewN ?_ _|refine blk_drew ?_|refine blk_alloc ?_ _));exact BK314.out) Tryd.underlying41 rfl (by kernel_rfl)) rfl ?_
 exact ⟨by first|rfl|(simp [errW_none,errW_some] <;> rfl)|(simp [*,errW_none,errW_some] <;> rfl),by repeat (first|(with_reducible first|exact HB.out|apply below_alloc|apply pw_below_drewN|apply below_drew1|refine below_set ?_ GE314.out)|exact HB.out)⟩
def scrub_onward.l0:Nat → List (S41) → List (S41) → List (S41) → Int → Int → Option ((List (S41)))
 | 0,_,_,_,_,_=>none
 | k + 1,x0,x3,x6,x7,x8=>if x8 < x7 then (if 0 ≤ x8 then (if x8 < (x6.length:Int) then ((scrub_Hop.f k x0 ((rd_T41 x6 x8).f0)).bind fun t309=>(if t309=true then (scrub_onward.l0 k x0 x3 x6 x7 (wrap64 (x8 + 1))) else (if x3.length < 4398046511104 then (scrub_onward.l0 k x0 (x3 ++ [(⟨(rd_T41 x6 x8).f0,(rd_T41 x6 x8).f1⟩:S41)]) x6 x7 (wrap64 (x8 + 1))) else (none)))) else (none)) else (none)) else (some x3)
def scrub_onward.f (k:Nat) (l0:List (S41)):Option ((List (S41))):=scrub_onward.l0 k l0 ([]:List (S41)) l0 (l0.length:Int) 0
set_option maxHeartbeats 8000000 in
set_option maxRecDepth 100000 in
theorem scrub_onward.calls (k:Nat) (A0:Option Addr) (c0:Nat) (l0:List (S41)) (r:List (S41)) (w:World) (hr0:Kd.C k41 w A0 l0.length l0) (hc0:l0.length ≤ c0) (h:scrub_onward.f k l0=some r) :
  Calls Tryd.prog 37 #[.slice A0 l0.length c0] w fun e w' => ∃ v0_:Value,e = .returned (v0_)∧Kd.R k41 41 w' w.heap.size (fun _=>True) v0_ r∧Below w.heap.size w w' := by
 have hu41:=Tryd.underlying41
 have HR0:=Aside0.mk hr0
 have HC0:=Aside0.mk hc0
 clear hr0 hc0
 have HB:=Aside0.mk (Below.refl w.heap.size w)
 have H:(scrub_onward.l0 k l0 ([]:List (S41)) l0 (l0.length:Int) 0)=some r:=h
 clear h
 have H' := Aside0.mk H
 clear H
 go_enter Tryd.func37,Tryd.ntmps37
 go_wp2
 go_loopg [3,8] k (fun kq v3 v8 w' => ∃ (x3_1:List (S41)) (x8_1:Int),v8 = .int .i64 x8_1∧Aside0 (scrub_onward.l0 kq l0 x3_1 l0 (l0.length:Int) x8_1=some r)∧Aside0 (kq ≤ k)∧Aside0 (Kd.R k41 41 w' w.heap.size (fun _=>True) v3 x3_1)∧Aside0 (Below w.heap.size w w'))
 case atStart=>exact ⟨(([]:List (S41))),(0),(by first|rfl|(simp;done)|(simp [*];done)),H',⟨Nat.le_refl _⟩,⟨by first|exact Kd.R_nil _ _ _ _ _|exact Kd.N_nil _ _ _ _ _|exact Kd.V_nil _ _ _ _ _|exact Kd.Q_nil _ _ _ _ _|exact Kd.S_nil _ _ _ _ _⟩,⟨by repeat (first|(with_reducible first|exact HB.out|apply below_alloc|apply pw_below_drewN|apply below_drew1)|exact HB.out)⟩⟩
 case round =>
  clear H'
  obtain ⟨x3_1,x8_1,rfl,HA,HK1,HO_3,HB⟩:=hrel
  cases gk with
  | zero=>exact absurd HA.out (by simp [scrub_onward.l0])
  | succ k1 =>
   have H:=HA.out
   clear HA
   simp only [scrub_onward.l0] at H
   by_cases c2:x8_1 < (l0.length:Int)
   ·rw [if_pos c2] at H
    have c2b0:decide (x8_1 < (l0.length:Int))=true:=decide_eq_true c2
    clear c2
    by_cases c3:0 ≤ x8_1
    ·rw [if_pos c3] at H
     have c3b0:decide (0 ≤ x8_1)=true:=decide_eq_true c3
     clear c3
     by_cases c4:x8_1 < (l0.length:Int)
     ·rw [if_pos c4] at H
      have c4b0:decide (x8_1 < (l0.length:Int))=true:=decide_eq_true c4
      clear c4
      replace H:=Option.bind_eq_some_iff.mp H
      obtain ⟨t309,A50,H⟩:=H
      replace H:(if t309=true then (scrub_onward.l0 k1 l0 x3_1 l0 (l0.length:Int) (wrap64 (x8_1 + 1))) else (if x3_1.length < 4398046511104 then (scrub_onward.l0 k1 l0 (x3_1 ++ [(⟨(rd_T41 l0 x8_1).f0,(rd_T41 l0 x8_1).f1⟩:S41)]) l0 (l0.length:Int) (wrap64 (x8_1 + 1))) else (none)))=some r:=H
      have A5:=Aside0.mk A50
      clear A50
      by_cases c6:t309=true
      ·subst c6
       have H1:(scrub_onward.l0 k1 l0 x3_1 l0 (l0.length:Int) (wrap64 (x8_1 + 1)))=some r:=by rw [if_pos rfl] at H;exact H
       clear H
       have H:=H1
       clear H1
       have H' := Aside0.mk H
       clear H
       have p307:0 ≤ (x8_1:Int):=of_decide_eq_true (by first|(with_reducible assumption)|assumption)
       have q307:x8_1 < (l0.length:Int):=of_decide_eq_true (by first|(with_reducible assumption)|assumption)
       obtain ⟨ad307,e307,hx307_0,hx307_1⟩:=at_T41 HR0.out x8_1 p307 q307
       cases e307
       replace hx307_0:=(HB.out.cell (World.block_lt_of_cell? w _ hx307_0)).trans hx307_0
       replace hx307_1:=(HB.out.cell (World.block_lt_of_cell? w _ hx307_1)).trans hx307_1
       replace p307:=eq_true p307
       replace q307:=eq_true q307
       go_wp2_with (first|((with_reducible refine gate_dst (N:=5) rfl ?_);refine box_event ?hg (N:=5) ?hd (cs:=#[.string (⟨#[]⟩:ByteArray),.string (⟨#[]⟩:ByteArray)]) (t:=41) ?hr ?_;(case hd=>rfl);(case hg=>rfl);(case hr=>first|(go_simp;done)|(go_simp;rfl));intro gb308 hg w7 hbox hb;have n0_:=Aside0.mk (Kd.R_below (Kd.R_elderB (by (with_reducible repeat (first|apply Kd.R_alloc|apply Kd.R_drewN|apply Kd.R_drew));exact HO_3.out) gb308 (Nat.le_of_eq hg.symm)) hb);have n1_:=Aside0.mk (below_step (by repeat (first|(with_reducible first|exact HB.out|apply below_alloc|apply pw_below_drewN|apply below_drew1)|exact HB.out)) hb);have n2_:=Aside0.mk (hbox);have n3_:=Aside0.mk ((by rw [hg];exact (below_size (by repeat (first|(with_reducible first|exact HB.out|apply below_alloc|apply pw_below_drewN|apply below_drew1)|exact HB.out))):w.heap.size ≤ gb308));have n4_:=Aside0.mk ((by rw [hg];exact (below_size (by repeat (first|(with_reducible first|exact HB.out|apply below_alloc|apply pw_below_drewN|apply below_drew1)|exact HB.out))):w.heap.size ≤ gb308));clear HO_3;clear HB;have HO_3:=n0_;have HB:=n1_;have BK308:=n2_;have GW308:=n3_;have GE308:=n4_;clear n0_ n1_ n2_ n3_ n4_;clear hb hbox hg;have hcz8_0:w7.cell? ⟨gb308,0,none⟩=some (.string (⟨#[]⟩:ByteArray)):=(blk_cell BK308.out 0).trans rfl;have hcz8_1:w7.cell? ⟨gb308,1,none⟩=some (.string (⟨#[]⟩:ByteArray)):=(blk_cell BK308.out 1).trans rfl;have hfz8_0:=blk_frozen BK308.out 0;have hfz8_1:=blk_frozen BK308.out 1)|((with_reducible refine gate_callee (f:=12) rfl ?_);refine goesL_ (some 15) rfl rfl Tryd.func12 (by kernel_rfl) rfl #[.slice (some ad307) l0.length c0,.string ((rd_T41 l0 x8_1).f0)] rfl (by (try simp only [List.map_toArray,List.map_cons,List.map_nil]);first|done|rfl|(simp only [List.length_drop,List.length_take];rfl)) ?_;(with_reducible refine (scrub_Hop.calls k1 _ _ l0 ((rd_T41 l0 x8_1).f0) true _ ?side1 ?side2 A5.out).mono ?_);(case side1=>exact Kd.C_below HR0.out (by repeat (first|(with_reducible first|exact HB.out|apply below_alloc|apply pw_below_drewN|apply below_drew1|refine below_set ?_ GE308.out)|exact HB.out)));(case side2=>exact HC0.out);rintro e w9 ⟨rfl,hb⟩;(try clear A5);refine ⟨_,rfl,?_⟩;have n0_:=Aside0.mk (Kd.R_below (by (with_reducible repeat (first|apply Kd.R_alloc|apply Kd.R_drewN|apply Kd.R_drew));exact (Kd.R_mono (Kd.R_far (p:=⟨gb308,1,none⟩) (Kd.R_far (p:=⟨gb308,0,none⟩) (Kd.R_mono HO_3.out (fun k_ hk=>(⟨hk,hk.2⟩:_∧k_ ≠ gb308))) (fun _ hk=>hk.2) (.string ((rd_T41 l0 x8_1).f0))) (fun _ hk=>hk.2) (.string ((rd_T41 l0 x8_1).f1))) (fun _ h_=>h_.1))) hb);have n1_:=Aside0.mk (blk_below (g:=gb308) (o:=.cells #[.string ((rd_T41 l0 x8_1).f0),.string ((rd_T41 l0 x8_1).f1)] 41 (0,0)) (by (with_reducible repeat (first|refine blk_drewN ?_ _|refine blk_drew ?_|refine blk_alloc ?_ _));refine blk_put (cs:=#[.string ((rd_T41 l0 x8_1).f0),.string (⟨#[]⟩:ByteArray)]) ?_ 1 _ rfl;(with_reducible repeat (first|refine blk_drewN ?_ _|refine blk_drew ?_|refine blk_alloc ?_ _));refine blk_put (cs:=#[.string (⟨#[]⟩:ByteArray),.string (⟨#[]⟩:ByteArray)]) ?_ 0 _ rfl;(with_reducible repeat (first|refine blk_drewN ?_ _|refine blk_drew ?_|refine blk_alloc ?_ _));exact BK308.out) hb);have n2_:=Aside0.mk (below_step (by repeat (first|(with_reducible first|exact HB.out|apply below_alloc|apply pw_below_drewN|apply below_drew1|refine below_set ?_ GE308.out)|exact HB.out)) hb);clear HO_3;clear BK308;clear HB;have HO_3:=n0_;have BK308:=n1_;have HB:=n2_;clear n0_ n1_ n2_;(try clear hb);(try clear hb2);(try clear hk);(try clear hi)))
       go_roundg k1
       case measure=>have:=HK1.out;omega
       case rel=>exact ⟨(x3_1),(wrap64 (x8_1 + 1)),(by first|rfl|(simp;done)|(simp [*];done)),H',⟨by have:=HK1.out;omega⟩,⟨by (with_reducible repeat (first|apply Kd.R_alloc|apply Kd.R_drewN|apply Kd.R_drew));exact Kd.R_mono HO_3.out (fun _ hk=>trivial)⟩,⟨by repeat (first|(with_reducible first|exact HB.out|apply below_alloc|apply pw_below_drewN|apply below_drew1|refine below_set ?_ GE308.out)|exact HB.out)⟩⟩
      ·replace c6:=Bool.eq_false_iff.mpr c6
       subst c6
       have H1:(if x3_1.length < 4398046511104 then (scrub_onward.l0 k1 l0 (x3_1 ++ [(⟨(rd_T41 l0 x8_1).f0,(rd_T41 l0 x8_1).f1⟩:S41)]) l0 (l0.length:Int) (wrap64 (x8_1 + 1))) else (none))=some r:=by rw [if_neg (show ¬ (false=true) by decide)] at H;exact H
       clear H
       have H:=H1
       clear H1
       by_cases c10:x3_1.length < 4398046511104
       ·rw [if_pos c10] at H
        have LMc10:=Aside0.mk c10
        clear c10
        obtain ⟨y310,hy310⟩ : ∃ y_:List (S41),y_=(x3_1 ++ [(⟨(rd_T41 l0 x8_1).f0,(rd_T41 l0 x8_1).f1⟩:S41)]):=⟨_,rfl⟩
        replace H:(scrub_onward.l0 k1 l0 y310 l0 (l0.length:Int) (wrap64 (x8_1 + 1)))=some r:=by first|(rw [hy310];with_reducible exact H)|(have H2_:=(Option.bind_some _ _).symm.trans H;rw [hy310];with_reducible exact H2_)|(have H2_:=(Option.bind_some _ _).symm.trans H;with_reducible exact H2_)|with_reducible exact H|(rw [hy310];exact H)|exact H
        have Ny310:=Aside0.mk hy310
        clear hy310
        have H' := Aside0.mk H
        clear H
        have p307:0 ≤ (x8_1:Int):=of_decide_eq_true (by first|(with_reducible assumption)|assumption)
        have q307:x8_1 < (l0.length:Int):=of_decide_eq_true (by first|(with_reducible assumption)|assumption)
        obtain ⟨ad307,e307,hx307_0,hx307_1⟩:=at_T41 HR0.out x8_1 p307 q307
        cases e307
        replace hx307_0:=(HB.out.cell (World.block_lt_of_cell? w _ hx307_0)).trans hx307_0
        replace hx307_1:=(HB.out.cell (World.block_lt_of_cell? w _ hx307_1)).trans hx307_1
        replace p307:=eq_true p307
        replace q307:=eq_true q307
        go_wp2_with (first|((with_reducible refine gate_dst (N:=5) rfl ?_);refine box_event ?hg (N:=5) ?hd (cs:=#[.string (⟨#[]⟩:ByteArray),.string (⟨#[]⟩:ByteArray)]) (t:=41) ?hr ?_;(case hd=>rfl);(case hg=>rfl);(case hr=>first|(go_simp;done)|(go_simp;rfl));intro gb308 hg w11 hbox hb;have n0_:=Aside0.mk (Kd.R_below (Kd.R_elderB (by (with_reducible repeat (first|apply Kd.R_alloc|apply Kd.R_drewN|apply Kd.R_drew));exact HO_3.out) gb308 (Nat.le_of_eq hg.symm)) hb);have n1_:=Aside0.mk (below_step (by repeat (first|(with_reducible first|exact HB.out|apply below_alloc|apply pw_below_drewN|apply below_drew1)|exact HB.out)) hb);have n2_:=Aside0.mk (hbox);have n3_:=Aside0.mk ((by rw [hg];exact (below_size (by repeat (first|(with_reducible first|exact HB.out|apply below_alloc|apply pw_below_drewN|apply below_drew1)|exact HB.out))):w.heap.size ≤ gb308));have n4_:=Aside0.mk ((by rw [hg];exact (below_size (by repeat (first|(with_reducible first|exact HB.out|apply below_alloc|apply pw_below_drewN|apply below_drew1)|exact HB.out))):w.heap.size ≤ gb308));clear HO_3;clear HB;have HO_3:=n0_;have HB:=n1_;have BK308:=n2_;have GW308:=n3_;have GE308:=n4_;clear n0_ n1_ n2_ n3_ n4_;clear hb hbox hg;have hcz12_0:w11.cell? ⟨gb308,0,none⟩=some (.string (⟨#[]⟩:ByteArray)):=(blk_cell BK308.out 0).trans rfl;have hcz12_1:w11.cell? ⟨gb308,1,none⟩=some (.string (⟨#[]⟩:ByteArray)):=(blk_cell BK308.out 1).trans rfl;have hfz12_0:=blk_frozen BK308.out 0;have hfz12_1:=blk_frozen BK308.out 1)|((with_reducible refine gate_callee (f:=12) rfl ?_);refine goesL_ (some 15) rfl rfl Tryd.func12 (by kernel_rfl) rfl #[.slice (some ad307) l0.length c0,.string ((rd_T41 l0 x8_1).f0)] rfl (by (try simp only [List.map_toArray,List.map_cons,List.map_nil]);first|done|rfl|(simp only [List.length_drop,List.length_take];rfl)) ?_;(with_reducible refine (scrub_Hop.calls k1 _ _ l0 ((rd_T41 l0 x8_1).f0) false _ ?side1 ?side2 A5.out).mono ?_);(case side1=>exact Kd.C_below HR0.out (by repeat (first|(with_reducible first|exact HB.out|apply below_alloc|apply pw_below_drewN|apply below_drew1|refine below_set ?_ GE308.out)|exact HB.out)));(case side2=>exact HC0.out);rintro e w13 ⟨rfl,hb⟩;(try clear A5);refine ⟨_,rfl,?_⟩;have n0_:=Aside0.mk (Kd.R_below (by (with_reducible repeat (first|apply Kd.R_alloc|apply Kd.R_drewN|apply Kd.R_drew));exact (Kd.R_mono (Kd.R_far (p:=⟨gb308,1,none⟩) (Kd.R_far (p:=⟨gb308,0,none⟩) (Kd.R_mono HO_3.out (fun k_ hk=>(⟨hk,hk.2⟩:_∧k_ ≠ gb308))) (fun _ hk=>hk.2) (.string ((rd_T41 l0 x8_1).f0))) (fun _ hk=>hk.2) (.string ((rd_T41 l0 x8_1).f1))) (fun _ h_=>h_.1))) hb);have n1_:=Aside0.mk (blk_below (g:=gb308) (o:=.cells #[.string ((rd_T41 l0 x8_1).f0),.string ((rd_T41 l0 x8_1).f1)] 41 (0,0)) (by (with_reducible repeat (first|refine blk_drewN ?_ _|refine blk_drew ?_|refine blk_alloc ?_ _));refine blk_put (cs:=#[.string ((rd_T41 l0 x8_1).f0),.string (⟨#[]⟩:ByteArray)]) ?_ 1 _ rfl;(with_reducible repeat (first|refine blk_drewN ?_ _|refine blk_drew ?_|refine blk_alloc ?_ _));refine blk_put (cs:=#[.string (⟨#[]⟩:ByteArray),.string (⟨#[]⟩:ByteArray)]) ?_ 0 _ rfl;(with_reducible repeat (first|refine blk_drewN ?_ _|refine blk_drew ?_|refine blk_alloc ?_ _));exact BK308.out) hb);have n2_:=Aside0.mk (below_step (by repeat (first|(with_reducible first|exact HB.out|apply below_alloc|apply pw_below_drewN|apply below_drew1|refine below_set ?_ GE308.out)|exact HB.out)) hb);clear HO_3;clear BK308;clear HB;have HO_3:=n0_;have BK308:=n1_;have HB:=n2_;clear n0_ n1_ n2_;(try clear hb);(try clear hb2);(try clear hk);(try clear hi);have hcz14_0:w13.cell? ⟨gb308,0,none⟩=some (.string ((rd_T41 l0 x8_1).f0)):=(blk_cell BK308.out 0).trans rfl;have hcz14_1:w13.cell? ⟨gb308,1,none⟩=some (.string ((rd_T41 l0 x8_1).f1)):=(blk_cell BK308.out 1).trans rfl;have hfz14_0:=blk_frozen BK308.out 0;have hfz14_1:=blk_frozen BK308.out 1)|((with_reducible refine gate_builtin (b:=.append) (xs:=#[.tmp 17,.tmp 19]) rfl ?_);at_builtin;refine Kd.R_append k41 (w0:=w) w.heap.size rfl (.tmp 17) (.tmp 19) 31 41 (.agg #[(.string ⟨#[]⟩),(.string ⟨#[]⟩)]) 32 rfl Tryd.underlying31 info41 rfl (by decide) (by omega) u3 x3_1 (⟨(rd_T41 l0 x8_1).f0,(rd_T41 l0 x8_1).f1⟩:S41) [.string ((rd_T41 l0 x8_1).f0),.string ((rd_T41 l0 x8_1).f1)] (fun k_=>k_ ≠ gb308) (fun _=>False) rfl rfl ?aP (fun _ hk=>hk.elim) ?aF ?aO ?aB ?aS ?aL ?_;(case aP=>exact k41_mkM _ _ _ (⟨(rd_T41 l0 x8_1).f0,(rd_T41 l0 x8_1).f1⟩:S41));(case aB=>exact (by repeat (first|(with_reducible first|exact HB.out|apply below_alloc|apply pw_below_drewN|apply below_drew1|refine below_set ?_ GE308.out)|exact HB.out)));(case aF=>exact (fun k_ hk=>Kd.freshB (g:=gb308) (o:=.cells #[.string ((rd_T41 l0 x8_1).f0),.string ((rd_T41 l0 x8_1).f1)] 41 (0,0)) (by (with_reducible repeat (first|refine blk_drewN ?_ _|refine blk_drew ?_|refine blk_alloc ?_ _));exact BK308.out) k_ hk));(case aO=>exact (by (with_reducible repeat (first|apply Kd.R_alloc|apply Kd.R_drewN|apply Kd.R_drew));exact Kd.R_mono HO_3.out (fun _ hk=>hk.2)));(case aS=>exact (below_size (by repeat (first|(with_reducible first|exact HB.out|apply below_alloc|apply pw_below_drewN|apply below_drew1|refine below_set ?_ GE308.out)|exact HB.out))));(case aL=>have:=LMc10.out;omega);intro v311 w15 ho hb hg hat;rw [← Ny310.out] at ho;have n0_:=Aside0.mk (blk_grown (g:=gb308) (o:=.cells #[.string ((rd_T41 l0 x8_1).f0),.string ((rd_T41 l0 x8_1).f1)] 41 (0,0)) (by (with_reducible repeat (first|refine blk_drewN ?_ _|refine blk_drew ?_|refine blk_alloc ?_ _));exact BK308.out) hg (Kd.R_away HO_3.out (fun _ hk=>hk.2)));have n1_:=Aside0.mk (hb);have n2_:=Aside0.mk (ho);clear BK308;clear HB;clear HO_3;have BK308:=n0_;have HB:=n1_;have HO312:=n2_;clear n0_ n1_ n2_;clear ho hb hg hat))
        go_roundg k1
        case measure=>have:=HK1.out;omega
        case rel=>exact ⟨(y310),(wrap64 (x8_1 + 1)),(by first|rfl|(simp;done)|(simp [*];done)),H',⟨by have:=HK1.out;omega⟩,⟨by (with_reducible repeat (first|apply Kd.R_alloc|apply Kd.R_drewN|apply Kd.R_drew));exact Kd.R_mono HO312.out (fun _ hk=>trivial)⟩,⟨by repeat (first|(with_reducible first|exact HB.out|apply below_alloc|apply pw_below_drewN|apply below_drew1|refine below_set ?_ GE308.out)|exact HB.out)⟩⟩
       ·rw [if_neg c10] at H
        exact absurd H (by simp)
     ·rw [if_neg c4] at H
      exact absurd H (by simp)
    ·rw [if_neg c3] at H
     exact absurd H (by simp)
   ·rw [if_neg c2] at H
    have c2b0:decide (x8_1 < (l0.length:Int))=false:=decide_eq_false c2
    clear c2
    obtain rfl:=Option.some.inj H
    go_wp2
    go_ret
    exact ⟨_,by first|rfl|(simp [errW_none,errW_some] <;> rfl)|(simp [*,errW_none,errW_some] <;> rfl),by (with_reducible repeat (first|apply Kd.R_alloc|apply Kd.R_drewN|apply Kd.R_drew));exact HO_3.out,by repeat (first|(with_reducible first|exact HB.out|apply below_alloc|apply pw_below_drewN|apply below_drew1)|exact HB.out)⟩
def slices_Clone_string_string.f (l0:List ByteArray):Option (List ByteArray):=if l0.length ≤ 8796093022207 then some l0 else none
set_option maxHeartbeats 4000000 in
set_option maxRecDepth 100000 in
theorem slices_Clone_string_string.calls (A0:Option Addr) (c0:Nat) (l0:List ByteArray) (r:List ByteArray) (w:World) (hr0:Kd.C Kd.string w A0 l0.length l0) (hc0:l0.length ≤ c0) (h:slices_Clone_string_string.f l0=some r) :
  Calls Tryd.prog 35 #[.slice A0 l0.length c0] w fun e w' => ∃ v0_:Value,e = .returned (v0_)∧Kd.R Kd.string 9 w' w.heap.size (fun _=>True) v0_ r∧Below w.heap.size w w' := by
 have hl:l0.length ≤ 8796093022207∧l0=r:=by
  unfold slices_Clone_string_string.f at h
  split at h
  ·exact ⟨by assumption,by simpa using h⟩
  ·cases h
 obtain ⟨hl,rfl⟩:=hl
 clear h
 have HR:=Aside0.mk hr0
 cases A0 with
 | none =>
  have he:l0=[]:=by
   cases l0 with
   | nil=>rfl
   | cons x y=>obtain ⟨ad,e,_⟩:=hr0.2.2 (by simp);cases e
  subst he
  clear HR hr0
  have hnil : ∀ W:World,(binOp .eql 36 (.slice none 0 c0) (.slice none 0 0)).run Tryd.prog W = .ok (.bool true) W:=fun W=>by
   simp only [binOp]
   simp [Op.equal,Op.maxDepth,Lib.run_equalIn_slice_nil W 9999 36 _ none 0 c0 0 0 Tryd.underlying36]
  go_enter Tryd.func35,Tryd.ntmps35
  go_wp2
  go_ret
  exact ⟨_,rfl,Kd.R_nil _ _ _ _ _,Below.refl _ _⟩
 | some ad =>
  have HL:=Aside0.mk hl
  have hnil : ∀ W:World,(binOp .eql 36 (.slice (some ad) l0.length c0) (.slice none 0 0)).run Tryd.prog W = .ok (.bool false) W:=fun W=>by
   simp only [binOp]
   simp [Op.equal,Op.maxDepth,Lib.run_equalIn_slice_nil W 9999 36 _ (some ad) l0.length c0 0 0 Tryd.underlying36]
  have HB:=Aside0.mk (Below.refl w.heap.size w)
  clear hr0 hl hc0
  go_enter Tryd.func35,Tryd.ntmps35
  go_wp2_with (first
   | ((with_reducible refine gate_dst (N:=5) rfl ?_);refine Kd.R_lit Kd.string _ 9 ?hg (N:=5) ?hd (xs:=([]:List ByteArray)) (inner:=[]) (ok:=fun _=>True) (okp:=fun _=>True) ?hr ?hp (fun _ hk=>hk) trivial (Below.refl _ _) (Nat.le_refl _) (by simp) ?_;(case hd=>rfl);(case hg=>rfl);(case hr=>first|(go_simp;done)|(go_simp;rfl));(case hp=>exact (Reps.none _ _));intro v5 w2 ho3 hb hg_ hnew_;clear hg_ hnew_;have HO5:=Aside0.mk (Kd.R_lower ho3 (below_size (by repeat (first|(with_reducible first|exact HB.out|apply below_alloc|apply pw_below_drewN|apply below_drew1)|exact HB.out))));have n1_:=Aside0.mk (below_step (by repeat (first|(with_reducible first|exact HB.out|apply below_alloc|apply pw_below_drewN|apply below_drew1)|exact HB.out)) hb);clear HB;have HB:=n1_;clear n1_;clear hb ho3)
   | ((with_reducible refine gate_builtin (b:=.append) (xs:=#[.tmp 5,.tmp 6]) rfl ?_);at_builtin;refine Kd.R_append_rows Kd.string (w0:=w) w.heap.size rfl (.tmp 5) (.tmp 6) 36 9 (.string ⟨#[]⟩) 16 rfl Tryd.underlying36 info9 rfl (by decide) (by omega) v5 [] l0 _ _ _ (fun _=>True) (fun _=>False) rfl rfl ?aO ?aR (fun _ _ h=>h) (fun _ h=>h.elim) (fun _ _=>trivial) ?aB ?aS ?aL ?_;(case aO=>exact HO5.out);(case aR=>exact Kd.C_below HR.out HB.out);(case aB=>exact HB.out);(case aS=>exact HB.out.size);(case aL=>have:=HL.out;simp only [List.length_nil];omega);intro v3 w3 ho hb3 hg3 hat;have HO7:=Aside0.mk ho;have HB7:=Aside0.mk hb3;clear ho hb3 hg3 hat))
  go_ret
  exact ⟨_,by first|rfl|(simp;done),HO7.out,HB7.out⟩
end Go.Proofs.YtfjeinnemimjoaaDoor.P
