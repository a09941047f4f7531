/- Each function below answers as its Lean twin says; plain lemmas; a row where its theorem stands. No further condition. (Laid by this repo's pack.py out of its texts and of the print's words.) -/
import Derived.Test.YtagffbblalldiaaGreatDoorProg
import Derived.Test.YtagffbblalldiaaGreatDoorZ66c19ba0
import Derived.Below
import Derived.Deep.Draws
import Derived.Deep.AppendLies
import Derived.Maps.AppendAt
import Derived.OwnWalk
import Derived.Laws.BytesArg
import Derived.Laws.MakeOwn
import Derived.Laws.OwnMore
import Derived.Deep.OwnRows
import Derived.Tactics
import Derived.Lib.ConvBytes
import Derived.Laws.Slices
import Derived.WalkKit
import Derived.KernelRfl
import Derived.RowKit3
import Derived.Deep.LoopGhost
import Derived.Deep.QuietTactic
import Derived.BigQuiet
import Derived.WideLaws
import Derived.Deep.DeepCutAuto
import Derived.Deep.CutBlock
import Derived.Deep.RegionHeld3
import Derived.Laws.Rows
import Derived.Lib.AppendStr
import Derived.ArgAppend
import Derived.Laws.IdiomCopy
import Derived.OrdersHeld
import Derived.Laws.BitsLemmas
import Derived.RowKit
import Derived.Lib.Hide
import Derived.LoopTactic
import Derived.Shelf.Strings.Trim
import Derived.Shelf.Small.Utf8
import Derived.Shelf.Small.Strs
import Derived.Shelf.Strconv.Itoa0
import Derived.Shelf.Strconv.Itoa1
import Derived.Shelf.LaysM
import Derived.Shelf.Strconv.Itoa2
import Derived.Shelf.Strconv.Itoa3
import Derived.Shelf.Strings.Search1
import Derived.Shelf.Strings.Search2
import Derived.Shelf.Strings.Search3
import Derived.Shelf.Strings.Cut
import Derived.Shelf.Strings.Count
import Derived.Shelf.Strings.Shaped
import Derived.Shelf.Strings.LastIndex
import Derived.Shelf.Strings.Split
import Derived.Shelf.Strings.Runes
import Derived.Shelf.Strings.AsciiSet
import Derived.Shelf.Unicode.DecodeSlow
import Derived.Lib.SlBytesConst
import Derived.IntWalk
import Derived.Maps.OwnSet
import Derived.Maps.Views
import Derived.Lib.LaidTab
import Derived.Lib.ItoaNum
import Derived.Lib.TrailingZeros
namespace Go.Proofs.YtagffbblalldiaaGreatDoor.P
open Go.RowKit Go.Proofs.YtagffbblalldiaaGreatDoorW.PrintWords Go.Proofs.YtagffbblalldiaaGreatDoorW.PrintLast Go.Proofs.YtagffbblalldiaaGreatDoorW.PrintMore
attribute [local go_sem] max2_int min2_int max_two min_two max_three min_three max_four min_four   -- for this text's walks alone
set_option linter.unusedVariables false
set_option linter.unusedSimpArgs false
def errW : Option Int → Value
  | none => .nilIface
  | some c => .iface 0 (.int .i64 c)
theorem errW_none : errW none = .nilIface := rfl
theorem errW_some (c : Int) : errW (some c) = .iface 0 (.int .i64 c) := rfl
theorem info5 : (Tryz.prog.info? 5).map (fun i => (i.zero, i.size, i.bytes)) = some (some (.int .u8 0), 1, 1) := by kernel_rfl
theorem info9 : (Tryz.prog.info? 9).map (fun i => (i.zero, i.size, i.bytes)) = some (some (.string ⟨#[]⟩), 1, 16) := by kernel_rfl
theorem info36 : (Tryz.prog.info? 36).map (fun i => (i.zero, i.size, i.bytes)) = some (some (.agg #[(.string ⟨#[]⟩), (.string ⟨#[]⟩)]), 2, 32) := by kernel_rfl
structure S36 where
  f0 : ByteArray
  f1 : ByteArray
def z36 : S36 := ⟨(⟨#[]⟩ : ByteArray), (⟨#[]⟩ : ByteArray)⟩
def k36 : Kd S36 := Kd.iso (Kd.pair Kd.string Kd.string) (fun x : S36 => (x.f0, x.f1))
theorem k36_open {w : World} {x : S36} {cs : List Value} (h : k36.K w x cs) : cs = [.string x.f0, .string x.f1] := by
  obtain ⟨_, _, rfl, rfl, rfl⟩ := h
  exact rfl
theorem k36_mk (w : World) (x : S36)  : k36.K w x [.string x.f0, .string x.f1] := ⟨[.string x.f0], [.string x.f1], rfl, rfl, rfl⟩
theorem k36_mkM (w : World) (base : Nat) (ok : Nat → Prop) (x : S36)  : k36.M w base ok x [.string x.f0, .string x.f1] := ⟨[.string x.f0], [.string x.f1], rfl, rfl, rfl⟩
def rd_T36 (xs : List S36) (i : Int) : S36 := xs.getD i.toNat z36
theorem at_T36 {w : World} {A : Option Addr} {n : Nat} {xs : List S36} (h : Kd.C k36 w A n xs) (i : Int) (h0 : 0 ≤ i) (h1 : i < n) : ∃ ad , A = some ad ∧ w.cell? (ad.add (i.toNat * 2)) = some (.string (rd_T36 xs i).f0) ∧ w.cell? ⟨(ad.add (i.toNat * 2)).block, (ad.add (i.toNat * 2)).off + 1, none⟩ = some (.string (rd_T36 xs i).f1) := by
  obtain ⟨ad, c, e, _, hK, hc0⟩ := Kd.C_get h z36 i h0 h1
  have hc : ∀ j u, c[j]? = some u → w.cell? (ad.add (i.toNat * 2 + j)) = some u := hc0
  obtain rfl := k36_open hK
  exact ⟨ad, e, hc 0 _ rfl, by rw [← add_field _ _ 1 (by omega)]; exact hc 1 _ rfl⟩
structure S26 where
  f0 : ByteArray
  f1 : ByteArray
  f2 : Int
  f3 : (List S36)
  f4 : (List Int)
structure S83 where
  f0 : ByteArray
  f1 : (List ByteArray)
def z83 : S83 := ⟨(⟨#[]⟩ : ByteArray), ([] : List ByteArray)⟩
def k83 : Kd S83 := Kd.iso (Kd.pair Kd.string (Kd.slice 9 Kd.string)) (fun x : S83 => (x.f0, x.f1))
theorem k83_open {w : World} {x : S83} {cs : List Value} (h : k83.K w x cs) : ∃ A1 c1, cs = [.string x.f0, .slice A1 x.f1.length c1] ∧ x.f1.length ≤ c1 ∧ Kd.string.C w A1 x.f1.length x.f1 := by
  obtain ⟨_, _, rfl, rfl, ⟨A1, c1, rfl, l1, g1⟩⟩ := h
  exact ⟨A1, c1, rfl, l1, g1⟩
def rd_T83 (xs : List S83) (i : Int) : S83 := xs.getD i.toNat z83
theorem at_T83 {w : World} {A : Option Addr} {n : Nat} {xs : List S83} (h : Kd.C k83 w A n xs) (i : Int) (h0 : 0 ≤ i) (h1 : i < n) : ∃ ad A1 c1, A = some ad ∧ w.cell? (ad.add (i.toNat * 2)) = some (.string (rd_T83 xs i).f0) ∧ w.cell? ⟨(ad.add (i.toNat * 2)).block, (ad.add (i.toNat * 2)).off + 1, none⟩ = some (.slice A1 (rd_T83 xs i).f1.length c1) ∧ (rd_T83 xs i).f1.length ≤ c1 ∧ Kd.string.C w A1 (rd_T83 xs i).f1.length (rd_T83 xs i).f1 := by
  obtain ⟨ad, c, e, _, hK, hc0⟩ := Kd.C_get h z83 i h0 h1
  have hc : ∀ j u, c[j]? = some u → w.cell? (ad.add (i.toNat * 2 + j)) = some u := hc0
  obtain ⟨A1, c1, rfl, l1, g1⟩ := k83_open hK
  exact ⟨ad, A1, c1, e, hc 0 _ rfl, by rw [← add_field _ _ 1 (by omega)]; exact hc 1 _ rfl, l1, g1⟩
structure S85 where
  f0 : ByteArray
  f1 : ByteArray
  f2 : ByteArray
def z85 : S85 := ⟨(⟨#[]⟩ : ByteArray), (⟨#[]⟩ : ByteArray), (⟨#[]⟩ : ByteArray)⟩
def k85 : Kd S85 := Kd.iso (Kd.pair Kd.string (Kd.pair Kd.string Kd.string)) (fun x : S85 => (x.f0, x.f1, x.f2))
theorem k85_open {w : World} {x : S85} {cs : List Value} (h : k85.K w x cs) : cs = [.string x.f0, .string x.f1, .string x.f2] := by
  obtain ⟨_, _, rfl, rfl, ⟨_, _, rfl, rfl, rfl⟩⟩ := h
  exact rfl
def rd_T85 (xs : List S85) (i : Int) : S85 := xs.getD i.toNat z85
theorem at_T85 {w : World} {A : Option Addr} {n : Nat} {xs : List S85} (h : Kd.C k85 w A n xs) (i : Int) (h0 : 0 ≤ i) (h1 : i < n) : ∃ ad , A = some ad ∧ w.cell? (ad.add (i.toNat * 3)) = some (.string (rd_T85 xs i).f0) ∧ w.cell? ⟨(ad.add (i.toNat * 3)).block, (ad.add (i.toNat * 3)).off + 1, none⟩ = some (.string (rd_T85 xs i).f1) ∧ w.cell? ⟨(ad.add (i.toNat * 3)).block, (ad.add (i.toNat * 3)).off + 2, none⟩ = some (.string (rd_T85 xs i).f2) := by
  obtain ⟨ad, c, e, _, hK, hc0⟩ := Kd.C_get h z85 i h0 h1
  have hc : ∀ j u, c[j]? = some u → w.cell? (ad.add (i.toNat * 3 + j)) = some u := hc0
  obtain rfl := k85_open hK
  exact ⟨ad, e, hc 0 _ rfl, by rw [← add_field _ _ 1 (by omega)]; exact hc 1 _ rfl, by rw [← add_field _ _ 2 (by omega)]; exact hc 2 _ rfl⟩
structure S46 where
  f0 : (List S83)
  f1 : (List S85)
  f2 : (List S36)
  f3 : (List ByteArray)
  f4 : Int
  f5 : Int
  f6 : Int
  f7 : Int
structure S131 where
  f0 : ByteArray
  f1 : Int
  f2 : Int
  f3 : Int
def z131 : S131 := ⟨(⟨#[]⟩ : ByteArray), (0 : Int), (0 : Int), (0 : Int)⟩
def k131 : Kd S131 := Kd.iso (Kd.pair Kd.string (Kd.pair (Kd.int .i64) (Kd.pair (Kd.int .i64) (Kd.int .i64)))) (fun x : S131 => (x.f0, x.f1, x.f2, x.f3))
theorem k131_open {w : World} {x : S131} {cs : List Value} (h : k131.K w x cs) : cs = [.string x.f0, .int .i64 x.f1, .int .i64 x.f2, .int .i64 x.f3] := by
  obtain ⟨_, _, rfl, rfl, ⟨_, _, rfl, rfl, ⟨_, _, rfl, rfl, rfl⟩⟩⟩ := h
  exact rfl
theorem k131_mkM (w : World) (base : Nat) (ok : Nat → Prop) (x : S131)  : k131.M w base ok x [.string x.f0, .int .i64 x.f1, .int .i64 x.f2, .int .i64 x.f3] := ⟨[.string x.f0], [.int .i64 x.f1, .int .i64 x.f2, .int .i64 x.f3], rfl, rfl, ⟨[.int .i64 x.f1], [.int .i64 x.f2, .int .i64 x.f3], rfl, rfl, ⟨[.int .i64 x.f2], [.int .i64 x.f3], rfl, rfl, rfl⟩⟩⟩
def rd_T131 (xs : List S131) (i : Int) : S131 := xs.getD i.toNat z131
theorem at_T131 {w : World} {A : Option Addr} {n : Nat} {xs : List S131} (h : Kd.C k131 w A n xs) (i : Int) (h0 : 0 ≤ i) (h1 : i < n) : ∃ ad , A = some ad ∧ w.cell? (ad.add (i.toNat * 4)) = some (.string (rd_T131 xs i).f0) ∧ w.cell? ⟨(ad.add (i.toNat * 4)).block, (ad.add (i.toNat * 4)).off + 1, none⟩ = some (.int .i64 (rd_T131 xs i).f1) ∧ w.cell? ⟨(ad.add (i.toNat * 4)).block, (ad.add (i.toNat * 4)).off + 2, none⟩ = some (.int .i64 (rd_T131 xs i).f2) ∧ w.cell? ⟨(ad.add (i.toNat * 4)).block, (ad.add (i.toNat * 4)).off + 3, none⟩ = some (.int .i64 (rd_T131 xs i).f3) := by
  obtain ⟨ad, c, e, _, hK, hc0⟩ := Kd.C_get h z131 i h0 h1
  have hc : ∀ j u, c[j]? = some u → w.cell? (ad.add (i.toNat * 4 + j)) = some u := hc0
  obtain rfl := k131_open hK
  exact ⟨ad, e, hc 0 _ rfl, by rw [← add_field _ _ 1 (by omega)]; exact hc 1 _ rfl, by rw [← add_field _ _ 2 (by omega)]; exact hc 2 _ rfl, by rw [← add_field _ _ 3 (by omega)]; exact hc 3 _ rfl⟩
structure S62 where
  f0 : Int
  f1 : ByteArray
  f2 : Int
  f3 : (List S36)
  f4 : (List Int)
/-- A row of bytes that []byte(s) made: its block bears the run-time's mark behind its last cell. -/
def MRow (w : World) (g : Nat) (e : TypeId) (xs : List Int) : Prop := ∃ cs m, w.heap[g]? = some (.cells cs e (m, m + 1)) ∧ xs.length ≤ m ∧ cs.toList.take xs.length = nums .u8 xs
theorem MRow.at_ {w : World} {g : Nat} {e : TypeId} {xs : List Int} (h : MRow w g e xs) (i : Nat) (hi : i < xs.length) : w.cell? ⟨g, i, none⟩ = some (.int .u8 (xs.getD i 0)) := by
  obtain ⟨cs, m, hb, _, ht⟩ := h
  rw [cell_of_row _ _ _ _ _ _ hb]
  have h1 : (cs.toList.take xs.length)[i]? = (nums .u8 xs)[i]? := by rw [ht]
  rw [List.getElem?_take_of_lt hi] at h1
  rw [← Array.getElem?_toList, h1]
  simp [nums, List.getD_eq_getElem?_getD, List.getElem?_eq_getElem hi]
theorem MRow.cell {w : World} {g : Nat} {e : TypeId} {xs : List Int} (h : MRow w g e xs) (i : Int) (h0 : 0 ≤ i) (hi : i < (xs.length : Int)) : w.cell? ⟨g, i.toNat, none⟩ = some (.int .u8 (rd xs i)) := h.at_ i.toNat (by omega)
theorem MRow.free {w : World} {g : Nat} {e : TypeId} {xs : List Int} (h : MRow w g e xs) (i : Int) (h0 : 0 ≤ i) (hi : i < (xs.length : Int)) : w.frozen? ⟨g, i.toNat, none⟩ = false := by
  obtain ⟨cs, m, hb, hm, _⟩ := h
  simp [World.frozen?, hb]
  omega
theorem MRow.set {w : World} {g : Nat} {e : TypeId} {xs : List Int} (h : MRow w g e xs) (i : Int) (v : Int) : MRow (w.setCell ⟨g, i.toNat, none⟩ (.int .u8 v)) g e (xs.set i.toNat v) := by
  obtain ⟨cs, m, hb, hm, ht⟩ := h
  refine ⟨cs.setIfInBounds i.toNat (.int .u8 v), m, by simp [World.setCell, Array.getElem?_modify, hb], by simpa using hm, ?_⟩
  rw [Array.toList_setIfInBounds, List.length_set, List.take_set, ht]
  simp [nums, List.map_set]
theorem MRow.reads {w : World} {g : Nat} {e : TypeId} {xs : List Int} (h : MRow w g e xs) (hm : xs.length ≤ 9223372036854775807) : ReadsInt w .u8 (some ⟨g, 0, none⟩) xs.length xs :=
  ⟨rfl, hm, fun _ => ⟨_, rfl, fun j hj => by rw [add_plain]; exact h.at_ j hj⟩⟩
theorem MRow.bytes (W : World) (e : TypeId) (s : ByteArray) : MRow (Lib.bytesWorld W e s) W.heap.size e (bytesOf s) := by
  refine ⟨_, _, Lib.bytesWorld_at_new W e s, ?_, ?_⟩
  · rw [bytesOf_length]; simp [Lib.bytesCells]
  · rw [bytesOf_length]
    simp only [Lib.bytesCells, Array.toList_append, Array.toList_map]
    rw [List.take_append_of_le_length (by simp [data_length]), List.take_of_length_le (by simp [data_length])]
    simp [nums, bytesOf]
end Go.Proofs.YtagffbblalldiaaGreatDoor.P
namespace Go.Proofs
open Go.Shelf
def Tryz.lays160_ren : Go.Shelf.Ren := ⟨fun | 160 => 91 | 232 => 139 | 231 => 138 | 227 => 140 | 234 => 142 | 233 => 141 | 236 => 144 | 235 => 143 | 228 => 173 | 271 => 176 | 151 => 175 | 197 => 174 | 120 => 192 | 152 => 191 | 260 => 190 | 137 => 163 | 119 => 205 | 224 => 200 | 225 => 199 | 217 => 188 | 266 => 204 | n => n, fun | 9 => 9 | 4 => 4 | 3 => 3 | 5 => 5 | 117 => 165 | 116 => 164 | 0 => 0 | 124 => 168 | 21 => 21 | 105 => 176 | 46 => 195 | 119 => 198 | 139 => 201 | 138 => 200 | n => n, fun | 3 => 2 | 4 => 3 | n => n⟩
theorem Tryz.lays160 : Go.Proofs.Lays.n160 Tryz.prog Tryz.lays160_ren := {
  mixed := by kernel_rfl
  f119 := Tryz.func205.trans (congrArg some (by kernel_rfl))
  f120 := Tryz.func192.trans (congrArg some (by kernel_rfl))
  f137 := Tryz.func163.trans (congrArg some (by kernel_rfl))
  f151 := Tryz.func175.trans (congrArg some (by kernel_rfl))
  f152 := Tryz.func191.trans (congrArg some (by kernel_rfl))
  f160 := Tryz.func91.trans (congrArg some (by kernel_rfl))
  f197 := Tryz.func174.trans (congrArg some (by kernel_rfl))
  f217 := Tryz.func188.trans (congrArg some (by kernel_rfl))
  f224 := Tryz.func200.trans (congrArg some (by kernel_rfl))
  f225 := Tryz.func199.trans (congrArg some (by kernel_rfl))
  f227 := Tryz.func140.trans (congrArg some (by kernel_rfl))
  f228 := Tryz.func173.trans (congrArg some (by kernel_rfl))
  f231 := Tryz.func138.trans (congrArg some (by kernel_rfl))
  f232 := Tryz.func139.trans (congrArg some (by kernel_rfl))
  f233 := Tryz.func141.trans (congrArg some (by kernel_rfl))
  f234 := Tryz.func142.trans (congrArg some (by kernel_rfl))
  f235 := Tryz.func143.trans (congrArg some (by kernel_rfl))
  f236 := Tryz.func144.trans (congrArg some (by kernel_rfl))
  f260 := Tryz.func190.trans (congrArg some (by kernel_rfl))
  f266 := Tryz.func204.trans (congrArg some (by kernel_rfl))
  f271 := Tryz.func176.trans (congrArg some (by kernel_rfl))
  t0 := Tryz.underlying0
  a0 := Tryz.isAgg0
  z0 := Tryz.sizeOf0
  v0 := Tryz.zeroValue0
  t3 := Tryz.underlying3
  a3 := Tryz.isAgg3
  z3 := Tryz.sizeOf3
  v3 := Tryz.zeroValue3
  t4 := Tryz.underlying4
  a4 := Tryz.isAgg4
  z4 := Tryz.sizeOf4
  v4 := Tryz.zeroValue4
  t5 := Tryz.underlying5
  a5 := Tryz.isAgg5
  z5 := Tryz.sizeOf5
  v5 := Tryz.zeroValue5
  t9 := Tryz.underlying9
  a9 := Tryz.isAgg9
  z9 := Tryz.sizeOf9
  v9 := Tryz.zeroValue9
  t21 := Tryz.underlying21
  a21 := Tryz.isAgg21
  z21 := Tryz.sizeOf21
  v21 := Tryz.zeroValue21
  t46 := Tryz.underlying195
  a46 := Tryz.isAgg195
  z46 := Tryz.sizeOf195
  v46 := Tryz.zeroValue195
  t105 := Tryz.underlying176
  a105 := Tryz.isAgg176
  z105 := Tryz.sizeOf176
  v105 := Tryz.zeroValue176
  t116 := Tryz.underlying164
  a116 := Tryz.isAgg164
  z116 := Tryz.sizeOf164
  t117 := Tryz.underlying165
  a117 := Tryz.isAgg165
  z117 := Tryz.sizeOf165
  v117 := Tryz.zeroValue165
  t119 := Tryz.underlying198
  a119 := Tryz.isAgg198
  z119 := Tryz.sizeOf198
  t124 := Tryz.underlying168
  a124 := Tryz.isAgg168
  z124 := Tryz.sizeOf168
  v124 := Tryz.zeroValue168
  t138 := Tryz.underlying200
  a138 := Tryz.isAgg200
  z138 := Tryz.sizeOf200
  v138 := Tryz.zeroValue200
  t139 := Tryz.underlying201
  a139 := Tryz.isAgg201
  z139 := Tryz.sizeOf201
  v139 := Tryz.zeroValue201
  g3 := by kernel_rfl
  g4 := by kernel_rfl }
def Tryz.lays137_ren : Go.Shelf.Ren := ⟨fun | 137 => 163 | 217 => 188 | 266 => 204 | n => n, fun | 9 => 9 | 5 => 5 | 3 => 3 | n => n, fun | n => n⟩
theorem Tryz.lays137 : Go.Proofs.Lays.n137 Tryz.prog Tryz.lays137_ren := {
  mixed := by kernel_rfl
  f137 := Tryz.func163.trans (congrArg some (by kernel_rfl))
  f217 := Tryz.func188.trans (congrArg some (by kernel_rfl))
  f266 := Tryz.func204.trans (congrArg some (by kernel_rfl))
  t3 := Tryz.underlying3
  a3 := Tryz.isAgg3
  z3 := Tryz.sizeOf3
  v3 := Tryz.zeroValue3
  t5 := Tryz.underlying5
  a5 := Tryz.isAgg5
  z5 := Tryz.sizeOf5
  v5 := Tryz.zeroValue5
  t9 := Tryz.underlying9
  a9 := Tryz.isAgg9
  z9 := Tryz.sizeOf9
  v9 := Tryz.zeroValue9 }
open Go.RowKit in
/-- strings.IndexByte: "IndexByte returns the index of the first instance of c in s, or -1 if c is not present in s.": IT RETURNS 'Lib.indexByte s c'; the world is as it was. (LAID: no walk: one application.) -/
theorem Tryz.strings_IndexByte (s : ByteArray) (c : Int) (w : World) :
    Calls Tryz.prog 163 #[.string s, .int .u8 c] w fun e w' => e = .returned (.int .i64 (Lib.indexByte s.data.toList c.toNat.toUInt8)) ∧ w' = w := Any.strings_IndexByte Tryz.lays137 s c w
def Tryz.laysM246_ren : Go.Shelf.Ren := ⟨fun | 246 => 145 | 283 => 177 | 284 => 178 | 285 => 179 | 286 => 180 | 129 => 194 | 317 => 193 | 318 => 195 | 319 => 196 | 320 => 197 | 337 => 206 | 338 => 207 | n => n, fun | 2 => 2 | 3 => 3 | 9 => 9 | 4 => 4 | 171 => 179 | 0 => 0 | 53 => 180 | 37 => 22 | 5 => 5 | 173 => 183 | 212 => 191 | 51 => 192 | 20 => 20 | 213 => 193 | 46 => 195 | 232 => 206 | 233 => 207 | n => n, fun | 17 => 1 | 18 => 4 | 19 => 5 | n => n⟩
theorem Tryz.laysM246 : Go.Proofs.LaysM.n246 Tryz.prog Tryz.laysM246_ren := {
  mixed := by kernel_rfl
  f129 := Tryz.func194.trans (congrArg some (by kernel_rfl))
  f246 := Tryz.func145.trans (congrArg some (by kernel_rfl))
  f283 := Tryz.func177.trans (congrArg some (by kernel_rfl))
  f284 := Tryz.func178.trans (congrArg some (by kernel_rfl))
  f285 := Tryz.func179.trans (congrArg some (by kernel_rfl))
  f286 := Tryz.func180.trans (congrArg some (by kernel_rfl))
  f317 := Tryz.func193.trans (congrArg some (by kernel_rfl))
  f318 := Tryz.func195.trans (congrArg some (by kernel_rfl))
  f319 := Tryz.func196.trans (congrArg some (by kernel_rfl))
  f320 := Tryz.func197.trans (congrArg some (by kernel_rfl))
  f337 := Tryz.func206.trans (congrArg some (by kernel_rfl))
  f338 := Tryz.func207.trans (congrArg some (by kernel_rfl))
  t0 := Tryz.underlying0
  a0 := Tryz.isAgg0
  z0 := Tryz.sizeOf0
  v0 := Tryz.zeroValue0
  t2 := Tryz.underlying2
  a2 := Tryz.isAgg2
  z2 := Tryz.sizeOf2
  v2 := Tryz.zeroValue2
  t3 := Tryz.underlying3
  a3 := Tryz.isAgg3
  z3 := Tryz.sizeOf3
  v3 := Tryz.zeroValue3
  t4 := Tryz.underlying4
  a4 := Tryz.isAgg4
  z4 := Tryz.sizeOf4
  v4 := Tryz.zeroValue4
  t5 := Tryz.underlying5
  a5 := Tryz.isAgg5
  z5 := Tryz.sizeOf5
  v5 := Tryz.zeroValue5
  t9 := Tryz.underlying9
  a9 := Tryz.isAgg9
  z9 := Tryz.sizeOf9
  v9 := Tryz.zeroValue9
  t20 := Tryz.underlying20
  a20 := Tryz.isAgg20
  z20 := Tryz.sizeOf20
  v20 := Tryz.zeroValue20
  t37 := Tryz.underlying22
  a37 := Tryz.isAgg22
  z37 := Tryz.sizeOf22
  v37 := Tryz.zeroValue22
  t46 := Tryz.underlying195
  a46 := Tryz.isAgg195
  z46 := Tryz.sizeOf195
  v46 := Tryz.zeroValue195
  t51 := Tryz.underlying192
  a51 := Tryz.isAgg192
  z51 := Tryz.sizeOf192
  v51 := Tryz.zeroValue192
  t53 := Tryz.underlying180
  a53 := Tryz.isAgg180
  z53 := Tryz.sizeOf180
  v53 := Tryz.zeroValue180
  t171 := Tryz.underlying179
  a171 := Tryz.isAgg179
  z171 := Tryz.sizeOf179
  v171 := Tryz.zeroValue179
  t173 := Tryz.underlying183
  a173 := Tryz.isAgg183
  z173 := Tryz.sizeOf183
  v173 := Tryz.zeroValue183
  t212 := Tryz.underlying191
  a212 := Tryz.isAgg191
  z212 := Tryz.sizeOf191
  v212 := Tryz.zeroValue191
  t213 := Tryz.underlying193
  a213 := Tryz.isAgg193
  z213 := Tryz.sizeOf193
  t232 := Tryz.underlying206
  a232 := Tryz.isAgg206
  z232 := Tryz.sizeOf206
  v232 := Tryz.zeroValue206
  t233 := Tryz.underlying207
  a233 := Tryz.isAgg207
  z233 := Tryz.sizeOf207
  v233 := Tryz.zeroValue207
  g17 := by kernel_rfl
  g18 := by kernel_rfl
  g19 := by kernel_rfl
  i0 := by kernel_rfl
  i2 := by kernel_rfl
  i3 := by kernel_rfl
  i4 := by kernel_rfl
  i5 := by kernel_rfl
  i9 := by kernel_rfl
  i20 := by kernel_rfl
  i37 := by kernel_rfl
  i46 := by kernel_rfl
  i51 := by kernel_rfl
  i53 := by kernel_rfl
  i171 := by kernel_rfl
  i173 := by kernel_rfl
  i212 := by kernel_rfl
  i232 := by kernel_rfl
  i233 := by kernel_rfl
  m17 := by kernel_rfl
  m18 := by kernel_rfl
  m19 := by kernel_rfl }
open Go.RowKit Go.Sort Go.Lib in
/-- internal/strconv.FormatInt: "FormatInt returns the string representation of i in the given base": AT BASE 10: i's decimal numeral, for every int64. The world behind the call: the world before it, new blocks behind the heap, draws. (LAID: no walk: one application.) -/
theorem Tryz.internal_strconv_FormatInt_10 (n : Int) (h0 : -9223372036854775808 ≤ n) (h1 : n ≤ 9223372036854775807) (w : World) (htab : Lib.TabIs Tryz.prog w "internal/strconv.uint64pow10" .u64 Lib.pow10Tab) :
    Calls Tryz.prog 145 #[.int .i64 n, .int .i64 10] w fun e w' => e = .returned (.string ⟨(Lib.itoa n).toArray⟩) ∧ ∃ k os, w' = grow (w.drewN k) os := Any.internal_strconv_FormatInt_10 Tryz.laysM246 n h0 h1 w htab
def Tryz.lays143_ren : Go.Shelf.Ren := ⟨fun | 143 => 187 | 219 => 184 | 217 => 188 | 225 => 199 | 224 => 200 | 267 => 201 | 266 => 204 | 314 => 208 | n => n, fun | 9 => 9 | 3 => 3 | 4 => 4 | 5 => 5 | 46 => 195 | 146 => 204 | 51 => 192 | n => n, fun | 1 => 0 | n => n⟩
theorem Tryz.lays143 : Go.Proofs.Lays.n143 Tryz.prog Tryz.lays143_ren := {
  mixed := by kernel_rfl
  f143 := Tryz.func187.trans (congrArg some (by kernel_rfl))
  f217 := Tryz.func188.trans (congrArg some (by kernel_rfl))
  f219 := Tryz.func184.trans (congrArg some (by kernel_rfl))
  f224 := Tryz.func200.trans (congrArg some (by kernel_rfl))
  f225 := Tryz.func199.trans (congrArg some (by kernel_rfl))
  f266 := Tryz.func204.trans (congrArg some (by kernel_rfl))
  f267 := Tryz.func201.trans (congrArg some (by kernel_rfl))
  f314 := Tryz.func208.trans (congrArg some (by kernel_rfl))
  t3 := Tryz.underlying3
  a3 := Tryz.isAgg3
  z3 := Tryz.sizeOf3
  v3 := Tryz.zeroValue3
  t4 := Tryz.underlying4
  a4 := Tryz.isAgg4
  z4 := Tryz.sizeOf4
  v4 := Tryz.zeroValue4
  t5 := Tryz.underlying5
  a5 := Tryz.isAgg5
  z5 := Tryz.sizeOf5
  v5 := Tryz.zeroValue5
  t9 := Tryz.underlying9
  a9 := Tryz.isAgg9
  z9 := Tryz.sizeOf9
  v9 := Tryz.zeroValue9
  t46 := Tryz.underlying195
  a46 := Tryz.isAgg195
  z46 := Tryz.sizeOf195
  v46 := Tryz.zeroValue195
  t51 := Tryz.underlying192
  a51 := Tryz.isAgg192
  z51 := Tryz.sizeOf192
  v51 := Tryz.zeroValue192
  t146 := Tryz.underlying204
  a146 := Tryz.isAgg204
  z146 := Tryz.sizeOf204
  v146 := Tryz.zeroValue204
  g1 := by kernel_rfl }
open Go.RowKit Go.Lib in
/-- strings.Index: "Index returns the index of the first instance of substr in s, or -1 if substr is not present in s.": AT A substr OF ONE BYTE c: IT RETURNS 'Lib.indexByte s c'; the world is as it was. (LAID: no walk: one application.) -/
theorem Tryz.strings_Index_one (s : ByteArray) (c : UInt8) (w : World) :
    Calls Tryz.prog 187 #[.string s, .string ⟨#[c]⟩] w fun e w' => e = .returned (.int .i64 (Lib.indexByte s.data.toList c)) ∧ w' = w := Any.strings_Index_one Tryz.lays143 s c w
open Go.RowKit Go.Lib in
/-- strings.Index: "Index returns the index of the first instance of substr in s, or -1 if substr is not present in s.": IT RETURNS 'Lib.index s substr'; the world is as it was. (LAID: no walk: one application.) -/
theorem Tryz.strings_Index (s sub : ByteArray) (m : Int) (w : World) (hs : s.size < 4294967281) (hm : w.cell? ⟨0, 0, none⟩ = some (.int .i64 m)) :
    Calls Tryz.prog 187 #[.string s, .string sub] w fun e w' => e = .returned (.int .i64 (Lib.index s.data.toList sub.data.toList)) ∧ w' = w := Any.strings_Index Tryz.lays143 s sub m w hs hm
def Tryz.lays138_ren : Go.Shelf.Ren := ⟨fun | 138 => 186 | 195 => 202 | 218 => 203 | 143 => 187 | 219 => 184 | 217 => 188 | 225 => 199 | 224 => 200 | 267 => 201 | 266 => 204 | 314 => 208 | n => n, fun | 9 => 9 | 3 => 3 | 4 => 4 | 5 => 5 | 0 => 0 | 46 => 195 | 146 => 204 | 51 => 192 | n => n, fun | 1 => 0 | n => n⟩
theorem Tryz.lays138 : Go.Proofs.Lays.n138 Tryz.prog Tryz.lays138_ren := {
  mixed := by kernel_rfl
  f138 := Tryz.func186.trans (congrArg some (by kernel_rfl))
  f143 := Tryz.func187.trans (congrArg some (by kernel_rfl))
  f195 := Tryz.func202.trans (congrArg some (by kernel_rfl))
  f217 := Tryz.func188.trans (congrArg some (by kernel_rfl))
  f218 := Tryz.func203.trans (congrArg some (by kernel_rfl))
  f219 := Tryz.func184.trans (congrArg some (by kernel_rfl))
  f224 := Tryz.func200.trans (congrArg some (by kernel_rfl))
  f225 := Tryz.func199.trans (congrArg some (by kernel_rfl))
  f266 := Tryz.func204.trans (congrArg some (by kernel_rfl))
  f267 := Tryz.func201.trans (congrArg some (by kernel_rfl))
  f314 := Tryz.func208.trans (congrArg some (by kernel_rfl))
  t0 := Tryz.underlying0
  a0 := Tryz.isAgg0
  z0 := Tryz.sizeOf0
  v0 := Tryz.zeroValue0
  t3 := Tryz.underlying3
  a3 := Tryz.isAgg3
  z3 := Tryz.sizeOf3
  v3 := Tryz.zeroValue3
  t4 := Tryz.underlying4
  a4 := Tryz.isAgg4
  z4 := Tryz.sizeOf4
  v4 := Tryz.zeroValue4
  t5 := Tryz.underlying5
  a5 := Tryz.isAgg5
  z5 := Tryz.sizeOf5
  v5 := Tryz.zeroValue5
  t9 := Tryz.underlying9
  a9 := Tryz.isAgg9
  z9 := Tryz.sizeOf9
  v9 := Tryz.zeroValue9
  t46 := Tryz.underlying195
  a46 := Tryz.isAgg195
  z46 := Tryz.sizeOf195
  v46 := Tryz.zeroValue195
  t51 := Tryz.underlying192
  a51 := Tryz.isAgg192
  z51 := Tryz.sizeOf192
  v51 := Tryz.zeroValue192
  t146 := Tryz.underlying204
  a146 := Tryz.isAgg204
  z146 := Tryz.sizeOf204
  v146 := Tryz.zeroValue204
  g1 := by kernel_rfl }
open Go.RowKit Go.Lib in
/-- strings.Count AT A substr OF ONE BYTE ('hp'): "Count counts the number of non-overlapping instances of substr in s.": IT RETURNS 'Lib.countByte s (that byte)'; the world is as it was. ✋ NO CONTRACT HERE YET at an empty substr (utf8.RuneCountInString) or at a longer one (a loop over strings.Index). (LAID: no walk: one application.) -/
theorem Tryz.strings_Count_one (s : ByteArray) (c : UInt8) (w : World) :
    Calls Tryz.prog 186 #[.string s, .string ⟨#[c]⟩] w fun e w' => e = .returned (.int .i64 (Lib.countByte s.data.toList c)) ∧ w' = w := Any.strings_Count_one Tryz.lays138 s c w
open Go.RowKit Go.Lib in
/-- strings.Count AT A substr OF TWO BYTES OR MORE: "Count counts the number of non-overlapping instances of substr in s.": IT RETURNS 'Lib.count s substr'; the world is as it was. (LAID: no walk: one application.) -/
theorem Tryz.strings_Count (s sub : ByteArray) (m : Int) (w : World) (hs : s.size < 4294967281) (hm : w.cell? ⟨0, 0, none⟩ = some (.int .i64 m)) (h2 : 2 ≤ sub.size) :
    Calls Tryz.prog 186 #[.string s, .string sub] w fun e w' => e = .returned (.int .i64 (Lib.countB s sub)) ∧ w' = w := Any.strings_Count Tryz.lays138 s sub m w hs hm h2
def Tryz.lays221_ren : Go.Shelf.Ren := ⟨fun | 221 => 160 | 268 => 185 | 138 => 186 | 143 => 187 | 195 => 202 | 197 => 174 | 218 => 203 | 219 => 184 | 260 => 190 | 217 => 188 | 225 => 199 | 224 => 200 | 267 => 201 | 266 => 204 | 314 => 208 | n => n, fun | 9 => 9 | 3 => 3 | 31 => 34 | 4 => 4 | 0 => 0 | 105 => 176 | 21 => 21 | 5 => 5 | 46 => 195 | 119 => 198 | 139 => 201 | 138 => 200 | 146 => 204 | 51 => 192 | n => n, fun | 1 => 0 | 3 => 2 | 4 => 3 | n => n⟩
theorem Tryz.lays221 : Go.Proofs.Lays.n221 Tryz.prog Tryz.lays221_ren := {
  mixed := by kernel_rfl
  f138 := Tryz.func186.trans (congrArg some (by kernel_rfl))
  f143 := Tryz.func187.trans (congrArg some (by kernel_rfl))
  f195 := Tryz.func202.trans (congrArg some (by kernel_rfl))
  f197 := Tryz.func174.trans (congrArg some (by kernel_rfl))
  f217 := Tryz.func188.trans (congrArg some (by kernel_rfl))
  f218 := Tryz.func203.trans (congrArg some (by kernel_rfl))
  f219 := Tryz.func184.trans (congrArg some (by kernel_rfl))
  f221 := Tryz.func160.trans (congrArg some (by kernel_rfl))
  f224 := Tryz.func200.trans (congrArg some (by kernel_rfl))
  f225 := Tryz.func199.trans (congrArg some (by kernel_rfl))
  f260 := Tryz.func190.trans (congrArg some (by kernel_rfl))
  f266 := Tryz.func204.trans (congrArg some (by kernel_rfl))
  f267 := Tryz.func201.trans (congrArg some (by kernel_rfl))
  f268 := Tryz.func185.trans (congrArg some (by kernel_rfl))
  f314 := Tryz.func208.trans (congrArg some (by kernel_rfl))
  t0 := Tryz.underlying0
  a0 := Tryz.isAgg0
  z0 := Tryz.sizeOf0
  v0 := Tryz.zeroValue0
  t3 := Tryz.underlying3
  a3 := Tryz.isAgg3
  z3 := Tryz.sizeOf3
  v3 := Tryz.zeroValue3
  t4 := Tryz.underlying4
  a4 := Tryz.isAgg4
  z4 := Tryz.sizeOf4
  v4 := Tryz.zeroValue4
  t5 := Tryz.underlying5
  a5 := Tryz.isAgg5
  z5 := Tryz.sizeOf5
  v5 := Tryz.zeroValue5
  t9 := Tryz.underlying9
  a9 := Tryz.isAgg9
  z9 := Tryz.sizeOf9
  v9 := Tryz.zeroValue9
  t21 := Tryz.underlying21
  a21 := Tryz.isAgg21
  z21 := Tryz.sizeOf21
  v21 := Tryz.zeroValue21
  t31 := Tryz.underlying34
  a31 := Tryz.isAgg34
  z31 := Tryz.sizeOf34
  v31 := Tryz.zeroValue34
  t46 := Tryz.underlying195
  a46 := Tryz.isAgg195
  z46 := Tryz.sizeOf195
  v46 := Tryz.zeroValue195
  t51 := Tryz.underlying192
  a51 := Tryz.isAgg192
  z51 := Tryz.sizeOf192
  v51 := Tryz.zeroValue192
  t105 := Tryz.underlying176
  a105 := Tryz.isAgg176
  z105 := Tryz.sizeOf176
  v105 := Tryz.zeroValue176
  t119 := Tryz.underlying198
  a119 := Tryz.isAgg198
  z119 := Tryz.sizeOf198
  t138 := Tryz.underlying200
  a138 := Tryz.isAgg200
  z138 := Tryz.sizeOf200
  v138 := Tryz.zeroValue200
  t139 := Tryz.underlying201
  a139 := Tryz.isAgg201
  z139 := Tryz.sizeOf201
  v139 := Tryz.zeroValue201
  t146 := Tryz.underlying204
  a146 := Tryz.isAgg204
  z146 := Tryz.sizeOf204
  v146 := Tryz.zeroValue204
  g1 := by kernel_rfl
  g3 := by kernel_rfl
  g4 := by kernel_rfl }
open Go.RowKit Go.Lib in
theorem Tryz.strings_genSplit (s sep : ByteArray) (sv : Nat) (n : Int) (N : Nat) (m : Int) (w : World) (hs : s.size < 4294967281) (hm : w.cell? ⟨0, 0, none⟩ = some (.int .i64 m)) (h1 : 1 ≤ sep.size) (hsv : sv ≤ sep.size) (hn0 : n ≠ 0) (hn63 : n ≤ 9223372036854775807) (hN : (N : Int) = min (if n < 0 then (Lib.countB s sep : Int) + 1 else n) ((s.size : Int) + 1)) :
    Calls Tryz.prog 160 #[.string s, .string sep, .int .i64 sv, .int .i64 n] w fun e w' =>
      e = .returned (.slice (some ⟨w.heap.size, 0, none⟩) (Lib.splitB sep sv (N - 1) s).length N) ∧ w' = w.alloc (.cells (Lib.cellsOf (Lib.splitB sep sv (N - 1) s) N) 9) := Any.strings_genSplit Tryz.lays221 (by kernel_rfl) s sep sv n N m w hs hm h1 hsv hn0 hn63 hN
def Tryz.lays146_ren : Go.Shelf.Ren := ⟨fun | 146 => 116 | 221 => 160 | 268 => 185 | 138 => 186 | 143 => 187 | 195 => 202 | 197 => 174 | 218 => 203 | 219 => 184 | 260 => 190 | 217 => 188 | 225 => 199 | 224 => 200 | 267 => 201 | 266 => 204 | 314 => 208 | n => n, fun | 9 => 9 | 31 => 34 | 3 => 3 | 4 => 4 | 0 => 0 | 105 => 176 | 21 => 21 | 5 => 5 | 46 => 195 | 119 => 198 | 139 => 201 | 138 => 200 | 146 => 204 | 51 => 192 | n => n, fun | 1 => 0 | 3 => 2 | 4 => 3 | n => n⟩
theorem Tryz.lays146 : Go.Proofs.Lays.n146 Tryz.prog Tryz.lays146_ren := {
  mixed := by kernel_rfl
  f138 := Tryz.func186.trans (congrArg some (by kernel_rfl))
  f143 := Tryz.func187.trans (congrArg some (by kernel_rfl))
  f146 := Tryz.func116.trans (congrArg some (by kernel_rfl))
  f195 := Tryz.func202.trans (congrArg some (by kernel_rfl))
  f197 := Tryz.func174.trans (congrArg some (by kernel_rfl))
  f217 := Tryz.func188.trans (congrArg some (by kernel_rfl))
  f218 := Tryz.func203.trans (congrArg some (by kernel_rfl))
  f219 := Tryz.func184.trans (congrArg some (by kernel_rfl))
  f221 := Tryz.func160.trans (congrArg some (by kernel_rfl))
  f224 := Tryz.func200.trans (congrArg some (by kernel_rfl))
  f225 := Tryz.func199.trans (congrArg some (by kernel_rfl))
  f260 := Tryz.func190.trans (congrArg some (by kernel_rfl))
  f266 := Tryz.func204.trans (congrArg some (by kernel_rfl))
  f267 := Tryz.func201.trans (congrArg some (by kernel_rfl))
  f268 := Tryz.func185.trans (congrArg some (by kernel_rfl))
  f314 := Tryz.func208.trans (congrArg some (by kernel_rfl))
  t0 := Tryz.underlying0
  a0 := Tryz.isAgg0
  z0 := Tryz.sizeOf0
  v0 := Tryz.zeroValue0
  t3 := Tryz.underlying3
  a3 := Tryz.isAgg3
  z3 := Tryz.sizeOf3
  v3 := Tryz.zeroValue3
  t4 := Tryz.underlying4
  a4 := Tryz.isAgg4
  z4 := Tryz.sizeOf4
  v4 := Tryz.zeroValue4
  t5 := Tryz.underlying5
  a5 := Tryz.isAgg5
  z5 := Tryz.sizeOf5
  v5 := Tryz.zeroValue5
  t9 := Tryz.underlying9
  a9 := Tryz.isAgg9
  z9 := Tryz.sizeOf9
  v9 := Tryz.zeroValue9
  t21 := Tryz.underlying21
  a21 := Tryz.isAgg21
  z21 := Tryz.sizeOf21
  v21 := Tryz.zeroValue21
  t31 := Tryz.underlying34
  a31 := Tryz.isAgg34
  z31 := Tryz.sizeOf34
  v31 := Tryz.zeroValue34
  t46 := Tryz.underlying195
  a46 := Tryz.isAgg195
  z46 := Tryz.sizeOf195
  v46 := Tryz.zeroValue195
  t51 := Tryz.underlying192
  a51 := Tryz.isAgg192
  z51 := Tryz.sizeOf192
  v51 := Tryz.zeroValue192
  t105 := Tryz.underlying176
  a105 := Tryz.isAgg176
  z105 := Tryz.sizeOf176
  v105 := Tryz.zeroValue176
  t119 := Tryz.underlying198
  a119 := Tryz.isAgg198
  z119 := Tryz.sizeOf198
  t138 := Tryz.underlying200
  a138 := Tryz.isAgg200
  z138 := Tryz.sizeOf200
  v138 := Tryz.zeroValue200
  t139 := Tryz.underlying201
  a139 := Tryz.isAgg201
  z139 := Tryz.sizeOf201
  v139 := Tryz.zeroValue201
  t146 := Tryz.underlying204
  a146 := Tryz.isAgg204
  z146 := Tryz.sizeOf204
  v146 := Tryz.zeroValue204
  g1 := by kernel_rfl
  g3 := by kernel_rfl
  g4 := by kernel_rfl }
open Go.RowKit Go.Lib in
/-- strings.Split. (LAID: no walk: one application.) -/
theorem Tryz.strings_Split (s sep : ByteArray) (m : Int) (w : World) (hs : s.size < 4294967281) (hm : w.cell? ⟨0, 0, none⟩ = some (.int .i64 m)) (h1 : 1 ≤ sep.size) :
    Calls Tryz.prog 116 #[.string s, .string sep] w fun e w' =>
      e = .returned (.slice (some ⟨w.heap.size, 0, none⟩) (Lib.countB s sep + 1) (Lib.countB s sep + 1)) ∧ w' = w.alloc (.cells ((Lib.splitB sep 0 (Lib.countB s sep) s).map Value.string).toArray 9) := Any.strings_Split Tryz.lays146 (by kernel_rfl) s sep m w hs hm h1
end Go.Proofs
namespace Go.Proofs.YtagffbblalldiaaGreatDoor.P
open Go.RowKit Go.Proofs.YtagffbblalldiaaGreatDoorW.PrintWords Go.Proofs.YtagffbblalldiaaGreatDoorW.PrintLast Go.Proofs.YtagffbblalldiaaGreatDoorW.PrintMore
attribute [local go_sem] max2_int min2_int max_two min_two max_three min_three max_four min_four   -- for this text's walks alone
set_option linter.unusedVariables false
set_option linter.unusedSimpArgs false
/-- A row of bytes that a constant was turned into reads as these bytes. -/
theorem C_const (W : World) (e : Nat) (xs : List Int) (fr : Nat × Nat) (hm : xs.length ≤ 9223372036854775807) :
    Kd.C (Kd.int .u8) (W.alloc (.cells (nums .u8 xs).toArray e fr)) (some ⟨W.heap.size, 0, none⟩) xs.length xs := by
  refine Kd.C_of_reads (d := (0 : Int)) (h1 := fun _ => rfl) ⟨rfl, hm, fun _ => ⟨_, rfl, fun j hj => ?_⟩⟩
  have hl : (nums .u8 xs).length = xs.length := nums_length _ _
  have : (W.alloc (.cells (nums .u8 xs).toArray e fr)).heap[W.heap.size]? = some (.cells (nums .u8 xs).toArray e fr) := by
    show (W.heap.push _)[W.heap.size]? = _
    simp
  rw [add_plain]
  rw [cell_of_row _ _ _ _ _ _ this]
  simp [nums, List.getD_eq_getElem?_getD, List.getElem?_eq_getElem hj]
theorem bytes_drop_all (p : Int → Bool) (s : ByteArray) (x : Int) (h0 : 0 ≤ x) (h : x < (s.size : Int)) :
    ((bytesOf s).drop x.toNat).all p = (p (bt s x) && ((bytesOf s).drop (x.toNat + 1)).all p) := by
  have hl : x.toNat < (bytesOf s).length := by rw [bytesOf_length]; omega
  rw [List.drop_eq_getElem_cons hl]
  have e : (bytesOf s)[x.toNat] = bt s x := by
    rw [← rd_bytesOf]
    simp [rd, List.getD_eq_getElem?_getD, List.getElem?_eq_getElem hl]
  rw [e]
  rfl
end Go.Proofs.YtagffbblalldiaaGreatDoor.P
namespace Go.Proofs.YtagffbblalldiaaGreatDoor.P
open Go.RowKit Go.Proofs.YtagffbblalldiaaGreatDoorW.PrintWords Go.Proofs.YtagffbblalldiaaGreatDoorW.PrintLast Go.Proofs.YtagffbblalldiaaGreatDoorW.PrintMore
attribute [local go_sem] max2_int min2_int max_two min_two max_three min_three max_four min_four   -- for this text's walks alone
set_option linter.unusedVariables false
set_option linter.unusedSimpArgs false
/-- A text as a map's key. -/
def keyL (s : ByteArray) : Lit := .string s.data.toList
theorem keyL_ok (S : List ByteArray) : ∀ x ∈ S.map keyL, WideAt.IsKeyLit x := fun x hx => by
  obtain ⟨s, _, rfl⟩ := List.mem_map.1 hx
  exact trivial
theorem keyL_inj {a b : ByteArray} (h : keyL a = keyL b) : a = b := by
  unfold keyL at h
  injection h with h
  exact ByteArray.ext (Array.ext' h)
/-- How many different ones there are. -/
def dcount (S : List ByteArray) : Nat := ((S.map keyL).foldl Go.Maps.addKey []).length
theorem atKey_out (u z : DataW Unit) (k : Lit) : ∀ (acc : List Lit) (m : DataW Unit), k ∉ acc → (acc.foldl (fun m x => m.put x u) m).atKey k z = m.atKey k z
  | [], _, _ => rfl
  | x :: r, m, h => by
    rw [List.foldl_cons, atKey_out u z k r _ (fun h1 => h (List.mem_cons_of_mem _ h1)), Go.Maps.atKey_put_other (fun e => h (by rw [e]; exact List.mem_cons_self ..))]
theorem atKey_in (u z : DataW Unit) (k : Lit) (hk : WideAt.IsKeyLit k) : ∀ (acc : List Lit) (m : DataW Unit), Go.Maps.IsMap m → k ∈ acc → (acc.foldl (fun m x => m.put x u) m).atKey k z = u
  | [], _, _, h => by cases h
  | x :: r, m, hm, h => by
    rw [List.foldl_cons]
    by_cases h1 : k ∈ r
    · exact atKey_in u z k hk r _ (hm.put x u) h1
    · rw [atKey_out u z k r _ h1]
      rcases List.mem_cons.1 h with rfl | h2
      · exact Go.Maps.atKey_put_same hm hk _ _
      · exact absurd h2 h1
/-- Is a text among these? -/
def hasB (S : List ByteArray) (s : ByteArray) : Bool := S.any (fun t => t.toList == s.toList)
theorem hasB_mem (S : List ByteArray) (s : ByteArray) : hasB S s = true ↔ keyL s ∈ S.map keyL := by
  unfold hasB
  rw [List.any_eq_true]
  constructor
  · rintro ⟨t, ht, he⟩
    have : t = s := by
      have := beq_iff_eq.1 he
      apply ByteArray.ext
      apply Array.ext'
      rw [ByteArray.toList_eq, ByteArray.toList_eq] at this
      exact this
    rw [← this]
    exact List.mem_map.2 ⟨t, ht, rfl⟩
  · intro h
    obtain ⟨t, ht, he⟩ := List.mem_map.1 h
    exact ⟨t, ht, by rw [keyL_inj he]; exact beq_self_eq_true _⟩
section
variable {P : Program} {K E : TypeId}
/-- A set of texts, in a map of this call's own: at most n entries; S: what was put in, one behind the other. -/
def SetB (P : Program) (K E : TypeId) (w : World) (b n : Nat) (S : List ByteArray) : Prop := World.ownsMap (H := Unit) w P K (plainElem P E) b n (Go.Maps.setOf (.lit (.bool true)) (S.map keyL))
theorem SetB.make (w : World) : SetB P K E (w.alloc (.map #[] 0)) w.heap.size 0 [] := World.ownsMap_made _ _ _ _
theorem SetB.lt {w : World} {b n : Nat} {S : List ByteArray} (h : SetB P K E w b n S) : b < w.heap.size := World.ownsMap.lt h
theorem SetB.move {w w1 : World} {b n : Nat} {S : List ByteArray} (h : SetB P K E w b n S) (hm : w1.heap[b]? = w.heap[b]?) : SetB P K E w1 b n S := by
  obtain ⟨es, clock, hb, r⟩ := h
  exact ⟨es, clock, hm.trans hb, r⟩
theorem SetB.below {w w1 : World} {b n : Nat} {S : List ByteArray} (h : SetB P K E w b n S) (hb : Below w.heap.size w w1) : SetB P K E w1 b n S := h.move (hb.block b h.lt)
theorem SetB.alloc {w : World} {b n : Nat} {S : List ByteArray} (h : SetB P K E w b n S) (o : Obj) : SetB P K E (w.alloc o) b n S := h.below (below_alloc (Below.refl _ _) o)
theorem SetB.grown {w w1 : World} {b c n : Nat} {S : List ByteArray} (h : SetB P K E w b n S) (hg : w.grownBy w1 (some c)) (hne : b ≠ c) : SetB P K E w1 b n S := h.move (hg.block b h.lt (fun e => hne (by injection e)))
theorem SetB.look {w : World} {b n : Nat} {S : List ByteArray} (h : SetB P K E w b n S) {T : TypeId} (hT : P.underlying T = some (.map K E)) (hK : P.underlying K = some .string) (hE : P.underlying E = some .bool) (hz : (zeroValue E).run P w = .ok (.bool false) w) (s : ByteArray) (hs : s.size ≤ maxLen) :
    (Instr.lookup T (.map (some b)) (.string s) false).run P w = .ok (.bool (hasB S s)) w := by
  obtain ⟨v, ps, hrun, hv⟩ := World.ownsMap.lookup h (Go.Maps.string_keyed hK) hT hz (plainElem_bool hE false) (Go.WideMaps.keyOf_string_mk hK hs)
  have ha : (Go.Maps.setOf (.lit (.bool true)) (S.map keyL) : DataW Unit).atKey (.string s.data.toList) (.lit (.bool false)) = .lit (.bool (hasB S s)) := by
    unfold Go.Maps.setOf
    cases hm : hasB S s
    · rw [show (Lit.string s.data.toList) = keyL s from rfl, atKey_out _ _ _ _ _ (fun hx => by rw [(hasB_mem S s).2 hx] at hm; cases hm)]
      rfl
    · exact atKey_in _ _ (keyL s) (by exact trivial) _ _ Go.Maps.isMap_empty ((hasB_mem S s).1 hm)
  rw [ha] at hv
  have hvv : v = .bool (hasB S s) := by
    unfold plainElem at hv
    rw [hE] at hv
    cases v <;> simp at hv
    rw [hv.1]
  rw [← hvv]
  exact hrun
theorem SetB.len {w : World} {b n : Nat} {S : List ByteArray} (h : SetB P K E w b n S) {T : TypeId} (hT : P.underlying T = some (.map K E)) (ty : TypeId) : (Builtin.len_ #[T] ty #[.map (some b)]).run P w = .ok (.int .i64 (dcount S)) w := by
  have := World.ownsMap.len h hT ty
  rw [Go.Maps.size_setOf _ _ (keyL_ok S)] at this
  exact this
theorem SetB.put {w : World} {b n : Nat} {S : List ByteArray} {s : ByteArray} (h : World.ownsMap (H := Unit) w P K (plainElem P E) b n ((Go.Maps.setOf (.lit (.bool true)) (S.map keyL)).put (.string s.data.toList) (.lit (.bool true)))) : SetB P K E w b n (S ++ [s]) := by
  unfold SetB
  rw [List.map_append, List.map_cons, List.map_nil, Go.Maps.setOf_snoc]
  exact h
end
end Go.Proofs.YtagffbblalldiaaGreatDoor.P
namespace Go.Proofs.YtagffbblalldiaaGreatDoor.P
open Go.RowKit Go.Proofs.YtagffbblalldiaaGreatDoorW.PrintWords Go.Proofs.YtagffbblalldiaaGreatDoorW.PrintLast Go.Proofs.YtagffbblalldiaaGreatDoorW.PrintMore
attribute [local go_sem] max2_int min2_int max_two min_two max_three min_three max_four min_four   -- for this text's walks alone
set_option linter.unusedVariables false
set_option linter.unusedSimpArgs false
theorem globalPow10 : Tryz.prog.globalNamed "internal/strconv.uint64pow10" = some 1 := by kernel_rfl
theorem globalDeBruijn64 : Tryz.prog.globalNamed "math/bits.deBruijn64tab" = some 5 := by kernel_rfl
/-- The two tables of Go's library that numbers' texts read. -/
def Tabs (w : World) : Prop := Lib.TabIs Tryz.prog w "internal/strconv.uint64pow10" .u64 Lib.pow10Tab ∧ Lib.TabIs Tryz.prog w "math/bits.deBruijn64tab" .u8 (Lib.deBruijn64tab.map fun (n : Nat) => (n : Int))
theorem tabIs_below {P : Program} {w W : World} {name : String} {k : IntKind} {zs : List Int} (h : Lib.TabIs P w name k zs) (hb : Below w.heap.size w W) : Lib.TabIs P W name k zs := by
  unfold Lib.TabIs World.var? at h ⊢
  cases hg : P.globalNamed name with
  | none => simp [hg] at h
  | some g =>
    simp only [hg, Option.bind_some] at h ⊢
    have hlt : g < w.heap.size := by
      rcases Nat.lt_or_ge g w.heap.size with h' | h'
      · exact h'
      · simp [Array.getElem?_eq_none h'] at h
    rw [hb.block g hlt]
    exact h
theorem Tabs.below {w W : World} (h : Tabs w) (hb : Below w.heap.size w W) : Tabs W := ⟨tabIs_below h.1 hb, tabIs_below h.2 hb⟩
theorem laidVars_tab {P : Program} {W : World} {name : String} {k : IntKind} {zs : List Int} {g : Nat} {t e : TypeId} {n : Nat}
    (hg : P.globalNamed name = some g) (hty : (P.globals[g]?).map (·.type) = some t) (ht : P.underlying t = some (.array n e)) (he : P.underlying e = some (.int k)) (hce : P.cellsOf e = 1) (hct : P.cellsOf t = n) :
    ∀ {laid : List (String × DataW Unit)} {ps : List MemPlace}, DataW.LaidVars P W laid ps → (name, Lib.tabData k zs) ∈ laid → Lib.TabIs P W name k zs
  | [], _, _, hm => by cases hm
  | (nm, dt) :: rest, ps, h, hm => by
    obtain ⟨g', t', cs, fuel, p, q, hg', ht', hvar, hd, h1, h2⟩ := h
    rcases List.mem_cons.1 hm with e1 | hm
    · obtain ⟨rfl, rfl⟩ := Prod.mk.inj e1
      obtain rfl := Option.some.inj (hg.symm.trans hg')
      obtain rfl := Option.some.inj (hty.symm.trans ht')
      unfold Lib.TabIs
      rw [hvar, ← Lib.cells_of_tab ht he hce hct hd]
    · first | exact laidVars_tab hg hty ht he hce hct h1 hm | exact laidVars_tab hg hty ht he hce hct h2 hm
theorem Tabs.of_vars {W : World} {laid : List (String × DataW Unit)} {ps : List MemPlace} (h : DataW.LaidVars Tryz.prog W laid ps)
    (h1 : ("internal/strconv.uint64pow10", Lib.tabData .u64 Lib.pow10Tab) ∈ laid) (h2 : ("math/bits.deBruijn64tab", Lib.tabData .u8 (Lib.deBruijn64tab.map fun (n : Nat) => (n : Int))) ∈ laid) : Tabs W :=
  ⟨laidVars_tab globalPow10 (by kernel_rfl) Tryz.underlying191 Tryz.underlying180 (by kernel_rfl) (by kernel_rfl) h h1, laidVars_tab globalDeBruijn64 (by kernel_rfl) Tryz.underlying207 Tryz.underlying5 (by kernel_rfl) (by kernel_rfl) h h2⟩
theorem Tabs.of_met {W : World} {laid : List (String × DataW Unit)} (h : laidMet Tryz.prog laid W)
    (h1 : ("internal/strconv.uint64pow10", Lib.tabData .u64 Lib.pow10Tab) ∈ laid) (h2 : ("math/bits.deBruijn64tab", Lib.tabData .u8 (Lib.deBruijn64tab.map fun (n : Nat) => (n : Int))) ∈ laid) : Tabs W := by
  obtain ⟨ps, hv, _⟩ := h
  exact Tabs.of_vars hv h1 h2
end Go.Proofs.YtagffbblalldiaaGreatDoor.P
