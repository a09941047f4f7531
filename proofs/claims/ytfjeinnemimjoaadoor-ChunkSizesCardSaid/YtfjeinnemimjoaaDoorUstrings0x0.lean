/- Each function below answers as its Lean twin says. No further condition. (Laid by this repo's packseat.py out of the seat's texts and of the print's words.) -/
import Derived.Test.YtfjeinnemimjoaaDoorU0base0x0
import Derived.Test.YtfjeinnemimjoaaDoorU9
import Derived.Test.YtfjeinnemimjoaaDoorUstringslite0x0
import Derived.Shelf.Strings.SlTrimAscii
namespace Go.Proofs.YtfjeinnemimjoaaDoor.P
open Go.RowKit Go.Proofs.YtfjeinnemimjoaaDoorW.PrintWords Go.Proofs.YtfjeinnemimjoaaDoorW.PrintLast Go.Proofs.YtfjeinnemimjoaaDoorW.PrintMore
attribute [local go_sem] max2_int min2_int max_two min_two max_three min_three max_four min_four   -- for this text's walks alone
set_option linter.unusedVariables false
set_option linter.unusedSimpArgs false

def strings_IndexByte.f (a0 : ByteArray) (a1 : Int) : Option Int := some (Lib.indexByte a0.data.toList a1.toNat.toUInt8)
theorem strings_IndexByte.calls (a0 : ByteArray) (a1 : Int) (r : Int) (w : World) (h : strings_IndexByte.f a0 a1 = some r) :
    Calls Tryd.prog 99 #[.string a0, .int .u8 a1] w fun e w' => e = .returned (.int .i64 r) ∧ Drawn0 w w' := by
  obtain rfl := Option.some.inj h
  refine (Tryd.strings_IndexByte a0 a1 w).mono ?_
  rintro e w' ⟨rfl, rfl⟩
  exact ⟨rfl, Drawn0.refl _⟩


end Go.Proofs.YtfjeinnemimjoaaDoor.P

namespace Go.Proofs.YtfjeinnemimjoaaDoor.P
open Go.RowKit Go.Proofs.YtfjeinnemimjoaaDoorW.PrintWords Go.Proofs.YtfjeinnemimjoaaDoorW.PrintLast Go.Proofs.YtfjeinnemimjoaaDoorW.PrintMore
attribute [local go_sem] max2_int min2_int max_two min_two max_three min_three max_four min_four   -- for this text's walks alone
set_option linter.unusedVariables false
set_option linter.unusedSimpArgs false

def strings_Cut.f (a0 : ByteArray) (a1 : ByteArray) : Option (ByteArray × ByteArray × Bool) := (stringslite_Cut.f a0 a1).bind fun bt104 => (some (bt104.1, bt104.2.1, bt104.2.2))
set_option maxHeartbeats 8000000 in
set_option maxRecDepth 100000 in
theorem strings_Cut.calls (a0 : ByteArray) (a1 : ByteArray) (r1 : ByteArray) (r2 : ByteArray) (r3 : Bool) (w : World) (h : strings_Cut.f a0 a1 = some (r1, r2, r3)) :
    Calls Tryd.prog 51 #[.string a0, .string a1] w fun e w' => e = .returned (.tuple #[.string r1, .string r2, .bool r3]) ∧ Drawn0 w w' := by
  have H : ((stringslite_Cut.f a0 a1).bind fun bt104 => (some (bt104.1, bt104.2.1, bt104.2.2))) = some (r1, r2, r3) := h
  clear h
  replace H := Option.bind_eq_some_iff.mp H
  obtain ⟨⟨t104, t105, t106⟩, A30, H⟩ := H
  replace H : (some (t104, t105, t106)) = some (r1, r2, r3) := H
  have A3 := Aside0.mk A30
  clear A30
  simp only [Option.some.injEq, Prod.mk.injEq] at H
  obtain ⟨rfl, rfl, rfl⟩ := H
  go_enter Tryd.func51, Tryd.ntmps51
  go_wp2_with (first | ((with_reducible refine gate_callee (f := 79) rfl ?_); refine goesL_ (some 9) rfl rfl Tryd.func79 (by kernel_rfl) rfl #[.string a0, .string a1] rfl (by (try simp only [List.map_toArray, List.map_cons, List.map_nil]); first | done | rfl | (simp only [List.length_drop, List.length_take]; rfl)) ?_; (with_reducible refine (stringslite_Cut.calls a0 a1 t104 t105 t106 _ A3.out).mono ?_); rintro e w' ⟨rfl, ⟨nd, rfl⟩⟩; (try clear A3); refine ⟨_, rfl, ?_⟩))
  go_ret3
  exact ⟨by first | rfl | (simp; done) | (simp [*]; done), by repeat (first | exact Drawn0.refl _ | apply Drawn0.step)⟩

end Go.Proofs.YtfjeinnemimjoaaDoor.P

namespace Go.Proofs.YtfjeinnemimjoaaDoor.P
open Go.RowKit Go.Proofs.YtfjeinnemimjoaaDoorW.PrintWords Go.Proofs.YtfjeinnemimjoaaDoorW.PrintLast Go.Proofs.YtfjeinnemimjoaaDoorW.PrintMore
attribute [local go_sem] max2_int min2_int max_two min_two max_three min_three max_four min_four   -- for this text's walks alone
set_option linter.unusedVariables false
set_option linter.unusedSimpArgs false

/-- At a cutset of ASCII bytes. -/
def strings_TrimRight.f (a0 a1 : ByteArray) : Option ByteArray :=
  if a0.size ≤ 9223372036854775807 ∧ a1.size < 4294967281 ∧ a1.data.toList.all (fun b => decide (b.toNat < 128)) = true then some ⟨(Lib.trimRightS a0.data.toList a1.data.toList).toArray⟩ else none
theorem strings_TrimRight.calls (a0 a1 : ByteArray) (r : ByteArray) (w : World) (h : strings_TrimRight.f a0 a1 = some r) :
    Calls Tryd.prog 53 #[.string a0, .string a1] w fun e w' => e = .returned (.string r) ∧ Below w.heap.size w w' := by
  unfold strings_TrimRight.f at h
  split at h
  · rename_i hc
    obtain rfl := Option.some.inj h
    exact Go.Proofs.Any.strings_TrimRight_laid Tryd.lays162 (by kernel_rfl) a0 a1 w hc.1 hc.2.1 (Go.Proofs.ascii_of_all hc.2.2)
  · cases h


end Go.Proofs.YtfjeinnemimjoaaDoor.P

namespace Go.Proofs.YtfjeinnemimjoaaDoor.P
open Go.RowKit Go.Proofs.YtfjeinnemimjoaaDoorW.PrintWords Go.Proofs.YtfjeinnemimjoaaDoorW.PrintLast Go.Proofs.YtfjeinnemimjoaaDoorW.PrintMore
attribute [local go_sem] max2_int min2_int max_two min_two max_three min_three max_four min_four   -- for this text's walks alone
set_option linter.unusedVariables false
set_option linter.unusedSimpArgs false

/-- At a cutset of ASCII bytes. -/
def strings_Trim.f (a0 a1 : ByteArray) : Option ByteArray :=
  if a0.size ≤ 9223372036854775807 ∧ a1.size < 4294967281 ∧ a1.data.toList.all (fun b => decide (b.toNat < 128)) = true then some ⟨(Lib.trimS a0.data.toList a1.data.toList).toArray⟩ else none
theorem strings_Trim.calls (a0 a1 : ByteArray) (r : ByteArray) (w : World) (h : strings_Trim.f a0 a1 = some r) :
    Calls Tryd.prog 103 #[.string a0, .string a1] w fun e w' => e = .returned (.string r) ∧ Below w.heap.size w w' := by
  unfold strings_Trim.f at h
  split at h
  · rename_i hc
    obtain rfl := Option.some.inj h
    exact Go.Proofs.Any.strings_Trim_laid Tryd.lays160 (by kernel_rfl) a0 a1 w hc.1 hc.2.1 (Go.Proofs.ascii_of_all hc.2.2)
  · cases h


end Go.Proofs.YtfjeinnemimjoaaDoor.P

namespace Go.Proofs.YtfjeinnemimjoaaDoor.P
open Go.RowKit Go.Proofs.YtfjeinnemimjoaaDoorW.PrintWords Go.Proofs.YtfjeinnemimjoaaDoorW.PrintLast Go.Proofs.YtfjeinnemimjoaaDoorW.PrintMore
attribute [local go_sem] max2_int min2_int max_two min_two max_three min_three max_four min_four   -- for this text's walks alone
set_option linter.unusedVariables false
set_option linter.unusedSimpArgs false

/-- At a text of one byte alone. -/
def strings_Count.f (a0 a1 : ByteArray) : Option Int := match a1.data.toList with
  | [c] => some (Lib.countByte a0.data.toList c)
  | _ => none
theorem strings_Count.calls (a0 a1 : ByteArray) (r : Int) (w : World) (h : strings_Count.f a0 a1 = some r) :
    Calls Tryd.prog 134 #[.string a0, .string a1] w fun e w' => e = .returned (.int .i64 r) ∧ Drawn0 w w' := by
  obtain ⟨⟨l⟩⟩ := a1
  unfold strings_Count.f at h
  split at h
  · rename_i c hc
    obtain rfl : l = [c] := hc
    obtain rfl := Option.some.inj h
    refine (Tryd.strings_Count_one a0 c w).mono ?_
    rintro e w' ⟨rfl, rfl⟩
    exact ⟨rfl, Drawn0.refl _⟩
  · cases h


end Go.Proofs.YtfjeinnemimjoaaDoor.P

namespace Go.Proofs.YtfjeinnemimjoaaDoor.P
open Go.RowKit Go.Proofs.YtfjeinnemimjoaaDoorW.PrintWords Go.Proofs.YtfjeinnemimjoaaDoorW.PrintLast Go.Proofs.YtfjeinnemimjoaaDoorW.PrintMore
attribute [local go_sem] max2_int min2_int max_two min_two max_three min_three max_four min_four   -- for this text's walks alone
set_option linter.unusedVariables false
set_option linter.unusedSimpArgs false

/-- At a text of one byte alone. -/
def strings_Index.f (a0 a1 : ByteArray) : Option Int := match a1.data.toList with
  | [c] => some (Lib.indexByte a0.data.toList c)
  | _ => none
theorem strings_Index.calls (a0 a1 : ByteArray) (r : Int) (w : World) (h : strings_Index.f a0 a1 = some r) :
    Calls Tryd.prog 135 #[.string a0, .string a1] w fun e w' => e = .returned (.int .i64 r) ∧ Drawn0 w w' := by
  obtain ⟨⟨l⟩⟩ := a1
  unfold strings_Index.f at h
  split at h
  · rename_i c hc
    obtain rfl : l = [c] := hc
    obtain rfl := Option.some.inj h
    refine (Tryd.strings_Index_one a0 c w).mono ?_
    rintro e w' ⟨rfl, rfl⟩
    exact ⟨rfl, Drawn0.refl _⟩
  · cases h


end Go.Proofs.YtfjeinnemimjoaaDoor.P

namespace Go.Proofs.YtfjeinnemimjoaaDoor.P
open Go.RowKit Go.Proofs.YtfjeinnemimjoaaDoorW.PrintWords Go.Proofs.YtfjeinnemimjoaaDoorW.PrintLast Go.Proofs.YtfjeinnemimjoaaDoorW.PrintMore
attribute [local go_sem] max2_int min2_int max_two min_two max_three min_three max_four min_four   -- for this text's walks alone
set_option linter.unusedVariables false
set_option linter.unusedSimpArgs false

/-- Not followed: no law comes here. -/
def strings_explode.f (a0 : ByteArray) (a1 : Int) : Option (List ByteArray) := none
theorem strings_explode.calls (a0 : ByteArray) (a1 : Int) (r : List ByteArray) (w : World) (h : strings_explode.f a0 a1 = some r) :
    Calls Tryd.prog 133 #[.string a0, .int .i64 a1] w fun e w' => ∃ v0_ : Value, e = .returned (v0_) ∧ Kd.R Kd.string 9 w' w.heap.size (fun _ => True) v0_ r ∧ Below w.heap.size w w' := by cases h


end Go.Proofs.YtfjeinnemimjoaaDoor.P

namespace Go.Proofs.YtfjeinnemimjoaaDoor.P
open Go.RowKit Go.Proofs.YtfjeinnemimjoaaDoorW.PrintWords Go.Proofs.YtfjeinnemimjoaaDoorW.PrintLast Go.Proofs.YtfjeinnemimjoaaDoorW.PrintMore
attribute [local go_sem] max2_int min2_int max_two min_two max_three min_three max_four min_four   -- for this text's walks alone
set_option linter.unusedVariables false
set_option linter.unusedSimpArgs false

def strings_CutPrefix.f (a0 : ByteArray) (a1 : ByteArray) : Option (ByteArray × Bool) := (stringslite_CutPrefix.f a0 a1).bind fun bt112 => (some (bt112.1, bt112.2))
set_option maxHeartbeats 8000000 in
set_option maxRecDepth 100000 in
theorem strings_CutPrefix.calls (a0 : ByteArray) (a1 : ByteArray) (r1 : ByteArray) (r2 : Bool) (w : World) (h : strings_CutPrefix.f a0 a1 = some (r1, r2)) :
    Calls Tryd.prog 74 #[.string a0, .string a1] w fun e w' => e = .returned (.tuple #[.string r1, .bool r2]) ∧ Drawn0 w w' := by
  have H : ((stringslite_CutPrefix.f a0 a1).bind fun bt112 => (some (bt112.1, bt112.2))) = some (r1, r2) := h
  clear h
  replace H := Option.bind_eq_some_iff.mp H
  obtain ⟨⟨t112, t113⟩, A30, H⟩ := H
  replace H : (some (t112, t113)) = some (r1, r2) := H
  have A3 := Aside0.mk A30
  clear A30
  simp only [Option.some.injEq, Prod.mk.injEq] at H
  obtain ⟨rfl, rfl⟩ := H
  go_enter Tryd.func74, Tryd.ntmps74
  go_wp2_with (first | ((with_reducible refine gate_callee (f := 94) rfl ?_); refine goesL_ (some 8) rfl rfl Tryd.func94 (by kernel_rfl) rfl #[.string a0, .string a1] rfl (by (try simp only [List.map_toArray, List.map_cons, List.map_nil]); first | done | rfl | (simp only [List.length_drop, List.length_take]; rfl)) ?_; (with_reducible refine (stringslite_CutPrefix.calls a0 a1 t112 t113 _ A3.out).mono ?_); rintro e w' ⟨rfl, ⟨nd, rfl⟩⟩; (try clear A3); refine ⟨_, rfl, ?_⟩))
  go_ret2
  exact ⟨by first | rfl | (simp; done) | (simp [*]; done), by repeat (first | exact Drawn0.refl _ | apply Drawn0.step)⟩

end Go.Proofs.YtfjeinnemimjoaaDoor.P

namespace Go.Proofs.YtfjeinnemimjoaaDoor.P
open Go.RowKit Go.Proofs.YtfjeinnemimjoaaDoorW.PrintWords Go.Proofs.YtfjeinnemimjoaaDoorW.PrintLast Go.Proofs.YtfjeinnemimjoaaDoorW.PrintMore
attribute [local go_sem] max2_int min2_int max_two min_two max_three min_three max_four min_four   -- for this text's walks alone
set_option linter.unusedVariables false
set_option linter.unusedSimpArgs false

def strings_HasPrefix.f (a0 : ByteArray) (a1 : ByteArray) : Option (Bool) := (stringslite_HasPrefix.f a0 a1).bind fun t269 => (some t269)
set_option maxHeartbeats 8000000 in
set_option maxRecDepth 100000 in
theorem strings_HasPrefix.calls (a0 : ByteArray) (a1 : ByteArray) (r : Bool) (w : World) (h : strings_HasPrefix.f a0 a1 = some r) :
    Calls Tryd.prog 28 #[.string a0, .string a1] w fun e w' => e = .returned (.bool r) ∧ Drawn0 w w' := by
  have H : ((stringslite_HasPrefix.f a0 a1).bind fun t269 => (some t269)) = some r := h
  clear h
  replace H := Option.bind_eq_some_iff.mp H
  obtain ⟨t269, A30, H⟩ := H
  replace H : (some t269) = some r := H
  have A3 := Aside0.mk A30
  clear A30
  obtain rfl := Option.some.inj H
  go_enter Tryd.func28, Tryd.ntmps28
  go_wp2_with (first | ((with_reducible refine gate_callee (f := 58) rfl ?_); refine goesL_ (some 7) rfl rfl Tryd.func58 (by kernel_rfl) rfl #[.string a0, .string a1] rfl (by (try simp only [List.map_toArray, List.map_cons, List.map_nil]); first | done | rfl | (simp only [List.length_drop, List.length_take]; rfl)) ?_; (with_reducible refine (stringslite_HasPrefix.calls a0 a1 t269 _ A3.out).mono ?_); rintro e w' ⟨rfl, ⟨nd, rfl⟩⟩; (try clear A3); refine ⟨_, rfl, ?_⟩))
  go_ret
  exact ⟨by first | rfl | (simp; done) | (simp [*]; done), by repeat (first | exact Drawn0.refl _ | apply Drawn0.step)⟩

end Go.Proofs.YtfjeinnemimjoaaDoor.P

