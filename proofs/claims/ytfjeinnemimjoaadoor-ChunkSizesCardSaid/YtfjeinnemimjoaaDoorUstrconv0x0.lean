/- Each function below answers as its Lean twin says. No further condition. (Laid by this repo's packseat.py out of the seat's texts and of the print's words.) -/
import Derived.Test.YtfjeinnemimjoaaDoorU0base0x0
import Derived.Test.YtfjeinnemimjoaaDoorUbits0x0
import Derived.Test.YtfjeinnemimjoaaDoorU9
namespace Go.Proofs.YtfjeinnemimjoaaDoor.P
open Go.RowKit Go.Proofs.YtfjeinnemimjoaaDoorW.PrintWords Go.Proofs.YtfjeinnemimjoaaDoorW.PrintLast Go.Proofs.YtfjeinnemimjoaaDoorW.PrintMore
attribute [local go_sem] max2_int min2_int max_two min_two max_three min_three max_four min_four   -- for this text's walks alone
set_option linter.unusedVariables false
set_option linter.unusedSimpArgs false

def strconv_isPowerOfTwo.f (a0 : Int) : Option (Bool) := some ((Go.bits .and .i64 a0 (wrap64 (a0 - 1))) == 0)
set_option maxHeartbeats 8000000 in
set_option maxRecDepth 100000 in
theorem strconv_isPowerOfTwo.calls (a0 : Int) (r : Bool) (w : World) (h : strconv_isPowerOfTwo.f a0 = some r) :
    Calls Tryd.prog 127 #[.int .i64 a0] w fun e w' => e = .returned (.bool r) ∧ Drawn0 w w' := by
  have H : (some ((Go.bits .and .i64 a0 (wrap64 (a0 - 1))) == 0)) = some r := h
  clear h
  obtain rfl := Option.some.inj H
  go_enter Tryd.func127, Tryd.ntmps127
  go_wp2
  go_ret
  exact ⟨by first | rfl | (simp; done) | (simp [*]; done), by repeat (first | exact Drawn0.refl _ | apply Drawn0.step)⟩

end Go.Proofs.YtfjeinnemimjoaaDoor.P

namespace Go.Proofs.YtfjeinnemimjoaaDoor.P
open Go.RowKit Go.Proofs.YtfjeinnemimjoaaDoorW.PrintWords Go.Proofs.YtfjeinnemimjoaaDoorW.PrintLast Go.Proofs.YtfjeinnemimjoaaDoorW.PrintMore
attribute [local go_sem] max2_int min2_int max_two min_two max_three min_three max_four min_four   -- for this text's walks alone
set_option linter.unusedVariables false
set_option linter.unusedSimpArgs false

/-- A digit of the base 16. -/
def hexd (d : Nat) : Int := if d < 10 then 48 + d else 87 + d
/-- The digits of the base 16. -/
def hexD (u : Nat) : List Int := if h : u < 16 then [hexd u] else hexD (u / 16) ++ [hexd (u % 16)]
termination_by u
decreasing_by omega
theorem hexD_small (u : Nat) (h : u < 16) : hexD u = [hexd u] := by rw [hexD, dif_pos h]
theorem hexD_big (u : Nat) (h : 16 ≤ u) : hexD u = hexD (u / 16) ++ [hexd (u % 16)] := by rw [hexD, dif_neg (by omega)]
/-- The last cells of the array of 65. -/
def Row65 (w : World) (g : Nat) (suf : List Int) : Prop := ∃ cs, w.heap[g]? = some (.cells cs 145 (0, 0)) ∧ cs.size = 65 ∧ cs.toList.drop (65 - suf.length) = nums .u8 suf
theorem Row65.cell {w : World} {g : Nat} {suf : List Int} (h : Row65 w g suf) (j : Nat) (hj : j < 65) : ∃ v, w.cell? ⟨g, j, none⟩ = some v := by
  obtain ⟨cs, hb, hs, _⟩ := h
  rw [cell_of_row _ _ _ _ _ _ hb]
  exact ⟨_, Array.getElem?_eq_getElem (by omega)⟩
theorem Row65.free {w : World} {g : Nat} {suf : List Int} (h : Row65 w g suf) (j : Nat) : w.frozen? ⟨g, j, none⟩ = false := by
  obtain ⟨cs, hb, _, _⟩ := h
  simp [World.frozen?, hb]
theorem Row65.set {w : World} {g : Nat} {suf : List Int} (h : Row65 w g suf) (hl : suf.length < 65) (v : Int) : Row65 (w.setCell ⟨g, 64 - suf.length, none⟩ (.int .u8 v)) g (v :: suf) := by
  obtain ⟨cs, hb, hs, hd⟩ := h
  refine ⟨cs.setIfInBounds (64 - suf.length) (.int .u8 v), by simp [World.setCell, Array.getElem?_modify, hb], by simpa using hs, ?_⟩
  have hlen : cs.toList.length = 65 := by rw [Array.length_toList]; exact hs
  rw [Array.toList_setIfInBounds, List.length_cons, show 65 - (suf.length + 1) = 64 - suf.length by omega, List.drop_set, if_neg (by omega), Nat.sub_self, List.drop_eq_getElem_cons (by omega), List.set_cons_zero, show 64 - suf.length + 1 = 65 - suf.length by omega, hd]
  rfl
theorem Row65.reads {w : World} {g : Nat} {suf : List Int} (h : Row65 w g suf) (hl : suf.length ≤ 65) : ReadsInt w .u8 (some ⟨g, 65 - suf.length, none⟩) suf.length suf := by
  obtain ⟨cs, hb, hs, hd⟩ := h
  refine ⟨rfl, by omega, fun _ => ⟨_, rfl, fun j hj => ?_⟩⟩
  have ha : (⟨g, 65 - suf.length, none⟩ : Addr).add j = ⟨g, 65 - suf.length + j, none⟩ := by
    unfold Addr.add; split <;> simp_all
  rw [ha, cell_of_row _ _ _ _ _ _ hb]
  have h1 : (cs.toList.drop (65 - suf.length))[j]? = (nums .u8 suf)[j]? := by rw [hd]
  rw [List.getElem?_drop] at h1
  rw [← Array.getElem?_toList, h1]
  simp [nums, List.getD_eq_getElem?_getD, List.getElem?_eq_getElem hj]
theorem pow_step (u l : Nat) (hl : l ≤ 15) (h : u < 16 ^ (16 - l)) (hu : 16 ≤ u) : l ≤ 14 ∧ u / 16 < 16 ^ (16 - (l + 1)) := by
  have h14 : l ≤ 14 := by
    rcases Nat.lt_or_ge l 15 with h1 | h1
    · omega
    · obtain rfl : l = 15 := by omega
      simp at h
      omega
  refine ⟨h14, ?_⟩
  have e : 16 ^ (16 - l) = 16 ^ (16 - (l + 1)) * 16 := by rw [← Nat.pow_succ]; congr 1; omega
  rw [e] at h
  exact (Nat.div_lt_iff_lt_mul (by decide)).2 h
theorem hexd_at (d : Int) (h0 : 0 ≤ d) (h1 : d < 16) : bt (⟨#[48, 49, 50, 51, 52, 53, 54, 55, 56, 57, 97, 98, 99, 100, 101, 102, 103, 104, 105, 106, 107, 108, 109, 110, 111, 112, 113, 114, 115, 116, 117, 118, 119, 120, 121, 122]⟩ : ByteArray) d = hexd d.toNat := by
  obtain ⟨n, rfl⟩ := Int.eq_ofNat_of_zero_le h0
  have h : ∀ m : Fin 16, bt (⟨#[48, 49, 50, 51, 52, 53, 54, 55, 56, 57, 97, 98, 99, 100, 101, 102, 103, 104, 105, 106, 107, 108, 109, 110, 111, 112, 113, 114, 115, 116, 117, 118, 119, 120, 121, 122]⟩ : ByteArray) (m.val : Int) = hexd m.val := by decide +kernel
  exact h ⟨n, by omega⟩
set_option maxHeartbeats 8000000 in
set_option maxRecDepth 100000 in
theorem formatBits_16 (n : Nat) (hn : n < 18446744073709551616) (w : World) (ht : Tabs w) :
    Calls Tryd.prog 110 #[.slice none 0 0, .int .u64 n, .int .i64 16, .bool false, .bool false] w fun e w' => e = .returned (.tuple #[.slice none 0 0, .string (strOfNums (hexD n))]) ∧ Below w.heap.size w w' := by
  have HT := Aside0.mk ht
  clear ht
  have HB := Aside0.mk (Below.refl w.heap.size w)
  have HN := Aside0.mk hn
  clear hn
  go_enter Tryd.func110, Tryd.ntmps110
  go_wp2_with (first
    | (go_at_call 127; (with_reducible refine (strconv_isPowerOfTwo.calls 16 true _ (by decide +kernel)).mono ?_); rintro e w1 ⟨rfl, ⟨nd, rfl⟩⟩)
    | (go_at_call 128; (with_reducible refine (tz_16 _ ?ht).mono ?_); (case ht => exact HT.out.below (by repeat (first | exact HB.out | apply below_alloc | apply pw_below_drewN))); rintro e w2 ⟨rfl, ⟨nd2, rfl⟩⟩))
  go_loopw [1, 13] (fun v1 v13 wr => ∃ (u i : Int) (suf : List Int), v1 = .int .u64 u ∧ v13 = .int .i64 i ∧ Aside0 (0 ≤ u ∧ i = 65 - suf.length ∧ suf.length ≤ 15 ∧ u.toNat < 16 ^ (16 - suf.length)) ∧ Aside0 (hexD n = hexD u.toNat ++ suf) ∧ Aside0 (Row65 wr w.heap.size suf) ∧ Aside0 (Below w.heap.size w wr)) (fun v1 _ _ => (intOf v1).toNat)
  case atStart =>
    refine ⟨n, 65, [], rfl, rfl, ⟨by omega, by simp, by simp, by have := HN.out; simpa using this⟩, ⟨by simp⟩, ⟨⟨Tryd.zeroCells145, ?_, by kernel_rfl, by kernel_rfl⟩⟩, ⟨by repeat (first | exact HB.out | apply below_alloc | apply pw_below_drewN)⟩⟩
    show (w.heap.push _)[w.heap.size]? = _
    simp
  case round =>
    obtain ⟨u, i, suf, rfl, rfl, HU, HE, HR, HB2⟩ := hrel
    clear HB
    have hu0 : 0 ≤ u := HU.out.1
    have hi0 : 1 ≤ i := by have := HU.out; omega
    have hi1 : i ≤ 65 := by have := HU.out; omega
    have hu1 : u ≤ 18446744073709551615 := by
      have h1 := HU.out.2.2.2
      have h2 : 16 ^ (16 - suf.length) ≤ 16 ^ 16 := Nat.pow_le_pow_right (by decide) (by omega)
      have h3 : (16 : Nat) ^ 16 = 18446744073709551616 := by decide
      omega
    have hj : i - 1 = ((64 - suf.length : Nat) : Int) := by have := HU.out; omega
    obtain ⟨cv, hc⟩ := HR.out.cell (64 - suf.length) (by omega)
    have hf := HR.out.free (64 - suf.length)
    have hjt : i.toNat - 1 = 64 - suf.length := by omega
    rw [← hjt] at hc hf
    by_cases hb : 16 ≤ u
    · have hb1 : decide (16 ≤ u) = true := decide_eq_true hb
      have hb2 : decide (u ≥ 16) = true := decide_eq_true hb
      obtain ⟨D, hD⟩ : ∃ D, Go.bits .and .u64 u 15 = D := ⟨_, rfl⟩
      have hDm : D = u % 16 := by rw [← hD]; exact bits_mask .u64 64 (by decide) (by intro x h0 h1; simp [IntKind.wrap, IntKind.bits, IntKind.signed]; omega) 4 (by decide) u hu0 (by omega)
      have hD0 : 0 ≤ D := by omega
      have hD1 : D < 16 := by omega
      have hx := bt_at (⟨#[48, 49, 50, 51, 52, 53, 54, 55, 56, 57, 97, 98, 99, 100, 101, 102, 103, 104, 105, 106, 107, 108, 109, 110, 111, 112, 113, 114, 115, 116, 117, 118, 119, 120, 121, 122]⟩ : ByteArray) D
      have HD := Aside0.mk hDm
      have HX := hexd_at D hD0 hD1
      have HX' := Aside0.mk HX
      have HJ := Aside0.mk (And.intro hj hjt)
      have HB' := Aside0.mk hb
      clear HX hDm hj hjt hb
      go_wp2
      refine ⟨⟨u / 16, i - 1, hexd D.toNat :: suf, rfl, rfl, ?_, ⟨?_⟩, ⟨?_⟩, ⟨HB2.out.setCell (Nat.le_refl _) _⟩⟩, ?_⟩
      · obtain ⟨h14, hp⟩ := pow_step u.toNat suf.length HU.out.2.2.1 HU.out.2.2.2 (by have := HB'.out; omega)
        have hq : (u / 16).toNat = u.toNat / 16 := by omega
        exact ⟨by omega, by have := HU.out; rw [List.length_cons]; omega, by rw [List.length_cons]; omega, by rw [hq, List.length_cons]; exact hp⟩
      · rw [HE.out, hexD_big u.toNat (by have := HB'.out; omega), show (u / 16).toNat = u.toNat / 16 by omega, show D.toNat = u.toNat % 16 by have := HD.out; omega, List.append_assoc]
        rfl
      · rw [HJ.out.2, HX'.out]
        exact HR.out.set (by have := HU.out; omega) _
      · have := HB'.out
        simp only [intOf]
        omega
    · have hb1 : decide (16 ≤ u) = false := decide_eq_false hb
      have hb2 : decide (u ≥ 16) = false := decide_eq_false hb
      have hu2 : u < 16 := by omega
      have hx := bt_at (⟨#[48, 49, 50, 51, 52, 53, 54, 55, 56, 57, 97, 98, 99, 100, 101, 102, 103, 104, 105, 106, 107, 108, 109, 110, 111, 112, 113, 114, 115, 116, 117, 118, 119, 120, 121, 122]⟩ : ByteArray) u
      have HX' := Aside0.mk (hexd_at u hu0 hu2)
      have HJ := Aside0.mk (And.intro hj hjt)
      have HB' := Aside0.mk hb
      have hal : Tryd.prog.arrayLen 145 = 65 := by simp [Program.arrayLen, Tryd.underlying145]
      have hsl : ∀ W, (Instr.sliceAt 145 (.pointer (some ⟨w.heap.size, 0, none⟩)) (some (.int .i64 (i - 1))) none none).run Tryd.prog W = .ok (.slice (some ⟨w.heap.size, 64 - suf.length, none⟩) (suf.length + 1) (suf.length + 1)) W := by
        intro W
        have hl65 : 64 - suf.length + (suf.length + 1) = 65 := by have := HU.out; omega
        rw [hj, run_sliceAt_array_l W 145 ⟨w.heap.size, 0, none⟩ (by simp [Program.arrayLen, Program.elem, Tryd.underlying145]) .i64 _ (by omega) (by rw [hal]; omega), hal, Int.toNat_natCast]
        have he : Tryd.prog.elem 145 = 5 := by simp [Program.elem, Tryd.underlying145]
        rw [he, (show (sizeOf 5).run Tryd.prog W = .ok 1 W by kernel_rfl)]
        show Result.ok (slicedAt ⟨w.heap.size, 0, none⟩ (64 - suf.length) 65 65 1) W = _
        unfold slicedAt
        rw [if_neg (by omega), Nat.mul_one, add_plain, show 65 - (64 - suf.length) = suf.length + 1 by omega]
      have hR2 := (HR.out.set (by have := HU.out; omega) (bt (⟨#[48, 49, 50, 51, 52, 53, 54, 55, 56, 57, 97, 98, 99, 100, 101, 102, 103, 104, 105, 106, 107, 108, 109, 110, 111, 112, 113, 114, 115, 116, 117, 118, 119, 120, 121, 122]⟩ : ByteArray) u)).reads (by rw [List.length_cons]; have := HU.out; omega)
      rw [List.length_cons, show 65 - (suf.length + 1) = 64 - suf.length by omega, ← hjt] at hR2
      have hcv := string_of_reads (P := Tryd.prog) (src := 25) (dst := 9) (c := suf.length + 1) Tryd.underlying25 Tryd.underlying5 Tryd.underlying9 hR2
      rw [hjt] at hcv
      rw [← hjt] at hsl hcv
      have HE2 := Aside0.mk (show strOfNums (bt (⟨#[48, 49, 50, 51, 52, 53, 54, 55, 56, 57, 97, 98, 99, 100, 101, 102, 103, 104, 105, 106, 107, 108, 109, 110, 111, 112, 113, 114, 115, 116, 117, 118, 119, 120, 121, 122]⟩ : ByteArray) u :: suf) = strOfNums (hexD n) by rw [HE.out, hexD_small u.toNat (by omega), HX'.out]; rfl)
      have q3 : (u < 36) = True := eq_true (by omega)
      have q4 : (36 ≤ u) = False := eq_false (by omega)
      clear hj hjt hb hR2 hal hu2
      go_wp2
      go_ret2
      exact ⟨by first | rfl | (rw [HE2.out]; rfl), HB2.out.setCell (Nat.le_refl _) _⟩


end Go.Proofs.YtfjeinnemimjoaaDoor.P

namespace Go.Proofs.YtfjeinnemimjoaaDoor.P
open Go.RowKit Go.Proofs.YtfjeinnemimjoaaDoorW.PrintWords Go.Proofs.YtfjeinnemimjoaaDoorW.PrintLast Go.Proofs.YtfjeinnemimjoaaDoorW.PrintMore
attribute [local go_sem] max2_int min2_int max_two min_two max_three min_three max_four min_four   -- for this text's walks alone
set_option linter.unusedVariables false
set_option linter.unusedSimpArgs false

/-- At the base 10, and of a number from 0 on at the base 16. -/
def strconv_FormatInt_97.f (a0 a1 : Int) : Option ByteArray :=
  if a1 = 10 then (if -9223372036854775808 ≤ a0 ∧ a0 ≤ 9223372036854775807 then some ⟨(Lib.itoa a0).toArray⟩ else none)
  else if a1 = 16 then (if 0 ≤ a0 ∧ a0 ≤ 9223372036854775807 then some (strOfNums (hexD a0.toNat)) else none)
  else none
theorem below_grow {w : World} (k : Nat) (os : Array Obj) : Below w.heap.size w (Go.Sort.grow (w.drewN k) os) :=
  ⟨rfl, rfl, rfl, by simp [Go.Sort.grow], fun b hb => by simp only [Go.Sort.grow]; rw [Array.getElem?_append_left (by simpa using hb)]; rfl⟩
set_option maxHeartbeats 4000000 in
theorem formatInt_16 (a0 : Int) (h0 : 0 ≤ a0) (h1 : a0 ≤ 9223372036854775807) (w : World) (ht : Tabs w) :
    Calls Tryd.prog 97 #[.int .i64 a0, .int .i64 16] w fun e w' => e = .returned (.string (strOfNums (hexD a0.toNat))) ∧ Below w.heap.size w w' := by
  have HT := Aside0.mk ht
  clear ht
  have hw : IntKind.u64.wrap a0 = a0 := by simp [IntKind.wrap, IntKind.bits, IntKind.signed]; omega
  have HF := Aside0.mk (formatBits_16 a0.toNat (by omega))
  have hn : ((a0.toNat : Nat) : Int) = a0 := by omega
  rw [hn] at HF
  clear hn
  have hneg : decide (a0 < 0) = false := decide_eq_false (by omega)
  go_enter Tryd.func97, Tryd.ntmps97
  go_wp2_with (go_at_call 110; (with_reducible refine (HF.out _ HT.out).mono ?_); rintro e w1 ⟨rfl, hb⟩)
  go_ret
  exact ⟨rfl, hb⟩
theorem strconv_FormatInt_97.calls (a0 a1 : Int) (r : ByteArray) (w : World) (h : strconv_FormatInt_97.f a0 a1 = some r) (ht : Tabs w) :
    Calls Tryd.prog 97 #[.int .i64 a0, .int .i64 a1] w fun e w' => e = .returned (.string r) ∧ Below w.heap.size w w' := by
  unfold strconv_FormatInt_97.f at h
  split at h
  · rename_i h10
    subst h10
    split at h
    · rename_i hr
      obtain rfl := Option.some.inj h
      refine (Tryd.internal_strconv_FormatInt_10 a0 hr.1 hr.2 w ht.1).mono ?_
      rintro e w' ⟨rfl, k, os, rfl⟩
      exact ⟨rfl, below_grow k os⟩
    · cases h
  · split at h
    · rename_i h16
      subst h16
      split at h
      · rename_i hr
        obtain rfl := Option.some.inj h
        exact formatInt_16 a0 hr.1 hr.2 w ht
      · cases h
    · cases h


end Go.Proofs.YtfjeinnemimjoaaDoor.P

namespace Go.Proofs.YtfjeinnemimjoaaDoor.P
open Go.RowKit Go.Proofs.YtfjeinnemimjoaaDoorW.PrintWords Go.Proofs.YtfjeinnemimjoaaDoorW.PrintLast Go.Proofs.YtfjeinnemimjoaaDoorW.PrintMore
attribute [local go_sem] max2_int min2_int max_two min_two max_three min_three max_four min_four   -- for this text's walks alone
set_option linter.unusedVariables false
set_option linter.unusedSimpArgs false

def strconv_FormatInt_78.f (a0 : Int) (a1 : Int) : Option (ByteArray) := (strconv_FormatInt_97.f a0 a1).bind fun t178 => (some t178)
set_option maxHeartbeats 8000000 in
set_option maxRecDepth 100000 in
theorem strconv_FormatInt_78.calls (a0 : Int) (a1 : Int) (r : ByteArray) (w : World) (h : strconv_FormatInt_78.f a0 a1 = some r) (ht : Tabs w) :
    Calls Tryd.prog 78 #[.int .i64 a0, .int .i64 a1] w fun e w' => e = .returned (.string r) ∧ Below w.heap.size w w' := by
  have HTB := Aside0.mk ht
  clear ht
  have HB := Aside0.mk (Below.refl w.heap.size w)
  have H : ((strconv_FormatInt_97.f a0 a1).bind fun t178 => (some t178)) = some r := h
  clear h
  replace H := Option.bind_eq_some_iff.mp H
  obtain ⟨t178, A30, H⟩ := H
  replace H : (some t178) = some r := H
  have A3 := Aside0.mk A30
  clear A30
  obtain rfl := Option.some.inj H
  go_enter Tryd.func78, Tryd.ntmps78
  go_wp2_with (first | ((with_reducible refine gate_callee (f := 97) rfl ?_); refine goesL_ (some 7) rfl rfl Tryd.func97 (by kernel_rfl) rfl #[.int .i64 a0, .int .i64 a1] rfl (by (try simp only [List.map_toArray, List.map_cons, List.map_nil]); first | done | rfl | (simp only [List.length_drop, List.length_take]; rfl)) ?_; (with_reducible refine (strconv_FormatInt_97.calls a0 a1 t178 _ A3.out ?hT).mono ?_); (case hT => exact HTB.out.below (by repeat (first | (with_reducible first | exact HB.out | apply below_alloc | apply pw_below_drewN | apply below_drew1) | exact HB.out))); rintro e w4 ⟨rfl, hb⟩; (try clear A3); refine ⟨_, rfl, ?_⟩; have n0_ := Aside0.mk (below_step (by repeat (first | (with_reducible first | exact HB.out | apply below_alloc | apply pw_below_drewN | apply below_drew1) | exact HB.out)) hb); clear HB; have HB := n0_; clear n0_; (try clear hb); (try clear hb2); (try clear hk); (try clear hi)))
  go_ret
  exact ⟨by first | rfl | (simp [errW_none, errW_some] <;> rfl) | (simp [*, errW_none, errW_some] <;> rfl), by repeat (first | (with_reducible first | exact HB.out | apply below_alloc | apply pw_below_drewN | apply below_drew1) | exact HB.out)⟩

end Go.Proofs.YtfjeinnemimjoaaDoor.P

