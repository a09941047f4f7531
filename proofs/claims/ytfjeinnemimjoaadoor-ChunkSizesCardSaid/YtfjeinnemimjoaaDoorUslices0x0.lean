/- Each function below answers as its Lean twin says. No further condition. (Laid by this repo's packseat.py out of the seat's texts and of the print's words.) -/
import Derived.Test.YtfjeinnemimjoaaDoorU0base0x0
import Derived.Shelf.Abstract
namespace Go.Proofs.YtfjeinnemimjoaaDoor.P
open Go.RowKit Go.Proofs.YtfjeinnemimjoaaDoorW.PrintWords Go.Proofs.YtfjeinnemimjoaaDoorW.PrintLast Go.Proofs.YtfjeinnemimjoaaDoorW.PrintMore
attribute [local go_sem] max2_int min2_int max_two min_two max_three min_three max_four min_four   -- for this text's walks alone
set_option linter.unusedVariables false
set_option linter.unusedSimpArgs false

/-- The place of the first that a test takes, from a place on: -1: none. -/
def idxO {α : Type} (q : α → Option Bool) : List α → Int → Option Int
  | [], _ => some (-1)
  | x :: r, i => (q x).bind fun b => if b = true then some i else idxO q r (i + 1)
/-- Does a test take one of them? -/
def anyO {α : Type} (q : α → Option Bool) : List α → Option Bool
  | [] => some false
  | x :: r => (q x).bind fun b => if b = true then some true else anyO q r
theorem idxO_any {α : Type} (q : α → Option Bool) : ∀ (xs : List α) (i : Int) (b : Bool), 0 ≤ i → anyO q xs = some b → ∃ j, idxO q xs i = some j ∧ decide (0 ≤ j) = b
  | [], i, b, _, h => ⟨-1, rfl, by simp only [anyO, Option.some.injEq] at h; rw [← h]; rfl⟩
  | x :: r, i, b, hi, h => by
    simp only [anyO] at h
    obtain ⟨c, hc, h⟩ := Option.bind_eq_some_iff.1 h
    simp only [idxO, hc, Option.bind_some]
    cases c
    · simp only [Bool.false_eq_true, if_false] at h ⊢
      exact idxO_any q r (i + 1) b (by omega) h
    · simp only [if_true, Option.some.injEq] at h ⊢
      exact ⟨i, rfl, by rw [← h]; exact decide_eq_true hi⟩
theorem sl_base {w w1 : World} {b g : Nat} (hg : b ≤ g) (h : Below g w w1) : Below b w w1 := ⟨h.os, h.tape, h.output, h.size, fun i hi => h.block i (Nat.lt_of_lt_of_le hi hg)⟩
/-- What is asked of a test that is handed over: its answer, in every later world. -/
def TestOf (g : Nat) (lb : Array Value) (enc : ByteArray → Value) (q : ByteArray → Option Bool) (w : World) : Prop :=
  ∀ (W : World) (x : ByteArray) (b : Bool), Below w.heap.size w W → q x = some b → Calls Tryd.prog g (#[enc x] ++ lb) W fun e w' => e = .returned (.bool b) ∧ Below W.heap.size W w'
set_option maxHeartbeats 4000000 in
set_option maxRecDepth 100000 in
theorem slices_IndexFunc_string_string.callsOf (q : ByteArray → Option Bool) (g : Nat) (lb : Array Value) (eg : ∀ args w, (callFunc g args).run Tryd.prog w = .ok (.enter g args) w) (A0 : Option Addr) (c0 : Nat) (l0 : List ByteArray) (r : Int) (w : World) (hr0 : Kd.C Kd.string w A0 l0.length l0) (hc0 : l0.length ≤ c0)
    (hq : TestOf g lb Value.string q w) (h : idxO q l0 0 = some r) :
    Calls Tryd.prog 89 #[.slice A0 l0.length c0, .func (.func g) #[] lb] w fun e w' => e = .returned (.int .i64 r) ∧ Below w.heap.size w w' := by
  have HR := Aside0.mk hr0
  have HQ := Aside0.mk hq
  have H0 := Aside0.mk (show idxO q (l0.drop (0 : Int).toNat) 0 = some r from h)
  have HM := Aside0.mk (show l0.length ≤ 9223372036854775807 from hr0.2.1)
  clear hr0 hq h
  go_enter Tryd.func89, Tryd.ntmps89
  go_wp2
  go_loopg [5, 8] l0.length (fun kq _ v8 wr => ∃ (x8 : Int), v8 = .int .i64 x8 ∧ Aside0 (0 ≤ x8 ∧ x8 ≤ l0.length ∧ (l0.length : Int) - x8 ≤ kq) ∧ Aside0 (Below w.heap.size w wr) ∧ Aside0 (idxO q (l0.drop x8.toNat) x8 = some r))
  case atStart => exact ⟨0, rfl, ⟨by omega⟩, ⟨Below.refl _ w⟩, H0⟩
  case round =>
    obtain ⟨x8, rfl, HX, BW, HH⟩ := hrel
    clear H0
    by_cases c4 : x8 < (l0.length : Int)
    · have c4b0 : decide (x8 < (l0.length : Int)) = true := decide_eq_true c4
      have hx := HH.out
      have hlt : x8.toNat < l0.length := by have := HX.out; omega
      rw [List.drop_eq_getElem_cons hlt, idxO] at hx
      obtain ⟨b, hb, hx⟩ := Option.bind_eq_some_iff.1 hx
      have hrd : rdOf ByteArray.empty l0 x8 = l0[x8.toNat] := by simp [rdOf, List.getD_eq_getElem?_getD, List.getElem?_eq_getElem hlt]
      have hcall := HQ.out wr l0[x8.toNat] b BW.out hb
      rw [← hrd] at hcall
      obtain ⟨ad, he, hcell⟩ := Kd.at_string HR.out x8 HX.out.1 c4
      replace hcell := (BW.out.cell (World.block_lt_of_cell? w _ hcell)).trans hcell
      obtain ⟨y, hy⟩ : ∃ y, rdOf ByteArray.empty l0 x8 = y := ⟨_, rfl⟩
      rw [hy] at hcall hcell
      have HCALL := Aside0.mk hcall
      have HN := Aside0.mk hx
      have p8 : (0 ≤ x8) = True := eq_true HX.out.1
      have q8 : (x8 < (l0.length : Int)) = True := eq_true c4
      clear hx hb hrd HH hy hcall c4
      subst he
      cases b with
      | true =>
        go_wp2_with (go_at_fn g; refine HCALL.out.mono ?_; rintro e w' ⟨rfl, hb'⟩)
        go_ret
        have hx := HN.out
        simp only [if_true, Option.some.injEq] at hx
        subst hx
        exact ⟨by first | rfl | (simp; done), BW.out.trans (sl_base (Below.size BW.out) hb')⟩
      | false =>
        go_wp2_with (go_at_fn g; refine HCALL.out.mono ?_; rintro e w' ⟨rfl, hb'⟩)
        go_roundg (gk - 1)
        case measure => have := HX.out; have := of_eq_true q8; omega
        case rel =>
          have hx := HN.out
          simp only [Bool.false_eq_true, if_false] at hx
          have hx8 := HX.out
          have hq8 := of_eq_true q8
          have hw : wrap64 (x8 + 1) = x8 + 1 := by have := HM.out; unfold wrap64; omega
          refine ⟨wrap64 (x8 + 1), rfl, ⟨by rw [hw]; omega⟩, ⟨BW.out.trans (sl_base (Below.size BW.out) hb')⟩, ⟨?_⟩⟩
          rw [hw, show (x8 + 1).toNat = x8.toNat + 1 by omega]
          exact hx
    · have c4b0 : decide (x8 < (l0.length : Int)) = false := decide_eq_false c4
      have hx := HH.out
      rw [List.drop_of_length_le (by have := HX.out; omega), idxO] at hx
      injection hx with hx
      clear c4
      go_wp2
      go_ret
      subst hx
      exact ⟨by first | rfl | (simp; done), BW.out⟩


end Go.Proofs.YtfjeinnemimjoaaDoor.P

namespace Go.Proofs.YtfjeinnemimjoaaDoor.P
open Go.RowKit Go.Proofs.YtfjeinnemimjoaaDoorW.PrintWords Go.Proofs.YtfjeinnemimjoaaDoorW.PrintLast Go.Proofs.YtfjeinnemimjoaaDoorW.PrintMore
attribute [local go_sem] max2_int min2_int max_two min_two max_three min_three max_four min_four   -- for this text's walks alone
set_option linter.unusedVariables false
set_option linter.unusedSimpArgs false

set_option maxHeartbeats 4000000 in
set_option maxRecDepth 100000 in
theorem slices_ContainsFunc_string_string.callsOf (q : ByteArray → Option Bool) (g : Nat) (lb : Array Value) (eg : ∀ args w, (callFunc g args).run Tryd.prog w = .ok (.enter g args) w) (A0 : Option Addr) (c0 : Nat) (l0 : List ByteArray) (r : Bool) (w : World) (hr0 : Kd.C Kd.string w A0 l0.length l0) (hc0 : l0.length ≤ c0)
    (hq : TestOf g lb Value.string q w) (h : anyO q l0 = some r) :
    Calls Tryd.prog 59 #[.slice A0 l0.length c0, .func (.func g) #[] lb] w fun e w' => e = .returned (.bool r) ∧ Below w.heap.size w w' := by
  obtain ⟨j, hj, hb⟩ := idxO_any q l0 0 r (by omega) h
  have HC := Aside0.mk (slices_IndexFunc_string_string.callsOf q g lb eg A0 c0 l0 j w hr0 hc0 hq hj)
  have HBB := Aside0.mk hb
  clear hb hj h hq hr0 hc0 eg
  go_enter Tryd.func59, Tryd.ntmps59
  go_wp2_with (go_at_call 89; refine HC.out.mono ?_; rintro e w' ⟨rfl, hb'⟩)
  go_ret
  have e := HBB.out
  subst e
  exact ⟨by first | rfl | (simp; done), hb'⟩


end Go.Proofs.YtfjeinnemimjoaaDoor.P

