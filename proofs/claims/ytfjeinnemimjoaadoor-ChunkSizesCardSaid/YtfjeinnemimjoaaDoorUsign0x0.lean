/- Each function below answers as its Lean twin says. No further condition. (Laid by this repo's packseat.py out of the seat's texts and of the print's words.) -/
import Derived.Test.YtfjeinnemimjoaaDoorU0base0x0
import Derived.Test.YtfjeinnemimjoaaDoorUstrings0x0
namespace Go.Proofs.YtfjeinnemimjoaaDoor.P
open Go.RowKit Go.Proofs.YtfjeinnemimjoaaDoorW.PrintWords Go.Proofs.YtfjeinnemimjoaaDoorW.PrintLast Go.Proofs.YtfjeinnemimjoaaDoorW.PrintMore
attribute [local go_sem] max2_int min2_int max_two min_two max_three min_three max_four min_four   -- for this text's walks alone
set_option linter.unusedVariables false
set_option linter.unusedSimpArgs false

def foldC (c : Int) : Int := if 65 ≤ c ∧ c ≤ 90 then c + 32 else c
def sign_Fold.f (a0 : ByteArray) : Option ByteArray := if a0.size ≤ 140737488355328 then some (strOfNums ((bytesOf a0).map foldC)) else none
theorem fold_step (l : List Int) (x : Int) (h0 : 0 ≤ x) (h : x < (l.length : Int)) :
    ((l.take x.toNat).map foldC ++ l.drop x.toNat).set x.toNat (foldC (rd l x)) = (l.take (x + 1).toNat).map foldC ++ l.drop (x + 1).toNat := by
  obtain ⟨n, rfl⟩ := Int.eq_ofNat_of_zero_le h0
  have hl : n < l.length := by omega
  have e : ((n : Int) + 1).toNat = n + 1 := by omega
  have hm : ((l.take n).map foldC).length = n := by rw [List.length_map, List.length_take]; omega
  have hr : rd l n = l[n] := by simp [rd, List.getD_eq_getElem?_getD, List.getElem?_eq_getElem hl]
  rw [e, Int.toNat_natCast, List.set_append_right _ _ (by omega), hm, Nat.sub_self, List.drop_eq_getElem_cons hl, List.set_cons_zero, List.take_succ_eq_append_getElem hl, List.map_append, hr]
  simp only [List.map_cons, List.map_nil, List.append_assoc, List.cons_append, List.nil_append]
theorem fold_same (l : List Int) (x : Int) (h0 : 0 ≤ x) (h : x < (l.length : Int)) (hs : foldC (rd l x) = rd l x) :
    (l.take x.toNat).map foldC ++ l.drop x.toNat = (l.take (x + 1).toNat).map foldC ++ l.drop (x + 1).toNat := by
  obtain ⟨n, rfl⟩ := Int.eq_ofNat_of_zero_le h0
  have hl : n < l.length := by omega
  have e : ((n : Int) + 1).toNat = n + 1 := by omega
  have hr : rd l n = l[n] := by simp [rd, List.getD_eq_getElem?_getD, List.getElem?_eq_getElem hl]
  rw [hr] at hs
  rw [e, Int.toNat_natCast, List.drop_eq_getElem_cons hl, List.take_succ_eq_append_getElem hl, List.map_append]
  simp only [List.map_cons, List.map_nil, List.append_assoc, List.cons_append, List.nil_append, hs]
theorem fold_at (l : List Int) (x : Int) (h0 : 0 ≤ x) (h : x < (l.length : Int)) : rd ((l.take x.toNat).map foldC ++ l.drop x.toNat) x = rd l x := by
  have hl : x.toNat < l.length := by omega
  have hm : ((l.take x.toNat).map foldC).length = x.toNat := by simp; omega
  unfold rd
  rw [List.getD_eq_getElem?_getD, List.getD_eq_getElem?_getD, List.getElem?_append_right (by omega), hm]
  simp
theorem fold_len (l : List Int) (x : Int) : ((l.take x.toNat).map foldC ++ l.drop x.toNat).length = l.length := by
  simp; omega
set_option maxHeartbeats 2000000 in
theorem sign_Fold.calls (a0 : ByteArray) (r : ByteArray) (w : World) (h : sign_Fold.f a0 = some r) :
    Calls Tryd.prog 29 #[.string a0] w fun e w' => e = .returned (.string r) ∧ Below w.heap.size w w' := by
  unfold sign_Fold.f at h
  by_cases h0 : a0.size ≤ 140737488355328
  · rw [if_pos h0] at h
    obtain rfl := Option.some.inj h
    clear h
    have kb := fun W => print_bytes (P := Tryd.prog) 9 25 5 Tryd.underlying9 Tryd.underlying25 Tryd.underlying5 a0 W
    go_enter Tryd.func29, Tryd.ntmps29
    go_wp2
    go_loopw [4, 5, 10] (fun _ _ v wr => ∃ x : Int, v = .int .i64 x ∧ Aside0 (0 ≤ x ∧ x ≤ a0.size) ∧ Aside0 (MRow wr w.heap.size 5 (((bytesOf a0).take x.toNat).map foldC ++ (bytesOf a0).drop x.toNat)) ∧ Aside0 (Below w.heap.size w wr)) (fun _ _ v _ => a0.size - (intOf v).toNat)
    case atStart => exact ⟨0, rfl, ⟨by omega, by omega⟩, ⟨by simpa using MRow.bytes w 5 a0⟩, ⟨bytes_below (Below.refl _ _) (Nat.le_refl _) _ _⟩⟩
    case round =>
      obtain ⟨x, rfl, HX, HM, HB⟩ := hrel
      have hlen : (((bytesOf a0).take x.toNat).map foldC ++ (bytesOf a0).drop x.toNat).length = a0.size := (fold_len _ _).trans (bytesOf_length a0)
      by_cases hlt : x < (a0.size : Int)
      · have hlb : x < ((bytesOf a0).length : Int) := by rw [bytesOf_length]; exact hlt
        have hc := HM.out.cell x HX.out.1 (by rw [hlen]; exact hlt)
        have hf := HM.out.free x HX.out.1 (by rw [hlen]; exact hlt)
        rw [fold_at _ x HX.out.1 hlb, rd_bytesOf] at hc
        have hst := fold_step (bytesOf a0) x HX.out.1 hlb
        have hsm := fold_same (bytesOf a0) x HX.out.1 hlb
        rw [rd_bytesOf] at hst hsm
        have hr := bt_range a0 x
        have HR := Aside0.mk hr
        obtain ⟨c, hcv⟩ : ∃ c, c = bt a0 x := ⟨_, rfl⟩
        rw [← hcv] at hc hst hsm hr
        have p1 : (0 ≤ x) = True := eq_true HX.out.1
        have q1 : (x < (a0.size : Int)) = True := eq_true hlt
        have q2 : decide (x < (a0.size : Int)) = true := decide_eq_true hlt
        have HLT := Aside0.mk hlt
        have HST := Aside0.mk hst
        have HSM := Aside0.mk hsm
        have HRR := Aside0.mk hr
        have HLN := Aside0.mk hlen
        have HCV := Aside0.mk hcv
        clear hlt hlb hst hsm hr hlen hcv
        have hw : Aside0 (wrap64 (x + 1) = x + 1) := ⟨by have := HX.out; unfold wrap64; omega⟩
        by_cases c1 : 65 ≤ c
        · have c1b : decide (c ≥ 65) = true := decide_eq_true c1
          have c1c : decide (65 ≤ c) = true := decide_eq_true c1
          by_cases c2 : c ≤ 90
          · have c2b : decide (c ≤ 90) = true := decide_eq_true c2
            have HC1 := Aside0.mk (And.intro c1 c2)
            go_wp2
            refine ⟨⟨x + 1, by rw [hw.out], ⟨by have := HX.out; omega, by have := HLT.out; omega⟩, ⟨?_⟩, ⟨HB.out.setCell (Nat.le_refl _) _⟩⟩, ?_⟩
            · rw [← HST.out]
              have hv : foldC c = c + 97 - 65 := by unfold foldC; rw [if_pos HC1.out]; omega
              rw [hv]
              exact HM.out.set x _
            · have := HX.out; have := HLT.out; rw [hw.out]; simp [intOf]; omega
          · have c2b : decide (c ≤ 90) = false := decide_eq_false c2
            go_wp2
            refine ⟨⟨x + 1, by rw [hw.out], ⟨by have := HX.out; omega, by have := HLT.out; omega⟩, ⟨?_⟩, HB⟩, ?_⟩
            · rw [← HSM.out (if_neg (by omega))]; exact HM.out
            · have := HX.out; have := HLT.out; rw [hw.out]; simp [intOf]; omega
        · have c1b : decide (c ≥ 65) = false := decide_eq_false c1
          have c1c : decide (65 ≤ c) = false := decide_eq_false c1
          go_wp2
          refine ⟨⟨x + 1, by rw [hw.out], ⟨by have := HX.out; omega, by have := HLT.out; omega⟩, ⟨?_⟩, HB⟩, ?_⟩
          · rw [← HSM.out (if_neg (by omega))]; exact HM.out
          · have := HX.out; have := HLT.out; rw [hw.out]; simp [intOf]; omega
      · have he : x = (a0.size : Int) := by have := HX.out; omega
        have hR := HM.out.reads (by rw [hlen]; omega)
        rw [hlen] at hR
        have hcv := string_of_reads (P := Tryd.prog) (src := 25) (dst := 9) (c := grownCap w a0.size 0 5) Tryd.underlying25 Tryd.underlying5 Tryd.underlying9 hR
        rw [show ((bytesOf a0).take x.toNat).map foldC ++ (bytesOf a0).drop x.toNat = (bytesOf a0).map foldC by rw [List.take_of_length_le (by rw [bytesOf_length]; omega), List.drop_of_length_le (by rw [bytesOf_length]; omega), List.append_nil]] at hcv
        have q2 : decide (x < (a0.size : Int)) = false := decide_eq_false hlt
        have HLN := Aside0.mk hlen
        clear hlt he hlen hR
        go_wp2
        go_ret
        exact ⟨rfl, HB.out⟩
  · rw [if_neg h0] at h
    cases h


end Go.Proofs.YtfjeinnemimjoaaDoor.P

namespace Go.Proofs.YtfjeinnemimjoaaDoor.P
open Go.RowKit Go.Proofs.YtfjeinnemimjoaaDoorW.PrintWords Go.Proofs.YtfjeinnemimjoaaDoorW.PrintLast Go.Proofs.YtfjeinnemimjoaaDoorW.PrintMore
attribute [local go_sem] max2_int min2_int max_two min_two max_three min_three max_four min_four   -- for this text's walks alone
set_option linter.unusedVariables false
set_option linter.unusedSimpArgs false

mutual
def sign_number.l0 : Nat → ByteArray → Int → Int → Int → Int → Int → Option (Int × Bool)
  | 0, _, _, _, _, _, _ => none
  | k + 1, x0, x1, x2, x8, x12, x13 => if x13 < x12 then (if 0 ≤ x13 then (if x13 ≤ (wrap64 (x13 + 1)) then (if (wrap64 (x13 + 1)) ≤ (x0.size : Int) then ((sign_Fold.f (x0.extract (x13 : Int).toNat ((wrap64 (x13 + 1)) : Int).toNat)).bind fun t107 => (if 0 < (t107.size : Int) then ((strings_IndexByte.f (⟨#[48, 49, 50, 51, 52, 53, 54, 55, 56, 57, 97, 98, 99, 100, 101, 102]⟩ : ByteArray) (bt t107 0)).bind fun t108 => (if t108 < 0 then (sign_number.j1 k x0 x1 x2 x8 x13 t108 x12 x13 true) else (sign_number.j1 k x0 x1 x2 x8 x13 t108 x12 x13 (decide (t108 ≥ x1))))) else (none))) else (none)) else (none)) else (none)) else (if x0.toList = ([] : List UInt8) then (some (0, false)) else (if (x0.size : Int) > x2 then (some (0, false)) else (some (x8, true))))
def sign_number.j1 : Nat → ByteArray → Int → Int → Int → Int → Int → Int → Int → Bool → Option (Int × Bool)
  | 0, _, _, _, _, _, _, _, _, _ => none
  | k + 1, x0, x1, x2, x8, x9, x10, x12, x13, x30 => if x30 = true then (some (0, false)) else (if x9 < x2 then (sign_number.l0 k x0 x1 x2 (wrap64 ((wrap64 (x8 * x1)) + x10)) x12 (wrap64 (x13 + 1))) else (sign_number.l0 k x0 x1 x2 x8 x12 (wrap64 (x13 + 1))))
end
def sign_number.f (k : Nat) (a0 : ByteArray) (a1 : Int) (a2 : Int) : Option (Int × Bool) := sign_number.l0 k a0 a1 a2 0 (a0.size : Int) 0
theorem sign_number.mono_l : ∀ k, (∀ y0 y1 y2 y3 y4 y5, LeO (sign_number.l0 k y0 y1 y2 y3 y4 y5) (sign_number.l0 (k + 1) y0 y1 y2 y3 y4 y5)) ∧ (∀ y0 y1 y2 y3 y4 y5 y6 y7 y8, LeO (sign_number.j1 k y0 y1 y2 y3 y4 y5 y6 y7 y8) (sign_number.j1 (k + 1) y0 y1 y2 y3 y4 y5 y6 y7 y8))
  | 0 => ⟨fun _ _ _ _ _ _ r h => by simp [sign_number.l0] at h, fun _ _ _ _ _ _ _ _ _ r h => by simp [sign_number.j1] at h⟩
  | k + 1 => by
    obtain ⟨ih0, ih1⟩ := sign_number.mono_l k
    refine ⟨?_, ?_⟩
    · intro y0 y1 y2 y3 y4 y5
      unfold sign_number.l0
      repeat' first
      | (with_reducible exact ih0 _ _ _ _ _ _)
      | (with_reducible exact ih1 _ _ _ _ _ _ _ _ _)
      | (with_reducible exact LeO.refl _)
      | (with_reducible exact LeO.none _)
      | (with_reducible refine LeO.ite ?_ ?_)
      | (with_reducible refine LeO.bind ?_ (fun _ => ?_))
      | exact ih0 _ _ _ _ _ _
      | exact ih1 _ _ _ _ _ _ _ _ _
      | exact LeO.none _
      | refine LeO.ite ?_ ?_
      | refine LeO.bind ?_ (fun _ => ?_)
    · intro y0 y1 y2 y3 y4 y5 y6 y7 y8
      unfold sign_number.j1
      repeat' first
      | (with_reducible exact ih0 _ _ _ _ _ _)
      | (with_reducible exact ih1 _ _ _ _ _ _ _ _ _)
      | (with_reducible exact LeO.refl _)
      | (with_reducible exact LeO.none _)
      | (with_reducible refine LeO.ite ?_ ?_)
      | (with_reducible refine LeO.bind ?_ (fun _ => ?_))
      | exact ih0 _ _ _ _ _ _
      | exact ih1 _ _ _ _ _ _ _ _ _
      | exact LeO.none _
      | refine LeO.ite ?_ ?_
      | refine LeO.bind ?_ (fun _ => ?_)
theorem sign_number.mono : ∀ a0 a1 a2 k, LeO (sign_number.f k a0 a1 a2) (sign_number.f (k + 1) a0 a1 a2) := by
  intro a0 a1 a2 k
  obtain ⟨ih0, ih1⟩ := sign_number.mono_l k
  unfold sign_number.f
  repeat' first
      | (with_reducible exact ih0 _ _ _ _ _ _)
      | (with_reducible exact ih1 _ _ _ _ _ _ _ _ _)
      | (with_reducible exact LeO.refl _)
      | (with_reducible exact LeO.none _)
      | (with_reducible refine LeO.ite ?_ ?_)
      | (with_reducible refine LeO.bind ?_ (fun _ => ?_))
      | exact ih0 _ _ _ _ _ _
      | exact ih1 _ _ _ _ _ _ _ _ _
      | exact LeO.none _
      | refine LeO.ite ?_ ?_
      | refine LeO.bind ?_ (fun _ => ?_)
set_option maxHeartbeats 8000000 in
set_option maxRecDepth 100000 in
theorem sign_number.calls (k : Nat) (a0 : ByteArray) (a1 : Int) (a2 : Int) (r1 : Int) (r2 : Bool) (w : World) (h : sign_number.f k a0 a1 a2 = some (r1, r2)) :
    Calls Tryd.prog 80 #[.string a0, .int .i64 a1, .int .i64 a2] w fun e w' => e = .returned (.tuple #[.int .i64 r1, .bool r2]) ∧ Below w.heap.size w w' := by
  have HB := Aside0.mk (Below.refl w.heap.size w)
  have H : (sign_number.l0 k a0 a1 a2 0 (a0.size : Int) 0) = some (r1, r2) := h
  clear h
  have H' := Aside0.mk H
  clear H
  go_enter Tryd.func80, Tryd.ntmps80
  go_wp2
  go_loopg [8, 13] k (fun kq v8 v13 w' => ∃ (x8_1 : Int) (x13_1 : Int), v8 = .int .i64 x8_1 ∧ v13 = .int .i64 x13_1 ∧ Aside0 (sign_number.l0 kq a0 a1 a2 x8_1 (a0.size : Int) x13_1 = some (r1, r2)) ∧ Aside0 (kq ≤ k) ∧ Aside0 (Below w.heap.size w w'))
  case atStart => exact ⟨(0), (0), (by first | rfl | (simp; done) | (simp [*]; done)), (by first | rfl | (simp; done) | (simp [*]; done)), H', ⟨Nat.le_refl _⟩, ⟨by repeat (first | (with_reducible first | exact HB.out | apply below_alloc | apply pw_below_drewN | apply below_drew1) | exact HB.out)⟩⟩
  case round =>
    clear H'
    try clear p2
    obtain ⟨x8_1, x13_1, rfl, rfl, HA, HK1, HB⟩ := hrel
    cases gk with
    | zero => exact absurd HA.out (by simp [sign_number.l0])
    | succ k1 =>
      have H := HA.out
      clear HA
      simp only [sign_number.l0] at H
      by_cases c4 : x13_1 < (a0.size : Int)
      · rw [if_pos c4] at H
        have c4b0 : decide (x13_1 < (a0.size : Int)) = true := decide_eq_true c4
        clear c4
        by_cases c5 : 0 ≤ x13_1
        · rw [if_pos c5] at H
          have c5b0 := eq_true c5
          have c5b1 : decide (0 ≤ x13_1) = true := decide_eq_true c5
          clear c5
          by_cases c6 : x13_1 ≤ (wrap64 (x13_1 + 1))
          · rw [if_pos c6] at H
            have c6b0 := eq_true c6
            have c6b1 : decide (x13_1 ≤ (wrap64 (x13_1 + 1))) = true := decide_eq_true c6
            by_cases c7 : (wrap64 (x13_1 + 1)) ≤ (a0.size : Int)
            · rw [if_pos c7] at H
              have c7b0 := eq_true c7
              have c7b1 : decide ((wrap64 (x13_1 + 1)) ≤ (a0.size : Int)) = true := decide_eq_true c7
              replace H := Option.bind_eq_some_iff.mp H
              obtain ⟨t107, A80, H⟩ := H
              replace H : (if 0 < (t107.size : Int) then ((strings_IndexByte.f (⟨#[48, 49, 50, 51, 52, 53, 54, 55, 56, 57, 97, 98, 99, 100, 101, 102]⟩ : ByteArray) (bt t107 0)).bind fun t108 => (if t108 < 0 then (sign_number.j1 k1 a0 a1 a2 x8_1 x13_1 t108 (a0.size : Int) x13_1 true) else (sign_number.j1 k1 a0 a1 a2 x8_1 x13_1 t108 (a0.size : Int) x13_1 (decide (t108 ≥ a1))))) else (none)) = some (r1, r2) := H
              have A8 := Aside0.mk A80
              clear A80
              by_cases c9 : 0 < (t107.size : Int)
              · rw [if_pos c9] at H
                have c9b0 : decide (0 < (t107.size : Int)) = true := decide_eq_true c9
                have c9b1 : decide (0 < t107.size) = true := decide_eq_true (by omega)
                clear c9
                replace H := Option.bind_eq_some_iff.mp H
                obtain ⟨t108, A110, H⟩ := H
                replace H : (if t108 < 0 then (sign_number.j1 k1 a0 a1 a2 x8_1 x13_1 t108 (a0.size : Int) x13_1 true) else (sign_number.j1 k1 a0 a1 a2 x8_1 x13_1 t108 (a0.size : Int) x13_1 (decide (t108 ≥ a1)))) = some (r1, r2) := H
                have A11 := Aside0.mk A110
                clear A110
                have HC12 := Aside0.mk H
                clear H
                go_upto_region 6 with (first | ((with_reducible refine gate_callee (f := 29) rfl ?_); refine goesL_ (some 21) rfl rfl Tryd.func29 (by kernel_rfl) rfl #[.string (a0.extract (x13_1 : Int).toNat ((wrap64 (x13_1 + 1)) : Int).toNat)] rfl (by (try simp only [List.map_toArray, List.map_cons, List.map_nil]); first | done | rfl | (simp only [List.length_drop, List.length_take]; rfl)) ?_; (with_reducible refine (sign_Fold.calls (a0.extract (x13_1 : Int).toNat ((wrap64 (x13_1 + 1)) : Int).toNat) t107 _ A8.out).mono ?_); rintro e w13 ⟨rfl, hb⟩; refine ⟨_, rfl, ?_⟩; have n0_ := Aside0.mk (below_step (by repeat (first | (with_reducible first | exact HB.out | apply below_alloc | apply pw_below_drewN | apply below_drew1) | exact HB.out)) hb); clear HB; have HB := n0_; clear n0_; (try clear hb); (try clear hb2); (try clear hk); (try clear hi); have p10 : 0 ≤ (0 : Int) := (by omega); have q10 : 0 < t107.size := (by have : (0 : Int) < (t107.size : Int) := of_decide_eq_true (by first | (with_reducible assumption) | assumption); omega); have hx10 : ∀ h : 0 < t107.size, ((t107[0]'h).toNat : Int) = bt t107 0 := bt_at t107 0; clear p10; have qi10 : (0 < (t107.size : Int)) = True := eq_true (of_decide_eq_true (by first | (with_reducible assumption) | assumption)); replace q10 := eq_true q10) | ((with_reducible refine gate_callee (f := 99) rfl ?_); refine goesL_ (some 23) rfl rfl Tryd.func99 (by kernel_rfl) rfl #[.string (⟨#[48, 49, 50, 51, 52, 53, 54, 55, 56, 57, 97, 98, 99, 100, 101, 102]⟩ : ByteArray), .int .u8 (bt t107 0)] rfl (by (try simp only [List.map_toArray, List.map_cons, List.map_nil]); first | done | rfl | (simp only [List.length_drop, List.length_take]; rfl)) ?_; (with_reducible refine (strings_IndexByte.calls (⟨#[48, 49, 50, 51, 52, 53, 54, 55, 56, 57, 97, 98, 99, 100, 101, 102]⟩ : ByteArray) (bt t107 0) t108 _ A11.out).mono ?_); rintro e w' ⟨rfl, ⟨nd, rfl⟩⟩; refine ⟨_, rfl, ?_⟩))
                (try simp only [Act.put, List.setIfInBounds_toArray, List.set_cons_zero, List.set_cons_succ])
                go_cut [30] (fun v30 wc => ∃ (kq : Nat) (x30_11 : Bool), v30 = .bool x30_11 ∧ Aside0 (sign_number.j1 kq a0 a1 a2 x8_1 x13_1 t108 (a0.size : Int) x13_1 x30_11 = some (r1, r2)) ∧ Aside0 (kq ≤ k1) ∧ Aside0 (Below w.heap.size w wc))
                case first =>
                  have H := HC12.out
                  clear HC12
                  by_cases c14 : t108 < 0
                  · rw [if_pos c14] at H
                    have c14b0 : decide (t108 < 0) = true := decide_eq_true c14
                    clear c14
                    (first | rw [c14b0] | (simp only [i64_w, i32_w]; rw [c14b0]) | skip)
                    have H' := Aside0.mk H
                    clear H
                    go_wp2
                    go_meet
                    case rel => exact ⟨_, (true), (by first | rfl | (simp; done) | (simp [*]; done)), H', ⟨by have := HK1.out; first | omega | exact Nat.le_refl _⟩, ⟨by repeat (first | (with_reducible first | exact HB.out | apply below_alloc | apply pw_below_drewN | apply below_drew1) | exact HB.out)⟩⟩
                  · rw [if_neg c14] at H
                    have c14b0 : decide (t108 < 0) = false := decide_eq_false c14
                    clear c14
                    (first | rw [c14b0] | (simp only [i64_w, i32_w]; rw [c14b0]) | skip)
                    have H' := Aside0.mk H
                    clear H
                    go_wp2
                    go_meet
                    case rel => exact ⟨_, (decide (t108 ≥ a1)), (by first | rfl | (simp; done) | (simp [*]; done)), H', ⟨by have := HK1.out; first | omega | exact Nat.le_refl _⟩, ⟨by repeat (first | (with_reducible first | exact HB.out | apply below_alloc | apply pw_below_drewN | apply below_drew1) | exact HB.out)⟩⟩
                case rest =>
                  clear HC12
                  try clear c1
                  try clear p1
                  try clear q1
                  try clear hx1
                  try clear qi1
                  try clear c2
                  try clear p2
                  try clear c4
                  try clear c4b0
                  try clear c5
                  try clear c5b0
                  try clear c5b1
                  try clear c6
                  try clear c6b0
                  try clear c6b1
                  try clear p6
                  try clear c7
                  try clear c7b0
                  try clear c7b1
                  try clear c8
                  try clear c9
                  try clear c9b0
                  try clear c9b1
                  try clear p10
                  try clear q10
                  try clear hx10
                  try clear qi10
                  try clear c14
                  try clear c14b0
                  try clear p10
                  try clear p2
                  try clear q10
                  obtain ⟨kq, x30_11, rfl, HA, HJ11, HB⟩ := hcut
                  cases kq with
                  | zero => exact absurd HA.out (by simp [sign_number.j1])
                  | succ kj11 =>
                    have H := HA.out
                    clear HA
                    simp only [sign_number.j1] at H
                    by_cases c15 : x30_11 = true
                    · subst c15
                      have H1 : (some (0, false)) = some (r1, r2) := by rw [if_pos rfl] at H; exact H
                      clear H
                      have H := H1
                      clear H1
                      simp only [Option.some.injEq, Prod.mk.injEq] at H
                      obtain ⟨rfl, rfl⟩ := H
                      go_wp2
                      go_ret2
                      exact ⟨by first | rfl | (simp [errW_none, errW_some] <;> rfl) | (simp [*, errW_none, errW_some] <;> rfl), by repeat (first | (with_reducible first | exact HB.out | apply below_alloc | apply pw_below_drewN | apply below_drew1) | exact HB.out)⟩
                    · replace c15 := Bool.eq_false_iff.mpr c15
                      subst c15
                      have H1 : (if x13_1 < a2 then (sign_number.l0 kj11 a0 a1 a2 (wrap64 ((wrap64 (x8_1 * a1)) + t108)) (a0.size : Int) (wrap64 (x13_1 + 1))) else (sign_number.l0 kj11 a0 a1 a2 x8_1 (a0.size : Int) (wrap64 (x13_1 + 1)))) = some (r1, r2) := by rw [if_neg (show ¬ (false = true) by decide)] at H; exact H
                      clear H
                      have H := H1
                      clear H1
                      by_cases c16 : x13_1 < a2
                      · rw [if_pos c16] at H
                        have c16b0 : decide (x13_1 < a2) = true := decide_eq_true c16
                        clear c16
                        have H' := Aside0.mk H
                        clear H
                        go_wp2
                        go_roundg kj11
                        case measure => have := HK1.out; have := HJ11.out; omega
                        case rel => exact ⟨(wrap64 ((wrap64 (x8_1 * a1)) + t108)), (wrap64 (x13_1 + 1)), (by first | rfl | (simp; done) | (simp [*]; done)), (by first | rfl | (simp; done) | (simp [*]; done)), H', ⟨by have := HK1.out; have := HJ11.out; omega⟩, ⟨by repeat (first | (with_reducible first | exact HB.out | apply below_alloc | apply pw_below_drewN | apply below_drew1) | exact HB.out)⟩⟩
                      · rw [if_neg c16] at H
                        have c16b0 : decide (x13_1 < a2) = false := decide_eq_false c16
                        clear c16
                        have H' := Aside0.mk H
                        clear H
                        go_wp2
                        go_roundg kj11
                        case measure => have := HK1.out; have := HJ11.out; omega
                        case rel => exact ⟨(x8_1), (wrap64 (x13_1 + 1)), (by first | rfl | (simp; done) | (simp [*]; done)), (by first | rfl | (simp; done) | (simp [*]; done)), H', ⟨by have := HK1.out; have := HJ11.out; omega⟩, ⟨by repeat (first | (with_reducible first | exact HB.out | apply below_alloc | apply pw_below_drewN | apply below_drew1) | exact HB.out)⟩⟩
              · rw [if_neg c9] at H
                exact absurd H (by simp)
            · rw [if_neg c7] at H
              exact absurd H (by simp)
          · rw [if_neg c6] at H
            exact absurd H (by simp)
        · rw [if_neg c5] at H
          exact absurd H (by simp)
      · rw [if_neg c4] at H
        have c4b0 : decide (x13_1 < (a0.size : Int)) = false := decide_eq_false c4
        clear c4
        by_cases c17 : a0.toList = ([] : List UInt8)
        · rw [if_pos c17] at H
          have c17b0 : (a0.toList == ([] : List UInt8)) = true := beq_iff_eq.mpr c17
          have c17b1 : (a0.toList != ([] : List UInt8)) = false := bne_eq_false_iff_eq.mpr c17
          clear c17
          simp only [Option.some.injEq, Prod.mk.injEq] at H
          obtain ⟨rfl, rfl⟩ := H
          go_wp2
          go_ret2
          exact ⟨by first | rfl | (simp [errW_none, errW_some] <;> rfl) | (simp [*, errW_none, errW_some] <;> rfl), by repeat (first | (with_reducible first | exact HB.out | apply below_alloc | apply pw_below_drewN | apply below_drew1) | exact HB.out)⟩
        · rw [if_neg c17] at H
          have c17b0 : (a0.toList == ([] : List UInt8)) = false := beq_eq_false_iff_ne.mpr c17
          have c17b1 : (a0.toList != ([] : List UInt8)) = true := bne_iff_ne.mpr c17
          by_cases c18 : (a0.size : Int) > a2
          · rw [if_pos c18] at H
            have c18b0 : decide (a2 < (a0.size : Int)) = true := decide_eq_true c18
            clear c18
            simp only [Option.some.injEq, Prod.mk.injEq] at H
            obtain ⟨rfl, rfl⟩ := H
            go_wp2
            go_ret2
            exact ⟨by first | rfl | (simp [errW_none, errW_some] <;> rfl) | (simp [*, errW_none, errW_some] <;> rfl), by repeat (first | (with_reducible first | exact HB.out | apply below_alloc | apply pw_below_drewN | apply below_drew1) | exact HB.out)⟩
          · rw [if_neg c18] at H
            have c18b0 : decide (a2 < (a0.size : Int)) = false := decide_eq_false c18
            clear c18
            simp only [Option.some.injEq, Prod.mk.injEq] at H
            obtain ⟨rfl, rfl⟩ := H
            go_wp2
            go_ret2
            exact ⟨by first | rfl | (simp [errW_none, errW_some] <;> rfl) | (simp [*, errW_none, errW_some] <;> rfl), by repeat (first | (with_reducible first | exact HB.out | apply below_alloc | apply pw_below_drewN | apply below_drew1) | exact HB.out)⟩

end Go.Proofs.YtfjeinnemimjoaaDoor.P

namespace Go.Proofs.YtfjeinnemimjoaaDoor.P
open Go.RowKit Go.Proofs.YtfjeinnemimjoaaDoorW.PrintWords Go.Proofs.YtfjeinnemimjoaaDoorW.PrintLast Go.Proofs.YtfjeinnemimjoaaDoorW.PrintMore
attribute [local go_sem] max2_int min2_int max_two min_two max_three min_three max_four min_four   -- for this text's walks alone
set_option linter.unusedVariables false
set_option linter.unusedSimpArgs false

def sign_Hex.f (k : Nat) (a0 : ByteArray) : Option (Int × Bool) := (sign_number.f k a0 16 15).bind fun bt144 => (some (bt144.1, bt144.2))
theorem sign_Hex.mono : ∀ a0 k, LeO (sign_Hex.f k a0) (sign_Hex.f (k + 1) a0) := by
  intro a0 k
  unfold sign_Hex.f
  repeat' first
      | (with_reducible exact sign_number.mono _ _ _ _)
      | (with_reducible exact LeO.refl _)
      | (with_reducible exact LeO.none _)
      | (with_reducible refine LeO.ite ?_ ?_)
      | (with_reducible refine LeO.bind ?_ (fun _ => ?_))
      | exact sign_number.mono _ _ _ _
      | exact LeO.none _
      | refine LeO.ite ?_ ?_
      | refine LeO.bind ?_ (fun _ => ?_)
set_option maxHeartbeats 8000000 in
set_option maxRecDepth 100000 in
theorem sign_Hex.calls (k : Nat) (a0 : ByteArray) (r1 : Int) (r2 : Bool) (w : World) (h : sign_Hex.f k a0 = some (r1, r2)) :
    Calls Tryd.prog 52 #[.string a0] w fun e w' => e = .returned (.tuple #[.int .i64 r1, .bool r2]) ∧ Below w.heap.size w w' := by
  have HB := Aside0.mk (Below.refl w.heap.size w)
  have H : ((sign_number.f k a0 16 15).bind fun bt144 => (some (bt144.1, bt144.2))) = some (r1, r2) := h
  clear h
  replace H := Option.bind_eq_some_iff.mp H
  obtain ⟨⟨t144, t145⟩, A20, H⟩ := H
  replace H : (some (t144, t145)) = some (r1, r2) := H
  have A2 := Aside0.mk A20
  clear A20
  simp only [Option.some.injEq, Prod.mk.injEq] at H
  obtain ⟨rfl, rfl⟩ := H
  go_enter Tryd.func52, Tryd.ntmps52
  go_wp2_with (first | ((with_reducible refine gate_callee (f := 80) rfl ?_); refine goesL_ (some 5) rfl rfl Tryd.func80 (by kernel_rfl) rfl #[.string a0, .int .i64 16, .int .i64 15] rfl (by (try simp only [List.map_toArray, List.map_cons, List.map_nil]); first | done | rfl | (simp only [List.length_drop, List.length_take]; rfl)) ?_; (with_reducible refine (sign_number.calls k a0 16 15 t144 t145 _ A2.out).mono ?_); rintro e w3 ⟨rfl, hb⟩; (try clear A2); refine ⟨_, rfl, ?_⟩; have n0_ := Aside0.mk (below_step (by repeat (first | (with_reducible first | exact HB.out | apply below_alloc | apply pw_below_drewN | apply below_drew1) | exact HB.out)) hb); clear HB; have HB := n0_; clear n0_; (try clear hb); (try clear hb2); (try clear hk); (try clear hi)))
  go_ret2
  exact ⟨by first | rfl | (simp [errW_none, errW_some] <;> rfl) | (simp [*, errW_none, errW_some] <;> rfl), by repeat (first | (with_reducible first | exact HB.out | apply below_alloc | apply pw_below_drewN | apply below_drew1) | exact HB.out)⟩

end Go.Proofs.YtfjeinnemimjoaaDoor.P

namespace Go.Proofs.YtfjeinnemimjoaaDoor.P
open Go.RowKit Go.Proofs.YtfjeinnemimjoaaDoorW.PrintWords Go.Proofs.YtfjeinnemimjoaaDoorW.PrintLast Go.Proofs.YtfjeinnemimjoaaDoorW.PrintMore
attribute [local go_sem] max2_int min2_int max_two min_two max_three min_three max_four min_four   -- for this text's walks alone
set_option linter.unusedVariables false
set_option linter.unusedSimpArgs false

def sign_Value_1.f (a0 : Int) : Option (Bool) := if a0 ≥ 32 then (if a0 = 127 then (some (a0 == 9)) else (some true)) else (some (a0 == 9))
set_option maxHeartbeats 8000000 in
set_option maxRecDepth 100000 in
theorem sign_Value_1.calls (a0 : Int) (r : Bool) (w : World) (h : sign_Value_1.f a0 = some r) :
    Calls Tryd.prog 86 #[.int .u8 a0] w fun e w' => e = .returned (.bool r) ∧ Drawn0 w w' := by
  have H : (if a0 ≥ 32 then (if a0 = 127 then (some (a0 == 9)) else (some true)) else (some (a0 == 9))) = some r := h
  clear h
  by_cases c2 : a0 ≥ 32
  · rw [if_pos c2] at H
    have c2b0 : decide (32 ≤ a0) = true := decide_eq_true c2
    clear c2
    by_cases c3 : a0 = 127
    · rw [if_pos c3] at H
      have c3b0 : (a0 == 127) = true := beq_iff_eq.mpr c3
      have c3b1 : (a0 != 127) = false := bne_eq_false_iff_eq.mpr c3
      clear c3
      obtain rfl := Option.some.inj H
      go_enter Tryd.func86, Tryd.ntmps86
      go_wp2
      go_ret
      exact ⟨by first | rfl | (simp; done) | (simp [*]; done), by repeat (first | exact Drawn0.refl _ | apply Drawn0.step)⟩
    · rw [if_neg c3] at H
      have c3b0 : (a0 == 127) = false := beq_eq_false_iff_ne.mpr c3
      have c3b1 : (a0 != 127) = true := bne_iff_ne.mpr c3
      obtain rfl := Option.some.inj H
      go_enter Tryd.func86, Tryd.ntmps86
      go_wp2
      go_ret
      exact ⟨by first | rfl | (simp; done) | (simp [*]; done), by repeat (first | exact Drawn0.refl _ | apply Drawn0.step)⟩
  · rw [if_neg c2] at H
    have c2b0 : decide (32 ≤ a0) = false := decide_eq_false c2
    clear c2
    obtain rfl := Option.some.inj H
    go_enter Tryd.func86, Tryd.ntmps86
    go_wp2
    go_ret
    exact ⟨by first | rfl | (simp; done) | (simp [*]; done), by repeat (first | exact Drawn0.refl _ | apply Drawn0.step)⟩

end Go.Proofs.YtfjeinnemimjoaaDoor.P

namespace Go.Proofs.YtfjeinnemimjoaaDoor.P
open Go.RowKit Go.Proofs.YtfjeinnemimjoaaDoorW.PrintWords Go.Proofs.YtfjeinnemimjoaaDoorW.PrintLast Go.Proofs.YtfjeinnemimjoaaDoorW.PrintMore
attribute [local go_sem] max2_int min2_int max_two min_two max_three min_three max_four min_four   -- for this text's walks alone
set_option linter.unusedVariables false
set_option linter.unusedSimpArgs false

/-- all, at any function value that tells p of every byte. -/
theorem sign_all.callsOf (K : Nat) (p : Int → Bool) (hK : ∀ args w, (callFunc K args).run Tryd.prog w = .ok (.enter K args) w)
    (hp : ∀ c w, 0 ≤ c → c ≤ 255 → Calls Tryd.prog K #[.int .u8 c] w fun e w' => e = .returned (.bool (p c)) ∧ Drawn0 w w')
    (a0 : ByteArray) (h0 : a0.size ≤ 140737488355328) (w : World) :
    Calls Tryd.prog 85 #[.string a0, .func (.func K) #[] #[]] w fun e w' => e = .returned (.bool ((bytesOf a0).all p)) ∧ Drawn0 w w' := by
  go_enter Tryd.func85, Tryd.ntmps85
  go_wp2
  go_loopw [8] (fun v wr => ∃ x : Int, v = .int .i64 x ∧ Aside0 (0 ≤ x ∧ x ≤ a0.size) ∧ Aside0 ((bytesOf a0).all p = ((bytesOf a0).drop x.toNat).all p) ∧ Drawn0 w wr) (fun v _ => a0.size - (intOf v).toNat)
  case atStart => exact ⟨0, rfl, ⟨by omega, by omega⟩, ⟨by simp⟩, Drawn0.refl _⟩
  case round =>
    obtain ⟨x, rfl, HX, HA, ⟨m, rfl⟩⟩ := hrel
    by_cases hlt : x < (a0.size : Int)
    · have hx := bt_at a0 x
      have hr := bt_range a0 x
      have HR := Aside0.mk hr
      clear hr
      have HN := Aside0.mk (bytes_drop_all p a0 x HX.out.1 hlt)
      have p1 : (0 ≤ x) = True := eq_true HX.out.1
      have q1 : (x < (a0.size : Int)) = True := eq_true hlt
      have q2 : decide (x < (a0.size : Int)) = true := decide_eq_true hlt
      have hlt' := Aside0.mk hlt
      clear hlt
      cases hpc : p (bt a0 x)
      · have HN' := HN.out
        rw [hpc] at HN'
        have HE := Aside0.mk (HA.out.trans HN')
        clear HN' HN HA
        go_wp2_with ((with_reducible refine (hp (bt a0 x) _ HR.out.1 HR.out.2).mono ?_); rintro e w' ⟨rfl, ⟨nd, rfl⟩⟩; rw [hpc])
        go_ret
        exact ⟨by rw [HE.out]; rfl, by repeat (first | exact Drawn0.refl _ | apply Drawn0.step)⟩
      · have HN' := HN.out
        rw [hpc] at HN'
        have HE := Aside0.mk (HA.out.trans HN')
        clear HN' HN HA
        go_wp2_with ((with_reducible refine (hp (bt a0 x) _ HR.out.1 HR.out.2).mono ?_); rintro e w' ⟨rfl, ⟨nd, rfl⟩⟩; rw [hpc])
        go_roundw
        case rel =>
          have hw : wrap64 (x + 1) = x + 1 := by have := HX.out; unfold wrap64; omega
          exact ⟨x + 1, by rw [hw], ⟨by have := HX.out; omega, by have := hlt'.out; omega⟩, ⟨by have := HX.out; rw [HE.out, show (x + 1).toNat = x.toNat + 1 by omega]; simp⟩, by repeat (first | exact Drawn0.refl _ | apply Drawn0.step)⟩
        case measure =>
          have hw : wrap64 (x + 1) = x + 1 := by have := HX.out; unfold wrap64; omega
          have := HX.out
          have := hlt'.out
          simp [intOf, hw]
          omega
    · have HE := Aside0.mk (HA.out)
      clear HA
      have hge := Aside0.mk hlt
      have q2 : decide (x < (a0.size : Int)) = false := decide_eq_false hlt
      clear hlt
      go_wp2
      go_ret
      exact ⟨by have := hge.out; have := HX.out; rw [HE.out, List.drop_of_length_le (by rw [bytesOf_length]; omega)]; rfl, by repeat (first | exact Drawn0.refl _ | apply Drawn0.step)⟩


end Go.Proofs.YtfjeinnemimjoaaDoor.P

namespace Go.Proofs.YtfjeinnemimjoaaDoor.P
open Go.RowKit Go.Proofs.YtfjeinnemimjoaaDoorW.PrintWords Go.Proofs.YtfjeinnemimjoaaDoorW.PrintLast Go.Proofs.YtfjeinnemimjoaaDoorW.PrintMore
attribute [local go_sem] max2_int min2_int max_two min_two max_three min_three max_four min_four   -- for this text's walks alone
set_option linter.unusedVariables false
set_option linter.unusedSimpArgs false

def sign_Value.f (a0 : ByteArray) : Option Bool := if a0.size ≤ 140737488355328 then some ((bytesOf a0).all fun c => (sign_Value_1.f c).getD false) else none
theorem sign_Value_1.tells (c : Int) : ∃ b, sign_Value_1.f c = some b := by
  unfold sign_Value_1.f
  repeat' split
  all_goals exact ⟨_, rfl⟩
theorem sign_Value_1.any (c : Int) (w : World) : Calls Tryd.prog 86 #[.int .u8 c] w fun e w' => e = .returned (.bool ((sign_Value_1.f c).getD false)) ∧ Drawn0 w w' := by
  obtain ⟨b, hb⟩ := sign_Value_1.tells c
  have := sign_Value_1.calls c b w hb
  rw [hb]
  exact this
theorem sign_Value.calls (a0 : ByteArray) (r : Bool) (w : World) (h : sign_Value.f a0 = some r) :
    Calls Tryd.prog 54 #[.string a0] w fun e w' => e = .returned (.bool r) ∧ Drawn0 w w' := by
  unfold sign_Value.f at h
  by_cases h0 : a0.size ≤ 140737488355328
  · rw [if_pos h0] at h
    obtain rfl := Option.some.inj h
    clear h
    have he : ∀ args w, (callFunc 86 args).run Tryd.prog w = .ok (.enter 86 args) w := fun args w => enters_ Tryd.func86 (by kernel_rfl) rfl args w
    have HC := Aside0.mk (fun w' => sign_all.callsOf 86 (fun c => (sign_Value_1.f c).getD false) he (fun c w _ _ => sign_Value_1.any c w) a0 h0 w')
    clear he h0
    go_enter Tryd.func54, Tryd.ntmps54
    go_wp2_with (go_at_call 85; (with_reducible refine (HC.out _).mono ?_); rintro e w' ⟨rfl, ⟨nd, rfl⟩⟩)
    go_ret
    exact ⟨rfl, by repeat (first | exact Drawn0.refl _ | apply Drawn0.step)⟩
  · rw [if_neg h0] at h
    cases h


end Go.Proofs.YtfjeinnemimjoaaDoor.P

namespace Go.Proofs.YtfjeinnemimjoaaDoor.P
open Go.RowKit Go.Proofs.YtfjeinnemimjoaaDoorW.PrintWords Go.Proofs.YtfjeinnemimjoaaDoorW.PrintLast Go.Proofs.YtfjeinnemimjoaaDoorW.PrintMore
attribute [local go_sem] max2_int min2_int max_two min_two max_three min_three max_four min_four   -- for this text's walks alone
set_option linter.unusedVariables false
set_option linter.unusedSimpArgs false

def sign_alnum.f (a0 : Int) : Option (Bool) := if a0 ≥ 97 then (if a0 ≤ 122 then (some true) else (if a0 ≥ 65 then (if a0 ≤ 90 then (some true) else (if a0 ≥ 48 then (some (decide (a0 ≤ 57))) else (some false))) else (if a0 ≥ 48 then (some (decide (a0 ≤ 57))) else (some false)))) else (if a0 ≥ 65 then (if a0 ≤ 90 then (some true) else (if a0 ≥ 48 then (some (decide (a0 ≤ 57))) else (some false))) else (if a0 ≥ 48 then (some (decide (a0 ≤ 57))) else (some false)))
set_option maxHeartbeats 8000000 in
set_option maxRecDepth 100000 in
theorem sign_alnum.calls (a0 : Int) (r : Bool) (w : World) (h : sign_alnum.f a0 = some r) :
    Calls Tryd.prog 122 #[.int .u8 a0] w fun e w' => e = .returned (.bool r) ∧ Drawn0 w w' := by
  have H : (if a0 ≥ 97 then (if a0 ≤ 122 then (some true) else (if a0 ≥ 65 then (if a0 ≤ 90 then (some true) else (if a0 ≥ 48 then (some (decide (a0 ≤ 57))) else (some false))) else (if a0 ≥ 48 then (some (decide (a0 ≤ 57))) else (some false)))) else (if a0 ≥ 65 then (if a0 ≤ 90 then (some true) else (if a0 ≥ 48 then (some (decide (a0 ≤ 57))) else (some false))) else (if a0 ≥ 48 then (some (decide (a0 ≤ 57))) else (some false)))) = some r := h
  clear h
  by_cases c2 : a0 ≥ 97
  · rw [if_pos c2] at H
    have c2b0 : decide (97 ≤ a0) = true := decide_eq_true c2
    clear c2
    by_cases c3 : a0 ≤ 122
    · rw [if_pos c3] at H
      have c3b0 : decide (a0 ≤ 122) = true := decide_eq_true c3
      clear c3
      obtain rfl := Option.some.inj H
      go_enter Tryd.func122, Tryd.ntmps122
      go_wp2
      go_ret
      exact ⟨by first | rfl | (simp; done) | (simp [*]; done), by repeat (first | exact Drawn0.refl _ | apply Drawn0.step)⟩
    · rw [if_neg c3] at H
      have c3b0 : decide (a0 ≤ 122) = false := decide_eq_false c3
      clear c3
      by_cases c4 : a0 ≥ 65
      · rw [if_pos c4] at H
        have c4b0 : decide (65 ≤ a0) = true := decide_eq_true c4
        clear c4
        by_cases c5 : a0 ≤ 90
        · rw [if_pos c5] at H
          have c5b0 : decide (a0 ≤ 90) = true := decide_eq_true c5
          clear c5
          obtain rfl := Option.some.inj H
          go_enter Tryd.func122, Tryd.ntmps122
          go_wp2
          go_ret
          exact ⟨by first | rfl | (simp; done) | (simp [*]; done), by repeat (first | exact Drawn0.refl _ | apply Drawn0.step)⟩
        · rw [if_neg c5] at H
          have c5b0 : decide (a0 ≤ 90) = false := decide_eq_false c5
          clear c5
          by_cases c6 : a0 ≥ 48
          · rw [if_pos c6] at H
            have c6b0 : decide (48 ≤ a0) = true := decide_eq_true c6
            clear c6
            obtain rfl := Option.some.inj H
            go_enter Tryd.func122, Tryd.ntmps122
            go_wp2
            go_ret
            exact ⟨by first | rfl | (simp; done) | (simp [*]; done), by repeat (first | exact Drawn0.refl _ | apply Drawn0.step)⟩
          · rw [if_neg c6] at H
            have c6b0 : decide (48 ≤ a0) = false := decide_eq_false c6
            clear c6
            obtain rfl := Option.some.inj H
            go_enter Tryd.func122, Tryd.ntmps122
            go_wp2
            go_ret
            exact ⟨by first | rfl | (simp; done) | (simp [*]; done), by repeat (first | exact Drawn0.refl _ | apply Drawn0.step)⟩
      · rw [if_neg c4] at H
        have c4b0 : decide (65 ≤ a0) = false := decide_eq_false c4
        clear c4
        by_cases c7 : a0 ≥ 48
        · rw [if_pos c7] at H
          have c7b0 : decide (48 ≤ a0) = true := decide_eq_true c7
          clear c7
          obtain rfl := Option.some.inj H
          go_enter Tryd.func122, Tryd.ntmps122
          go_wp2
          go_ret
          exact ⟨by first | rfl | (simp; done) | (simp [*]; done), by repeat (first | exact Drawn0.refl _ | apply Drawn0.step)⟩
        · rw [if_neg c7] at H
          have c7b0 : decide (48 ≤ a0) = false := decide_eq_false c7
          clear c7
          obtain rfl := Option.some.inj H
          go_enter Tryd.func122, Tryd.ntmps122
          go_wp2
          go_ret
          exact ⟨by first | rfl | (simp; done) | (simp [*]; done), by repeat (first | exact Drawn0.refl _ | apply Drawn0.step)⟩
  · rw [if_neg c2] at H
    have c2b0 : decide (97 ≤ a0) = false := decide_eq_false c2
    clear c2
    by_cases c8 : a0 ≥ 65
    · rw [if_pos c8] at H
      have c8b0 : decide (65 ≤ a0) = true := decide_eq_true c8
      clear c8
      by_cases c9 : a0 ≤ 90
      · rw [if_pos c9] at H
        have c9b0 : decide (a0 ≤ 90) = true := decide_eq_true c9
        clear c9
        obtain rfl := Option.some.inj H
        go_enter Tryd.func122, Tryd.ntmps122
        go_wp2
        go_ret
        exact ⟨by first | rfl | (simp; done) | (simp [*]; done), by repeat (first | exact Drawn0.refl _ | apply Drawn0.step)⟩
      · rw [if_neg c9] at H
        have c9b0 : decide (a0 ≤ 90) = false := decide_eq_false c9
        clear c9
        by_cases c10 : a0 ≥ 48
        · rw [if_pos c10] at H
          have c10b0 : decide (48 ≤ a0) = true := decide_eq_true c10
          clear c10
          obtain rfl := Option.some.inj H
          go_enter Tryd.func122, Tryd.ntmps122
          go_wp2
          go_ret
          exact ⟨by first | rfl | (simp; done) | (simp [*]; done), by repeat (first | exact Drawn0.refl _ | apply Drawn0.step)⟩
        · rw [if_neg c10] at H
          have c10b0 : decide (48 ≤ a0) = false := decide_eq_false c10
          clear c10
          obtain rfl := Option.some.inj H
          go_enter Tryd.func122, Tryd.ntmps122
          go_wp2
          go_ret
          exact ⟨by first | rfl | (simp; done) | (simp [*]; done), by repeat (first | exact Drawn0.refl _ | apply Drawn0.step)⟩
    · rw [if_neg c8] at H
      have c8b0 : decide (65 ≤ a0) = false := decide_eq_false c8
      clear c8
      by_cases c11 : a0 ≥ 48
      · rw [if_pos c11] at H
        have c11b0 : decide (48 ≤ a0) = true := decide_eq_true c11
        clear c11
        obtain rfl := Option.some.inj H
        go_enter Tryd.func122, Tryd.ntmps122
        go_wp2
        go_ret
        exact ⟨by first | rfl | (simp; done) | (simp [*]; done), by repeat (first | exact Drawn0.refl _ | apply Drawn0.step)⟩
      · rw [if_neg c11] at H
        have c11b0 : decide (48 ≤ a0) = false := decide_eq_false c11
        clear c11
        obtain rfl := Option.some.inj H
        go_enter Tryd.func122, Tryd.ntmps122
        go_wp2
        go_ret
        exact ⟨by first | rfl | (simp; done) | (simp [*]; done), by repeat (first | exact Drawn0.refl _ | apply Drawn0.step)⟩

end Go.Proofs.YtfjeinnemimjoaaDoor.P

