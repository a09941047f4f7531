/- Each function below answers as its Lean twin says; a law answers true at every input that its row speaks of. No further condition. (Laid by this repo's seatprint.py.) -/
import Derived.Test.YthkkkfeiklfjoaaDoorPx0
import Derived.Test.YthkkkfeiklfjoaaDoorBaseRow
namespace Go.Proofs.YthkkkfeiklfjoaaDoor.P
open Go.RowKit Go.Proofs.YthkkkfeiklfjoaaDoorW.PrintWords Go.Proofs.YthkkkfeiklfjoaaDoorW.PrintLast Go.Proofs.YthkkkfeiklfjoaaDoorW.PrintMore
attribute [local go_sem] max2_int min2_int max_two min_two max_three min_three max_four min_four   -- for this text's walks alone
set_option linter.unusedVariables false
set_option linter.unusedSimpArgs false

/-! ### sign_Fold: function 21 -/
def foldC (c : Int) : Int := if 65 ≤ c ∧ c ≤ 90 then c + 32 else c
def sign_Fold.f (a0 : ByteArray) : Option ByteArray := if a0.size ≤ 140737488355328 then some (strOfNums ((bytesOf a0).map foldC)) else none
theorem fold_step (l : List Int) (x : Int) (h0 : 0 ≤ x) (h : x < (l.length : Int)) :
    ((l.take x.toNat).map foldC ++ l.drop x.toNat).set x.toNat (foldC (rd l x)) = (l.take (x + 1).toNat).map foldC ++ l.drop (x + 1).toNat := by
  obtain ⟨n, rfl⟩ := Int.eq_ofNat_of_zero_le h0
  have hl : n < l.length := by omega
  have e : ((n : Int) + 1).toNat = n + 1 := by omega
  have hm : ((l.take n).map foldC).length = n := by rw [List.length_map, List.length_take]; omega
  have hr : rd l n = l[n] := by simp [rd, List.getD_eq_getElem?_getD, List.getElem?_eq_getElem hl]
  rw [e, Int.toNat_natCast, List.set_append_right _ _ (by omega), hm, Nat.sub_self, List.drop_eq_getElem_cons hl, List.set_cons_zero, List.take_succ_eq_append_getElem hl, List.map_append, hr]
  simp only [List.map_cons, List.map_nil, List.append_assoc, List.cons_append, List.nil_append]
theorem fold_same (l : List Int) (x : Int) (h0 : 0 ≤ x) (h : x < (l.length : Int)) (hs : foldC (rd l x) = rd l x) :
    (l.take x.toNat).map foldC ++ l.drop x.toNat = (l.take (x + 1).toNat).map foldC ++ l.drop (x + 1).toNat := by
  obtain ⟨n, rfl⟩ := Int.eq_ofNat_of_zero_le h0
  have hl : n < l.length := by omega
  have e : ((n : Int) + 1).toNat = n + 1 := by omega
  have hr : rd l n = l[n] := by simp [rd, List.getD_eq_getElem?_getD, List.getElem?_eq_getElem hl]
  rw [hr] at hs
  rw [e, Int.toNat_natCast, List.drop_eq_getElem_cons hl, List.take_succ_eq_append_getElem hl, List.map_append]
  simp only [List.map_cons, List.map_nil, List.append_assoc, List.cons_append, List.nil_append, hs]
theorem fold_at (l : List Int) (x : Int) (h0 : 0 ≤ x) (h : x < (l.length : Int)) : rd ((l.take x.toNat).map foldC ++ l.drop x.toNat) x = rd l x := by
  have hl : x.toNat < l.length := by omega
  have hm : ((l.take x.toNat).map foldC).length = x.toNat := by simp; omega
  unfold rd
  rw [List.getD_eq_getElem?_getD, List.getD_eq_getElem?_getD, List.getElem?_append_right (by omega), hm]
  simp
theorem fold_len (l : List Int) (x : Int) : ((l.take x.toNat).map foldC ++ l.drop x.toNat).length = l.length := by
  simp; omega
set_option maxHeartbeats 2000000 in
theorem sign_Fold.calls (a0 : ByteArray) (r : ByteArray) (w : World) (h : sign_Fold.f a0 = some r) :
    Calls Tryd.prog 21 #[.string a0] w fun e w' => e = .returned (.string r) ∧ Below w.heap.size w w' := by
  unfold sign_Fold.f at h
  by_cases h0 : a0.size ≤ 140737488355328
  · rw [if_pos h0] at h
    obtain rfl := Option.some.inj h
    clear h
    have kb := fun W => print_bytes (P := Tryd.prog) 9 33 5 Tryd.underlying9 Tryd.underlying33 Tryd.underlying5 a0 W
    go_enter Tryd.func21, Tryd.ntmps21
    go_wp2
    go_loopw [4, 5, 10] (fun _ _ v wr => ∃ x : Int, v = .int .i64 x ∧ Aside0 (0 ≤ x ∧ x ≤ a0.size) ∧ Aside0 (MRow wr w.heap.size 5 (((bytesOf a0).take x.toNat).map foldC ++ (bytesOf a0).drop x.toNat)) ∧ Aside0 (Below w.heap.size w wr)) (fun _ _ v _ => a0.size - (intOf v).toNat)
    case atStart => exact ⟨0, rfl, ⟨by omega, by omega⟩, ⟨by simpa using MRow.bytes w 5 a0⟩, ⟨bytes_below (Below.refl _ _) (Nat.le_refl _) _ _⟩⟩
    case round =>
      obtain ⟨x, rfl, HX, HM, HB⟩ := hrel
      have hlen : (((bytesOf a0).take x.toNat).map foldC ++ (bytesOf a0).drop x.toNat).length = a0.size := (fold_len _ _).trans (bytesOf_length a0)
      by_cases hlt : x < (a0.size : Int)
      · have hlb : x < ((bytesOf a0).length : Int) := by rw [bytesOf_length]; exact hlt
        have hc := HM.out.cell x HX.out.1 (by rw [hlen]; exact hlt)
        have hf := HM.out.free x HX.out.1 (by rw [hlen]; exact hlt)
        rw [fold_at _ x HX.out.1 hlb, rd_bytesOf] at hc
        have hst := fold_step (bytesOf a0) x HX.out.1 hlb
        have hsm := fold_same (bytesOf a0) x HX.out.1 hlb
        rw [rd_bytesOf] at hst hsm
        have hr := bt_range a0 x
        have HR := Aside0.mk hr
        obtain ⟨c, hcv⟩ : ∃ c, c = bt a0 x := ⟨_, rfl⟩
        rw [← hcv] at hc hst hsm hr
        have p1 : (0 ≤ x) = True := eq_true HX.out.1
        have q1 : (x < (a0.size : Int)) = True := eq_true hlt
        have q2 : decide (x < (a0.size : Int)) = true := decide_eq_true hlt
        have HLT := Aside0.mk hlt
        have HST := Aside0.mk hst
        have HSM := Aside0.mk hsm
        have HRR := Aside0.mk hr
        have HLN := Aside0.mk hlen
        have HCV := Aside0.mk hcv
        clear hlt hlb hst hsm hr hlen hcv
        have hw : Aside0 (wrap64 (x + 1) = x + 1) := ⟨by have := HX.out; unfold wrap64; omega⟩
        by_cases c1 : 65 ≤ c
        · have c1b : decide (c ≥ 65) = true := decide_eq_true c1
          have c1c : decide (65 ≤ c) = true := decide_eq_true c1
          by_cases c2 : c ≤ 90
          · have c2b : decide (c ≤ 90) = true := decide_eq_true c2
            have HC1 := Aside0.mk (And.intro c1 c2)
            go_wp2
            refine ⟨⟨x + 1, by rw [hw.out], ⟨by have := HX.out; omega, by have := HLT.out; omega⟩, ⟨?_⟩, ⟨HB.out.setCell (Nat.le_refl _) _⟩⟩, ?_⟩
            · rw [← HST.out]
              have hv : foldC c = c + 97 - 65 := by unfold foldC; rw [if_pos HC1.out]; omega
              rw [hv]
              exact HM.out.set x _
            · have := HX.out; have := HLT.out; rw [hw.out]; simp [intOf]; omega
          · have c2b : decide (c ≤ 90) = false := decide_eq_false c2
            go_wp2
            refine ⟨⟨x + 1, by rw [hw.out], ⟨by have := HX.out; omega, by have := HLT.out; omega⟩, ⟨?_⟩, HB⟩, ?_⟩
            · rw [← HSM.out (if_neg (by omega))]; exact HM.out
            · have := HX.out; have := HLT.out; rw [hw.out]; simp [intOf]; omega
        · have c1b : decide (c ≥ 65) = false := decide_eq_false c1
          have c1c : decide (65 ≤ c) = false := decide_eq_false c1
          go_wp2
          refine ⟨⟨x + 1, by rw [hw.out], ⟨by have := HX.out; omega, by have := HLT.out; omega⟩, ⟨?_⟩, HB⟩, ?_⟩
          · rw [← HSM.out (if_neg (by omega))]; exact HM.out
          · have := HX.out; have := HLT.out; rw [hw.out]; simp [intOf]; omega
      · have he : x = (a0.size : Int) := by have := HX.out; omega
        have hR := HM.out.reads (by rw [hlen]; omega)
        rw [hlen] at hR
        have hcv := string_of_reads (P := Tryd.prog) (src := 33) (dst := 9) (c := grownCap w a0.size 0 5) Tryd.underlying33 Tryd.underlying5 Tryd.underlying9 hR
        rw [show ((bytesOf a0).take x.toNat).map foldC ++ (bytesOf a0).drop x.toNat = (bytesOf a0).map foldC by rw [List.take_of_length_le (by rw [bytesOf_length]; omega), List.drop_of_length_le (by rw [bytesOf_length]; omega), List.append_nil]] at hcv
        have q2 : decide (x < (a0.size : Int)) = false := decide_eq_false hlt
        have HLN := Aside0.mk hlen
        clear hlt he hlen hR
        go_wp2
        go_ret
        exact ⟨rfl, HB.out⟩
  · rw [if_neg h0] at h
    cases h


end Go.Proofs.YthkkkfeiklfjoaaDoor.P
