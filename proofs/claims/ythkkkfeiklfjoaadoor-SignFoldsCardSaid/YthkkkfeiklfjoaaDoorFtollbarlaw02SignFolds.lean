/- Each function below answers as its Lean twin says; a law answers true at every input that its row speaks of. No further condition. (Laid by this repo's seatprint.py.) -/
import Derived.Test.YthkkkfeiklfjoaaDoorPx0
import Derived.Test.YthkkkfeiklfjoaaDoorBaseRow
import Derived.Test.YthkkkfeiklfjoaaDoorFsignFold
import Derived.Test.YthkkkfeiklfjoaaDoorFsignSame
import Derived.Test.YthkkkfeiklfjoaaDoorFtollbarlaw02texts
namespace Go.Proofs.YthkkkfeiklfjoaaDoor.P
open Go.RowKit Go.Proofs.YthkkkfeiklfjoaaDoorW.PrintWords Go.Proofs.YthkkkfeiklfjoaaDoorW.PrintLast Go.Proofs.YthkkkfeiklfjoaaDoorW.PrintMore
attribute [local go_sem] max2_int min2_int max_two min_two max_three min_three max_four min_four   -- for this text's walks alone
set_option linter.unusedVariables false
set_option linter.unusedSimpArgs false

/-! ### tollbarlaw02_SignFolds: function 6 -/
/-- The place that is turned, and what stands there then. -/
def foldsAt (a0 : ByteArray) (a1 : Int) : Int := (Go.bits .and .i64 a1 1048575) % (a0.size : Int)
def foldsTo (a0 : ByteArray) (a1 : Int) : ByteArray := strOfNums ((bytesOf a0).set (foldsAt a0 a1).toNat (Go.bits .xor .u8 (bt a0 (foldsAt a0 a1)) 32))
def isLetter (c : Int) : Bool := (decide (97 ≤ c) && decide (c ≤ 122)) || (decide (65 ≤ c) && decide (c ≤ 90))
def tollbarlaw02_SignFolds.f (k : Nat) (a0 : ByteArray) (a1 : Int) : Option Bool :=
  if tollbarlaw02_texts.f k = some true ∧ a0.size ≤ 140737488355327 ∧ 0 ≤ Go.bits .and .i64 a1 1048575 ∧ Go.bits .and .i64 a1 1048575 ≤ 1048575 then
    (sign_Fold.f a0).bind fun f => if sign_Fold.f f = some f ∧ f.size = a0.size ∧ sign_Same.f a0 f = some true ∧ sign_Same.f a0 a0 = some true then
      (if a0.size = 0 then some true else if sign_Same.f a0 (foldsTo a0 a1) = some (isLetter (bt a0 (foldsAt a0 a1))) then some true else none) else none
  else none
set_option maxHeartbeats 8000000 in
set_option maxRecDepth 100000 in
theorem folds_empty (k : Nat) (a0 : ByteArray) (a1 : Int) (f : ByteArray) (w : World) (A1 : Aside0 (tollbarlaw02_texts.f k = some true)) (A2 : Aside0 (sign_Fold.f a0 = some f)) (A3 : Aside0 (sign_Fold.f f = some f)) (hz : f.size = a0.size)
    (A4 : Aside0 (sign_Same.f a0 f = some true)) (A5 : Aside0 (sign_Same.f a0 a0 = some true)) (h0 : a0.size = 0) :
    Calls Tryd.prog 6 #[.string a0, .int .i64 a1] w fun e w' => e = .returned (.bool true) ∧ Below w.heap.size w w' := by
  have HB := Aside0.mk (Below.refl w.heap.size w)
  go_enter Tryd.func6, Tryd.ntmps6
  go_wp2_with (first
    | (go_at_call 18; (with_reducible refine (tollbarlaw02_texts.calls k true _ A1.out).mono ?_); rintro e w1 ⟨rfl, hb⟩; clear A1; have n0_ := Aside0.mk (below_step HB.out hb); clear HB; have HB := n0_; clear n0_ hb)
    | (go_at_call 21; (with_reducible refine (sign_Fold.calls a0 f _ A2.out).mono ?_); rintro e w2 ⟨rfl, hb⟩; clear A2; have n0_ := Aside0.mk (below_step HB.out hb); clear HB; have HB := n0_; clear n0_ hb)
    | (go_at_call 21; (with_reducible refine (sign_Fold.calls f f _ A3.out).mono ?_); rintro e w3 ⟨rfl, hb⟩; clear A3; have n0_ := Aside0.mk (below_step HB.out hb); clear HB; have HB := n0_; clear n0_ hb)
    | (go_at_call 26; (with_reducible refine (sign_Same.calls a0 f true _ A4.out).mono ?_); rintro e w4 ⟨rfl, hb⟩; clear A4; have n0_ := Aside0.mk (below_step HB.out hb); clear HB; have HB := n0_; clear n0_ hb)
    | (go_at_call 26; (with_reducible refine (sign_Same.calls a0 a0 true _ A5.out).mono ?_); rintro e w5 ⟨rfl, hb⟩; clear A5; have n0_ := Aside0.mk (below_step HB.out hb); clear HB; have HB := n0_; clear n0_ hb))
  go_ret
  exact ⟨rfl, HB.out⟩
set_option maxHeartbeats 8000000 in
set_option maxRecDepth 100000 in
theorem folds_full (k : Nat) (a0 : ByteArray) (a1 : Int) (f : ByteArray) (w : World) (hn : a0.size ≤ 140737488355327) (v x c c' : Int) (b97 b122 b65 b90 : Bool) (A1 : Aside0 (tollbarlaw02_texts.f k = some true)) (A2 : Aside0 (sign_Fold.f a0 = some f)) (A3 : Aside0 (sign_Fold.f f = some f)) (hz : f.size = a0.size)
    (A4 : Aside0 (sign_Same.f a0 f = some true)) (A5 : Aside0 (sign_Same.f a0 a0 = some true)) (h0 : ¬ (a0.size = 0)) (hv : Go.bits .and .i64 a1 1048575 = v) (hv0 : 0 ≤ v) (hv1 : v ≤ 1048575) (hx : v % (a0.size : Int) = x) (hx0 : 0 ≤ x) (hx1 : x < (a0.size : Int)) (hc : bt a0 x = c) (hc' : Go.bits .xor .u8 c 32 = c')
    (h97 : decide (97 ≤ c) = b97) (h122 : decide (c ≤ 122) = b122) (h65 : decide (65 ≤ c) = b65) (h90 : decide (c ≤ 90) = b90)
    (A6 : Aside0 (sign_Same.f a0 (strOfNums ((bytesOf a0).set x.toNat c')) = some ((b97 && b122) || (b65 && b90)))) :
    Calls Tryd.prog 6 #[.string a0, .int .i64 a1] w fun e w' => e = .returned (.bool true) ∧ Below w.heap.size w w' := by
  have HB := Aside0.mk (Below.refl w.heap.size w)
  have hlen : (bytesOf a0).length = a0.size := bytesOf_length a0
  have kb := fun W => print_bytes (P := Tryd.prog) 9 33 5 Tryd.underlying9 Tryd.underlying33 Tryd.underlying5 a0 W
  have kc : ∀ W, (Lib.bytesWorld W 5 a0).cell? ⟨W.heap.size, x.toNat, none⟩ = some (.int .u8 c) := by
    intro W
    have := (MRow.bytes W 5 a0).cell x hx0 (by rw [hlen]; exact hx1)
    rw [rd_bytesOf, hc] at this
    exact this
  have kf : ∀ W, (Lib.bytesWorld W 5 a0).frozen? ⟨W.heap.size, x.toNat, none⟩ = false := fun W => (MRow.bytes W 5 a0).free x hx0 (by rw [hlen]; exact hx1)
  have ks : ∀ (W : World) (cap : Nat), (convert 33 9 (.slice (some ⟨W.heap.size, 0, none⟩) a0.size cap)).run Tryd.prog ((Lib.bytesWorld W 5 a0).setCell ⟨W.heap.size, x.toNat, none⟩ (.int .u8 c')) = .ok (.string (strOfNums ((bytesOf a0).set x.toNat c'))) ((Lib.bytesWorld W 5 a0).setCell ⟨W.heap.size, x.toNat, none⟩ (.int .u8 c')) := by
    intro W cap
    have hR := ((MRow.bytes W 5 a0).set x c').reads (by rw [List.length_set, hlen]; omega)
    rw [List.length_set, hlen] at hR
    exact string_of_reads (P := Tryd.prog) (src := 33) (dst := 9) (c := cap) Tryd.underlying33 Tryd.underlying5 Tryd.underlying9 hR
  have HX := Aside0.mk hx
  have HC := Aside0.mk hc
  have HL := Aside0.mk hlen
  have p1 : (0 ≤ x) = True := eq_true hx0
  have q1 : (x < (a0.size : Int)) = True := eq_true hx1
  clear hc hlen
  go_enter Tryd.func6, Tryd.ntmps6
  go_wp2_with (first
    | (go_at_call 18; (with_reducible refine (tollbarlaw02_texts.calls k true _ A1.out).mono ?_); rintro e w1 ⟨rfl, hb⟩; clear A1; have n0_ := Aside0.mk (below_step HB.out hb); clear HB; have HB := n0_; clear n0_ hb)
    | (go_at_call 21; (with_reducible refine (sign_Fold.calls a0 f _ A2.out).mono ?_); rintro e w2 ⟨rfl, hb⟩; clear A2; have n0_ := Aside0.mk (below_step HB.out hb); clear HB; have HB := n0_; clear n0_ hb)
    | (go_at_call 21; (with_reducible refine (sign_Fold.calls f f _ A3.out).mono ?_); rintro e w3 ⟨rfl, hb⟩; clear A3; have n0_ := Aside0.mk (below_step HB.out hb); clear HB; have HB := n0_; clear n0_ hb)
    | (go_at_call 26; (with_reducible refine (sign_Same.calls a0 f true _ A4.out).mono ?_); rintro e w4 ⟨rfl, hb⟩; clear A4; have n0_ := Aside0.mk (below_step HB.out hb); clear HB; have HB := n0_; clear n0_ hb)
    | (go_at_call 26; (with_reducible refine (sign_Same.calls a0 a0 true _ A5.out).mono ?_); rintro e w5 ⟨rfl, hb⟩; clear A5; have n0_ := Aside0.mk (below_step HB.out hb); clear HB; have HB := n0_; clear n0_ hb)
    | (go_at_call 26; (with_reducible refine (sign_Same.calls a0 (strOfNums ((bytesOf a0).set x.toNat c')) ((b97 && b122) || (b65 && b90)) _ A6.out).mono ?_); rintro e w6 ⟨rfl, hb⟩; clear A6; have n0_ := Aside0.mk (below_step ((bytes_below HB.out HB.out.size _ _).setCell HB.out.size _) hb); clear HB; have HB := n0_; clear n0_ hb))
  all_goals
    go_ret
    exact ⟨by first | rfl | (simp [*]; done) | (cases b97 <;> cases b122 <;> cases b65 <;> cases b90 <;> first | rfl | simp_all), HB.out⟩
theorem tollbarlaw02_SignFolds.calls (k : Nat) (a0 : ByteArray) (a1 : Int) (r : Bool) (w : World) (h : tollbarlaw02_SignFolds.f k a0 a1 = some r) :
    Calls Tryd.prog 6 #[.string a0, .int .i64 a1] w fun e w' => e = .returned (.bool r) ∧ Below w.heap.size w w' := by
  unfold tollbarlaw02_SignFolds.f at h
  split at h
  · rename_i h1
    obtain ⟨f, hf, h⟩ := Option.bind_eq_some_iff.1 h
    split at h
    · rename_i h2
      split at h
      · rename_i h3
        obtain rfl := Option.some.inj h
        exact folds_empty k a0 a1 f w ⟨h1.1⟩ ⟨hf⟩ ⟨h2.1⟩ h2.2.1 ⟨h2.2.2.1⟩ ⟨h2.2.2.2⟩ h3
      · rename_i h3
        split at h
        · rename_i h4
          obtain rfl := Option.some.inj h
          exact folds_full k a0 a1 f w h1.2.1 _ _ _ _ _ _ _ _ ⟨h1.1⟩ ⟨hf⟩ ⟨h2.1⟩ h2.2.1 ⟨h2.2.2.1⟩ ⟨h2.2.2.2⟩ h3 rfl h1.2.2.1 h1.2.2.2 rfl (Int.emod_nonneg _ (by omega)) (Int.emod_lt_of_pos _ (by omega)) rfl rfl rfl rfl rfl rfl ⟨h4⟩
        · cases h
    · cases h
  · cases h


end Go.Proofs.YthkkkfeiklfjoaaDoor.P
