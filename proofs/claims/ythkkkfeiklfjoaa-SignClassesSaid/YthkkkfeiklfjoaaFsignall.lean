/- Each function below answers as its Lean twin says; a law answers true at every input that its row speaks of. No further condition. (Laid by this repo's seatprint.py.) -/
import Derived.Test.YthkkkfeiklfjoaaPx0
import Derived.Test.YthkkkfeiklfjoaaBase
namespace Go.Proofs.Ythkkkfeiklfjoaa.P
open Go.RowKit Go.Proofs.YthkkkfeiklfjoaaW.PrintWords Go.Proofs.YthkkkfeiklfjoaaW.PrintLast Go.Proofs.YthkkkfeiklfjoaaW.PrintMore
attribute [local go_sem] max2_int min2_int max_two min_two max_three min_three max_four min_four   -- for this text's walks alone
set_option linter.unusedVariables false
set_option linter.unusedSimpArgs false

/-! ### sign_all: function 18 -/
/-- all, at any function value that tells p of every byte. -/
theorem sign_all.callsOf (K : Nat) (p : Int → Bool) (hK : ∀ args w, (callFunc K args).run Try.prog w = .ok (.enter K args) w)
    (hp : ∀ c w, 0 ≤ c → c ≤ 255 → Calls Try.prog K #[.int .u8 c] w fun e w' => e = .returned (.bool (p c)) ∧ Drawn0 w w')
    (a0 : ByteArray) (h0 : a0.size ≤ 140737488355328) (w : World) :
    Calls Try.prog 18 #[.string a0, .func (.func K) #[] #[]] w fun e w' => e = .returned (.bool ((bytesOf a0).all p)) ∧ Drawn0 w w' := by
  go_enter Try.func18, Try.ntmps18
  go_wp2
  go_loopw [8] (fun v wr => ∃ x : Int, v = .int .i64 x ∧ Aside0 (0 ≤ x ∧ x ≤ a0.size) ∧ Aside0 ((bytesOf a0).all p = ((bytesOf a0).drop x.toNat).all p) ∧ Drawn0 w wr) (fun v _ => a0.size - (intOf v).toNat)
  case atStart => exact ⟨0, rfl, ⟨by omega, by omega⟩, ⟨by simp⟩, Drawn0.refl _⟩
  case round =>
    obtain ⟨x, rfl, HX, HA, ⟨m, rfl⟩⟩ := hrel
    by_cases hlt : x < (a0.size : Int)
    · have hx := bt_at a0 x
      have hr := bt_range a0 x
      have HR := Aside0.mk hr
      clear hr
      have HN := Aside0.mk (bytes_drop_all p a0 x HX.out.1 hlt)
      have p1 : (0 ≤ x) = True := eq_true HX.out.1
      have q1 : (x < (a0.size : Int)) = True := eq_true hlt
      have q2 : decide (x < (a0.size : Int)) = true := decide_eq_true hlt
      have hlt' := Aside0.mk hlt
      clear hlt
      cases hpc : p (bt a0 x)
      · have HN' := HN.out
        rw [hpc] at HN'
        have HE := Aside0.mk (HA.out.trans HN')
        clear HN' HN HA
        go_wp2_with ((with_reducible refine (hp (bt a0 x) _ HR.out.1 HR.out.2).mono ?_); rintro e w' ⟨rfl, ⟨nd, rfl⟩⟩; rw [hpc])
        go_ret
        exact ⟨by rw [HE.out]; rfl, by repeat (first | exact Drawn0.refl _ | apply Drawn0.step)⟩
      · have HN' := HN.out
        rw [hpc] at HN'
        have HE := Aside0.mk (HA.out.trans HN')
        clear HN' HN HA
        go_wp2_with ((with_reducible refine (hp (bt a0 x) _ HR.out.1 HR.out.2).mono ?_); rintro e w' ⟨rfl, ⟨nd, rfl⟩⟩; rw [hpc])
        go_roundw
        case rel =>
          have hw : wrap64 (x + 1) = x + 1 := by have := HX.out; unfold wrap64; omega
          exact ⟨x + 1, by rw [hw], ⟨by have := HX.out; omega, by have := hlt'.out; omega⟩, ⟨by have := HX.out; rw [HE.out, show (x + 1).toNat = x.toNat + 1 by omega]; simp⟩, by repeat (first | exact Drawn0.refl _ | apply Drawn0.step)⟩
        case measure =>
          have hw : wrap64 (x + 1) = x + 1 := by have := HX.out; unfold wrap64; omega
          have := HX.out
          have := hlt'.out
          simp [intOf, hw]
          omega
    · have HE := Aside0.mk (HA.out)
      clear HA
      have hge := Aside0.mk hlt
      have q2 : decide (x < (a0.size : Int)) = false := decide_eq_false hlt
      clear hlt
      go_wp2
      go_ret
      exact ⟨by have := hge.out; have := HX.out; rw [HE.out, List.drop_of_length_le (by rw [bytesOf_length]; omega)]; rfl, by repeat (first | exact Drawn0.refl _ | apply Drawn0.step)⟩


end Go.Proofs.Ythkkkfeiklfjoaa.P
