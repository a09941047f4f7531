/- Each function below answers as its Lean twin says. No further condition. (Laid by this repo's packseat.py out of the seat's texts and of the print's words.) -/
import Derived.Test.YtfjeinnemimjoaaDoorU0base0x0
namespace Go.Proofs.YtfjeinnemimjoaaDoor.P
open Go.RowKit Go.Proofs.YtfjeinnemimjoaaDoorW.PrintWords Go.Proofs.YtfjeinnemimjoaaDoorW.PrintLast Go.Proofs.YtfjeinnemimjoaaDoorW.PrintMore
attribute [local go_sem] max2_int min2_int max_two min_two max_three min_three max_four min_four   -- for this text's walks alone
set_option linter.unusedVariables false
set_option linter.unusedSimpArgs false

theorem tz64_16 (w : World) (ht : Tabs w) : Calls Tryd.prog 137 #[.int .u64 16] w fun e w' => e = .returned (.int .i64 4) ∧ Drawn0 w w' := by
  have hc : w.cell? ⟨5, 15, none⟩ = some (.int .u8 4) := ht.2.cell globalDeBruijn64 15 (by decide)
  have hb : Go.bits .and .u64 16 18446744073709551600 = 16 := by decide +kernel
  have hw1 : IntKind.u64.wrap (-16) = 18446744073709551600 := by decide +kernel
  have hw2 : IntKind.u64.wrap (16 * 285870213051353865) = 4573923408821661840 := by decide +kernel
  have hw3 : IntKind.u64.wrap 4573923408821661840 = 4573923408821661840 := by decide +kernel
  have hw4 : (4573923408821661840 : Int) / 288230376151711744 = 15 := by decide +kernel
  clear ht
  go_enter Tryd.func137, Tryd.ntmps137
  go_wp2
  go_ret
  exact ⟨rfl, by repeat (first | exact Drawn0.refl _ | apply Drawn0.step)⟩


end Go.Proofs.YtfjeinnemimjoaaDoor.P

namespace Go.Proofs.YtfjeinnemimjoaaDoor.P
open Go.RowKit Go.Proofs.YtfjeinnemimjoaaDoorW.PrintWords Go.Proofs.YtfjeinnemimjoaaDoorW.PrintLast Go.Proofs.YtfjeinnemimjoaaDoorW.PrintMore
attribute [local go_sem] max2_int min2_int max_two min_two max_three min_three max_four min_four   -- for this text's walks alone
set_option linter.unusedVariables false
set_option linter.unusedSimpArgs false

theorem tz_16 (w : World) (ht : Tabs w) : Calls Tryd.prog 128 #[.int .u64 16] w fun e w' => e = .returned (.int .i64 4) ∧ Drawn0 w w' := by
  go_enter Tryd.func128, Tryd.ntmps128
  go_wp2_with (go_at_call 137; (with_reducible refine (tz64_16 _ ht).mono ?_); rintro e w' ⟨rfl, ⟨nd, rfl⟩⟩)
  go_ret
  exact ⟨rfl, by repeat (first | exact Drawn0.refl _ | apply Drawn0.step)⟩


end Go.Proofs.YtfjeinnemimjoaaDoor.P

