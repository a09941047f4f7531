/- Each function below answers as its Lean twin says; a law answers true at every input that its row speaks of. No further condition. (Laid by this repo's seatprint.py.) -/
import Derived.Test.YthkkkfeiklfjoaaPx0
import Derived.Lib.SlBytesConst
import Derived.Lib.Hide
import Derived.IntWalk
import Derived.LoopTactic
namespace Go.Proofs.Ythkkkfeiklfjoaa.P
open Go.RowKit Go.Proofs.YthkkkfeiklfjoaaW.PrintWords Go.Proofs.YthkkkfeiklfjoaaW.PrintLast Go.Proofs.YthkkkfeiklfjoaaW.PrintMore
attribute [local go_sem] max2_int min2_int max_two min_two max_three min_three max_four min_four   -- for this text's walks alone
set_option linter.unusedVariables false
set_option linter.unusedSimpArgs false

/-- A row of bytes that a constant was turned into reads as these bytes. -/
theorem C_const (W : World) (e : Nat) (xs : List Int) (fr : Nat × Nat) (hm : xs.length ≤ 9223372036854775807) :
    Kd.C (Kd.int .u8) (W.alloc (.cells (nums .u8 xs).toArray e fr)) (some ⟨W.heap.size, 0, none⟩) xs.length xs := by
  refine Kd.C_of_reads (d := (0 : Int)) (h1 := fun _ => rfl) ⟨rfl, hm, fun _ => ⟨_, rfl, fun j hj => ?_⟩⟩
  have hl : (nums .u8 xs).length = xs.length := nums_length _ _
  have : (W.alloc (.cells (nums .u8 xs).toArray e fr)).heap[W.heap.size]? = some (.cells (nums .u8 xs).toArray e fr) := by
    show (W.heap.push _)[W.heap.size]? = _
    simp
  rw [add_plain]
  rw [cell_of_row _ _ _ _ _ _ this]
  simp [nums, List.getD_eq_getElem?_getD, List.getElem?_eq_getElem hj]
theorem bytes_drop_all (p : Int → Bool) (s : ByteArray) (x : Int) (h0 : 0 ≤ x) (h : x < (s.size : Int)) :
    ((bytesOf s).drop x.toNat).all p = (p (bt s x) && ((bytesOf s).drop (x.toNat + 1)).all p) := by
  have hl : x.toNat < (bytesOf s).length := by rw [bytesOf_length]; omega
  rw [List.drop_eq_getElem_cons hl]
  have e : (bytesOf s)[x.toNat] = bt s x := by
    rw [← rd_bytesOf]
    simp [rd, List.getD_eq_getElem?_getD, List.getElem?_eq_getElem hl]
  rw [e]
  rfl

end Go.Proofs.Ythkkkfeiklfjoaa.P
