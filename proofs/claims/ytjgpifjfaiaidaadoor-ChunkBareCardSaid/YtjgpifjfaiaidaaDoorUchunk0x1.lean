/- Each function below answers as its Lean twin says. No further condition. (Laid by this repo's packseat.py out of the seat's texts and of the print's words.) -/
import Derived.Test.YtjgpifjfaiaidaaDoorU0base0x0
import Derived.Test.YtjgpifjfaiaidaaDoorUchunk0x0
import Derived.Test.YtjgpifjfaiaidaaDoorUline0x0
import Derived.Test.YtjgpifjfaiaidaaDoorUsign0x0
import Derived.Test.YtjgpifjfaiaidaaDoorUsign0x1
namespace Go.Proofs.YtjgpifjfaiaidaaDoor.P
open Go.RowKit Go.Proofs.YtjgpifjfaiaidaaDoorW.PrintWords Go.Proofs.YtjgpifjfaiaidaaDoorW.PrintLast Go.Proofs.YtjgpifjfaiaidaaDoorW.PrintMore
attribute [local go_sem] max2_int min2_int max_two min_two max_three min_three max_four min_four   -- for this text's walks alone
set_option linter.unusedVariables false
set_option linter.unusedSimpArgs false

def chunk_Decode.l : Nat → List Int → Int → Int → List Int → Option (List Int × Int × Int)
  | 0, _, _, _, _ => none
  | k + 1, l, p, left, out => (chunk_reader_size.f k l p).bind fun x => if x.2.1 = 0 then (if x.2.2.2 = true then some ([], 0, 0) else
      if x.1 = 0 then ((chunk_reader_trailer.f k l x.2.2.1).bind fun y => if y.1 = 0 then (if y.2.2 = true then some ([], 0, 0) else some (out, y.2.1, 0)) else some ([], 0, y.1))
      else if x.1 > left then some ([], 0, 2)
      else (chunk_reader_data.f l x.2.2.1 x.1 false).bind fun d => if d.2.1 = 0 then (if d.2.2.2 = true then some ([], 0, 0) else if out.length + d.1.length ≤ 140737488355328 then chunk_Decode.l k l d.2.2.1 (wrap64 (left - x.1)) (out ++ d.1) else none) else some ([], 0, d.2.1))
    else some ([], 0, x.2.1)
def chunk_Decode.f (k : Nat) (l0 : List Int) (a1 : Int) : Option (List Int × Int × Int) := chunk_Decode.l k l0 0 (mx a1 0) []
theorem chunk_reader_line.mono : ∀ l p k, LeO (chunk_reader_line.f k l p) (chunk_reader_line.f (k + 1) l p) := by
  intro l p k
  unfold chunk_reader_line.f
  repeat' first
    | (with_reducible exact line_Cut.mono _ _ _)
    | (with_reducible exact LeO.refl _)
    | (with_reducible exact LeO.none _)
    | (with_reducible refine LeO.ite ?_ ?_)
    | (with_reducible refine LeO.bind ?_ (fun _ => ?_))
theorem chunk_reader_size.mono : ∀ l p k, LeO (chunk_reader_size.f k l p) (chunk_reader_size.f (k + 1) l p) := by
  intro l p k
  unfold chunk_reader_size.f
  repeat' first
    | (with_reducible exact chunk_reader_line.mono _ _ _)
    | (with_reducible exact sign_Hex.mono _ _)
    | (with_reducible exact LeO.refl _)
    | (with_reducible exact LeO.none _)
    | (with_reducible refine LeO.ite ?_ ?_)
    | (with_reducible refine LeO.bind ?_ (fun _ => ?_))
theorem chunk_reader_trailer.mono_l : ∀ k l p n, LeO (chunk_reader_trailer.l k l p n) (chunk_reader_trailer.l (k + 1) l p n)
  | 0 => fun _ _ _ r h => by simp [chunk_reader_trailer.l] at h
  | k + 1 => by
    intro l p n
    have ih := chunk_reader_trailer.mono_l k
    rw [chunk_reader_trailer.l, chunk_reader_trailer.l]
    repeat' first
      | (with_reducible exact chunk_reader_line.mono _ _ _)
      | (with_reducible exact ih _ _ _)
      | (with_reducible exact LeO.refl _)
      | (with_reducible exact LeO.none _)
      | (with_reducible refine LeO.ite ?_ ?_)
      | (with_reducible refine LeO.bind ?_ (fun _ => ?_))
theorem chunk_Decode.mono_l : ∀ k l p left out, LeO (chunk_Decode.l k l p left out) (chunk_Decode.l (k + 1) l p left out)
  | 0 => fun _ _ _ _ r h => by simp [chunk_Decode.l] at h
  | k + 1 => by
    intro l p left out
    have ih := chunk_Decode.mono_l k
    rw [chunk_Decode.l, chunk_Decode.l]
    unfold chunk_reader_trailer.f
    repeat' first
      | (with_reducible exact chunk_reader_size.mono _ _ _)
      | (with_reducible exact chunk_reader_trailer.mono_l _ _ _ _)
      | (with_reducible exact ih _ _ _ _)
      | (with_reducible exact LeO.refl _)
      | (with_reducible exact LeO.none _)
      | (with_reducible refine LeO.ite ?_ ?_)
      | (with_reducible refine LeO.bind ?_ (fun _ => ?_))
theorem chunk_Decode.mono : ∀ a0 a1 k, LeO (chunk_Decode.f k a0 a1) (chunk_Decode.f (k + 1) a0 a1) := fun a0 a1 k => chunk_Decode.mono_l k a0 0 (mx a1 0) []
theorem went_rdr {w w' : World} {g : Nat} {A : Option Addr} {n c : Nat} {p : Int} {m : Bool} (h : Went w w' g A n c p m) : Rdr w' g A n c p m := h.1
theorem blk_grown {w w1 : World} {g : Nat} {o : Obj} {row : Option Nat} (h : w.heap[g]? = some o) (hg : w.grownBy w1 row) (hne : some g ≠ row) : w1.heap[g]? = some o := (hg.block g (blk_lt h) hne).trans h
/-- What Decode hands back. -/
def DecPost (w : World) (r1 : List Int) (r2 r3 : Int) (E : Ending) (w' : World) : Prop := ∃ v0_ : Value, E = .returned (.tuple #[v0_, .int .i64 r2, .int .i64 r3]) ∧ Kd.R (Kd.int .u8) 5 w' w.heap.size (fun _ => True) v0_ r1 ∧ Below w.heap.size w w'
theorem dec_none {w w' : World} {r2 r3 : Int} (h : Below w.heap.size w w') : DecPost w [] r2 r3 (.returned (.tuple #[.slice none 0 0, .int .i64 r2, .int .i64 r3])) w' := ⟨_, rfl, Kd.R_nil _ _ _ _ _, h⟩
/-- The reader and what was collected, beside it. -/
def Dec (w wr : World) (g : Nat) (A : Option Addr) (n c : Nat) (p : Int) (v : Value) (out : List Int) : Prop := Rdr wr g A n c p false ∧ Below w.heap.size w wr ∧ w.heap.size ≤ g ∧ Kd.R (Kd.int .u8) 5 wr w.heap.size (fun k => k ≠ g) v out
theorem Dec.went {w wr w1 : World} {g : Nat} {A : Option Addr} {n c : Nat} {p q : Int} {v : Value} {out : List Int} (h : Dec w wr g A n c p v out) (k : Went wr w1 g A n c q false) : Dec w w1 g A n c q v out :=
  ⟨k.1, h.2.1.trans (below_base h.2.2.1 k.2.1), h.2.2.1, Kd.R_keep h.2.2.2 k.2.2 (fun _ hk => hk)⟩
theorem Dec.below {w wr w1 : World} {g : Nat} {A : Option Addr} {n c : Nat} {p q : Int} {m : Bool} {v : Value} {out : List Int} (h : Dec w wr g A n c p v out) (k : Went wr w1 g A n c q m) : Below w.heap.size w w1 := h.2.1.trans (below_base h.2.2.1 k.2.1)
set_option maxHeartbeats 16000000 in
set_option maxRecDepth 100000 in
theorem chunk_Decode.calls (k : Nat) (A0 : Option Addr) (c0 : Nat) (l0 : List Int) (a1 : Int) (r1 : List Int) (r2 : Int) (r3 : Int) (w : World) (hr0 : Kd.C (Kd.int .u8) w A0 l0.length l0) (hc0 : l0.length ≤ c0) (h : chunk_Decode.f k l0 a1 = some (r1, r2, r3)) :
    Calls Tryd.prog 29 #[.slice A0 l0.length c0, .int .i64 a1] w fun e w' => ∃ v0_ : Value, e = .returned (.tuple #[v0_, .int .i64 r2, .int .i64 r3]) ∧ Kd.R (Kd.int .u8) 5 w' w.heap.size (fun _ => True) v0_ r1 ∧ Below w.heap.size w w' := by
  show Calls Tryd.prog 29 #[.slice A0 l0.length c0, .int .i64 a1] w (DecPost w r1 r2 r3)
  have hu := Tryd.underlying75
  have HC := Aside0.mk hr0
  have H := Aside0.mk h
  clear hr0 h
  have HD0 : Aside0 (Dec w ((w.alloc (.cells #[.slice A0 l0.length c0, .int .i64 0, .bool false] 75)).alloc (.cells #[] 5)) w.heap.size A0 l0.length c0 0 (.slice (some ⟨w.heap.size + 1, 0, none⟩) 0 0) []) := ⟨by
    refine ⟨?_, ?_, Nat.le_refl _, ?_⟩
    · exact blk_alloc (blk_new w _) _
    · exact below_alloc (below_alloc (Below.refl _ _) _) _
    · have ho := own_lit (w.alloc (.cells #[.slice A0 l0.length c0, .int .i64 0, .bool false] 75)) w.heap.size 5 .u8 [] (by simp) (by simp)
      have hz : (w.alloc (.cells #[.slice A0 l0.length c0, .int .i64 0, .bool false] 75)).heap.size = w.heap.size + 1 := by simp
      rw [hz] at ho
      exact Kd.R_of_own (h1 := fun _ => rfl) ho (fun k hk => by
        have : w.heap.size + 1 = k := by simpa [Value.ownBlock] using hk
        omega)⟩
  obtain ⟨mm, hmm⟩ : ∃ mm, mm = mx a1 0 := ⟨_, rfl⟩
  unfold chunk_Decode.f at H
  rw [← hmm] at H
  have hmx := hmm.symm
  clear hmm
  go_enter Tryd.func29, Tryd.ntmps29
  go_wp2_with fail
  all_goals
    go_loopg [8, 9, 10, 11, 12] k (fun kq v8 v9 _ _ _ wr => ∃ (p left : Int) (out : List Int), v8 = .int .i64 left ∧ Aside0 (chunk_Decode.l kq l0 p left out = some (r1, r2, r3)) ∧ Aside0 (Dec w wr w.heap.size A0 l0.length c0 p v9 out))
    case atStart => first | exact ⟨0, 0, [], rfl, ⟨(show mm = 0 by rw [← hmx]; unfold mx; split <;> omega) ▸ H.out⟩, HD0⟩ | exact ⟨0, a1, [], rfl, ⟨(show mm = a1 by rw [← hmx]; unfold mx; split <;> omega) ▸ H.out⟩, HD0⟩
    case round =>
      obtain ⟨p, left, out, rfl, H, D⟩ := hrel
      cases gk with
      | zero => exact absurd H.out (by simp [chunk_Decode.l])
      | succ k =>
        clear HD0 hmx
        have h := H.out
        clear H
        simp only [chunk_Decode.l] at h
        obtain ⟨⟨n1, e1, q1, m1⟩, hl, h⟩ := Option.bind_eq_some_iff.1 h
        simp only at h
        have call := fun (v : Unit) => chunk_reader_size.calls k w.heap.size A0 c0 l0 p false n1 e1 q1 m1 wr D.out.1 (Kd.C_below HC.out D.out.2.1) hc0 hl
        have CALL := Aside0.mk call
        clear call hl
        by_cases c1 : e1 = 0
        · subst c1
          rw [if_pos rfl] at h
          cases m1
          · rw [if_neg (by simp)] at h
            by_cases c2 : n1 = 0
            · subst c2
              rw [if_pos rfl] at h
              obtain ⟨⟨e2, q2, m2⟩, ht, h⟩ := Option.bind_eq_some_iff.1 h
              simp only at h
              have HT := Aside0.mk ht
              clear ht
              by_cases c3 : e2 = 0
              · subst c3
                rw [if_pos rfl] at h
                cases m2
                · rw [if_neg (by simp)] at h
                  simp only [Option.some.injEq, Prod.mk.injEq] at h
                  obtain ⟨rfl, rfl, rfl⟩ := h
                  go_wp2_with (first | (go_at_call 56; (with_reducible refine (CALL.out ()).mono ?_); rintro E w1 ⟨rfl, hw⟩; have hm := hw.more; have W1 := Aside0.mk hw; clear hw) | (go_at_call 58; (with_reducible refine (chunk_reader_trailer.calls k w.heap.size A0 c0 l0 q1 false _ _ _ w w1 (went_rdr W1.out) HC.out (D.out.below W1.out) (Nat.le_refl _) hc0 HT.out).mono ?_); rintro E w2 ⟨rfl, hw⟩; have hm2 := hw.more; have hp2 := hw.place; have W2 := Aside0.mk hw; clear hw))
                  have D3 := Aside0.mk ((D.out.went W1.out).went W2.out)
                  go_quiet (fail)
                  go_wp2_with fail
                  go_ret3
                  exact ⟨_, rfl, Kd.R_mono (Kd.R_below D3.out.2.2.2 (pw_below_drewN (Below.refl _ _) _)) (fun _ _ => trivial), pw_below_drewN D3.out.2.1 _⟩
                · rw [if_pos rfl] at h
                  simp only [Option.some.injEq, Prod.mk.injEq] at h
                  obtain ⟨rfl, rfl, rfl⟩ := h
                  go_wp2_with (first | (go_at_call 56; (with_reducible refine (CALL.out ()).mono ?_); rintro E w1 ⟨rfl, hw⟩; have hm := hw.more; have W1 := Aside0.mk hw; clear hw) | (go_at_call 58; (with_reducible refine (chunk_reader_trailer.calls k w.heap.size A0 c0 l0 q1 false _ _ _ w w1 (went_rdr W1.out) HC.out (D.out.below W1.out) (Nat.le_refl _) hc0 HT.out).mono ?_); rintro E w2 ⟨rfl, hw⟩; have hm2 := hw.more; have hp2 := hw.place; have W2 := Aside0.mk hw; clear hw))
                  go_ret3
                  exact dec_none ((D.out.went W1.out).below W2.out)
              · rw [if_neg c3] at h
                simp only [Option.some.injEq, Prod.mk.injEq] at h
                obtain ⟨rfl, rfl, rfl⟩ := h
                have d1 : (e2 == 0) = false := beq_eq_false_iff_ne.2 c3
                have d2 : (e2 != 0) = true := bne_iff_ne.2 c3
                clear c3
                go_wp2_with (first | (go_at_call 56; (with_reducible refine (CALL.out ()).mono ?_); rintro E w1 ⟨rfl, hw⟩; have hm := hw.more; have W1 := Aside0.mk hw; clear hw) | (go_at_call 58; (with_reducible refine (chunk_reader_trailer.calls k w.heap.size A0 c0 l0 q1 false _ _ _ w w1 (went_rdr W1.out) HC.out (D.out.below W1.out) (Nat.le_refl _) hc0 HT.out).mono ?_); rintro E w2 ⟨rfl, hw⟩; have hm2 := hw.more; have hp2 := hw.place; have W2 := Aside0.mk hw; clear hw))
                go_ret3
                exact dec_none ((D.out.went W1.out).below W2.out)
            · rw [if_neg c2] at h
              have d2 : (n1 == 0) = false := beq_eq_false_iff_ne.2 c2
              clear c2
              by_cases c3 : n1 > left
              · rw [if_pos c3] at h
                simp only [Option.some.injEq, Prod.mk.injEq] at h
                obtain ⟨rfl, rfl, rfl⟩ := h
                have d3 : decide (n1 > left) = true := decide_eq_true c3
                have d4 : (left < n1) = True := eq_true c3
                clear c3
                go_wp2_with (first | (go_at_call 56; (with_reducible refine (CALL.out ()).mono ?_); rintro E w1 ⟨rfl, hw⟩; have hm := hw.more; have W1 := Aside0.mk hw; clear hw))
                go_ret3
                exact dec_none (D.out.below W1.out)
              · rw [if_neg c3] at h
                have d3 : decide (n1 > left) = false := decide_eq_false c3
                have d4 : (left < n1) = False := eq_false c3
                clear c3
                obtain ⟨⟨r3', e3, q3, m3⟩, ht, h⟩ := Option.bind_eq_some_iff.1 h
                simp only at h
                have HT := Aside0.mk ht
                clear ht
                by_cases c4 : e3 = 0
                · subst c4
                  rw [if_pos rfl] at h
                  cases m3
                  · rw [if_neg (by simp)] at h
                    by_cases c5 : out.length + r3'.length ≤ 140737488355328
                    · rw [if_pos c5] at h
                      have HLEN := Aside0.mk c5
                      have H2 := Aside0.mk h
                      clear c5 h
                      go_wp2_with (first | (go_at_call 56; (with_reducible refine (CALL.out ()).mono ?_); rintro E w1 ⟨rfl, hw⟩; have hm := hw.more; have W1 := Aside0.mk hw; clear hw) | (go_at_call 57; (with_reducible refine (chunk_reader_data.calls w.heap.size A0 c0 l0 q1 n1 false r3' _ _ _ w w1 (went_rdr W1.out) HC.out (D.out.below W1.out) (Nat.le_refl _) hc0 HT.out).mono ?_); rintro E w2 ⟨A2, c2, rfl, hCr, hcr, hw⟩; have hm2 := hw.more; have W2 := Aside0.mk hw; have HCr := Aside0.mk hCr; have Hcr := Aside0.mk hcr; clear hw hCr hcr; have D2 := Aside0.mk ((D.out.went W1.out).went W2.out)) | ((with_reducible refine gate_builtin (b := .append) (xs := #[.tmp 57, .tmp 58]) rfl ?_); at_builtin; refine Kd.R_append_rows (Kd.int .u8) (w0 := w) w.heap.size rfl (.tmp 57) (.tmp 58) 24 5 (.int .u8 0) 1 rfl Tryd.underlying24 info5 rfl (by decide) (by omega) u9 out r3' _ _ _ (fun k_ => k_ ≠ w.heap.size) (fun _ => False) rfl rfl ?aO ?aR (fun _ _ h => h) (fun _ h => h.elim) ?aF ?aB ?aS ?aL ?_; (case aO => exact (D2.out).2.2.2); (case aR => exact Kd.C_below HCr.out D2.out.2.1); (case aF => intro k_ hk e_; have := blk_lt D2.out.1; omega); (case aB => exact D2.out.2.1); (case aS => exact D2.out.2.1.size); (case aL => have := HLEN.out; omega); intro v3 w3 ho hb3 hg3 hat; have D3 := Aside0.mk (show Dec w w3 w.heap.size A0 l0.length c0 q3 v3 (out ++ r3') from ⟨blk_grown D2.out.1 hg3 (fun e => (D2.out).2.2.2.1 _ e.symm rfl), hb3, Nat.le_refl _, ho⟩); clear ho hb3 hg3 hat))
                      go_roundg k
                      case rel => exact ⟨q3, wrap64 (left - n1), out ++ r3', rfl, H2, D3⟩
                      case measure => exact Nat.lt_succ_self k
                    · rw [if_neg c5] at h
                      cases h
                  · rw [if_pos rfl] at h
                    simp only [Option.some.injEq, Prod.mk.injEq] at h
                    obtain ⟨rfl, rfl, rfl⟩ := h
                    go_wp2_with (first | (go_at_call 56; (with_reducible refine (CALL.out ()).mono ?_); rintro E w1 ⟨rfl, hw⟩; have hm := hw.more; have W1 := Aside0.mk hw; clear hw) | (go_at_call 57; (with_reducible refine (chunk_reader_data.calls w.heap.size A0 c0 l0 q1 n1 false r3' _ _ _ w w1 (went_rdr W1.out) HC.out (D.out.below W1.out) (Nat.le_refl _) hc0 HT.out).mono ?_); rintro E w2 ⟨A2, c2, rfl, hCr, hcr, hw⟩; have hm2 := hw.more; have W2 := Aside0.mk hw; have HCr := Aside0.mk hCr; have Hcr := Aside0.mk hcr; clear hw hCr hcr))
                    go_ret3
                    exact dec_none ((D.out.went W1.out).below W2.out)
                · rw [if_neg c4] at h
                  simp only [Option.some.injEq, Prod.mk.injEq] at h
                  obtain ⟨rfl, rfl, rfl⟩ := h
                  have d5 : (e3 == 0) = false := beq_eq_false_iff_ne.2 c4
                  have d6 : (e3 != 0) = true := bne_iff_ne.2 c4
                  clear c4
                  go_wp2_with (first | (go_at_call 56; (with_reducible refine (CALL.out ()).mono ?_); rintro E w1 ⟨rfl, hw⟩; have hm := hw.more; have W1 := Aside0.mk hw; clear hw) | (go_at_call 57; (with_reducible refine (chunk_reader_data.calls w.heap.size A0 c0 l0 q1 n1 false r3' _ _ _ w w1 (went_rdr W1.out) HC.out (D.out.below W1.out) (Nat.le_refl _) hc0 HT.out).mono ?_); rintro E w2 ⟨A2, c2, rfl, hCr, hcr, hw⟩; have hm2 := hw.more; have W2 := Aside0.mk hw; have HCr := Aside0.mk hCr; have Hcr := Aside0.mk hcr; clear hw hCr hcr))
                  go_ret3
                  exact dec_none ((D.out.went W1.out).below W2.out)
          · rw [if_pos rfl] at h
            simp only [Option.some.injEq, Prod.mk.injEq] at h
            obtain ⟨rfl, rfl, rfl⟩ := h
            go_wp2_with (first | (go_at_call 56; (with_reducible refine (CALL.out ()).mono ?_); rintro E w1 ⟨rfl, hw⟩; have hm := hw.more; have W1 := Aside0.mk hw; clear hw))
            go_ret3
            exact dec_none (D.out.below W1.out)
        · rw [if_neg c1] at h
          simp only [Option.some.injEq, Prod.mk.injEq] at h
          obtain ⟨rfl, rfl, rfl⟩ := h
          have d1 : (e1 == 0) = false := beq_eq_false_iff_ne.2 c1
          have d2 : (e1 != 0) = true := bne_iff_ne.2 c1
          clear c1
          go_wp2_with (first | (go_at_call 56; (with_reducible refine (CALL.out ()).mono ?_); rintro E w1 ⟨rfl, hw⟩; have hm := hw.more; have W1 := Aside0.mk hw; clear hw))
          go_ret3
          exact dec_none (D.out.below W1.out)


end Go.Proofs.YtjgpifjfaiaidaaDoor.P

namespace Go.Proofs.YtjgpifjfaiaidaaDoor.P
open Go.RowKit Go.Proofs.YtjgpifjfaiaidaaDoorW.PrintWords Go.Proofs.YtjgpifjfaiaidaaDoorW.PrintLast Go.Proofs.YtjgpifjfaiaidaaDoorW.PrintMore
attribute [local go_sem] max2_int min2_int max_two min_two max_three min_three max_four min_four   -- for this text's walks alone
set_option linter.unusedVariables false
set_option linter.unusedSimpArgs false

def chunk_Encode.l0 : Nat → List Int → Int → List Int → Option (List Int)
  | 0, _, _, _ => none
  | k + 1, x0, x1, x5 => if (x0.length : Int) > 0 then ((sign_HexText.f (mn x1 (x0.length : Int))).bind fun t419 => (if t419.size + 2 ≤ 9223372036854775807 then (if x5.length + (t419 ++ (⟨#[13, 10]⟩ : ByteArray)).size < 140737488355328 then ((some (x5 ++ bytesOf (t419 ++ (⟨#[13, 10]⟩ : ByteArray)) : List Int)).bind fun y420 => (if 0 ≤ (mn x1 (x0.length : Int)) then (if (mn x1 (x0.length : Int)) ≤ (x0.length : Int) then ((some (x0.take ((mn x1 (x0.length : Int)) : Int).toNat : List Int)).bind fun y423 => (if y420.length + y423.length < 140737488355328 then ((some (y420 ++ y423 : List Int)).bind fun y428 => (if y428.length + 2 < 140737488355328 then (chunk_Encode.l0 k (x0.drop ((mn x1 (x0.length : Int)) : Int).toNat) x1 (y428 ++ bytesOf (⟨#[13, 10]⟩ : ByteArray))) else (none))) else (none))) else (none)) else (none))) else (none)) else (none))) else (if x5.length + 5 < 140737488355328 then (some (x5 ++ bytesOf (⟨#[48, 13, 10, 13, 10]⟩ : ByteArray))) else (none))
def chunk_Encode.f (k : Nat) (l0 : List Int) (a1 : Int) : Option (List Int) := chunk_Encode.l0 k l0 (mx a1 1) ([] : List Int)
theorem chunk_Encode.mono_l : ∀ k, (∀ y0 y1 y2, LeO (chunk_Encode.l0 k y0 y1 y2) (chunk_Encode.l0 (k + 1) y0 y1 y2))
  | 0 => fun _ _ _ r h => by simp [chunk_Encode.l0] at h
  | k + 1 => by
    have ih0 := chunk_Encode.mono_l k
    · intro y0 y1 y2
      unfold chunk_Encode.l0
      repeat' first
      | (with_reducible exact ih0 _ _ _)
      | (with_reducible exact LeO.refl _)
      | (with_reducible exact LeO.none _)
      | (with_reducible refine LeO.ite ?_ ?_)
      | (with_reducible refine LeO.bind ?_ (fun _ => ?_))
      | exact ih0 _ _ _
      | exact LeO.none _
      | refine LeO.ite ?_ ?_
      | refine LeO.bind ?_ (fun _ => ?_)
theorem chunk_Encode.mono : ∀ a0 a1 k, LeO (chunk_Encode.f k a0 a1) (chunk_Encode.f (k + 1) a0 a1) := by
  intro a0 a1 k
  have ih0 := chunk_Encode.mono_l k
  unfold chunk_Encode.f
  repeat' first
      | (with_reducible exact ih0 _ _ _)
      | (with_reducible exact LeO.refl _)
      | (with_reducible exact LeO.none _)
      | (with_reducible refine LeO.ite ?_ ?_)
      | (with_reducible refine LeO.bind ?_ (fun _ => ?_))
      | exact ih0 _ _ _
      | exact LeO.none _
      | refine LeO.ite ?_ ?_
      | refine LeO.bind ?_ (fun _ => ?_)
set_option maxHeartbeats 8000000 in
set_option maxRecDepth 100000 in
theorem chunk_Encode.calls (k : Nat) (P0_ : Nat → Prop) (A0 : Option Addr) (c0 : Nat) (l0 : List Int) (a1 : Int) (r : List Int) (w : World) (hs0 : Kd.V (Kd.int .u8) 5 w w.heap.size (fun k_ => P0_ k_) (.slice A0 l0.length c0) l0) (h : chunk_Encode.f k l0 a1 = some r) (ht : Tabs w) :
    Calls Tryd.prog 32 #[.slice A0 l0.length c0, .int .i64 a1] w fun e w' => ∃ v0_ : Value, e = .returned (v0_) ∧ Kd.R (Kd.int .u8) 5 w' w.heap.size (fun k_ => (w.heap.size ≤ k_)) v0_ r ∧ Below w.heap.size w w' := by
  have HTB := Aside0.mk ht
  clear ht
  have HO0 := Aside0.mk (show Kd.V (Kd.int .u8) 5 w w.heap.size (fun k_ => (P0_ k_ ∨ w.heap.size ≤ k_)) (.slice A0 l0.length c0) l0 from Kd.V_mono hs0 (fun k_ hk => .inl hk))
  have HB := Aside0.mk (Below.refl w.heap.size w)
  have H : (chunk_Encode.l0 k l0 (mx a1 1) ([] : List Int)) = some r := h
  clear h
  obtain ⟨ji3, hji3⟩ : ∃ j_ : Int, (mx a1 1) = j_ := ⟨_, rfl⟩
  replace H : (chunk_Encode.l0 k l0 ji3 ([] : List Int)) = some r := by first | (rw [hji3] at H; exact H) | (simp only [hji3] at H ⊢; exact H)
  (try (have hji3l : 1 ≤ ji3 := by (rw [← hji3]; unfold mx; (repeat' split) <;> omega)))
  (try (have hji3m : 0 ≤ ji3 := by omega))
  have hji3_ : (if a1 < 1 then 1 else a1) = ji3 := hji3
  have H' := Aside0.mk H
  clear H
  go_enter Tryd.func32, Tryd.ntmps32
  go_wp2
  go_loopg [0, 5] k (fun kq v0 v5 w' => ∃ (x0_1 : List Int) (x5_1 : List Int), Aside0 (chunk_Encode.l0 kq x0_1 ji3 x5_1 = some r) ∧ Aside0 (kq ≤ k) ∧ Aside0 (Kd.V (Kd.int .u8) 5 w' w.heap.size (fun k_ => (P0_ k_ ∨ w.heap.size ≤ k_) ∧ some k_ ≠ (v5 : Value).ownBlock) v0 x0_1) ∧ Aside0 (Kd.R (Kd.int .u8) 5 w' w.heap.size (fun k_ => (w.heap.size ≤ k_)) v5 x5_1) ∧ Aside0 (Below w.heap.size w w'))
  case atStart => exact ⟨(l0), (([] : List Int)), H', ⟨Nat.le_refl _⟩, ⟨by (with_reducible repeat (first | apply Kd.V_alloc | apply Kd.V_drewN | apply Kd.V_drew)); exact Kd.V_mono HO0.out (fun _ hk => ⟨hk, (by simp [Value.ownBlock])⟩)⟩, ⟨by first | exact Kd.R_nil _ _ _ _ _ | exact Kd.N_nil _ _ _ _ _ | exact Kd.V_nil _ _ _ _ _ | exact Kd.Q_nil _ _ _ _ _ | exact Kd.S_nil _ _ _ _ _⟩, ⟨by repeat (first | (with_reducible first | exact HB.out | apply below_alloc | apply pw_below_drewN | apply below_drew1) | exact HB.out)⟩⟩
  case round =>
    clear H'
    try clear p2
    try clear c3
    obtain ⟨x0_1, x5_1, HA, HK1, HO_0, HO_5, HB⟩ := hrel
    cases gk with
    | zero => exact absurd HA.out (by simp [chunk_Encode.l0])
    | succ k1 =>
      have H := HA.out
      clear HA
      simp only [chunk_Encode.l0] at H
      by_cases c4 : (x0_1.length : Int) > 0
      · rw [if_pos c4] at H
        have c4b0 : decide (0 < (x0_1.length : Int)) = true := decide_eq_true c4
        have c4b1 : decide (0 < x0_1.length) = true := decide_eq_true (by omega)
        clear c4
        obtain ⟨ji5, hji5⟩ : ∃ j_ : Int, (mn ji3 (x0_1.length : Int)) = j_ := ⟨_, rfl⟩
        replace H : ((sign_HexText.f (ji5)).bind fun t419 => (if t419.size + 2 ≤ 9223372036854775807 then (if x5_1.length + (t419 ++ (⟨#[13, 10]⟩ : ByteArray)).size < 140737488355328 then ((some (x5_1 ++ bytesOf (t419 ++ (⟨#[13, 10]⟩ : ByteArray)) : List Int)).bind fun y420 => (if 0 ≤ (ji5) then (if (ji5) ≤ (x0_1.length : Int) then ((some (x0_1.take ((ji5) : Int).toNat : List Int)).bind fun y423 => (if y420.length + y423.length < 140737488355328 then ((some (y420 ++ y423 : List Int)).bind fun y428 => (if y428.length + 2 < 140737488355328 then (chunk_Encode.l0 k1 (x0_1.drop ((ji5) : Int).toNat) ji3 (y428 ++ bytesOf (⟨#[13, 10]⟩ : ByteArray))) else (none))) else (none))) else (none)) else (none))) else (none)) else (none))) = some r := by first | (rw [hji5] at H; exact H) | (simp only [hji5] at H ⊢; exact H)
        have hji5_ : (if (x0_1.length : Int) < ji3 then (x0_1.length : Int) else ji3) = ji5 := hji5
        replace H := Option.bind_eq_some_iff.mp H
        obtain ⟨t419, A60, H⟩ := H
        replace H : (if t419.size + 2 ≤ 9223372036854775807 then (if x5_1.length + (t419 ++ (⟨#[13, 10]⟩ : ByteArray)).size < 140737488355328 then ((some (x5_1 ++ bytesOf (t419 ++ (⟨#[13, 10]⟩ : ByteArray)) : List Int)).bind fun y420 => (if 0 ≤ (ji5) then (if (ji5) ≤ (x0_1.length : Int) then ((some (x0_1.take ((ji5) : Int).toNat : List Int)).bind fun y423 => (if y420.length + y423.length < 140737488355328 then ((some (y420 ++ y423 : List Int)).bind fun y428 => (if y428.length + 2 < 140737488355328 then (chunk_Encode.l0 k1 (x0_1.drop ((ji5) : Int).toNat) ji3 (y428 ++ bytesOf (⟨#[13, 10]⟩ : ByteArray))) else (none))) else (none))) else (none)) else (none))) else (none)) else (none)) = some r := H
        have A6 := Aside0.mk A60
        clear A60
        by_cases c7 : t419.size + 2 ≤ 9223372036854775807
        · rw [if_pos c7] at H
          have c7b0 := eq_true c7
          have c7b1 : decide (t419.size + 2 ≤ 9223372036854775807) = true := decide_eq_true c7
          try have c7b2 : (9223372036854775807 < t419.size + 2) = False := eq_false (Nat.not_lt.2 c7)
          by_cases c8 : x5_1.length + (t419 ++ (⟨#[13, 10]⟩ : ByteArray)).size < 140737488355328
          · rw [if_pos c8] at H
            have LMc8 := Aside0.mk c8
            clear c8
            obtain ⟨y420, hy420⟩ : ∃ y_ : List Int, y_ = (x5_1 ++ bytesOf (t419 ++ (⟨#[13, 10]⟩ : ByteArray))) := ⟨_, rfl⟩
            replace H : (if 0 ≤ (ji5) then (if (ji5) ≤ (x0_1.length : Int) then ((some (x0_1.take ((ji5) : Int).toNat : List Int)).bind fun y423 => (if y420.length + y423.length < 140737488355328 then ((some (y420 ++ y423 : List Int)).bind fun y428 => (if y428.length + 2 < 140737488355328 then (chunk_Encode.l0 k1 (x0_1.drop ((ji5) : Int).toNat) ji3 (y428 ++ bytesOf (⟨#[13, 10]⟩ : ByteArray))) else (none))) else (none))) else (none)) else (none)) = some r := by first | (rw [hy420]; with_reducible exact H) | (have H2_ := (Option.bind_some _ _).symm.trans H; rw [hy420]; with_reducible exact H2_) | (have H2_ := (Option.bind_some _ _).symm.trans H; with_reducible exact H2_) | with_reducible exact H | (rw [hy420]; exact H) | exact H
            have Ny420 := Aside0.mk hy420
            clear hy420
            by_cases c9 : 0 ≤ (ji5)
            · rw [if_pos c9] at H
              have c9b0 := eq_true c9
              have c9b1 : decide (0 ≤ (ji5)) = true := decide_eq_true c9
              clear c9
              by_cases c10 : (ji5) ≤ (x0_1.length : Int)
              · rw [if_pos c10] at H
                have c10b0 := eq_true c10
                have c10b1 : decide ((ji5) ≤ (x0_1.length : Int)) = true := decide_eq_true c10
                clear c10
                obtain ⟨y423, hy423⟩ : ∃ y_ : List Int, y_ = (x0_1.take ((ji5) : Int).toNat) := ⟨_, rfl⟩
                replace H : (if y420.length + y423.length < 140737488355328 then ((some (y420 ++ y423 : List Int)).bind fun y428 => (if y428.length + 2 < 140737488355328 then (chunk_Encode.l0 k1 (x0_1.drop ((ji5) : Int).toNat) ji3 (y428 ++ bytesOf (⟨#[13, 10]⟩ : ByteArray))) else (none))) else (none)) = some r := by first | (rw [hy423]; with_reducible exact H) | (have H2_ := (Option.bind_some _ _).symm.trans H; rw [hy423]; with_reducible exact H2_) | (have H2_ := (Option.bind_some _ _).symm.trans H; with_reducible exact H2_) | with_reducible exact H | (rw [hy423]; exact H) | exact H
                have Ny423 := Aside0.mk hy423
                clear hy423
                by_cases c11 : y420.length + y423.length < 140737488355328
                · rw [if_pos c11] at H
                  have LMc11 := Aside0.mk c11
                  clear c11
                  obtain ⟨y428, hy428⟩ : ∃ y_ : List Int, y_ = (y420 ++ y423) := ⟨_, rfl⟩
                  replace H : (if y428.length + 2 < 140737488355328 then (chunk_Encode.l0 k1 (x0_1.drop ((ji5) : Int).toNat) ji3 (y428 ++ bytesOf (⟨#[13, 10]⟩ : ByteArray))) else (none)) = some r := by first | (rw [hy428]; with_reducible exact H) | (have H2_ := (Option.bind_some _ _).symm.trans H; rw [hy428]; with_reducible exact H2_) | (have H2_ := (Option.bind_some _ _).symm.trans H; with_reducible exact H2_) | with_reducible exact H | (rw [hy428]; exact H) | exact H
                  have Ny428 := Aside0.mk hy428
                  clear hy428
                  by_cases c12 : y428.length + 2 < 140737488355328
                  · rw [if_pos c12] at H
                    have LMc12 := Aside0.mk c12
                    clear c12
                    obtain ⟨y431, hy431⟩ : ∃ y_ : List Int, y_ = (y428 ++ bytesOf (⟨#[13, 10]⟩ : ByteArray)) := ⟨_, rfl⟩
                    replace H : (chunk_Encode.l0 k1 (x0_1.drop ((ji5) : Int).toNat) ji3 y431) = some r := by first | (rw [hy431]; with_reducible exact H) | (have H2_ := (Option.bind_some _ _).symm.trans H; rw [hy431]; with_reducible exact H2_) | (have H2_ := (Option.bind_some _ _).symm.trans H; with_reducible exact H2_) | with_reducible exact H | (rw [hy431]; exact H) | exact H
                    have Ny431 := Aside0.mk hy431
                    clear hy431
                    have c13b0 := eq_true (of_decide_eq_true (by first | (with_reducible assumption) | assumption) : 0 ≤ (ji5))
                    have c14b0 := eq_true (of_decide_eq_true (by first | (with_reducible assumption) | assumption) : (ji5) ≤ (x0_1.length : Int))
                    obtain ⟨y434, hy434⟩ : ∃ y_ : List Int, y_ = (x0_1.drop ((ji5) : Int).toNat) := ⟨_, rfl⟩
                    replace H : (chunk_Encode.l0 k1 y434 ji3 y431) = some r := by first | (rw [hy434]; with_reducible exact H) | (have H2_ := (Option.bind_some _ _).symm.trans H; rw [hy434]; with_reducible exact H2_) | (have H2_ := (Option.bind_some _ _).symm.trans H; with_reducible exact H2_) | with_reducible exact H | (rw [hy434]; exact H) | exact H
                    have Ny434 := Aside0.mk hy434
                    clear hy434
                    have H' := Aside0.mk H
                    clear H
                    obtain ⟨Ao15, co15, eo15⟩ := Kd.V_slice HO_0.out
                    subst eo15
                    go_wp2_with (first | ((with_reducible refine gate_callee (f := 62) rfl ?_); refine goesL_ (some 18) rfl rfl Tryd.func62 (by kernel_rfl) rfl #[.int .i64 ji5] rfl (by (try simp only [List.map_toArray, List.map_cons, List.map_nil]); first | done | (simp only [hji5]; rfl) | rfl | (simp only [List.length_drop, List.length_take]; rfl)) ?_; (with_reducible refine (sign_HexText.calls ji5 t419 _ A6.out ?hT).mono ?_); (case hT => exact HTB.out.below (by repeat (first | (with_reducible first | exact HB.out | apply below_alloc | apply pw_below_drewN | apply below_drew1) | exact HB.out))); rintro e w16 ⟨rfl, hb⟩; (try clear A6); refine ⟨_, rfl, ?_⟩; have n0_ := Aside0.mk (Kd.V_below (by (with_reducible repeat (first | apply Kd.V_alloc | apply Kd.V_drewN | apply Kd.V_drew)); exact HO_0.out) hb); have n1_ := Aside0.mk (Kd.R_below (by (with_reducible repeat (first | apply Kd.R_alloc | apply Kd.R_drewN | apply Kd.R_drew)); exact HO_5.out) hb); have n2_ := Aside0.mk (below_step (by repeat (first | (with_reducible first | exact HB.out | apply below_alloc | apply pw_below_drewN | apply below_drew1) | exact HB.out)) hb); clear HO_0; clear HO_5; clear HB; have HO_0 := n0_; have HO_5 := n1_; have HB := n2_; clear n0_ n1_ n2_; (try clear hb); (try clear hb2); (try clear hk); (try clear hi)) | (at_builtin; refine Kd.R_append_str (w0 := w) w.heap.size rfl (.tmp 16) _ 24 9 5 rfl Tryd.underlying24 Tryd.underlying9 info5 u5 x5_1 (t419 ++ (⟨#[13, 10]⟩ : ByteArray)) (fun k_ => (w.heap.size ≤ k_)) rfl rfl ?aF ?aO ?aB ?aS ?aL ?_; (case aB => exact (by repeat (first | (with_reducible first | exact HB.out | apply below_alloc | apply pw_below_drewN | apply below_drew1) | exact HB.out))); (case aF => exact (fun k_ hk => (Nat.le_trans (below_size (by repeat (first | (with_reducible first | exact HB.out | apply below_alloc | apply pw_below_drewN | apply below_drew1) | exact HB.out))) hk))); (case aO => exact (by (with_reducible repeat (first | apply Kd.R_alloc | apply Kd.R_drewN | apply Kd.R_drew)); exact HO_5.out)); (case aS => exact (below_size (by repeat (first | (with_reducible first | exact HB.out | apply below_alloc | apply pw_below_drewN | apply below_drew1) | exact HB.out)))); (case aL => have := LMc8.out; omega); intro v421 w17 ho hb hg hat; rw [← Ny420.out] at ho; have n0_ := Aside0.mk (Kd.V_afterv (ok := (fun k_ => (P0_ k_ ∨ w.heap.size ≤ k_))) (by (with_reducible repeat (first | apply Kd.V_alloc | apply Kd.V_drewN | apply Kd.V_drew)); exact HO_0.out) hg hat); have n1_ := Aside0.mk (hb); have n2_ := Aside0.mk (ho); clear HO_0; clear HB; clear HO_5; have HO_0 := n0_; have HB := n1_; have HO422 := n2_; clear n0_ n1_ n2_; clear ho hb hg hat; have q18 : ((ji5) : Int) ≤ ((x0_1.length : Int) : Int) := of_decide_eq_true (by first | (with_reducible assumption) | assumption); obtain ⟨i018, hi018, _, hsz18, _⟩ := info_parts info5; have hroom18 : x0_1.length ≤ co15 := (Kd.V_reads' HO_0.out).2.1; have hC18 : Kd.F (Kd.int .u8) _ _ Ao15 x0_1.length x0_1 := (Kd.V_at (base := w.heap.size) HO_0.out).2.2; have hcut18 := cut_to (P := Tryd.prog) 24 5 .i64 Tryd.underlying24 hi018 Ao15 x0_1.length co15 (ji5) (of_decide_eq_true (by first | (with_reducible assumption) | assumption)) q18 hroom18; have hr18 := Kd.F_take (m := ((ji5) : Int).toNat) hC18 (by omega); have hy18 : y423.length = ((ji5) : Int).toNat := (by rw [Ny423.out, List.length_take]; omega); rw [← Ny423.out] at hr18; rw [← hy18] at hcut18; have HO427 := Aside0.mk (show Kd.V (Kd.int .u8) 5 _ w.heap.size _ (.slice Ao15 y423.length co15) y423 from Kd.V_mk (by omega) hr18); have HC427 := Aside0.mk (show y423.length ≤ co15 from by omega); clear hr18 hC18 hroom18 hi018 hsz18; have KY18 := Aside0.mk hy18; clear hy18; replace q18 := eq_true q18) | ((with_reducible refine gate_builtin (b := .append) (xs := #[.tmp 21, .tmp 24]) rfl ?_); at_builtin; refine Kd.R_append_rows (Kd.int .u8) (w0 := w) w.heap.size rfl (.tmp 21) (.tmp 24) 24 5 (.int .u8 0) 1 rfl Tryd.underlying24 info5 rfl (by decide) (by omega) v421 y420 y423 _ _ _ (fun k_ => (w.heap.size ≤ k_)) (fun _ => False) rfl rfl ?aO ?aR (fun _ _ h => h) (fun _ h => h.elim) ?aF ?aB ?aS ?aL ?_; (case aR => repeat (first | exact (Kd.V_reads' HO427.out).2.2 | (with_reducible refine Kd.C_alloc ?_ _) | (with_reducible refine Kd.C_drewN ?_ _) | (with_reducible refine Kd.C_drew ?_))); (case aB => exact (by repeat (first | (with_reducible first | exact HB.out | apply below_alloc | apply pw_below_drewN | apply below_drew1) | exact HB.out))); (case aF => exact (fun k_ hk => (Nat.le_trans (below_size (by repeat (first | (with_reducible first | exact HB.out | apply below_alloc | apply pw_below_drewN | apply below_drew1) | exact HB.out))) hk))); (case aO => exact (by (with_reducible repeat (first | apply Kd.R_alloc | apply Kd.R_drewN | apply Kd.R_drew)); exact HO422.out)); (case aS => exact (below_size (by repeat (first | (with_reducible first | exact HB.out | apply below_alloc | apply pw_below_drewN | apply below_drew1) | exact HB.out)))); (case aL => have := LMc11.out; omega); intro v429 w19 ho hb hg hat; rw [← Ny428.out] at ho; have n0_ := Aside0.mk (Kd.V_afterv (ok := (fun k_ => (P0_ k_ ∨ w.heap.size ≤ k_))) (by (with_reducible repeat (first | apply Kd.V_alloc | apply Kd.V_drewN | apply Kd.V_drew)); exact HO_0.out) hg hat); have n1_ := Aside0.mk (Kd.V_afterv (ok := (fun k_ => (P0_ k_ ∨ w.heap.size ≤ k_))) (by (with_reducible repeat (first | apply Kd.V_alloc | apply Kd.V_drewN | apply Kd.V_drew)); exact HO427.out) hg hat); have n2_ := Aside0.mk (hb); have n3_ := Aside0.mk (ho); clear HO_0; clear HO427; clear HB; clear HO422; have HO_0 := n0_; have HO427 := n1_; have HB := n2_; have HO430 := n3_; clear n0_ n1_ n2_ n3_; clear ho hb hg hat) | (at_builtin; refine Kd.R_append_str (w0 := w) w.heap.size rfl (.tmp 26) _ 24 9 5 rfl Tryd.underlying24 Tryd.underlying9 info5 v429 y428 (⟨#[13, 10]⟩ : ByteArray) (fun k_ => (w.heap.size ≤ k_)) rfl rfl ?aF ?aO ?aB ?aS ?aL ?_; (case aB => exact (by repeat (first | (with_reducible first | exact HB.out | apply below_alloc | apply pw_below_drewN | apply below_drew1) | exact HB.out))); (case aF => exact (fun k_ hk => (Nat.le_trans (below_size (by repeat (first | (with_reducible first | exact HB.out | apply below_alloc | apply pw_below_drewN | apply below_drew1) | exact HB.out))) hk))); (case aO => exact (by (with_reducible repeat (first | apply Kd.R_alloc | apply Kd.R_drewN | apply Kd.R_drew)); exact HO430.out)); (case aS => exact (below_size (by repeat (first | (with_reducible first | exact HB.out | apply below_alloc | apply pw_below_drewN | apply below_drew1) | exact HB.out)))); (case aL => have hl_ : (⟨#[13, 10]⟩ : ByteArray).size = 2 := rfl; have := LMc12.out; omega); intro v432 w20 ho hb hg hat; rw [← Ny431.out] at ho; have n0_ := Aside0.mk (Kd.V_afterv (ok := (fun k_ => (P0_ k_ ∨ w.heap.size ≤ k_))) (by (with_reducible repeat (first | apply Kd.V_alloc | apply Kd.V_drewN | apply Kd.V_drew)); exact HO_0.out) hg hat); have n1_ := Aside0.mk (Kd.V_afterv (ok := (fun k_ => (P0_ k_ ∨ w.heap.size ≤ k_))) (by (with_reducible repeat (first | apply Kd.V_alloc | apply Kd.V_drewN | apply Kd.V_drew)); exact HO427.out) hg hat); have n2_ := Aside0.mk (hb); have n3_ := Aside0.mk (ho); clear HO_0; clear HO427; clear HB; clear HO430; have HO_0 := n0_; have HO427 := n1_; have HB := n2_; have HO433 := n3_; clear n0_ n1_ n2_ n3_; clear ho hb hg hat; have q21 : ((ji5) : Int) ≤ ((x0_1.length : Int) : Int) := of_decide_eq_true (by first | (with_reducible assumption) | assumption); obtain ⟨i021, hi021, _, hsz21, _⟩ := info_parts info5; have hroom21 : x0_1.length ≤ co15 := (Kd.V_reads' HO_0.out).2.1; have hC21 : Kd.F (Kd.int .u8) _ _ Ao15 x0_1.length x0_1 := (Kd.V_at (base := w.heap.size) HO_0.out).2.2; have q021 : (0 : Int) ≤ ((ji5) : Int) := of_decide_eq_true (by first | (with_reducible assumption) | assumption); have hcut21 := cut_from (P := Tryd.prog) 24 5 .i64 Tryd.underlying24 hi021 1 hsz21 Ao15 x0_1.length co15 (ji5) q021 q21; have hr21 := Kd.F_cut (m := ((ji5) : Int).toNat) (c := co15) hC21 (by omega) hroom21; obtain ⟨A21, hA21⟩ : ∃ A1, A1 = (if co15 = ((ji5) : Int).toNat then Ao15 else (Ao15 : Option Addr).map (·.add (((ji5) : Int).toNat * 1))) := ⟨_, rfl⟩; obtain ⟨c21, hc21⟩ : ∃ c1, c1 = co15 - ((ji5) : Int).toNat := ⟨_, rfl⟩; have hy21 : y434.length = x0_1.length - ((ji5) : Int).toNat := (by rw [Ny434.out, List.length_drop] <;> omega); rw [show (x0_1).drop ((ji5) : Int).toNat = y434 from Ny434.out.symm] at hr21; replace hr21 : Kd.F (Kd.int .u8) _ _ A21 y434.length y434 := (by rw [hA21]; exact hr21); rw [← hy21, ← hA21, ← hc21] at hcut21; have HO438 := Aside0.mk (show Kd.V (Kd.int .u8) 5 _ w.heap.size _ (.slice A21 y434.length c21) y434 from Kd.V_mk (by rw [hy21, hc21]; exact Nat.sub_le_sub_right hroom21 _) hr21); have HC438 := Aside0.mk (show y434.length ≤ c21 from by rw [hy21, hc21]; exact Nat.sub_le_sub_right hroom21 _); clear hr21 hC21 hroom21 hi021 hsz21 hc21; have KY21 := Aside0.mk hy21; have KA21 := Aside0.mk hA21; clear hy21 hA21; replace q21 := eq_true q21))
                    go_roundg k1
                    case measure => have := HK1.out; omega
                    case rel => exact ⟨(y434), (y431), H', ⟨by have := HK1.out; omega⟩, ⟨by (with_reducible repeat (first | apply Kd.V_alloc | apply Kd.V_drewN | apply Kd.V_drew)); exact HO438.out⟩, ⟨by (with_reducible repeat (first | apply Kd.R_alloc | apply Kd.R_drewN | apply Kd.R_drew)); exact HO433.out⟩, ⟨by repeat (first | (with_reducible first | exact HB.out | apply below_alloc | apply pw_below_drewN | apply below_drew1) | exact HB.out)⟩⟩
                  · rw [if_neg c12] at H
                    exact absurd H (by simp)
                · rw [if_neg c11] at H
                  exact absurd H (by simp)
              · rw [if_neg c10] at H
                exact absurd H (by simp)
            · rw [if_neg c9] at H
              exact absurd H (by simp)
          · rw [if_neg c8] at H
            exact absurd H (by simp)
        · rw [if_neg c7] at H
          exact absurd H (by simp)
      · rw [if_neg c4] at H
        have c4b0 : decide (0 < (x0_1.length : Int)) = false := decide_eq_false c4
        have c4b1 : decide (0 < x0_1.length) = false := decide_eq_false (by omega)
        clear c4
        by_cases c22 : x5_1.length + 5 < 140737488355328
        · rw [if_pos c22] at H
          have LMc22 := Aside0.mk c22
          clear c22
          obtain ⟨y439, hy439⟩ : ∃ y_ : List Int, y_ = (x5_1 ++ bytesOf (⟨#[48, 13, 10, 13, 10]⟩ : ByteArray)) := ⟨_, rfl⟩
          replace H : (some y439) = some r := by first | (rw [hy439]; with_reducible exact H) | (have H2_ := (Option.bind_some _ _).symm.trans H; rw [hy439]; with_reducible exact H2_) | (have H2_ := (Option.bind_some _ _).symm.trans H; with_reducible exact H2_) | with_reducible exact H | (rw [hy439]; exact H) | exact H
          have Ny439 := Aside0.mk hy439
          clear hy439
          obtain rfl := Option.some.inj H
          obtain ⟨Ao23, co23, eo23⟩ := Kd.V_slice HO_0.out
          subst eo23
          go_wp2_with (first | (at_builtin; refine Kd.R_append_str (w0 := w) w.heap.size rfl (.tmp 31) _ 24 9 5 rfl Tryd.underlying24 Tryd.underlying9 info5 u5 x5_1 (⟨#[48, 13, 10, 13, 10]⟩ : ByteArray) (fun k_ => (w.heap.size ≤ k_)) rfl rfl ?aF ?aO ?aB ?aS ?aL ?_; (case aB => exact (by repeat (first | (with_reducible first | exact HB.out | apply below_alloc | apply pw_below_drewN | apply below_drew1) | exact HB.out))); (case aF => exact (fun k_ hk => (Nat.le_trans (below_size (by repeat (first | (with_reducible first | exact HB.out | apply below_alloc | apply pw_below_drewN | apply below_drew1) | exact HB.out))) hk))); (case aO => exact (by (with_reducible repeat (first | apply Kd.R_alloc | apply Kd.R_drewN | apply Kd.R_drew)); exact HO_5.out)); (case aS => exact (below_size (by repeat (first | (with_reducible first | exact HB.out | apply below_alloc | apply pw_below_drewN | apply below_drew1) | exact HB.out)))); (case aL => have hl_ : (⟨#[48, 13, 10, 13, 10]⟩ : ByteArray).size = 5 := rfl; have := LMc22.out; omega); intro v440 w24 ho hb hg hat; rw [← Ny439.out] at ho; have n0_ := Aside0.mk (Kd.V_afterv (ok := (fun k_ => (P0_ k_ ∨ w.heap.size ≤ k_))) (by (with_reducible repeat (first | apply Kd.V_alloc | apply Kd.V_drewN | apply Kd.V_drew)); exact HO_0.out) hg hat); have n1_ := Aside0.mk (hb); have n2_ := Aside0.mk (ho); clear HO_0; clear HB; clear HO_5; have HO_0 := n0_; have HB := n1_; have HO441 := n2_; clear n0_ n1_ n2_; clear ho hb hg hat))
          go_ret
          exact ⟨_, by first | rfl | (simp [errW_none, errW_some] <;> rfl) | (simp only [← hji3]; first | rfl | (simp [errW_none, errW_some] <;> rfl)) | (simp [*, errW_none, errW_some] <;> rfl), by (with_reducible repeat (first | apply Kd.R_alloc | apply Kd.R_drewN | apply Kd.R_drew)); exact HO441.out, by repeat (first | (with_reducible first | exact HB.out | apply below_alloc | apply pw_below_drewN | apply below_drew1) | exact HB.out)⟩
        · rw [if_neg c22] at H
          exact absurd H (by simp)

end Go.Proofs.YtjgpifjfaiaidaaDoor.P

