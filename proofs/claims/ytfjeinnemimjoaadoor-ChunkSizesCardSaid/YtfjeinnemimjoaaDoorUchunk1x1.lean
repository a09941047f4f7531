/- Each function below answers as its Lean twin says. No further condition. (Laid by this repo's packseat.py out of the seat's texts and of the print's words.) -/
import Derived.Test.YtfjeinnemimjoaaDoorU0base0x0
import Derived.Test.YtfjeinnemimjoaaDoorUchunk0x0
import Derived.Test.YtfjeinnemimjoaaDoorUchunk1x0
import Derived.Test.YtfjeinnemimjoaaDoorUline0x0
import Derived.Test.YtfjeinnemimjoaaDoorUsign0x0
import Derived.Test.YtfjeinnemimjoaaDoorUsign0x1
namespace Go.Proofs.YtfjeinnemimjoaaDoor.P
open Go.RowKit Go.Proofs.YtfjeinnemimjoaaDoorW.PrintWords Go.Proofs.YtfjeinnemimjoaaDoorW.PrintLast Go.Proofs.YtfjeinnemimjoaaDoorW.PrintMore
attribute [local go_sem] max2_int min2_int max_two min_two max_three min_three max_four min_four   -- for this text's walks alone
set_option linter.unusedVariables false
set_option linter.unusedSimpArgs false

def chunk_Decode.l : Nat → List Int → Int → Int → List Int → Option (List Int × Int × Int)
  | 0, _, _, _, _ => none
  | k + 1, l, p, left, out => (chunk_reader_size.f k l p).bind fun x => if x.2.1 = 0 then (if x.2.2.2 = true then some ([], 0, 0) else
      if x.1 = 0 then ((chunk_reader_trailer.f k l x.2.2.1).bind fun y => if y.1 = 0 then (if y.2.2 = true then some ([], 0, 0) else some (out, y.2.1, 0)) else some ([], 0, y.1))
      else if x.1 > left then some ([], 0, 2)
      else (chunk_reader_data.f l x.2.2.1 x.1 false).bind fun d => if d.2.1 = 0 then (if d.2.2.2 = true then some ([], 0, 0) else if out.length + d.1.length ≤ 140737488355328 then chunk_Decode.l k l d.2.2.1 (wrap64 (left - x.1)) (out ++ d.1) else none) else some ([], 0, d.2.1))
    else some ([], 0, x.2.1)
def chunk_Decode.f (k : Nat) (l0 : List Int) (a1 : Int) : Option (List Int × Int × Int) := chunk_Decode.l k l0 0 (mx a1 0) []
theorem chunk_reader_line.mono : ∀ l p k, LeO (chunk_reader_line.f k l p) (chunk_reader_line.f (k + 1) l p) := by
  intro l p k
  unfold chunk_reader_line.f
  repeat' first
    | (with_reducible exact line_Cut.mono _ _ _)
    | (with_reducible exact LeO.refl _)
    | (with_reducible exact LeO.none _)
    | (with_reducible refine LeO.ite ?_ ?_)
    | (with_reducible refine LeO.bind ?_ (fun _ => ?_))
theorem chunk_reader_size.mono : ∀ l p k, LeO (chunk_reader_size.f k l p) (chunk_reader_size.f (k + 1) l p) := by
  intro l p k
  unfold chunk_reader_size.f
  repeat' first
    | (with_reducible exact chunk_reader_line.mono _ _ _)
    | (with_reducible exact sign_Hex.mono _ _)
    | (with_reducible exact LeO.refl _)
    | (with_reducible exact LeO.none _)
    | (with_reducible refine LeO.ite ?_ ?_)
    | (with_reducible refine LeO.bind ?_ (fun _ => ?_))
theorem chunk_reader_trailer.mono_l : ∀ k l p n, LeO (chunk_reader_trailer.l k l p n) (chunk_reader_trailer.l (k + 1) l p n)
  | 0 => fun _ _ _ r h => by simp [chunk_reader_trailer.l] at h
  | k + 1 => by
    intro l p n
    have ih := chunk_reader_trailer.mono_l k
    rw [chunk_reader_trailer.l, chunk_reader_trailer.l]
    repeat' first
      | (with_reducible exact chunk_reader_line.mono _ _ _)
      | (with_reducible exact ih _ _ _)
      | (with_reducible exact LeO.refl _)
      | (with_reducible exact LeO.none _)
      | (with_reducible refine LeO.ite ?_ ?_)
      | (with_reducible refine LeO.bind ?_ (fun _ => ?_))
theorem chunk_Decode.mono_l : ∀ k l p left out, LeO (chunk_Decode.l k l p left out) (chunk_Decode.l (k + 1) l p left out)
  | 0 => fun _ _ _ _ r h => by simp [chunk_Decode.l] at h
  | k + 1 => by
    intro l p left out
    have ih := chunk_Decode.mono_l k
    rw [chunk_Decode.l, chunk_Decode.l]
    unfold chunk_reader_trailer.f
    repeat' first
      | (with_reducible exact chunk_reader_size.mono _ _ _)
      | (with_reducible exact chunk_reader_trailer.mono_l _ _ _ _)
      | (with_reducible exact ih _ _ _ _)
      | (with_reducible exact LeO.refl _)
      | (with_reducible exact LeO.none _)
      | (with_reducible refine LeO.ite ?_ ?_)
      | (with_reducible refine LeO.bind ?_ (fun _ => ?_))
theorem chunk_Decode.mono : ∀ a0 a1 k, LeO (chunk_Decode.f k a0 a1) (chunk_Decode.f (k + 1) a0 a1) := fun a0 a1 k => chunk_Decode.mono_l k a0 0 (mx a1 0) []
theorem went_rdr {w w' : World} {g : Nat} {A : Option Addr} {n c : Nat} {p : Int} {m : Bool} (h : Went w w' g A n c p m) : Rdr w' g A n c p m := h.1
theorem blk_grown {w w1 : World} {g : Nat} {o : Obj} {row : Option Nat} (h : w.heap[g]? = some o) (hg : w.grownBy w1 row) (hne : some g ≠ row) : w1.heap[g]? = some o := (hg.block g (blk_lt h) hne).trans h
/-- What Decode hands back. -/
def DecPost (w : World) (r1 : List Int) (r2 r3 : Int) (E : Ending) (w' : World) : Prop := ∃ v0_ : Value, E = .returned (.tuple #[v0_, .int .i64 r2, .int .i64 r3]) ∧ Kd.R (Kd.int .u8) 5 w' w.heap.size (fun _ => True) v0_ r1 ∧ Below w.heap.size w w'
theorem dec_none {w w' : World} {r2 r3 : Int} (h : Below w.heap.size w w') : DecPost w [] r2 r3 (.returned (.tuple #[.slice none 0 0, .int .i64 r2, .int .i64 r3])) w' := ⟨_, rfl, Kd.R_nil _ _ _ _ _, h⟩
/-- The reader and what was collected, beside it. -/
def Dec (w wr : World) (g : Nat) (A : Option Addr) (n c : Nat) (p : Int) (v : Value) (out : List Int) : Prop := Rdr wr g A n c p false ∧ Below w.heap.size w wr ∧ w.heap.size ≤ g ∧ Kd.R (Kd.int .u8) 5 wr w.heap.size (fun k => k ≠ g) v out
theorem Dec.went {w wr w1 : World} {g : Nat} {A : Option Addr} {n c : Nat} {p q : Int} {v : Value} {out : List Int} (h : Dec w wr g A n c p v out) (k : Went wr w1 g A n c q false) : Dec w w1 g A n c q v out :=
  ⟨k.1, h.2.1.trans (below_base h.2.2.1 k.2.1), h.2.2.1, Kd.R_keep h.2.2.2 k.2.2 (fun _ hk => hk)⟩
theorem Dec.below {w wr w1 : World} {g : Nat} {A : Option Addr} {n c : Nat} {p q : Int} {m : Bool} {v : Value} {out : List Int} (h : Dec w wr g A n c p v out) (k : Went wr w1 g A n c q m) : Below w.heap.size w w1 := h.2.1.trans (below_base h.2.2.1 k.2.1)
set_option maxHeartbeats 16000000 in
set_option maxRecDepth 100000 in
theorem chunk_Decode.calls (k : Nat) (A0 : Option Addr) (c0 : Nat) (l0 : List Int) (a1 : Int) (r1 : List Int) (r2 : Int) (r3 : Int) (w : World) (hr0 : Kd.C (Kd.int .u8) w A0 l0.length l0) (hc0 : l0.length ≤ c0) (h : chunk_Decode.f k l0 a1 = some (r1, r2, r3)) :
    Calls Tryd.prog 8 #[.slice A0 l0.length c0, .int .i64 a1] w fun e w' => ∃ v0_ : Value, e = .returned (.tuple #[v0_, .int .i64 r2, .int .i64 r3]) ∧ Kd.R (Kd.int .u8) 5 w' w.heap.size (fun _ => True) v0_ r1 ∧ Below w.heap.size w w' := by
  show Calls Tryd.prog 8 #[.slice A0 l0.length c0, .int .i64 a1] w (DecPost w r1 r2 r3)
  have hu := Tryd.underlying55
  have HC := Aside0.mk hr0
  have H := Aside0.mk h
  clear hr0 h
  have HD0 : Aside0 (Dec w ((w.alloc (.cells #[.slice A0 l0.length c0, .int .i64 0, .bool false] 55)).alloc (.cells #[] 5)) w.heap.size A0 l0.length c0 0 (.slice (some ⟨w.heap.size + 1, 0, none⟩) 0 0) []) := ⟨by
    refine ⟨?_, ?_, Nat.le_refl _, ?_⟩
    · exact blk_alloc (blk_new w _) _
    · exact below_alloc (below_alloc (Below.refl _ _) _) _
    · have ho := own_lit (w.alloc (.cells #[.slice A0 l0.length c0, .int .i64 0, .bool false] 55)) w.heap.size 5 .u8 [] (by simp) (by simp)
      have hz : (w.alloc (.cells #[.slice A0 l0.length c0, .int .i64 0, .bool false] 55)).heap.size = w.heap.size + 1 := by simp
      rw [hz] at ho
      exact Kd.R_of_own (h1 := fun _ => rfl) ho (fun k hk => by
        have : w.heap.size + 1 = k := by simpa [Value.ownBlock] using hk
        omega)⟩
  obtain ⟨mm, hmm⟩ : ∃ mm, mm = mx a1 0 := ⟨_, rfl⟩
  unfold chunk_Decode.f at H
  rw [← hmm] at H
  have hmx := hmm.symm
  clear hmm
  go_enter Tryd.func8, Tryd.ntmps8
  go_wp2_with fail
  all_goals
    go_loopg [8, 9, 10, 11, 12] k (fun kq v8 v9 _ _ _ wr => ∃ (p left : Int) (out : List Int), v8 = .int .i64 left ∧ Aside0 (chunk_Decode.l kq l0 p left out = some (r1, r2, r3)) ∧ Aside0 (Dec w wr w.heap.size A0 l0.length c0 p v9 out))
    case atStart => first | exact ⟨0, 0, [], rfl, ⟨(show mm = 0 by rw [← hmx]; unfold mx; split <;> omega) ▸ H.out⟩, HD0⟩ | exact ⟨0, a1, [], rfl, ⟨(show mm = a1 by rw [← hmx]; unfold mx; split <;> omega) ▸ H.out⟩, HD0⟩
    case round =>
      obtain ⟨p, left, out, rfl, H, D⟩ := hrel
      cases gk with
      | zero => exact absurd H.out (by simp [chunk_Decode.l])
      | succ k =>
        clear HD0 hmx
        have h := H.out
        clear H
        simp only [chunk_Decode.l] at h
        obtain ⟨⟨n1, e1, q1, m1⟩, hl, h⟩ := Option.bind_eq_some_iff.1 h
        simp only at h
        have call := fun (v : Unit) => chunk_reader_size.calls k w.heap.size A0 c0 l0 p false n1 e1 q1 m1 wr D.out.1 (Kd.C_below HC.out D.out.2.1) hc0 hl
        have CALL := Aside0.mk call
        clear call hl
        by_cases c1 : e1 = 0
        · subst c1
          rw [if_pos rfl] at h
          cases m1
          · rw [if_neg (by simp)] at h
            by_cases c2 : n1 = 0
            · subst c2
              rw [if_pos rfl] at h
              obtain ⟨⟨e2, q2, m2⟩, ht, h⟩ := Option.bind_eq_some_iff.1 h
              simp only at h
              have HT := Aside0.mk ht
              clear ht
              by_cases c3 : e2 = 0
              · subst c3
                rw [if_pos rfl] at h
                cases m2
                · rw [if_neg (by simp)] at h
                  simp only [Option.some.injEq, Prod.mk.injEq] at h
                  obtain ⟨rfl, rfl, rfl⟩ := h
                  go_wp2_with (first | (go_at_call 21; (with_reducible refine (CALL.out ()).mono ?_); rintro E w1 ⟨rfl, hw⟩; have hm := hw.more; have W1 := Aside0.mk hw; clear hw) | (go_at_call 23; (with_reducible refine (chunk_reader_trailer.calls k w.heap.size A0 c0 l0 q1 false _ _ _ w w1 (went_rdr W1.out) HC.out (D.out.below W1.out) (Nat.le_refl _) hc0 HT.out).mono ?_); rintro E w2 ⟨rfl, hw⟩; have hm2 := hw.more; have hp2 := hw.place; have W2 := Aside0.mk hw; clear hw))
                  have D3 := Aside0.mk ((D.out.went W1.out).went W2.out)
                  go_quiet (fail)
                  go_wp2_with fail
                  go_ret3
                  exact ⟨_, rfl, Kd.R_mono (Kd.R_below D3.out.2.2.2 (pw_below_drewN (Below.refl _ _) _)) (fun _ _ => trivial), pw_below_drewN D3.out.2.1 _⟩
                · rw [if_pos rfl] at h
                  simp only [Option.some.injEq, Prod.mk.injEq] at h
                  obtain ⟨rfl, rfl, rfl⟩ := h
                  go_wp2_with (first | (go_at_call 21; (with_reducible refine (CALL.out ()).mono ?_); rintro E w1 ⟨rfl, hw⟩; have hm := hw.more; have W1 := Aside0.mk hw; clear hw) | (go_at_call 23; (with_reducible refine (chunk_reader_trailer.calls k w.heap.size A0 c0 l0 q1 false _ _ _ w w1 (went_rdr W1.out) HC.out (D.out.below W1.out) (Nat.le_refl _) hc0 HT.out).mono ?_); rintro E w2 ⟨rfl, hw⟩; have hm2 := hw.more; have hp2 := hw.place; have W2 := Aside0.mk hw; clear hw))
                  go_ret3
                  exact dec_none ((D.out.went W1.out).below W2.out)
              · rw [if_neg c3] at h
                simp only [Option.some.injEq, Prod.mk.injEq] at h
                obtain ⟨rfl, rfl, rfl⟩ := h
                have d1 : (e2 == 0) = false := beq_eq_false_iff_ne.2 c3
                have d2 : (e2 != 0) = true := bne_iff_ne.2 c3
                clear c3
                go_wp2_with (first | (go_at_call 21; (with_reducible refine (CALL.out ()).mono ?_); rintro E w1 ⟨rfl, hw⟩; have hm := hw.more; have W1 := Aside0.mk hw; clear hw) | (go_at_call 23; (with_reducible refine (chunk_reader_trailer.calls k w.heap.size A0 c0 l0 q1 false _ _ _ w w1 (went_rdr W1.out) HC.out (D.out.below W1.out) (Nat.le_refl _) hc0 HT.out).mono ?_); rintro E w2 ⟨rfl, hw⟩; have hm2 := hw.more; have hp2 := hw.place; have W2 := Aside0.mk hw; clear hw))
                go_ret3
                exact dec_none ((D.out.went W1.out).below W2.out)
            · rw [if_neg c2] at h
              have d2 : (n1 == 0) = false := beq_eq_false_iff_ne.2 c2
              clear c2
              by_cases c3 : n1 > left
              · rw [if_pos c3] at h
                simp only [Option.some.injEq, Prod.mk.injEq] at h
                obtain ⟨rfl, rfl, rfl⟩ := h
                have d3 : decide (n1 > left) = true := decide_eq_true c3
                have d4 : (left < n1) = True := eq_true c3
                clear c3
                go_wp2_with (first | (go_at_call 21; (with_reducible refine (CALL.out ()).mono ?_); rintro E w1 ⟨rfl, hw⟩; have hm := hw.more; have W1 := Aside0.mk hw; clear hw))
                go_ret3
                exact dec_none (D.out.below W1.out)
              · rw [if_neg c3] at h
                have d3 : decide (n1 > left) = false := decide_eq_false c3
                have d4 : (left < n1) = False := eq_false c3
                clear c3
                obtain ⟨⟨r3', e3, q3, m3⟩, ht, h⟩ := Option.bind_eq_some_iff.1 h
                simp only at h
                have HT := Aside0.mk ht
                clear ht
                by_cases c4 : e3 = 0
                · subst c4
                  rw [if_pos rfl] at h
                  cases m3
                  · rw [if_neg (by simp)] at h
                    by_cases c5 : out.length + r3'.length ≤ 140737488355328
                    · rw [if_pos c5] at h
                      have HLEN := Aside0.mk c5
                      have H2 := Aside0.mk h
                      clear c5 h
                      go_wp2_with (first | (go_at_call 21; (with_reducible refine (CALL.out ()).mono ?_); rintro E w1 ⟨rfl, hw⟩; have hm := hw.more; have W1 := Aside0.mk hw; clear hw) | (go_at_call 22; (with_reducible refine (chunk_reader_data.calls w.heap.size A0 c0 l0 q1 n1 false r3' _ _ _ w w1 (went_rdr W1.out) HC.out (D.out.below W1.out) (Nat.le_refl _) hc0 HT.out).mono ?_); rintro E w2 ⟨A2, c2, rfl, hCr, hcr, hw⟩; have hm2 := hw.more; have W2 := Aside0.mk hw; have HCr := Aside0.mk hCr; have Hcr := Aside0.mk hcr; clear hw hCr hcr; have D2 := Aside0.mk ((D.out.went W1.out).went W2.out)) | ((with_reducible refine gate_builtin (b := .append) (xs := #[.tmp 57, .tmp 58]) rfl ?_); at_builtin; refine Kd.R_append_rows (Kd.int .u8) (w0 := w) w.heap.size rfl (.tmp 57) (.tmp 58) 25 5 (.int .u8 0) 1 rfl Tryd.underlying25 info5 rfl (by decide) (by omega) u9 out r3' _ _ _ (fun k_ => k_ ≠ w.heap.size) (fun _ => False) rfl rfl ?aO ?aR (fun _ _ h => h) (fun _ h => h.elim) ?aF ?aB ?aS ?aL ?_; (case aO => exact (D2.out).2.2.2); (case aR => exact Kd.C_below HCr.out D2.out.2.1); (case aF => intro k_ hk e_; have := blk_lt D2.out.1; omega); (case aB => exact D2.out.2.1); (case aS => exact D2.out.2.1.size); (case aL => have := HLEN.out; omega); intro v3 w3 ho hb3 hg3 hat; have D3 := Aside0.mk (show Dec w w3 w.heap.size A0 l0.length c0 q3 v3 (out ++ r3') from ⟨blk_grown D2.out.1 hg3 (fun e => (D2.out).2.2.2.1 _ e.symm rfl), hb3, Nat.le_refl _, ho⟩); clear ho hb3 hg3 hat))
                      go_roundg k
                      case rel => exact ⟨q3, wrap64 (left - n1), out ++ r3', rfl, H2, D3⟩
                      case measure => exact Nat.lt_succ_self k
                    · rw [if_neg c5] at h
                      cases h
                  · rw [if_pos rfl] at h
                    simp only [Option.some.injEq, Prod.mk.injEq] at h
                    obtain ⟨rfl, rfl, rfl⟩ := h
                    go_wp2_with (first | (go_at_call 21; (with_reducible refine (CALL.out ()).mono ?_); rintro E w1 ⟨rfl, hw⟩; have hm := hw.more; have W1 := Aside0.mk hw; clear hw) | (go_at_call 22; (with_reducible refine (chunk_reader_data.calls w.heap.size A0 c0 l0 q1 n1 false r3' _ _ _ w w1 (went_rdr W1.out) HC.out (D.out.below W1.out) (Nat.le_refl _) hc0 HT.out).mono ?_); rintro E w2 ⟨A2, c2, rfl, hCr, hcr, hw⟩; have hm2 := hw.more; have W2 := Aside0.mk hw; have HCr := Aside0.mk hCr; have Hcr := Aside0.mk hcr; clear hw hCr hcr))
                    go_ret3
                    exact dec_none ((D.out.went W1.out).below W2.out)
                · rw [if_neg c4] at h
                  simp only [Option.some.injEq, Prod.mk.injEq] at h
                  obtain ⟨rfl, rfl, rfl⟩ := h
                  have d5 : (e3 == 0) = false := beq_eq_false_iff_ne.2 c4
                  have d6 : (e3 != 0) = true := bne_iff_ne.2 c4
                  clear c4
                  go_wp2_with (first | (go_at_call 21; (with_reducible refine (CALL.out ()).mono ?_); rintro E w1 ⟨rfl, hw⟩; have hm := hw.more; have W1 := Aside0.mk hw; clear hw) | (go_at_call 22; (with_reducible refine (chunk_reader_data.calls w.heap.size A0 c0 l0 q1 n1 false r3' _ _ _ w w1 (went_rdr W1.out) HC.out (D.out.below W1.out) (Nat.le_refl _) hc0 HT.out).mono ?_); rintro E w2 ⟨A2, c2, rfl, hCr, hcr, hw⟩; have hm2 := hw.more; have W2 := Aside0.mk hw; have HCr := Aside0.mk hCr; have Hcr := Aside0.mk hcr; clear hw hCr hcr))
                  go_ret3
                  exact dec_none ((D.out.went W1.out).below W2.out)
          · rw [if_pos rfl] at h
            simp only [Option.some.injEq, Prod.mk.injEq] at h
            obtain ⟨rfl, rfl, rfl⟩ := h
            go_wp2_with (first | (go_at_call 21; (with_reducible refine (CALL.out ()).mono ?_); rintro E w1 ⟨rfl, hw⟩; have hm := hw.more; have W1 := Aside0.mk hw; clear hw))
            go_ret3
            exact dec_none (D.out.below W1.out)
        · rw [if_neg c1] at h
          simp only [Option.some.injEq, Prod.mk.injEq] at h
          obtain ⟨rfl, rfl, rfl⟩ := h
          have d1 : (e1 == 0) = false := beq_eq_false_iff_ne.2 c1
          have d2 : (e1 != 0) = true := bne_iff_ne.2 c1
          clear c1
          go_wp2_with (first | (go_at_call 21; (with_reducible refine (CALL.out ()).mono ?_); rintro E w1 ⟨rfl, hw⟩; have hm := hw.more; have W1 := Aside0.mk hw; clear hw))
          go_ret3
          exact dec_none (D.out.below W1.out)


end Go.Proofs.YtfjeinnemimjoaaDoor.P

namespace Go.Proofs.YtfjeinnemimjoaaDoor.P
open Go.RowKit Go.Proofs.YtfjeinnemimjoaaDoorW.PrintWords Go.Proofs.YtfjeinnemimjoaaDoorW.PrintLast Go.Proofs.YtfjeinnemimjoaaDoorW.PrintMore
attribute [local go_sem] max2_int min2_int max_two min_two max_three min_three max_four min_four   -- for this text's walks alone
set_option linter.unusedVariables false
set_option linter.unusedSimpArgs false

def field_Get.l0 : Nat → ByteArray → List ByteArray → List (S41) → Int → Int → Option (List ByteArray)
  | 0, _, _, _, _, _ => none
  | k + 1, x1, x5, x8, x9, x10 => if x10 < x9 then (if 0 ≤ x10 then (if x10 < (x8.length : Int) then ((sign_Same.f ((rd_T41 x8 x10).f0) x1).bind fun t272 => (if t272 = true then (if x5.length < 8796093022208 then (field_Get.l0 k x1 (x5 ++ [(rd_T41 x8 x10).f1]) x8 x9 (wrap64 (x10 + 1))) else (none)) else (field_Get.l0 k x1 x5 x8 x9 (wrap64 (x10 + 1))))) else (none)) else (none)) else (some x5)
def field_Get.f (k : Nat) (l0 : List (S41)) (a1 : ByteArray) : Option (List ByteArray) := field_Get.l0 k a1 ([] : List ByteArray) l0 (l0.length : Int) 0
theorem field_Get.mono_l : ∀ k, (∀ y0 y1 y2 y3 y4, LeO (field_Get.l0 k y0 y1 y2 y3 y4) (field_Get.l0 (k + 1) y0 y1 y2 y3 y4))
  | 0 => fun _ _ _ _ _ r h => by simp [field_Get.l0] at h
  | k + 1 => by
    have ih0 := field_Get.mono_l k
    · intro y0 y1 y2 y3 y4
      unfold field_Get.l0
      repeat' first
      | (with_reducible exact ih0 _ _ _ _ _)
      | (with_reducible exact LeO.refl _)
      | (with_reducible exact LeO.none _)
      | (with_reducible refine LeO.ite ?_ ?_)
      | (with_reducible refine LeO.bind ?_ (fun _ => ?_))
      | exact ih0 _ _ _ _ _
      | exact LeO.none _
      | refine LeO.ite ?_ ?_
      | refine LeO.bind ?_ (fun _ => ?_)
theorem field_Get.mono : ∀ a0 a1 k, LeO (field_Get.f k a0 a1) (field_Get.f (k + 1) a0 a1) := by
  intro a0 a1 k
  have ih0 := field_Get.mono_l k
  unfold field_Get.f
  repeat' first
      | (with_reducible exact ih0 _ _ _ _ _)
      | (with_reducible exact LeO.refl _)
      | (with_reducible exact LeO.none _)
      | (with_reducible refine LeO.ite ?_ ?_)
      | (with_reducible refine LeO.bind ?_ (fun _ => ?_))
      | exact ih0 _ _ _ _ _
      | exact LeO.none _
      | refine LeO.ite ?_ ?_
      | refine LeO.bind ?_ (fun _ => ?_)
set_option maxHeartbeats 8000000 in
set_option maxRecDepth 100000 in
theorem field_Get.calls (k : Nat) (A0 : Option Addr) (c0 : Nat) (l0 : List (S41)) (a1 : ByteArray) (r : List ByteArray) (w : World) (hr0 : Kd.C k41 w A0 l0.length l0) (hc0 : l0.length ≤ c0) (h : field_Get.f k l0 a1 = some r) :
    Calls Tryd.prog 90 #[.slice A0 l0.length c0, .string a1] w fun e w' => ∃ v0_ : Value, e = .returned (v0_) ∧ Kd.R Kd.string 9 w' w.heap.size (fun _ => True) v0_ r ∧ Below w.heap.size w w' := by
  have hu41 := Tryd.underlying41
  have HR0 := Aside0.mk hr0
  have HC0 := Aside0.mk hc0
  clear hr0 hc0
  have HB := Aside0.mk (Below.refl w.heap.size w)
  have H : (field_Get.l0 k a1 ([] : List ByteArray) l0 (l0.length : Int) 0) = some r := h
  clear h
  have H' := Aside0.mk H
  clear H
  go_enter Tryd.func90, Tryd.ntmps90
  go_wp2
  go_loopg [5, 10] k (fun kq v5 v10 w' => ∃ (x5_1 : List ByteArray) (x10_1 : Int), v10 = .int .i64 x10_1 ∧ Aside0 (field_Get.l0 kq a1 x5_1 l0 (l0.length : Int) x10_1 = some r) ∧ Aside0 (kq ≤ k) ∧ Aside0 (Kd.R Kd.string 9 w' w.heap.size (fun _ => True) v5 x5_1) ∧ Aside0 (Below w.heap.size w w'))
  case atStart => exact ⟨(([] : List ByteArray)), (0), (by first | rfl | (simp; done) | (simp [*]; done)), H', ⟨Nat.le_refl _⟩, ⟨by first | exact Kd.R_nil _ _ _ _ _ | exact Kd.N_nil _ _ _ _ _ | exact Kd.V_nil _ _ _ _ _ | exact Kd.Q_nil _ _ _ _ _ | exact Kd.S_nil _ _ _ _ _⟩, ⟨by repeat (first | (with_reducible first | exact HB.out | apply below_alloc | apply pw_below_drewN | apply below_drew1) | exact HB.out)⟩⟩
  case round =>
    clear H'
    try clear p2
    obtain ⟨x5_1, x10_1, rfl, HA, HK1, HO_5, HB⟩ := hrel
    cases gk with
    | zero => exact absurd HA.out (by simp [field_Get.l0])
    | succ k1 =>
      have H := HA.out
      clear HA
      simp only [field_Get.l0] at H
      by_cases c3 : x10_1 < (l0.length : Int)
      · rw [if_pos c3] at H
        have c3b0 : decide (x10_1 < (l0.length : Int)) = true := decide_eq_true c3
        clear c3
        by_cases c4 : 0 ≤ x10_1
        · rw [if_pos c4] at H
          have c4b0 : decide (0 ≤ x10_1) = true := decide_eq_true c4
          clear c4
          by_cases c5 : x10_1 < (l0.length : Int)
          · rw [if_pos c5] at H
            have c5b0 : decide (x10_1 < (l0.length : Int)) = true := decide_eq_true c5
            clear c5
            replace H := Option.bind_eq_some_iff.mp H
            obtain ⟨t272, A60, H⟩ := H
            replace H : (if t272 = true then (if x5_1.length < 8796093022208 then (field_Get.l0 k1 a1 (x5_1 ++ [(rd_T41 l0 x10_1).f1]) l0 (l0.length : Int) (wrap64 (x10_1 + 1))) else (none)) else (field_Get.l0 k1 a1 x5_1 l0 (l0.length : Int) (wrap64 (x10_1 + 1)))) = some r := H
            have A6 := Aside0.mk A60
            clear A60
            by_cases c7 : t272 = true
            · subst c7
              have H1 : (if x5_1.length < 8796093022208 then (field_Get.l0 k1 a1 (x5_1 ++ [(rd_T41 l0 x10_1).f1]) l0 (l0.length : Int) (wrap64 (x10_1 + 1))) else (none)) = some r := by rw [if_pos rfl] at H; exact H
              clear H
              have H := H1
              clear H1
              by_cases c8 : x5_1.length < 8796093022208
              · rw [if_pos c8] at H
                have LMc8 := Aside0.mk c8
                clear c8
                obtain ⟨y273, hy273⟩ : ∃ y_ : List ByteArray, y_ = (x5_1 ++ [(rd_T41 l0 x10_1).f1]) := ⟨_, rfl⟩
                replace H : (field_Get.l0 k1 a1 y273 l0 (l0.length : Int) (wrap64 (x10_1 + 1))) = some r := by first | (rw [hy273]; with_reducible exact H) | (have H2_ := (Option.bind_some _ _).symm.trans H; rw [hy273]; with_reducible exact H2_) | (have H2_ := (Option.bind_some _ _).symm.trans H; with_reducible exact H2_) | with_reducible exact H | (rw [hy273]; exact H) | exact H
                have Ny273 := Aside0.mk hy273
                clear hy273
                have H' := Aside0.mk H
                clear H
                have p270 : 0 ≤ (x10_1 : Int) := of_decide_eq_true (by first | (with_reducible assumption) | assumption)
                have q270 : x10_1 < (l0.length : Int) := of_decide_eq_true (by first | (with_reducible assumption) | assumption)
                obtain ⟨ad270, e270, hx270_0, hx270_1⟩ := at_T41 HR0.out x10_1 p270 q270
                cases e270
                replace hx270_0 := (HB.out.cell (World.block_lt_of_cell? w _ hx270_0)).trans hx270_0
                replace hx270_1 := (HB.out.cell (World.block_lt_of_cell? w _ hx270_1)).trans hx270_1
                replace p270 := eq_true p270
                replace q270 := eq_true q270
                go_wp2_with (first | ((with_reducible refine gate_dst (N := 7) rfl ?_); refine box_event ?hg (N := 7) ?hd (cs := #[.string (⟨#[]⟩ : ByteArray), .string (⟨#[]⟩ : ByteArray)]) (t := 41) ?hr ?_; (case hd => rfl); (case hg => rfl); (case hr => first | (go_simp; done) | (go_simp; rfl)); intro gb271 hg w9 hbox hb; have n0_ := Aside0.mk (Kd.R_below (by (with_reducible repeat (first | apply Kd.R_alloc | apply Kd.R_drewN | apply Kd.R_drew)); exact HO_5.out) hb); have n1_ := Aside0.mk (below_step (by repeat (first | (with_reducible first | exact HB.out | apply below_alloc | apply pw_below_drewN | apply below_drew1) | exact HB.out)) hb); have n2_ := Aside0.mk (hbox); have n3_ := Aside0.mk ((by rw [hg]; exact (below_size (by repeat (first | (with_reducible first | exact HB.out | apply below_alloc | apply pw_below_drewN | apply below_drew1) | exact HB.out))) : w.heap.size ≤ gb271)); have n4_ := Aside0.mk ((by rw [hg]; exact (below_size (by repeat (first | (with_reducible first | exact HB.out | apply below_alloc | apply pw_below_drewN | apply below_drew1) | exact HB.out))) : w.heap.size ≤ gb271)); clear HO_5; clear HB; have HO_5 := n0_; have HB := n1_; have BK271 := n2_; have GW271 := n3_; have GE271 := n4_; clear n0_ n1_ n2_ n3_ n4_; clear hb hbox hg; have hcz10_0 : w9.cell? ⟨gb271, 0, none⟩ = some (.string (⟨#[]⟩ : ByteArray)) := (blk_cell BK271.out 0).trans rfl; have hcz10_1 : w9.cell? ⟨gb271, 1, none⟩ = some (.string (⟨#[]⟩ : ByteArray)) := (blk_cell BK271.out 1).trans rfl; have hfz10_0 := blk_frozen BK271.out 0; have hfz10_1 := blk_frozen BK271.out 1) | ((with_reducible refine gate_callee (f := 62) rfl ?_); refine goesL_ (some 17) rfl rfl Tryd.func62 (by kernel_rfl) rfl #[.string ((rd_T41 l0 x10_1).f0), .string a1] rfl (by (try simp only [List.map_toArray, List.map_cons, List.map_nil]); first | done | rfl | (simp only [List.length_drop, List.length_take]; rfl)) ?_; (with_reducible refine (sign_Same.calls ((rd_T41 l0 x10_1).f0) a1 true _ A6.out).mono ?_); rintro e w11 ⟨rfl, hb⟩; (try clear A6); refine ⟨_, rfl, ?_⟩; have n0_ := Aside0.mk (Kd.R_below (by (with_reducible repeat (first | apply Kd.R_alloc | apply Kd.R_drewN | apply Kd.R_drew)); exact (Kd.R_mono (Kd.R_far (p := ⟨gb271, 1, none⟩) (Kd.R_far (p := ⟨gb271, 0, none⟩) (Kd.R_types HO_5.out BK271.out (by decide)) (fun _ hk => hk.2) (.string ((rd_T41 l0 x10_1).f0))) (fun _ hk => hk.2) (.string ((rd_T41 l0 x10_1).f1))) (fun _ h_ => h_.1))) hb); have n1_ := Aside0.mk (blk_below (g := gb271) (o := .cells #[.string ((rd_T41 l0 x10_1).f0), .string ((rd_T41 l0 x10_1).f1)] 41 (0, 0)) (by (with_reducible repeat (first | refine blk_drewN ?_ _ | refine blk_drew ?_ | refine blk_alloc ?_ _)); refine blk_put (cs := #[.string ((rd_T41 l0 x10_1).f0), .string (⟨#[]⟩ : ByteArray)]) ?_ 1 _ rfl; (with_reducible repeat (first | refine blk_drewN ?_ _ | refine blk_drew ?_ | refine blk_alloc ?_ _)); refine blk_put (cs := #[.string (⟨#[]⟩ : ByteArray), .string (⟨#[]⟩ : ByteArray)]) ?_ 0 _ rfl; (with_reducible repeat (first | refine blk_drewN ?_ _ | refine blk_drew ?_ | refine blk_alloc ?_ _)); exact BK271.out) hb); have n2_ := Aside0.mk (below_step (by repeat (first | (with_reducible first | exact HB.out | apply below_alloc | apply pw_below_drewN | apply below_drew1 | refine below_set ?_ GE271.out) | exact HB.out)) hb); clear HO_5; clear BK271; clear HB; have HO_5 := n0_; have BK271 := n1_; have HB := n2_; clear n0_ n1_ n2_; (try clear hb); (try clear hb2); (try clear hk); (try clear hi); have hcz12_0 : w11.cell? ⟨gb271, 0, none⟩ = some (.string ((rd_T41 l0 x10_1).f0)) := (blk_cell BK271.out 0).trans rfl; have hcz12_1 : w11.cell? ⟨gb271, 1, none⟩ = some (.string ((rd_T41 l0 x10_1).f1)) := (blk_cell BK271.out 1).trans rfl; have hfz12_0 := blk_frozen BK271.out 0; have hfz12_1 := blk_frozen BK271.out 1) | ((with_reducible refine gate_builtin (b := .append) (xs := #[.tmp 18, .tmp 21]) rfl ?_); at_builtin; refine Kd.R_append Kd.string (w0 := w) w.heap.size rfl (.tmp 18) (.tmp 21) 36 9 (.string ⟨#[]⟩) 16 rfl Tryd.underlying36 info9 rfl (by decide) (by omega) u5 x5_1 ((rd_T41 l0 x10_1).f1) [.string ((rd_T41 l0 x10_1).f1)] (fun _ => True) (fun _ => False) rfl rfl ?aP (fun _ hk => hk.elim) ?aF ?aO ?aB ?aS ?aL ?_; (case aP => exact rfl); (case aB => exact (by repeat (first | (with_reducible first | exact HB.out | apply below_alloc | apply pw_below_drewN | apply below_drew1 | refine below_set ?_ GE271.out) | exact HB.out))); (case aF => exact (fun _ _ => trivial)); (case aO => exact (by (with_reducible repeat (first | apply Kd.R_alloc | apply Kd.R_drewN | apply Kd.R_drew)); exact HO_5.out)); (case aS => exact (below_size (by repeat (first | (with_reducible first | exact HB.out | apply below_alloc | apply pw_below_drewN | apply below_drew1 | refine below_set ?_ GE271.out) | exact HB.out)))); (case aL => have := LMc8.out; omega); intro v274 w13 ho hb hg hat; rw [← Ny273.out] at ho; have n0_ := Aside0.mk (blk_grown (g := gb271) (o := .cells #[.string ((rd_T41 l0 x10_1).f0), .string ((rd_T41 l0 x10_1).f1)] 41 (0, 0)) (by (with_reducible repeat (first | refine blk_drewN ?_ _ | refine blk_drew ?_ | refine blk_alloc ?_ _)); exact BK271.out) hg (Kd.R_ne HO_5.out BK271.out (by decide))); have n1_ := Aside0.mk (hb); have n2_ := Aside0.mk (ho); clear BK271; clear HB; clear HO_5; have BK271 := n0_; have HB := n1_; have HO275 := n2_; clear n0_ n1_ n2_; clear ho hb hg hat))
                go_roundg k1
                case measure => have := HK1.out; omega
                case rel => exact ⟨(y273), (wrap64 (x10_1 + 1)), (by first | rfl | (simp; done) | (simp [*]; done)), H', ⟨by have := HK1.out; omega⟩, ⟨by (with_reducible repeat (first | apply Kd.R_alloc | apply Kd.R_drewN | apply Kd.R_drew)); exact HO275.out⟩, ⟨by repeat (first | (with_reducible first | exact HB.out | apply below_alloc | apply pw_below_drewN | apply below_drew1 | refine below_set ?_ GE271.out) | exact HB.out)⟩⟩
              · rw [if_neg c8] at H
                exact absurd H (by simp)
            · replace c7 := Bool.eq_false_iff.mpr c7
              subst c7
              have H1 : (field_Get.l0 k1 a1 x5_1 l0 (l0.length : Int) (wrap64 (x10_1 + 1))) = some r := by rw [if_neg (show ¬ (false = true) by decide)] at H; exact H
              clear H
              have H := H1
              clear H1
              have H' := Aside0.mk H
              clear H
              have p270 : 0 ≤ (x10_1 : Int) := of_decide_eq_true (by first | (with_reducible assumption) | assumption)
              have q270 : x10_1 < (l0.length : Int) := of_decide_eq_true (by first | (with_reducible assumption) | assumption)
              obtain ⟨ad270, e270, hx270_0, hx270_1⟩ := at_T41 HR0.out x10_1 p270 q270
              cases e270
              replace hx270_0 := (HB.out.cell (World.block_lt_of_cell? w _ hx270_0)).trans hx270_0
              replace hx270_1 := (HB.out.cell (World.block_lt_of_cell? w _ hx270_1)).trans hx270_1
              replace p270 := eq_true p270
              replace q270 := eq_true q270
              go_wp2_with (first | ((with_reducible refine gate_dst (N := 7) rfl ?_); refine box_event ?hg (N := 7) ?hd (cs := #[.string (⟨#[]⟩ : ByteArray), .string (⟨#[]⟩ : ByteArray)]) (t := 41) ?hr ?_; (case hd => rfl); (case hg => rfl); (case hr => first | (go_simp; done) | (go_simp; rfl)); intro gb271 hg w14 hbox hb; have n0_ := Aside0.mk (Kd.R_below (by (with_reducible repeat (first | apply Kd.R_alloc | apply Kd.R_drewN | apply Kd.R_drew)); exact HO_5.out) hb); have n1_ := Aside0.mk (below_step (by repeat (first | (with_reducible first | exact HB.out | apply below_alloc | apply pw_below_drewN | apply below_drew1) | exact HB.out)) hb); have n2_ := Aside0.mk (hbox); have n3_ := Aside0.mk ((by rw [hg]; exact (below_size (by repeat (first | (with_reducible first | exact HB.out | apply below_alloc | apply pw_below_drewN | apply below_drew1) | exact HB.out))) : w.heap.size ≤ gb271)); have n4_ := Aside0.mk ((by rw [hg]; exact (below_size (by repeat (first | (with_reducible first | exact HB.out | apply below_alloc | apply pw_below_drewN | apply below_drew1) | exact HB.out))) : w.heap.size ≤ gb271)); clear HO_5; clear HB; have HO_5 := n0_; have HB := n1_; have BK271 := n2_; have GW271 := n3_; have GE271 := n4_; clear n0_ n1_ n2_ n3_ n4_; clear hb hbox hg; have hcz15_0 : w14.cell? ⟨gb271, 0, none⟩ = some (.string (⟨#[]⟩ : ByteArray)) := (blk_cell BK271.out 0).trans rfl; have hcz15_1 : w14.cell? ⟨gb271, 1, none⟩ = some (.string (⟨#[]⟩ : ByteArray)) := (blk_cell BK271.out 1).trans rfl; have hfz15_0 := blk_frozen BK271.out 0; have hfz15_1 := blk_frozen BK271.out 1) | ((with_reducible refine gate_callee (f := 62) rfl ?_); refine goesL_ (some 17) rfl rfl Tryd.func62 (by kernel_rfl) rfl #[.string ((rd_T41 l0 x10_1).f0), .string a1] rfl (by (try simp only [List.map_toArray, List.map_cons, List.map_nil]); first | done | rfl | (simp only [List.length_drop, List.length_take]; rfl)) ?_; (with_reducible refine (sign_Same.calls ((rd_T41 l0 x10_1).f0) a1 false _ A6.out).mono ?_); rintro e w16 ⟨rfl, hb⟩; (try clear A6); refine ⟨_, rfl, ?_⟩; have n0_ := Aside0.mk (Kd.R_below (by (with_reducible repeat (first | apply Kd.R_alloc | apply Kd.R_drewN | apply Kd.R_drew)); exact (Kd.R_mono (Kd.R_far (p := ⟨gb271, 1, none⟩) (Kd.R_far (p := ⟨gb271, 0, none⟩) (Kd.R_types HO_5.out BK271.out (by decide)) (fun _ hk => hk.2) (.string ((rd_T41 l0 x10_1).f0))) (fun _ hk => hk.2) (.string ((rd_T41 l0 x10_1).f1))) (fun _ h_ => h_.1))) hb); have n1_ := Aside0.mk (blk_below (g := gb271) (o := .cells #[.string ((rd_T41 l0 x10_1).f0), .string ((rd_T41 l0 x10_1).f1)] 41 (0, 0)) (by (with_reducible repeat (first | refine blk_drewN ?_ _ | refine blk_drew ?_ | refine blk_alloc ?_ _)); refine blk_put (cs := #[.string ((rd_T41 l0 x10_1).f0), .string (⟨#[]⟩ : ByteArray)]) ?_ 1 _ rfl; (with_reducible repeat (first | refine blk_drewN ?_ _ | refine blk_drew ?_ | refine blk_alloc ?_ _)); refine blk_put (cs := #[.string (⟨#[]⟩ : ByteArray), .string (⟨#[]⟩ : ByteArray)]) ?_ 0 _ rfl; (with_reducible repeat (first | refine blk_drewN ?_ _ | refine blk_drew ?_ | refine blk_alloc ?_ _)); exact BK271.out) hb); have n2_ := Aside0.mk (below_step (by repeat (first | (with_reducible first | exact HB.out | apply below_alloc | apply pw_below_drewN | apply below_drew1 | refine below_set ?_ GE271.out) | exact HB.out)) hb); clear HO_5; clear BK271; clear HB; have HO_5 := n0_; have BK271 := n1_; have HB := n2_; clear n0_ n1_ n2_; (try clear hb); (try clear hb2); (try clear hk); (try clear hi)))
              go_roundg k1
              case measure => have := HK1.out; omega
              case rel => exact ⟨(x5_1), (wrap64 (x10_1 + 1)), (by first | rfl | (simp; done) | (simp [*]; done)), H', ⟨by have := HK1.out; omega⟩, ⟨by (with_reducible repeat (first | apply Kd.R_alloc | apply Kd.R_drewN | apply Kd.R_drew)); exact HO_5.out⟩, ⟨by repeat (first | (with_reducible first | exact HB.out | apply below_alloc | apply pw_below_drewN | apply below_drew1 | refine below_set ?_ GE271.out) | exact HB.out)⟩⟩
          · rw [if_neg c5] at H
            exact absurd H (by simp)
        · rw [if_neg c4] at H
          exact absurd H (by simp)
      · rw [if_neg c3] at H
        have c3b0 : decide (x10_1 < (l0.length : Int)) = false := decide_eq_false c3
        clear c3
        obtain rfl := Option.some.inj H
        go_wp2
        go_ret
        exact ⟨_, by first | rfl | (simp [errW_none, errW_some] <;> rfl) | (simp [*, errW_none, errW_some] <;> rfl), by (with_reducible repeat (first | apply Kd.R_alloc | apply Kd.R_drewN | apply Kd.R_drew)); exact HO_5.out, by repeat (first | (with_reducible first | exact HB.out | apply below_alloc | apply pw_below_drewN | apply below_drew1) | exact HB.out)⟩

end Go.Proofs.YtfjeinnemimjoaaDoor.P

