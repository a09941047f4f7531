/- Each function below answers as its Lean twin says. No further condition. (Laid by this repo's packseat.py out of the seat's texts and of the print's words.) -/
import Derived.Test.YtfjeinnemimjoaaDoorU0base0x0
import Derived.Test.YtfjeinnemimjoaaDoorUline0x0
import Derived.Test.YtfjeinnemimjoaaDoorUsign0x0
import Derived.Test.YtfjeinnemimjoaaDoorUstrings0x0
import Derived.Deep.RegionHeld3
import Derived.Lib.SlBytesConst
import Derived.Deep.QuietTactic
import Derived.BigQuiet
namespace Go.Proofs.YtfjeinnemimjoaaDoor.P
open Go.RowKit Go.Proofs.YtfjeinnemimjoaaDoorW.PrintWords Go.Proofs.YtfjeinnemimjoaaDoorW.PrintLast Go.Proofs.YtfjeinnemimjoaaDoorW.PrintMore
attribute [local go_sem] max2_int min2_int max_two min_two max_three min_three max_four min_four   -- for this text's walks alone
set_option linter.unusedVariables false
set_option linter.unusedSimpArgs false

/-- The reader's block: its bytes, its place, and whether more are needed. -/
def Rdr (w : World) (g : Nat) (A : Option Addr) (n c : Nat) (p : Int) (m : Bool) : Prop := w.heap[g]? = some (.cells #[.slice A n c, .int .i64 p, .bool m] 55 (0, 0))
theorem keep_set {w w1 : World} {g : Nat} (h : KeepBut w w1 g none) (j : Nat) (u : Value) : KeepBut w (w1.setCell ⟨g, j, none⟩ u) g none :=
  ⟨by simpa [World.setCell] using h.1, fun i hi hg hr => (Below.heap_setCell w1 ⟨g, j, none⟩ u i hg).trans (h.2 i hi hg hr)⟩
theorem keep_trans {w w1 w2 : World} {g : Nat} (h : KeepBut w w1 g none) (k : KeepBut w1 w2 g none) : KeepBut w w2 g none :=
  ⟨Nat.le_trans h.1 k.1, fun i hi hg hr => (k.2 i (Nat.lt_of_lt_of_le hi h.1) hg hr).trans (h.2 i hi hg hr)⟩
theorem keep_below {w w1 : World} (g : Nat) (h : Below w.heap.size w w1) : KeepBut w w1 g none := ⟨h.size, fun i hi _ _ => h.block i hi⟩
theorem below_less {w w1 : World} {g : Nat} (hg : g ≤ w.heap.size) (h : Below w.heap.size w w1) : Below g w w1 := ⟨h.os, h.tape, h.output, h.size, fun b hb => h.block b (Nat.lt_of_lt_of_le hb hg)⟩
theorem below_base {w w1 : World} {b g : Nat} (hg : b ≤ g) (h : Below g w w1) : Below b w w1 := ⟨h.os, h.tape, h.output, h.size, fun i hi => h.block i (Nat.lt_of_lt_of_le hi hg)⟩
/-- What a call of the reader's has turned: its own block alone; new blocks. -/
def Went (w w' : World) (g : Nat) (A : Option Addr) (n c : Nat) (p : Int) (m : Bool) : Prop := Rdr w' g A n c p m ∧ Below g w w' ∧ KeepBut w w' g none
theorem Went.step {w w1 w2 : World} {g : Nat} {A : Option Addr} {n c : Nat} {p : Int} {m : Bool} (h : Went w w1 g A n c p m) (hb : Below w1.heap.size w1 w2) : Went w w2 g A n c p m :=
  ⟨blk_below h.1 hb, h.2.1.trans (below_less (Nat.le_of_lt (blk_lt h.1)) hb), keep_trans h.2.2 (keep_below g hb)⟩
theorem Went.then_ {w w1 w2 : World} {g : Nat} {A : Option Addr} {n c : Nat} {p q : Int} {m m2 : Bool} (h : Went w w1 g A n c p m) (k : Went w1 w2 g A n c q m2) : Went w w2 g A n c q m2 :=
  ⟨k.1, h.2.1.trans k.2.1, keep_trans h.2.2 k.2.2⟩
theorem Went.more {w w1 : World} {g : Nat} {A : Option Addr} {n c : Nat} {p : Int} {m : Bool} (h : Went w w1 g A n c p m) : w1.cell? ⟨g, 2, none⟩ = some (.bool m) := (blk_cell h.1 2).trans rfl
theorem Went.place {w w1 : World} {g : Nat} {A : Option Addr} {n c : Nat} {p : Int} {m : Bool} (h : Went w w1 g A n c p m) : w1.cell? ⟨g, 1, none⟩ = some (.int .i64 p) := (blk_cell h.1 1).trans rfl
theorem Went.bytes {w w1 : World} {g : Nat} {A : Option Addr} {n c : Nat} {p : Int} {m : Bool} (h : Went w w1 g A n c p m) : w1.cell? ⟨g, 0, none⟩ = some (.slice A n c) := (blk_cell h.1 0).trans rfl
/-- What line tells: the text, the error, the new place, whether more are needed. -/
def chunk_reader_line.f (k : Nat) (l : List Int) (p : Int) : Option (ByteArray × Int × Int × Bool) :=
  if 0 ≤ p then (if p ≤ (l.length : Int) then ((line_Cut.f k (l.drop p.toNat) 256).bind fun c => some (c.1, c.2.2, wrap64 (p + c.2.1), (decide (c.2.1 = 0) && decide (c.2.2 = 0)))) else none) else none
set_option maxHeartbeats 4000000 in
set_option maxRecDepth 100000 in
theorem chunk_reader_line.calls (k : Nat) (g : Nat) (A : Option Addr) (c : Nat) (l : List Int) (p : Int) (m : Bool) (s : ByteArray) (e q : Int) (m' : Bool) (w : World) (hr : Rdr w g A l.length c p m) (hC : Kd.C (Kd.int .u8) w A l.length l) (hc : l.length ≤ c) (h : chunk_reader_line.f k l p = some (s, e, q, m')) :
    Calls Tryd.prog 50 #[.pointer (some ⟨g, 0, none⟩)] w fun E w' => E = .returned (.tuple #[.string s, .int .i64 e]) ∧ Went w w' g A l.length c q m' := by
  unfold chunk_reader_line.f at h
  by_cases h0 : 0 ≤ p
  · rw [if_pos h0] at h
    by_cases h1 : p ≤ (l.length : Int)
    · rw [if_pos h1] at h
      obtain ⟨⟨s1, n, e1⟩, hcut, h⟩ := Option.bind_eq_some_iff.1 h
      simp only [Option.some.injEq, Prod.mk.injEq] at h
      obtain ⟨rfl, rfl, hq, hm⟩ := h
      have HQ := Aside0.mk hq
      have HM := Aside0.mk hm
      have HK := Aside0.mk hcut
      clear hq hm hcut
      have hg := blk_lt hr
      have hc0 : w.cell? ⟨g, 0, none⟩ = some (.slice A l.length c) := (blk_cell hr 0).trans rfl
      have hc1 : w.cell? ⟨g, 1, none⟩ = some (.int .i64 p) := (blk_cell hr 1).trans rfl
      obtain ⟨i011, hi011, _, hsz11, _⟩ := info_parts info5
      obtain ⟨A', hsl, hrd, hcc⟩ := print_drop_of (P := Tryd.prog) (Value.int .u8) 0 25 5 .i64 Tryd.underlying25 hi011 hsz11 A c l p h0 h1 hc
      have HR := Aside0.mk (Kd.C_of_reads (h1 := fun _ => rfl) (hrd _ (Kd.reads_of_C hC)))
      have HCC := Aside0.mk hcc
      have HRR := Aside0.mk hr
      clear hrd hcc hi011 hsz11 hr hC hc h0 h1
      go_enter Tryd.func50, Tryd.ntmps50
      go_wp2_with fail
      go_region_held3 (fun w' => w'.cell? ⟨g, 0, none⟩ = some (.slice A l.length c) ∧ w'.cell? ⟨g, 1, none⟩ = some (.int .i64 p))
        (first | go_keep)
        (first | (go_at_call 71; (try rw [← List.length_drop]); refine (line_Cut.calls k A' _ (l.drop p.toNat) 256 s1 n e1 _ (Kd.C_drew HR.out) HCC.out HK.out).mono ?_; rintro E w1 ⟨rfl, hb⟩; have k0 := pw_cell_below hb hc0; have k1 := pw_cell_below hb hc1))
      have R1 : Rdr w1 g A l.length c p m := blk_below (w := w.drew) HRR.out hb
      have B1 : Below g w w1 := ⟨hb.os, hb.tape, hb.output, hb.size, fun b hb' => hb.block b (Nat.lt_trans hb' hg)⟩
      have K1 : KeepBut w w1 g none := ⟨hb.size, fun i hi _ _ => hb.block i hi⟩
      have f1 := blk_frozen R1 1
      have f2 := blk_frozen R1 2
      have k2 : w1.cell? ⟨g, 2, none⟩ = some (.bool m) := (blk_cell R1 2).trans rfl
      have R1' := Aside0.mk R1
      have B1' := Aside0.mk B1
      have K1' := Aside0.mk K1
      clear R1 B1 K1
      clear h hb HR HCC HRR HK hsl hc0 hc1
      by_cases c0 : n = 0
      · have d0 : (n == 0) = true := beq_iff_eq.2 c0
        by_cases c1 : e1 = 0
        · have d1 : (e1 == 0) = true := beq_iff_eq.2 c1
          have hm : Aside0 (m' = true) := ⟨by rw [← HM.out, decide_eq_true c0, decide_eq_true c1]; rfl⟩
          clear HM c0 c1
          go_wp2
          go_ret2
          refine ⟨rfl, ?_, (B1'.out.setCell (Nat.le_refl _) _).setCell (Nat.le_refl _) _, keep_set (keep_set K1'.out 1 _) 2 _⟩
          exact blk_put (blk_put R1'.out 1 _ rfl) 2 _ (by rw [hm.out, ← HQ.out]; rfl)
        · have d1 : (e1 == 0) = false := beq_eq_false_iff_ne.2 c1
          have hm : Aside0 (m' = false) := ⟨by rw [← HM.out, decide_eq_false c1, Bool.and_false]⟩
          clear HM c0 c1
          go_wp2
          go_ret2
          refine ⟨rfl, ?_, (B1'.out.setCell (Nat.le_refl _) _).setCell (Nat.le_refl _) _, keep_set (keep_set K1'.out 1 _) 2 _⟩
          exact blk_put (blk_put R1'.out 1 _ rfl) 2 _ (by rw [hm.out, ← HQ.out]; rfl)
      · have d0 : (n == 0) = false := beq_eq_false_iff_ne.2 c0
        have hm : Aside0 (m' = false) := ⟨by rw [← HM.out, decide_eq_false c0, Bool.false_and]⟩
        clear HM c0
        go_wp2
        go_ret2
        refine ⟨rfl, ?_, (B1'.out.setCell (Nat.le_refl _) _).setCell (Nat.le_refl _) _, keep_set (keep_set K1'.out 1 _) 2 _⟩
        exact blk_put (blk_put R1'.out 1 _ rfl) 2 _ (by rw [hm.out, ← HQ.out]; rfl)
    · rw [if_neg h1] at h
      cases h
  · rw [if_neg h0] at h
    cases h


end Go.Proofs.YtfjeinnemimjoaaDoor.P

namespace Go.Proofs.YtfjeinnemimjoaaDoor.P
open Go.RowKit Go.Proofs.YtfjeinnemimjoaaDoorW.PrintWords Go.Proofs.YtfjeinnemimjoaaDoorW.PrintLast Go.Proofs.YtfjeinnemimjoaaDoorW.PrintMore
attribute [local go_sem] max2_int min2_int max_two min_two max_three min_three max_four min_four   -- for this text's walks alone
set_option linter.unusedVariables false
set_option linter.unusedSimpArgs false

/-- What data tells: the bytes, the error, the new place, whether more bytes are needed. -/
def dataOf (rest : List Int) (p n : Int) (m : Bool) : List Int × Int × Int × Bool :=
  if n < (rest.length : Int) then
    (if rd rest n = 13 then
      (if n + 1 < (rest.length : Int) then (if rd rest (n + 1) = 10 then (rest.take n.toNat, 0, wrap64 (p + (n + 2)), m) else ([], 20, p, m)) else ([], 0, p, true))
    else ([], 20, p, m))
  else ([], 0, p, true)
def chunk_reader_data.f (l : List Int) (p n : Int) (m : Bool) : Option (List Int × Int × Int × Bool) :=
  if 0 ≤ p ∧ p ≤ (l.length : Int) ∧ 0 ≤ n ∧ n ≤ 4611686018427387904 then some (dataOf (l.drop p.toNat) p n m) else none
/-- What data hands back: a piece of the bytes; and what it has turned. -/
def DataPost (w00 w : World) (g : Nat) (A : Option Addr) (n c : Nat) (r : List Int) (e q : Int) (m : Bool) (E : Ending) (w' : World) : Prop := ∃ A2 c2, E = .returned (.tuple #[.slice A2 r.length c2, .int .i64 e]) ∧ Kd.C (Kd.int .u8) w00 A2 r.length r ∧ r.length ≤ c2 ∧ Went w w' g A n c q m
theorem data_none {w00 w w' : World} {g : Nat} {A : Option Addr} {n c : Nat} {e q : Int} {m : Bool} (h : Went w w' g A n c q m) : DataPost w00 w g A n c [] e q m (.returned (.tuple #[.slice none 0 0, .int .i64 e])) w' := ⟨none, 0, rfl, Kd.C_nil _ _, Nat.le_refl _, h⟩
theorem data_some {w00 w w' : World} {g : Nat} {A : Option Addr} {n c : Nat} {e q : Int} {m : Bool} {A2 : Option Addr} {c2 j : Nat} {r : List Int} (h : Went w w' g A n c q m) (hj : r.length = j) (hC : Kd.C (Kd.int .u8) w00 A2 r.length r) (hc : r.length ≤ c2) : DataPost w00 w g A n c r e q m (.returned (.tuple #[.slice A2 j c2, .int .i64 e])) w' := ⟨A2, c2, by rw [hj], hC, hc, h⟩
set_option maxHeartbeats 8000000 in
set_option maxRecDepth 100000 in
theorem chunk_reader_data.calls (g : Nat) (A : Option Addr) (c : Nat) (l : List Int) (p n : Int) (m : Bool) (r : List Int) (e q : Int) (m' : Bool) (w00 w : World) (hr : Rdr w g A l.length c p m) (hC : Kd.C (Kd.int .u8) w00 A l.length l) (hB0 : Below w00.heap.size w00 w) (hg0 : w00.heap.size ≤ g) (hc : l.length ≤ c) (h : chunk_reader_data.f l p n m = some (r, e, q, m')) :
    Calls Tryd.prog 22 #[.pointer (some ⟨g, 0, none⟩), .int .i64 n] w (DataPost w00 w g A l.length c r e q m') := by
  unfold chunk_reader_data.f at h
  by_cases hb : 0 ≤ p ∧ p ≤ (l.length : Int) ∧ 0 ≤ n ∧ n ≤ 4611686018427387904
  · rw [if_pos hb] at h
    obtain ⟨h0, h1, n0, n1⟩ := hb
    have H := Aside0.mk (Option.some.inj h)
    clear h
    have hg := blk_lt hr
    have hB00 := Aside0.mk hB0
    have hg00 := Aside0.mk hg0
    have hc0 : w.cell? ⟨g, 0, none⟩ = some (.slice A l.length c) := (blk_cell hr 0).trans rfl
    have hc1 : w.cell? ⟨g, 1, none⟩ = some (.int .i64 p) := (blk_cell hr 1).trans rfl
    have hc2 : w.cell? ⟨g, 2, none⟩ = some (.bool m) := (blk_cell hr 2).trans rfl
    have f1 := blk_frozen hr 1
    have f2 := blk_frozen hr 2
    obtain ⟨i011, hi011, _, hsz11, _⟩ := info_parts info5
    obtain ⟨A', hsl, hrd, hcc⟩ := print_drop_of (P := Tryd.prog) (Value.int .u8) 0 25 5 .i64 Tryd.underlying25 hi011 hsz11 A c l p h0 h1 hc
    have hCr := Kd.C_of_reads (h1 := fun _ => rfl) (hrd _ (Kd.reads_of_C hC))
    obtain ⟨rest, hrest⟩ : ∃ rest, rest = l.drop p.toNat := ⟨_, rfl⟩
    rw [← hrest] at hsl hCr hcc H
    have hrl : rest.length = l.length - p.toNat := by rw [hrest, List.length_drop]
    rw [hrl] at hsl
    obtain ⟨cc, hcc'⟩ : ∃ cc, cc = c - p.toNat := ⟨_, rfl⟩
    rw [← hcc'] at hsl hcc
    rw [← hrl] at hsl
    have HR := Aside0.mk hCr
    have HCC := Aside0.mk hcc
    have HRR := Aside0.mk hr
    have HN := Aside0.mk (And.intro n0 n1)
    clear hrd hCr hcc hsz11 hr hC hc hrest hrl hcc'
    have kc := fun (w : World) (C : Array Value) (n c : Nat) => Lib.run_convert_bytes_const (P := Tryd.prog) w 25 5 C n c Tryd.underlying25 Tryd.underlying5
    clear hB0 hg0
    go_enter Tryd.func22, Tryd.ntmps22
    go_wp2_with fail
    go_quiet (fail)
    obtain ⟨w0, hw0⟩ : ∃ w0, w0 = w.drewN nq := ⟨_, rfl⟩
    rw [← hw0]
    have hb0 : Below w.heap.size w w0 := by rw [hw0]; exact pw_below_drewN (Below.refl _ _) nq
    have W0 : Went w w0 g A l.length c p m := Went.step ⟨HRR.out, Below.refl _ _, keep_below g (Below.refl _ _)⟩ hb0
    have hz : w0.heap.size = w.heap.size := by rw [hw0]; simp
    have k1 := W0.place
    have k2 := W0.more
    have g1 := blk_frozen W0.1 1
    have g2 := blk_frozen W0.1 2
    have W0' := Aside0.mk W0
    have HB0 := Aside0.mk hb0
    clear W0 hc0 hc1 hc2 f1 f2 hw0 hb0 hz
    have W1 := Aside0.mk (W0'.out.step (below_alloc (Below.refl _ _) (.cells #[.int .u8 13, .int .u8 10] 5 (2, 3))))
    have c13 : (w0.alloc (.cells #[.int .u8 13, .int .u8 10] 5 (2, 3))).cell? ⟨w0.heap.size, 0, none⟩ = some (.int .u8 13) := by rw [cell_of_row _ _ _ _ _ _ (blk_new _ _)]; rfl
    have c10 : (w0.alloc (.cells #[.int .u8 13, .int .u8 10] 5 (2, 3))).cell? ⟨w0.heap.size, 1, none⟩ = some (.int .u8 10) := by rw [cell_of_row _ _ _ _ _ _ (blk_new _ _)]; rfl
    have HC1 := Aside0.mk (Kd.C_below HR.out (hB00.out.trans (below_base hg00.out W1.out.2.1)))
    obtain ⟨w1, hw1⟩ : ∃ w1, w1 = w0.alloc (.cells #[.int .u8 13, .int .u8 10] 5 (2, 3)) := ⟨_, rfl⟩
    rw [← hw1] at W1 c13 c10 HC1
    have hww := hw1.symm
    clear hw1
    have hwn : wrap64 n = n := by unfold wrap64; omega
    have hw1 : wrap64 (n + 1) = n + 1 := by unfold wrap64; omega
    have hw2 : wrap64 (n + 2) = n + 2 := by unfold wrap64; omega
    go_wp2_with fail
    go_loopw [7, 8, 21] (fun _ _ v wr => ∃ i : Int, v = .int .i64 i ∧ w1 = wr ∧ Aside0 ((i = 0 ∨ i = 1 ∨ i = 2) ∧ (i ≠ 0 → n < (rest.length : Int) → rd rest n = 13) ∧ (i = 2 → n + 1 < (rest.length : Int) → rd rest (n + 1) = 10))) (fun _ _ v _ => (2 - intOf v).toNat)
    case atStart => exact ⟨0, rfl, rfl, ⟨by omega, fun h => absurd rfl h, fun h => by omega⟩⟩
    case round =>
      obtain ⟨i, rfl, rfl, HI⟩ := hrel
      obtain ⟨hi, _, _⟩ := HI.out
      rcases hi with rfl | rfl | rfl
      · skip
        by_cases a0 : n < (rest.length : Int)
        · obtain ⟨ad, e0, hx⟩ := Kd.at_int HC1.out n n0 a0
          subst e0
          have p1 : (0 ≤ n) = True := eq_true (by omega)
          have q1 : (n < (rest.length : Int)) = True := eq_true a0
          have q2 : decide (n < (rest.length : Int)) = true := decide_eq_true a0
          by_cases b1 : rd rest n = 13
          · have d1 : (rd rest n == 13) = true := beq_iff_eq.2 b1
            have d2 : (rd rest n != 13) = false := bne_eq_false_iff_eq.2 b1
            have HI2 := Aside0.mk (And.intro b1 a0)
            have HI3 : Aside0 ((1 : Int) = 0 ∨ (1 : Int) = 1 ∨ (1 : Int) = 2) := ⟨by omega⟩
            have HX : Aside0 (((1 : Int) = 0 ∨ (1 : Int) = 1 ∨ (1 : Int) = 2) ∧ ((1 : Int) ≠ 0 → n < (rest.length : Int) → rd rest n = 13) ∧ ((1 : Int) = 2 → n + 1 < (rest.length : Int) → rd rest (n + 1) = 10)) := ⟨⟨by omega, fun _ _ => b1, fun h => by omega⟩⟩
            clear b1 a0 HI HI2 HI3
            go_wp2_with fail
            go_roundw
            case rel => exact ⟨1, rfl, (by first | rfl | trivial), HX⟩
            case measure => simp [intOf]
          · have d1 : (rd rest n == 13) = false := beq_eq_false_iff_ne.2 b1
            have d2 : (rd rest n != 13) = true := bne_iff_ne.2 b1
            have HD : Aside0 (dataOf rest p n m = ([], 20, p, m)) := ⟨by unfold dataOf; rw [if_pos a0, if_neg b1]⟩
            rw [HD.out] at H
            have HE := H.out
            simp only [Prod.mk.injEq] at HE
            obtain ⟨rfl, rfl, rfl, rfl⟩ := HE
            clear b1 a0 HI HD H
            go_wp2_with fail
            go_ret2
            exact data_none W1.out
        · have q1 : (n < (rest.length : Int)) = False := eq_false a0
          have q2 : decide (n < (rest.length : Int)) = false := decide_eq_false a0
          have HX : Aside0 (((1 : Int) = 0 ∨ (1 : Int) = 1 ∨ (1 : Int) = 2) ∧ ((1 : Int) ≠ 0 → n < (rest.length : Int) → rd rest n = 13) ∧ ((1 : Int) = 2 → n + 1 < (rest.length : Int) → rd rest (n + 1) = 10)) := ⟨⟨by omega, fun _ h => absurd h a0, fun h => by omega⟩⟩
          clear a0 HI
          go_wp2_with fail
          go_roundw
          case rel => exact ⟨1, rfl, (by first | rfl | trivial), HX⟩
          case measure => simp [intOf]
      · skip
        by_cases a0 : n + 1 < (rest.length : Int)
        · obtain ⟨ad, e0, hx⟩ := Kd.at_int HC1.out (n + 1) (by omega) a0
          subst e0
          have p1 : (0 ≤ n + 1) = True := eq_true (by omega)
          have q1 : (n + 1 < (rest.length : Int)) = True := eq_true a0
          have q2 : decide (n + 1 < (rest.length : Int)) = true := decide_eq_true a0
          by_cases b1 : rd rest (n + 1) = 10
          · have d1 : (rd rest (n + 1) == 10) = true := beq_iff_eq.2 b1
            have d2 : (rd rest (n + 1) != 10) = false := bne_eq_false_iff_eq.2 b1
            have HI2 := Aside0.mk (And.intro b1 a0)
            have HI3 : Aside0 ((2 : Int) = 0 ∨ (2 : Int) = 1 ∨ (2 : Int) = 2) := ⟨by omega⟩
            have HX : Aside0 (((2 : Int) = 0 ∨ (2 : Int) = 1 ∨ (2 : Int) = 2) ∧ ((2 : Int) ≠ 0 → n < (rest.length : Int) → rd rest n = 13) ∧ ((2 : Int) = 2 → n + 1 < (rest.length : Int) → rd rest (n + 1) = 10)) := ⟨⟨by omega, fun _ h => HI.out.2.1 (by omega) h, fun _ _ => b1⟩⟩
            clear b1 a0 HI HI2 HI3
            go_wp2_with fail
            go_roundw
            case rel => exact ⟨2, rfl, (by first | rfl | trivial), HX⟩
            case measure => simp [intOf]
          · have d1 : (rd rest (n + 1) == 10) = false := beq_eq_false_iff_ne.2 b1
            have d2 : (rd rest (n + 1) != 10) = true := bne_iff_ne.2 b1
            have HD : Aside0 (dataOf rest p n m = ([], 20, p, m)) := ⟨by unfold dataOf; rw [if_pos (by omega), if_pos (HI.out.2.1 (by omega) (by omega)), if_pos a0, if_neg b1]⟩
            rw [HD.out] at H
            have HE := H.out
            simp only [Prod.mk.injEq] at HE
            obtain ⟨rfl, rfl, rfl, rfl⟩ := HE
            clear b1 a0 HI HD H
            go_wp2_with fail
            go_ret2
            exact data_none W1.out
        · have q1 : (n + 1 < (rest.length : Int)) = False := eq_false a0
          have q2 : decide (n + 1 < (rest.length : Int)) = false := decide_eq_false a0
          have HX : Aside0 (((2 : Int) = 0 ∨ (2 : Int) = 1 ∨ (2 : Int) = 2) ∧ ((2 : Int) ≠ 0 → n < (rest.length : Int) → rd rest n = 13) ∧ ((2 : Int) = 2 → n + 1 < (rest.length : Int) → rd rest (n + 1) = 10)) := ⟨⟨by omega, fun _ h => HI.out.2.1 (by omega) h, fun _ h => absurd h a0⟩⟩
          clear a0 HI
          go_wp2_with fail
          go_roundw
          case rel => exact ⟨2, rfl, (by first | rfl | trivial), HX⟩
          case measure => simp [intOf]
      · obtain ⟨_, i1, i2⟩ := HI.out
        have I1 := Aside0.mk (i1 (by omega))
        have I2 := Aside0.mk (i2 rfl)
        clear i1 i2 HI
        by_cases a0 : (rest.length : Int) < n + 2
        · have q1 : ((rest.length : Int) < n + 2) = True := eq_true a0
          have q2 : decide ((rest.length : Int) < n + 2) = true := decide_eq_true a0
          have HD : Aside0 (dataOf rest p n m = ([], 0, p, true)) := ⟨by
            unfold dataOf
            by_cases e1 : n < (rest.length : Int)
            · rw [if_pos e1, if_pos (I1.out e1), if_neg (by omega)]
            · rw [if_neg e1]⟩
          rw [HD.out] at H
          have HE := H.out
          simp only [Prod.mk.injEq] at HE
          obtain ⟨rfl, rfl, rfl, rfl⟩ := HE
          clear a0 HD H I1 I2
          have k2' := W1.out.more
          have g2' := blk_frozen W1.out.1 2
          go_wp2_with fail
          go_ret2
          exact data_none ⟨blk_put W1.out.1 2 _ rfl, W1.out.2.1.setCell (Nat.le_refl _) _, keep_set W1.out.2.2 2 _⟩
        · have q1 : ((rest.length : Int) < n + 2) = False := eq_false a0
          have q2 : decide ((rest.length : Int) < n + 2) = false := decide_eq_false a0
          have q3 : (n ≤ (rest.length : Int)) = True := eq_true (by omega)
          have HD : Aside0 (dataOf rest p n m = (rest.take n.toNat, 0, wrap64 (p + (n + 2)), m)) := ⟨by
            unfold dataOf
            rw [if_pos (by omega), if_pos (I1.out (by omega)), if_pos (by omega), if_pos (I2.out (by omega))]⟩
          rw [HD.out] at H
          have HE := H.out
          simp only [Prod.mk.injEq] at HE
          obtain ⟨rfl, rfl, rfl, rfl⟩ := HE
          have hnn : n.toNat ≤ rest.length := by omega
          have q4 : (n ≤ (cc : Int)) = True := eq_true (by have := HCC.out; omega)
          have q5 : (0 ≤ n) = True := eq_true n0
          have HT := Aside0.mk (Kd.C_of_reads (h1 := fun _ => rfl) ((Kd.reads_of_C (d := (0 : Int)) HR.out).take_ n.toNat hnn))
          have hlt : (rest.take n.toNat).length = n.toNat := by rw [List.length_take]; omega
          have HLT := Aside0.mk hlt
          clear a0 HD H I1 I2 hnn hlt
          have k1' := W1.out.place
          have g1' := blk_frozen W1.out.1 1
          go_wp2_with fail
          go_ret2
          refine data_some (j := n.toNat) ⟨?_, W1.out.2.1.setCell (Nat.le_refl _) _, keep_set W1.out.2.2 1 _⟩ HLT.out (by rw [HLT.out]; exact HT.out) (by have := HCC.out; have := HLT.out; have h1 := HT.out.1; rw [List.length_take]; omega)
          exact blk_put W1.out.1 1 _ rfl
  · rw [if_neg hb] at h
    cases h


end Go.Proofs.YtfjeinnemimjoaaDoor.P

namespace Go.Proofs.YtfjeinnemimjoaaDoor.P
open Go.RowKit Go.Proofs.YtfjeinnemimjoaaDoorW.PrintWords Go.Proofs.YtfjeinnemimjoaaDoorW.PrintLast Go.Proofs.YtfjeinnemimjoaaDoorW.PrintMore
attribute [local go_sem] max2_int min2_int max_two min_two max_three min_three max_four min_four   -- for this text's walks alone
set_option linter.unusedVariables false
set_option linter.unusedSimpArgs false

/-- What size tells: the size, the error, the new place, whether more bytes are needed. -/
def chunk_reader_size.f (k : Nat) (l : List Int) (p : Int) : Option (Int × Int × Int × Bool) :=
  (chunk_reader_line.f k l p).bind fun x => if x.2.1 = 0 then (if x.2.2.2 = true then some (0, 0, x.2.2.1, true) else
    (strings_Cut.f x.1 (⟨#[59]⟩ : ByteArray)).bind fun c => (strings_TrimRight.f c.1 (⟨#[32, 9]⟩ : ByteArray)).bind fun t => (sign_Hex.f k t).bind fun h =>
      if h.2 = true then ((sign_Value.f c.2.1).bind fun v => if v = true then some (h.1, 0, x.2.2.1, false) else some (0, 30, x.2.2.1, false)) else some (0, 30, x.2.2.1, false))
    else some (0, x.2.1, x.2.2.1, x.2.2.2)
set_option maxHeartbeats 4000000 in
set_option maxRecDepth 100000 in
theorem chunk_reader_size.calls (k : Nat) (g : Nat) (A : Option Addr) (c : Nat) (l : List Int) (p : Int) (m : Bool) (n e q : Int) (m' : Bool) (w : World) (hr : Rdr w g A l.length c p m) (hC : Kd.C (Kd.int .u8) w A l.length l) (hc : l.length ≤ c) (h : chunk_reader_size.f k l p = some (n, e, q, m')) :
    Calls Tryd.prog 21 #[.pointer (some ⟨g, 0, none⟩)] w fun E w' => E = .returned (.tuple #[.int .i64 n, .int .i64 e]) ∧ Went w w' g A l.length c q m' := by
  unfold chunk_reader_size.f at h
  obtain ⟨⟨s, e1, q1, m1⟩, hl, h⟩ := Option.bind_eq_some_iff.1 h
  simp only at h
  have HL := Aside0.mk hl
  have HR := Aside0.mk hr
  have HC := Aside0.mk hC
  clear hl hr hC
  by_cases c1 : e1 = 0
  · subst c1
    rw [if_pos rfl] at h
    cases m1
    · rw [if_neg (by simp)] at h
      obtain ⟨⟨s1, r1, b1⟩, h1, h⟩ := Option.bind_eq_some_iff.1 h
      obtain ⟨t, h2, h⟩ := Option.bind_eq_some_iff.1 h
      obtain ⟨⟨n1, o1⟩, h3, h⟩ := Option.bind_eq_some_iff.1 h
      simp only at h h1 h2 h3
      have H1 := Aside0.mk h1
      have H2 := Aside0.mk h2
      have H3 := Aside0.mk h3
      clear h1 h2 h3
      cases o1
      · rw [if_neg (by simp)] at h
        simp only [Option.some.injEq, Prod.mk.injEq] at h
        obtain ⟨rfl, rfl, rfl, rfl⟩ := h
        go_enter Tryd.func21, Tryd.ntmps21
        go_wp2_with (first | (go_at_call 50; (with_reducible refine (chunk_reader_line.calls k g A c l p m s 0 q1 false _ HR.out HC.out hc HL.out).mono ?_); rintro E w1 ⟨rfl, hw⟩; have hm := hw.more; have W1 := Aside0.mk hw; clear hw) | (go_at_call 51; (with_reducible refine (strings_Cut.calls s _ s1 r1 b1 _ H1.out).mono ?_); rintro E w2 ⟨rfl, hd⟩; have W2 := Aside0.mk (W1.out.step hd.below); clear hd) | (go_at_call 53; (with_reducible refine (strings_TrimRight.calls s1 _ t _ H2.out).mono ?_); rintro E w3 ⟨rfl, hd⟩; have W3 := Aside0.mk (W2.out.step hd); clear hd) | (go_at_call 52; (with_reducible refine (sign_Hex.calls k t n1 false _ H3.out).mono ?_); rintro E w4 ⟨rfl, hd⟩; have W4 := Aside0.mk (W3.out.step hd); clear hd))
        go_ret2
        exact ⟨rfl, W4.out⟩
      · rw [if_pos rfl] at h
        obtain ⟨v, h4, h⟩ := Option.bind_eq_some_iff.1 h
        have H4 := Aside0.mk h4
        clear h4
        cases v
        · rw [if_neg (by simp)] at h
          simp only [Option.some.injEq, Prod.mk.injEq] at h
          obtain ⟨rfl, rfl, rfl, rfl⟩ := h
          go_enter Tryd.func21, Tryd.ntmps21
          go_wp2_with (first | (go_at_call 50; (with_reducible refine (chunk_reader_line.calls k g A c l p m s 0 q1 false _ HR.out HC.out hc HL.out).mono ?_); rintro E w1 ⟨rfl, hw⟩; have hm := hw.more; have W1 := Aside0.mk hw; clear hw) | (go_at_call 51; (with_reducible refine (strings_Cut.calls s _ s1 r1 b1 _ H1.out).mono ?_); rintro E w2 ⟨rfl, hd⟩; have W2 := Aside0.mk (W1.out.step hd.below); clear hd) | (go_at_call 53; (with_reducible refine (strings_TrimRight.calls s1 _ t _ H2.out).mono ?_); rintro E w3 ⟨rfl, hd⟩; have W3 := Aside0.mk (W2.out.step hd); clear hd) | (go_at_call 52; (with_reducible refine (sign_Hex.calls k t n1 true _ H3.out).mono ?_); rintro E w4 ⟨rfl, hd⟩; have W4 := Aside0.mk (W3.out.step hd); clear hd) | (go_at_call 54; (with_reducible refine (sign_Value.calls r1 false _ H4.out).mono ?_); rintro E w5 ⟨rfl, hd⟩; have W5 := Aside0.mk (W4.out.step hd.below); clear hd))
          go_ret2
          exact ⟨rfl, W5.out⟩
        · rw [if_pos rfl] at h
          simp only [Option.some.injEq, Prod.mk.injEq] at h
          obtain ⟨rfl, rfl, rfl, rfl⟩ := h
          go_enter Tryd.func21, Tryd.ntmps21
          go_wp2_with (first | (go_at_call 50; (with_reducible refine (chunk_reader_line.calls k g A c l p m s 0 q1 false _ HR.out HC.out hc HL.out).mono ?_); rintro E w1 ⟨rfl, hw⟩; have hm := hw.more; have W1 := Aside0.mk hw; clear hw) | (go_at_call 51; (with_reducible refine (strings_Cut.calls s _ s1 r1 b1 _ H1.out).mono ?_); rintro E w2 ⟨rfl, hd⟩; have W2 := Aside0.mk (W1.out.step hd.below); clear hd) | (go_at_call 53; (with_reducible refine (strings_TrimRight.calls s1 _ t _ H2.out).mono ?_); rintro E w3 ⟨rfl, hd⟩; have W3 := Aside0.mk (W2.out.step hd); clear hd) | (go_at_call 52; (with_reducible refine (sign_Hex.calls k t n1 true _ H3.out).mono ?_); rintro E w4 ⟨rfl, hd⟩; have W4 := Aside0.mk (W3.out.step hd); clear hd) | (go_at_call 54; (with_reducible refine (sign_Value.calls r1 true _ H4.out).mono ?_); rintro E w5 ⟨rfl, hd⟩; have W5 := Aside0.mk (W4.out.step hd.below); clear hd))
          go_ret2
          exact ⟨rfl, W5.out⟩
    · rw [if_pos rfl] at h
      simp only [Option.some.injEq, Prod.mk.injEq] at h
      obtain ⟨rfl, rfl, rfl, rfl⟩ := h
      go_enter Tryd.func21, Tryd.ntmps21
      go_wp2_with (first | (go_at_call 50; (with_reducible refine (chunk_reader_line.calls k g A c l p m s 0 q1 true _ HR.out HC.out hc HL.out).mono ?_); rintro E w1 ⟨rfl, hw⟩; have hm := hw.more; have W1 := Aside0.mk hw; clear hw))
      go_ret2
      exact ⟨rfl, W1.out⟩
  · rw [if_neg c1] at h
    simp only [Option.some.injEq, Prod.mk.injEq] at h
    obtain ⟨rfl, rfl, rfl, rfl⟩ := h
    have d1 : (e1 == 0) = false := beq_eq_false_iff_ne.2 c1
    have d2 : (e1 != 0) = true := bne_iff_ne.2 c1
    clear c1
    go_enter Tryd.func21, Tryd.ntmps21
    go_wp2_with (first | (go_at_call 50; (with_reducible refine (chunk_reader_line.calls k g A c l p m s e1 q1 m1 _ HR.out HC.out hc HL.out).mono ?_); rintro E w1 ⟨rfl, hw⟩; have hm := hw.more; have W1 := Aside0.mk hw; clear hw))
    go_ret2
    exact ⟨rfl, W1.out⟩


end Go.Proofs.YtfjeinnemimjoaaDoor.P

