/- Each function below answers as its Lean twin says. No further condition. (Laid by this repo's packseat.py out of the seat's texts and of the print's words.) -/
import Derived.Test.YtjgpifjfaiaidaaDoorU0base0x0
import Derived.Test.YtjgpifjfaiaidaaDoorUsign0x0
import Derived.Test.YtjgpifjfaiaidaaDoorUstrings0x0
import Derived.Laws.RangeString
import Derived.Laws.RangeAny
import Derived.Lib.SlTrimSet
import Derived.Lib.LastIndexByte
namespace Go.Proofs.YtjgpifjfaiaidaaDoor.P
open Go.RowKit Go.Proofs.YtjgpifjfaiaidaaDoorW.PrintWords Go.Proofs.YtjgpifjfaiaidaaDoorW.PrintLast Go.Proofs.YtjgpifjfaiaidaaDoorW.PrintMore
attribute [local go_sem] max2_int min2_int max_two min_two max_three min_three max_four min_four   -- for this text's walks alone
set_option linter.unusedVariables false
set_option linter.unusedSimpArgs false

/-- A host's byte. -/
def hostC (c : Int) : Bool := decide ((48 ≤ c ∧ c ≤ 57) ∨ (97 ≤ c ∧ c ≤ 122) ∨ c = 45 ∨ c = 46)
/-- Does a text end in a port? -/
def hostPort (t : ByteArray) : Bool := decide (0 ≤ Lib.lastIndexByte t 58) && (Lib.trimS (t.extract (Lib.lastIndexByte t 58 + 1).toNat t.size).data.toList [48, 49, 50, 51, 52, 53, 54, 55, 56, 57]).isEmpty
/-- The text without its port. -/
def hostCut (t : ByteArray) : ByteArray := if hostPort t = true then t.extract 0 (Lib.lastIndexByte t 58).toNat else t
def hostEnd (u : ByteArray) : ByteArray × Bool := if u.size = 0 ∨ 64 < u.size then ((⟨#[]⟩ : ByteArray), false) else if (bytesOf u).all hostC = true then (u, true) else ((⟨#[]⟩ : ByteArray), false)
def line_Host.f (a0 : ByteArray) : Option (ByteArray × Bool) :=
  if a0.size ≤ 140737488355328 then some (hostEnd (hostCut (strOfNums ((bytesOf a0).map foldC)))) else none
theorem host_rune (s : ByteArray) (pos : Nat) (h : pos < s.size) (r : Nat) (hr : (Utf8.decode s pos).1 = r) :
    (hostC (r : Int) = true → (Utf8.decode s pos).2 = 1 ∧ bt s (pos : Int) = (r : Int)) ∧ (hostC (r : Int) = false → hostC (bt s (pos : Int)) = false) ∧ r ≤ 2147483647 := by
  subst hr
  have hb : bt s (pos : Int) = ((s[pos]'h).toNat : Int) := by unfold bt; rw [dif_pos (by rw [Int.toNat_natCast]; exact h)]; rfl
  refine ⟨?_, ?_, decode_le s pos⟩
  · intro ht
    by_cases ha : (s[pos]'h).toNat < 128
    · rw [decode_ascii s pos h ha, hb]; exact ⟨rfl, rfl⟩
    · have := decode_high s pos h (by omega)
      unfold hostC at ht
      have := of_decide_eq_true ht
      omega
  · intro hf
    by_cases ha : (s[pos]'h).toNat < 128
    · rw [decode_ascii s pos h ha] at hf; rw [hb]; exact hf
    · rw [hb]
      unfold hostC
      exact decide_eq_false (by omega)
theorem host_class (c : Int) : (48 ≤ c ∧ c ≤ 57) ∨ (97 ≤ c ∧ c ≤ 122) ∨ c = 45 ∨ c = 46 ∨ (c < 48 ∧ c ≠ 45 ∧ c ≠ 46) ∨ (57 < c ∧ c < 97) ∨ 122 < c := by omega
theorem lastIdx_lt (s : ByteArray) (c : Int) : Lib.lastIndexByte s c < (s.size : Int) ∧ -1 ≤ Lib.lastIndexByte s c := by
  rcases Lib.lastIndexByte_spec s c with ⟨h, _⟩ | ⟨i, hi, h, _⟩ <;> rw [h] <;> omega
theorem mk_isEmpty (l : List UInt8) : (⟨l.toArray⟩ : ByteArray).toList.isEmpty = l.isEmpty := by
  have : (⟨l.toArray⟩ : ByteArray).toList = l := by simp [ByteArray.toList_eq]
  rw [this]
theorem host_isEmpty (s : ByteArray) : s.toList.isEmpty = decide (s.size = 0) := by
  have h1 : s.toList = s.data.toList := by simp [ByteArray.toList_eq]
  rw [h1, Bool.eq_iff_iff, List.isEmpty_iff, decide_eq_true_eq, ← data_length]
  exact List.length_eq_zero_iff.symm
theorem host_drop (p : Int → Bool) (s : ByteArray) (x : Nat) (h : x < s.size) : ((bytesOf s).drop x).all p = (p (bt s x) && ((bytesOf s).drop (x + 1)).all p) := by
  have := bytes_drop_all p s x (by omega) (by omega)
  rwa [Int.toNat_natCast] at this
set_option maxHeartbeats 8000000 in
set_option maxRecDepth 100000 in
theorem line_Host.calls (a0 : ByteArray) (r1 : ByteArray) (r2 : Bool) (w : World) (h : line_Host.f a0 = some (r1, r2)) :
    Calls Tryd.prog 20 #[.string a0] w fun e w' => e = .returned (.tuple #[.string r1, .bool r2]) ∧ Below w.heap.size w w' := by
  unfold line_Host.f at h
  by_cases h0 : a0.size ≤ 140737488355328
  · rw [if_pos h0] at h
    have H := Aside0.mk (Option.some.inj h)
    clear h
    have HF := Aside0.mk (show sign_Fold.f a0 = some (strOfNums ((bytesOf a0).map foldC)) from if_pos h0)
    have hz : (strOfNums ((bytesOf a0).map foldC)).size = a0.size := by rw [strOfNums_size, List.length_map, bytesOf_length]
    obtain ⟨t, ht⟩ : ∃ t, t = strOfNums ((bytesOf a0).map foldC) := ⟨_, rfl⟩
    rw [← ht] at H HF hz
    have hts : t.size ≤ 140737488355328 := by omega
    clear ht hz h0
    have HL := Aside0.mk (show strings_LastIndexByte.f t 58 = some (Lib.lastIndexByte t 58) from if_pos (by omega))
    obtain ⟨h1, h2⟩ := lastIdx_lt t 58
    obtain ⟨u, hu⟩ : ∃ u, u = hostCut t := ⟨_, rfl⟩
    rw [← hu] at H
    unfold hostCut hostPort at hu
    obtain ⟨i, hi⟩ : ∃ i, i = Lib.lastIndexByte t 58 := ⟨_, rfl⟩
    rw [← hi] at HL h1 h2 hu
    clear hi
    have HU := Aside0.mk hu
    clear hu
    have hw : wrap64 (i + 1) = i + 1 := by unfold wrap64; omega
    have HW := Aside0.mk hw
    clear hw
    go_enter Tryd.func20, Tryd.ntmps20
    go_wp2_with fail
    go_at_call 50
    refine (sign_Fold.calls a0 t _ HF.out).mono ?_
    rintro e w1 ⟨rfl, hb⟩
    have HB := Aside0.mk hb
    clear hb
    go_wp2_with fail
    go_at_call 51
    refine (strings_LastIndexByte.calls t 58 _ _ HL.out).mono ?_
    rintro e w2 ⟨rfl, nd, rfl⟩
    by_cases c0 : 0 ≤ i
    case' pos =>
      have c1 : decide (i ≥ 0) = true := decide_eq_true c0
      have c2 : decide (0 ≤ i) = true := decide_eq_true c0
      have p1 : 0 ≤ i + 1 := by omega
      have p2 : i + 1 ≤ (t.size : Int) := by omega
      have hw := HW.out
      obtain ⟨q, hq⟩ : ∃ q, q = t.extract (i + 1).toNat t.size := ⟨_, rfl⟩
      have hqs : q.size ≤ t.size := by rw [hq, ByteArray.size_extract]; omega
      have HTR := Aside0.mk (show strings_Trim.f q (⟨#[48, 49, 50, 51, 52, 53, 54, 55, 56, 57]⟩ : ByteArray) = some ⟨(Lib.trimS q.data.toList [48, 49, 50, 51, 52, 53, 54, 55, 56, 57]).toArray⟩ from if_pos ⟨by omega, by decide, by decide⟩)
      have HQ := Aside0.mk hq
      clear hqs
      have hu := HU.out
      rw [decide_eq_true c0, ← hq, Bool.true_and] at hu
      clear HU
      obtain ⟨x, hx⟩ : ∃ x, x = Lib.trimS q.data.toList [48, 49, 50, 51, 52, 53, 54, 55, 56, 57] := ⟨_, rfl⟩
      rw [← hx] at HTR hu
      clear hx
      have HU := Aside0.mk hu
      clear hu
      have hqq := hq.symm
      clear hq
      go_wp2_with fail
      go_at_call 52
      refine (strings_Trim.calls q _ _ _ HTR.out).mono ?_
      rintro e w2 ⟨rfl, hb⟩
      have HB2 := Aside0.mk (below_step (by repeat (first | exact HB.out | apply below_alloc | apply pw_below_drewN)) hb)
      clear HB hb hqq
      have HB := HB2
      clear HB2
      cases hxe : x.isEmpty
      case' false =>
        have hu := HU.out
        rw [hxe, if_neg (by simp)] at hu
        subst hu
        clear HU
      case' true =>
        have hu := (HU.out).trans (if_pos hxe)
        have huu := hu.symm
        clear hu HU
    case' neg =>
      have c1 : decide (i ≥ 0) = false := decide_eq_false c0
      have c2 : decide (0 ≤ i) = false := decide_eq_false c0
      have hu := HU.out
      rw [decide_eq_false c0, Bool.false_and, if_neg (by simp)] at hu
      subst hu
      clear HU
      obtain ⟨w2, hw2⟩ : ∃ w2, w1.drewN nd = w2 := ⟨_, rfl⟩
      have HB2 : Aside0 (Below w.heap.size w w2) := ⟨by rw [← hw2]; exact pw_below_drewN HB.out nd⟩
      rw [hw2]
      clear HB hw2
      have HB := HB2
      clear HB2
    all_goals
      by_cases e0 : u.size = 0 ∨ 64 < u.size
      · have HE := H.out
        unfold hostEnd at HE
        rw [if_pos e0] at HE
        obtain ⟨rfl, rfl⟩ := Prod.mk.inj HE
        clear HE H
        by_cases e1 : u.size = 0
        · have z1 : u.toList = [] := List.isEmpty_iff.1 (by rw [host_isEmpty, decide_eq_true e1])
          clear e0 e1
          go_wp2_with fail
          go_ret2
          exact ⟨rfl, HB.out⟩
        · have z1 : u.toList.isEmpty = false := by rw [host_isEmpty, decide_eq_false e1]
          have z2 : (u.toList = []) = False := eq_false (fun e => by rw [e] at z1; cases z1)
          have z3 : (64 < (u.size : Int)) = True := eq_true (by omega)
          clear e0 e1
          go_wp2_with fail
          go_ret2
          exact ⟨rfl, HB.out⟩
      · have z1 : u.toList.isEmpty = false := by rw [host_isEmpty]; exact decide_eq_false (by omega)
        have z2 : (u.toList = []) = False := eq_false (fun e => by rw [e] at z1; cases z1)
        have z3 : (64 < (u.size : Int)) = False := eq_false (by omega)
        have z4 : decide (64 < (u.size : Int)) = false := decide_eq_false (by omega)
        have z5 : u.size ≤ 64 := by omega
        have HE := H.out
        unfold hostEnd at HE
        rw [if_neg e0] at HE
        have HE2 := Aside0.mk HE
        clear HE H e0
        go_wp2_with fail
        go_loopw [6] (fun _ wr => ∃ pos : Nat, wr = w2.iter u pos ∧ Aside0 ((bytesOf u).all hostC = ((bytesOf u).drop pos).all hostC ∧ pos ≤ u.size)) (fun _ wr => u.size - wr.iterPos w2.heap.size)
        case atStart => exact ⟨0, rfl, ⟨by rw [List.drop_zero], by omega⟩⟩
        case round =>
          obtain ⟨pos, rfl, HP⟩ := hrel
          by_cases hp : pos < u.size
          · obtain ⟨r, hr⟩ : ∃ r, (Utf8.decode u pos).1 = r := ⟨_, rfl⟩
            obtain ⟨wd, hwd⟩ : ∃ wd, (Utf8.decode u pos).2 = wd := ⟨_, rfl⟩
            have hnx : ∀ ty, (Instr.next (.pointer (some ⟨w2.heap.size, 0, none⟩)) true ty).run Tryd.prog (w2.iter u pos) = .ok (.tuple #[.bool true, .int .i64 pos, .int .i32 r]) (w2.iter u (pos + wd)) := fun ty => by rw [run_next_any w2 u pos ty hp, hr, hwd]
            obtain ⟨f1, f2, f3⟩ := host_rune u pos hp r hr
            rw [hwd] at f1
            have hall := host_drop hostC u pos hp
            have F := Aside0.mk (And.intro f1 (And.intro f2 (And.intro hall (And.intro hp HP.out))))
            clear f1 f2 hall hr hwd hp HP
            rcases host_class (r : Int) with c | c | c | c | c | c | c
            · have d0 : decide ((r : Int) < 48) = false := decide_eq_false (by omega)
              have d1 : decide ((r : Int) > 57) = false := decide_eq_false (by omega)
              have d2 : decide ((r : Int) < 97) = true := decide_eq_true (by omega)
              have d3 : decide ((r : Int) > 122) = false := decide_eq_false (by omega)
              have d4 : ((r : Int) == 45) = false := by rw [beq_eq_false_iff_ne]; omega
              have n4 : ((r : Int) != 45) = true := by unfold bne; rw [d4]; rfl
              have d5 : ((r : Int) == 46) = false := by rw [beq_eq_false_iff_ne]; omega
              have n5 : ((r : Int) != 46) = true := by unfold bne; rw [d5]; rfl
              have hc : hostC (r : Int) = true := decide_eq_true (by omega)
              have G := F.out
              obtain ⟨g1, g2⟩ := G.1 hc
              rw [G.2.2.1, g2, hc, Bool.true_and] at G
              subst g1
              have G2 := Aside0.mk G
              clear F G g2 hc c f3
              go_wp2_with fail
              go_roundw
              case rel => exact ⟨pos + 1, rfl, ⟨by rw [G2.out.2.2.2.2.1, G2.out.2.2.1], by have := G2.out.2.2.2.1; omega⟩⟩
              case measure => have := G2.out.2.2.2.1; simp; omega
            · have d0 : decide ((r : Int) < 48) = false := decide_eq_false (by omega)
              have d1 : decide ((r : Int) > 57) = true := decide_eq_true (by omega)
              have d2 : decide ((r : Int) < 97) = false := decide_eq_false (by omega)
              have d3 : decide ((r : Int) > 122) = false := decide_eq_false (by omega)
              have d4 : ((r : Int) == 45) = false := by rw [beq_eq_false_iff_ne]; omega
              have n4 : ((r : Int) != 45) = true := by unfold bne; rw [d4]; rfl
              have d5 : ((r : Int) == 46) = false := by rw [beq_eq_false_iff_ne]; omega
              have n5 : ((r : Int) != 46) = true := by unfold bne; rw [d5]; rfl
              have hc : hostC (r : Int) = true := decide_eq_true (by omega)
              have G := F.out
              obtain ⟨g1, g2⟩ := G.1 hc
              rw [G.2.2.1, g2, hc, Bool.true_and] at G
              subst g1
              have G2 := Aside0.mk G
              clear F G g2 hc c f3
              go_wp2_with fail
              go_roundw
              case rel => exact ⟨pos + 1, rfl, ⟨by rw [G2.out.2.2.2.2.1, G2.out.2.2.1], by have := G2.out.2.2.2.1; omega⟩⟩
              case measure => have := G2.out.2.2.2.1; simp; omega
            · have d0 : decide ((r : Int) < 48) = true := decide_eq_true (by omega)
              have d1 : decide ((r : Int) > 57) = false := decide_eq_false (by omega)
              have d2 : decide ((r : Int) < 97) = true := decide_eq_true (by omega)
              have d3 : decide ((r : Int) > 122) = false := decide_eq_false (by omega)
              have d4 : ((r : Int) == 45) = true := by rw [beq_iff_eq]; omega
              have n4 : ((r : Int) != 45) = false := by unfold bne; rw [d4]; rfl
              have d5 : ((r : Int) == 46) = false := by rw [beq_eq_false_iff_ne]; omega
              have n5 : ((r : Int) != 46) = true := by unfold bne; rw [d5]; rfl
              have hc : hostC (r : Int) = true := decide_eq_true (by omega)
              have G := F.out
              obtain ⟨g1, g2⟩ := G.1 hc
              rw [G.2.2.1, g2, hc, Bool.true_and] at G
              subst g1
              have G2 := Aside0.mk G
              clear F G g2 hc c f3
              go_wp2_with fail
              go_roundw
              case rel => exact ⟨pos + 1, rfl, ⟨by rw [G2.out.2.2.2.2.1, G2.out.2.2.1], by have := G2.out.2.2.2.1; omega⟩⟩
              case measure => have := G2.out.2.2.2.1; simp; omega
            · have d0 : decide ((r : Int) < 48) = true := decide_eq_true (by omega)
              have d1 : decide ((r : Int) > 57) = false := decide_eq_false (by omega)
              have d2 : decide ((r : Int) < 97) = true := decide_eq_true (by omega)
              have d3 : decide ((r : Int) > 122) = false := decide_eq_false (by omega)
              have d4 : ((r : Int) == 45) = false := by rw [beq_eq_false_iff_ne]; omega
              have n4 : ((r : Int) != 45) = true := by unfold bne; rw [d4]; rfl
              have d5 : ((r : Int) == 46) = true := by rw [beq_iff_eq]; omega
              have n5 : ((r : Int) != 46) = false := by unfold bne; rw [d5]; rfl
              have hc : hostC (r : Int) = true := decide_eq_true (by omega)
              have G := F.out
              obtain ⟨g1, g2⟩ := G.1 hc
              rw [G.2.2.1, g2, hc, Bool.true_and] at G
              subst g1
              have G2 := Aside0.mk G
              clear F G g2 hc c f3
              go_wp2_with fail
              go_roundw
              case rel => exact ⟨pos + 1, rfl, ⟨by rw [G2.out.2.2.2.2.1, G2.out.2.2.1], by have := G2.out.2.2.2.1; omega⟩⟩
              case measure => have := G2.out.2.2.2.1; simp; omega
            · have d0 : decide ((r : Int) < 48) = true := decide_eq_true (by omega)
              have d1 : decide ((r : Int) > 57) = false := decide_eq_false (by omega)
              have d2 : decide ((r : Int) < 97) = true := decide_eq_true (by omega)
              have d3 : decide ((r : Int) > 122) = false := decide_eq_false (by omega)
              have d4 : ((r : Int) == 45) = false := by rw [beq_eq_false_iff_ne]; omega
              have n4 : ((r : Int) != 45) = true := by unfold bne; rw [d4]; rfl
              have d5 : ((r : Int) == 46) = false := by rw [beq_eq_false_iff_ne]; omega
              have n5 : ((r : Int) != 46) = true := by unfold bne; rw [d5]; rfl
              have hc : hostC (r : Int) = false := decide_eq_false (by omega)
              have G := F.out
              have g1 := G.2.1 hc
              have HE := HE2.out
              rw [G.2.2.2.2.1, G.2.2.1, g1, Bool.false_and, if_neg (by simp)] at HE
              obtain ⟨rfl, rfl⟩ := Prod.mk.inj HE
              clear HE HE2 F G g1 hc c f3
              go_wp2_with fail
              go_ret2
              exact ⟨rfl, HB.out.alloc (HB.out.size) _⟩
            · have d0 : decide ((r : Int) < 48) = false := decide_eq_false (by omega)
              have d1 : decide ((r : Int) > 57) = true := decide_eq_true (by omega)
              have d2 : decide ((r : Int) < 97) = true := decide_eq_true (by omega)
              have d3 : decide ((r : Int) > 122) = false := decide_eq_false (by omega)
              have d4 : ((r : Int) == 45) = false := by rw [beq_eq_false_iff_ne]; omega
              have n4 : ((r : Int) != 45) = true := by unfold bne; rw [d4]; rfl
              have d5 : ((r : Int) == 46) = false := by rw [beq_eq_false_iff_ne]; omega
              have n5 : ((r : Int) != 46) = true := by unfold bne; rw [d5]; rfl
              have hc : hostC (r : Int) = false := decide_eq_false (by omega)
              have G := F.out
              have g1 := G.2.1 hc
              have HE := HE2.out
              rw [G.2.2.2.2.1, G.2.2.1, g1, Bool.false_and, if_neg (by simp)] at HE
              obtain ⟨rfl, rfl⟩ := Prod.mk.inj HE
              clear HE HE2 F G g1 hc c f3
              go_wp2_with fail
              go_ret2
              exact ⟨rfl, HB.out.alloc (HB.out.size) _⟩
            · have d0 : decide ((r : Int) < 48) = false := decide_eq_false (by omega)
              have d1 : decide ((r : Int) > 57) = true := decide_eq_true (by omega)
              have d2 : decide ((r : Int) < 97) = false := decide_eq_false (by omega)
              have d3 : decide ((r : Int) > 122) = true := decide_eq_true (by omega)
              have d4 : ((r : Int) == 45) = false := by rw [beq_eq_false_iff_ne]; omega
              have n4 : ((r : Int) != 45) = true := by unfold bne; rw [d4]; rfl
              have d5 : ((r : Int) == 46) = false := by rw [beq_eq_false_iff_ne]; omega
              have n5 : ((r : Int) != 46) = true := by unfold bne; rw [d5]; rfl
              have hc : hostC (r : Int) = false := decide_eq_false (by omega)
              have G := F.out
              have g1 := G.2.1 hc
              have HE := HE2.out
              rw [G.2.2.2.2.1, G.2.2.1, g1, Bool.false_and, if_neg (by simp)] at HE
              obtain ⟨rfl, rfl⟩ := Prod.mk.inj HE
              clear HE HE2 F G g1 hc c f3
              go_wp2_with fail
              go_ret2
              exact ⟨rfl, HB.out.alloc (HB.out.size) _⟩
          · have hnx : ∀ ty, (Instr.next (.pointer (some ⟨w2.heap.size, 0, none⟩)) true ty).run Tryd.prog (w2.iter u pos) = .ok (.tuple #[.bool false]) (w2.iter u pos) := fun ty => run_next_end w2 u pos ty hp
            have HE := HE2.out
            rw [HP.out.1, List.drop_of_length_le (by rw [bytesOf_length]; omega)] at HE
            rw [if_pos (show ([] : List Int).all hostC = true from rfl)] at HE
            obtain ⟨rfl, rfl⟩ := Prod.mk.inj HE
            clear HE HE2 hp
            go_wp2_with fail
            go_ret2
            exact ⟨rfl, HB.out.alloc (HB.out.size) _⟩
  · rw [if_neg h0] at h
    cases h


end Go.Proofs.YtjgpifjfaiaidaaDoor.P

namespace Go.Proofs.YtjgpifjfaiaidaaDoor.P
open Go.RowKit Go.Proofs.YtjgpifjfaiaidaaDoorW.PrintWords Go.Proofs.YtjgpifjfaiaidaaDoorW.PrintLast Go.Proofs.YtjgpifjfaiaidaaDoorW.PrintMore
attribute [local go_sem] max2_int min2_int max_two min_two max_three min_three max_four min_four   -- for this text's walks alone
set_option linter.unusedVariables false
set_option linter.unusedSimpArgs false

def line_Reason.f (a0 : Int) : Option (ByteArray) := if a0 = 200 then (some (⟨#[79, 75]⟩ : ByteArray)) else (if a0 = 204 then (some (⟨#[78, 111, 32, 67, 111, 110, 116, 101, 110, 116]⟩ : ByteArray)) else (if a0 = 400 then (some (⟨#[66, 97, 100, 32, 82, 101, 113, 117, 101, 115, 116]⟩ : ByteArray)) else (if a0 = 404 then (some (⟨#[78, 111, 116, 32, 70, 111, 117, 110, 100]⟩ : ByteArray)) else (if a0 = 413 then (some (⟨#[67, 111, 110, 116, 101, 110, 116, 32, 84, 111, 111, 32, 76, 97, 114, 103, 101]⟩ : ByteArray)) else (if a0 = 414 then (some (⟨#[85, 82, 73, 32, 84, 111, 111, 32, 76, 111, 110, 103]⟩ : ByteArray)) else (if a0 = 421 then (some (⟨#[77, 105, 115, 100, 105, 114, 101, 99, 116, 101, 100, 32, 82, 101, 113, 117, 101, 115, 116]⟩ : ByteArray)) else (if a0 = 429 then (some (⟨#[84, 111, 111, 32, 77, 97, 110, 121, 32, 82, 101, 113, 117, 101, 115, 116, 115]⟩ : ByteArray)) else (if a0 = 431 then (some (⟨#[82, 101, 113, 117, 101, 115, 116, 32, 72, 101, 97, 100, 101, 114, 32, 70, 105, 101, 108, 100, 115, 32, 84, 111, 111, 32, 76, 97, 114, 103, 101]⟩ : ByteArray)) else (if a0 = 501 then (some (⟨#[78, 111, 116, 32, 73, 109, 112, 108, 101, 109, 101, 110, 116, 101, 100]⟩ : ByteArray)) else (if a0 = 502 then (some (⟨#[66, 97, 100, 32, 71, 97, 116, 101, 119, 97, 121]⟩ : ByteArray)) else (if a0 = 503 then (some (⟨#[83, 101, 114, 118, 105, 99, 101, 32, 85, 110, 97, 118, 97, 105, 108, 97, 98, 108, 101]⟩ : ByteArray)) else (if a0 = 504 then (some (⟨#[71, 97, 116, 101, 119, 97, 121, 32, 84, 105, 109, 101, 111, 117, 116]⟩ : ByteArray)) else (if a0 = 505 then (some (⟨#[72, 84, 84, 80, 32, 86, 101, 114, 115, 105, 111, 110, 32, 78, 111, 116, 32, 83, 117, 112, 112, 111, 114, 116, 101, 100]⟩ : ByteArray)) else (some (⟨#[83, 116, 97, 116, 117, 115]⟩ : ByteArray)))))))))))))))
set_option maxHeartbeats 8000000 in
set_option maxRecDepth 100000 in
theorem line_Reason.calls (a0 : Int) (r : ByteArray) (w : World) (h : line_Reason.f a0 = some r) :
    Calls Tryd.prog 26 #[.int .i64 a0] w fun e w' => e = .returned (.string r) ∧ Drawn0 w w' := by
  have H : (if a0 = 200 then (some (⟨#[79, 75]⟩ : ByteArray)) else (if a0 = 204 then (some (⟨#[78, 111, 32, 67, 111, 110, 116, 101, 110, 116]⟩ : ByteArray)) else (if a0 = 400 then (some (⟨#[66, 97, 100, 32, 82, 101, 113, 117, 101, 115, 116]⟩ : ByteArray)) else (if a0 = 404 then (some (⟨#[78, 111, 116, 32, 70, 111, 117, 110, 100]⟩ : ByteArray)) else (if a0 = 413 then (some (⟨#[67, 111, 110, 116, 101, 110, 116, 32, 84, 111, 111, 32, 76, 97, 114, 103, 101]⟩ : ByteArray)) else (if a0 = 414 then (some (⟨#[85, 82, 73, 32, 84, 111, 111, 32, 76, 111, 110, 103]⟩ : ByteArray)) else (if a0 = 421 then (some (⟨#[77, 105, 115, 100, 105, 114, 101, 99, 116, 101, 100, 32, 82, 101, 113, 117, 101, 115, 116]⟩ : ByteArray)) else (if a0 = 429 then (some (⟨#[84, 111, 111, 32, 77, 97, 110, 121, 32, 82, 101, 113, 117, 101, 115, 116, 115]⟩ : ByteArray)) else (if a0 = 431 then (some (⟨#[82, 101, 113, 117, 101, 115, 116, 32, 72, 101, 97, 100, 101, 114, 32, 70, 105, 101, 108, 100, 115, 32, 84, 111, 111, 32, 76, 97, 114, 103, 101]⟩ : ByteArray)) else (if a0 = 501 then (some (⟨#[78, 111, 116, 32, 73, 109, 112, 108, 101, 109, 101, 110, 116, 101, 100]⟩ : ByteArray)) else (if a0 = 502 then (some (⟨#[66, 97, 100, 32, 71, 97, 116, 101, 119, 97, 121]⟩ : ByteArray)) else (if a0 = 503 then (some (⟨#[83, 101, 114, 118, 105, 99, 101, 32, 85, 110, 97, 118, 97, 105, 108, 97, 98, 108, 101]⟩ : ByteArray)) else (if a0 = 504 then (some (⟨#[71, 97, 116, 101, 119, 97, 121, 32, 84, 105, 109, 101, 111, 117, 116]⟩ : ByteArray)) else (if a0 = 505 then (some (⟨#[72, 84, 84, 80, 32, 86, 101, 114, 115, 105, 111, 110, 32, 78, 111, 116, 32, 83, 117, 112, 112, 111, 114, 116, 101, 100]⟩ : ByteArray)) else (some (⟨#[83, 116, 97, 116, 117, 115]⟩ : ByteArray)))))))))))))))) = some r := h
  clear h
  by_cases c2 : a0 = 200
  · rw [if_pos c2] at H
    have c2b0 : (a0 == 200) = true := beq_iff_eq.mpr c2
    have c2b1 : (a0 != 200) = false := bne_eq_false_iff_eq.mpr c2
    clear c2
    obtain rfl := Option.some.inj H
    go_enter Tryd.func26, Tryd.ntmps26
    go_wp2
    go_ret
    exact ⟨by first | rfl | (simp; done) | (simp [*]; done), by repeat (first | exact Drawn0.refl _ | apply Drawn0.step)⟩
  · rw [if_neg c2] at H
    have c2b0 : (a0 == 200) = false := beq_eq_false_iff_ne.mpr c2
    have c2b1 : (a0 != 200) = true := bne_iff_ne.mpr c2
    by_cases c3 : a0 = 204
    · rw [if_pos c3] at H
      have c3b0 : (a0 == 204) = true := beq_iff_eq.mpr c3
      have c3b1 : (a0 != 204) = false := bne_eq_false_iff_eq.mpr c3
      clear c3
      obtain rfl := Option.some.inj H
      go_enter Tryd.func26, Tryd.ntmps26
      go_wp2
      go_ret
      exact ⟨by first | rfl | (simp; done) | (simp [*]; done), by repeat (first | exact Drawn0.refl _ | apply Drawn0.step)⟩
    · rw [if_neg c3] at H
      have c3b0 : (a0 == 204) = false := beq_eq_false_iff_ne.mpr c3
      have c3b1 : (a0 != 204) = true := bne_iff_ne.mpr c3
      by_cases c4 : a0 = 400
      · rw [if_pos c4] at H
        have c4b0 : (a0 == 400) = true := beq_iff_eq.mpr c4
        have c4b1 : (a0 != 400) = false := bne_eq_false_iff_eq.mpr c4
        clear c4
        obtain rfl := Option.some.inj H
        go_enter Tryd.func26, Tryd.ntmps26
        go_wp2
        go_ret
        exact ⟨by first | rfl | (simp; done) | (simp [*]; done), by repeat (first | exact Drawn0.refl _ | apply Drawn0.step)⟩
      · rw [if_neg c4] at H
        have c4b0 : (a0 == 400) = false := beq_eq_false_iff_ne.mpr c4
        have c4b1 : (a0 != 400) = true := bne_iff_ne.mpr c4
        by_cases c5 : a0 = 404
        · rw [if_pos c5] at H
          have c5b0 : (a0 == 404) = true := beq_iff_eq.mpr c5
          have c5b1 : (a0 != 404) = false := bne_eq_false_iff_eq.mpr c5
          clear c5
          obtain rfl := Option.some.inj H
          go_enter Tryd.func26, Tryd.ntmps26
          go_wp2
          go_ret
          exact ⟨by first | rfl | (simp; done) | (simp [*]; done), by repeat (first | exact Drawn0.refl _ | apply Drawn0.step)⟩
        · rw [if_neg c5] at H
          have c5b0 : (a0 == 404) = false := beq_eq_false_iff_ne.mpr c5
          have c5b1 : (a0 != 404) = true := bne_iff_ne.mpr c5
          by_cases c6 : a0 = 413
          · rw [if_pos c6] at H
            have c6b0 : (a0 == 413) = true := beq_iff_eq.mpr c6
            have c6b1 : (a0 != 413) = false := bne_eq_false_iff_eq.mpr c6
            clear c6
            obtain rfl := Option.some.inj H
            go_enter Tryd.func26, Tryd.ntmps26
            go_wp2
            go_ret
            exact ⟨by first | rfl | (simp; done) | (simp [*]; done), by repeat (first | exact Drawn0.refl _ | apply Drawn0.step)⟩
          · rw [if_neg c6] at H
            have c6b0 : (a0 == 413) = false := beq_eq_false_iff_ne.mpr c6
            have c6b1 : (a0 != 413) = true := bne_iff_ne.mpr c6
            by_cases c7 : a0 = 414
            · rw [if_pos c7] at H
              have c7b0 : (a0 == 414) = true := beq_iff_eq.mpr c7
              have c7b1 : (a0 != 414) = false := bne_eq_false_iff_eq.mpr c7
              clear c7
              obtain rfl := Option.some.inj H
              go_enter Tryd.func26, Tryd.ntmps26
              go_wp2
              go_ret
              exact ⟨by first | rfl | (simp; done) | (simp [*]; done), by repeat (first | exact Drawn0.refl _ | apply Drawn0.step)⟩
            · rw [if_neg c7] at H
              have c7b0 : (a0 == 414) = false := beq_eq_false_iff_ne.mpr c7
              have c7b1 : (a0 != 414) = true := bne_iff_ne.mpr c7
              by_cases c8 : a0 = 421
              · rw [if_pos c8] at H
                have c8b0 : (a0 == 421) = true := beq_iff_eq.mpr c8
                have c8b1 : (a0 != 421) = false := bne_eq_false_iff_eq.mpr c8
                clear c8
                obtain rfl := Option.some.inj H
                go_enter Tryd.func26, Tryd.ntmps26
                go_wp2
                go_ret
                exact ⟨by first | rfl | (simp; done) | (simp [*]; done), by repeat (first | exact Drawn0.refl _ | apply Drawn0.step)⟩
              · rw [if_neg c8] at H
                have c8b0 : (a0 == 421) = false := beq_eq_false_iff_ne.mpr c8
                have c8b1 : (a0 != 421) = true := bne_iff_ne.mpr c8
                by_cases c9 : a0 = 429
                · rw [if_pos c9] at H
                  have c9b0 : (a0 == 429) = true := beq_iff_eq.mpr c9
                  have c9b1 : (a0 != 429) = false := bne_eq_false_iff_eq.mpr c9
                  clear c9
                  obtain rfl := Option.some.inj H
                  go_enter Tryd.func26, Tryd.ntmps26
                  go_wp2
                  go_ret
                  exact ⟨by first | rfl | (simp; done) | (simp [*]; done), by repeat (first | exact Drawn0.refl _ | apply Drawn0.step)⟩
                · rw [if_neg c9] at H
                  have c9b0 : (a0 == 429) = false := beq_eq_false_iff_ne.mpr c9
                  have c9b1 : (a0 != 429) = true := bne_iff_ne.mpr c9
                  by_cases c10 : a0 = 431
                  · rw [if_pos c10] at H
                    have c10b0 : (a0 == 431) = true := beq_iff_eq.mpr c10
                    have c10b1 : (a0 != 431) = false := bne_eq_false_iff_eq.mpr c10
                    clear c10
                    obtain rfl := Option.some.inj H
                    go_enter Tryd.func26, Tryd.ntmps26
                    go_wp2
                    go_ret
                    exact ⟨by first | rfl | (simp; done) | (simp [*]; done), by repeat (first | exact Drawn0.refl _ | apply Drawn0.step)⟩
                  · rw [if_neg c10] at H
                    have c10b0 : (a0 == 431) = false := beq_eq_false_iff_ne.mpr c10
                    have c10b1 : (a0 != 431) = true := bne_iff_ne.mpr c10
                    by_cases c11 : a0 = 501
                    · rw [if_pos c11] at H
                      have c11b0 : (a0 == 501) = true := beq_iff_eq.mpr c11
                      have c11b1 : (a0 != 501) = false := bne_eq_false_iff_eq.mpr c11
                      clear c11
                      obtain rfl := Option.some.inj H
                      go_enter Tryd.func26, Tryd.ntmps26
                      go_wp2
                      go_ret
                      exact ⟨by first | rfl | (simp; done) | (simp [*]; done), by repeat (first | exact Drawn0.refl _ | apply Drawn0.step)⟩
                    · rw [if_neg c11] at H
                      have c11b0 : (a0 == 501) = false := beq_eq_false_iff_ne.mpr c11
                      have c11b1 : (a0 != 501) = true := bne_iff_ne.mpr c11
                      by_cases c12 : a0 = 502
                      · rw [if_pos c12] at H
                        have c12b0 : (a0 == 502) = true := beq_iff_eq.mpr c12
                        have c12b1 : (a0 != 502) = false := bne_eq_false_iff_eq.mpr c12
                        clear c12
                        obtain rfl := Option.some.inj H
                        go_enter Tryd.func26, Tryd.ntmps26
                        go_wp2
                        go_ret
                        exact ⟨by first | rfl | (simp; done) | (simp [*]; done), by repeat (first | exact Drawn0.refl _ | apply Drawn0.step)⟩
                      · rw [if_neg c12] at H
                        have c12b0 : (a0 == 502) = false := beq_eq_false_iff_ne.mpr c12
                        have c12b1 : (a0 != 502) = true := bne_iff_ne.mpr c12
                        by_cases c13 : a0 = 503
                        · rw [if_pos c13] at H
                          have c13b0 : (a0 == 503) = true := beq_iff_eq.mpr c13
                          have c13b1 : (a0 != 503) = false := bne_eq_false_iff_eq.mpr c13
                          clear c13
                          obtain rfl := Option.some.inj H
                          go_enter Tryd.func26, Tryd.ntmps26
                          go_wp2
                          go_ret
                          exact ⟨by first | rfl | (simp; done) | (simp [*]; done), by repeat (first | exact Drawn0.refl _ | apply Drawn0.step)⟩
                        · rw [if_neg c13] at H
                          have c13b0 : (a0 == 503) = false := beq_eq_false_iff_ne.mpr c13
                          have c13b1 : (a0 != 503) = true := bne_iff_ne.mpr c13
                          by_cases c14 : a0 = 504
                          · rw [if_pos c14] at H
                            have c14b0 : (a0 == 504) = true := beq_iff_eq.mpr c14
                            have c14b1 : (a0 != 504) = false := bne_eq_false_iff_eq.mpr c14
                            clear c14
                            obtain rfl := Option.some.inj H
                            go_enter Tryd.func26, Tryd.ntmps26
                            go_wp2
                            go_ret
                            exact ⟨by first | rfl | (simp; done) | (simp [*]; done), by repeat (first | exact Drawn0.refl _ | apply Drawn0.step)⟩
                          · rw [if_neg c14] at H
                            have c14b0 : (a0 == 504) = false := beq_eq_false_iff_ne.mpr c14
                            have c14b1 : (a0 != 504) = true := bne_iff_ne.mpr c14
                            by_cases c15 : a0 = 505
                            · rw [if_pos c15] at H
                              have c15b0 : (a0 == 505) = true := beq_iff_eq.mpr c15
                              have c15b1 : (a0 != 505) = false := bne_eq_false_iff_eq.mpr c15
                              clear c15
                              obtain rfl := Option.some.inj H
                              go_enter Tryd.func26, Tryd.ntmps26
                              go_wp2
                              go_ret
                              exact ⟨by first | rfl | (simp; done) | (simp [*]; done), by repeat (first | exact Drawn0.refl _ | apply Drawn0.step)⟩
                            · rw [if_neg c15] at H
                              have c15b0 : (a0 == 505) = false := beq_eq_false_iff_ne.mpr c15
                              have c15b1 : (a0 != 505) = true := bne_iff_ne.mpr c15
                              obtain rfl := Option.some.inj H
                              go_enter Tryd.func26, Tryd.ntmps26
                              go_wp2
                              go_ret
                              exact ⟨by first | rfl | (simp; done) | (simp [*]; done), by repeat (first | exact Drawn0.refl _ | apply Drawn0.step)⟩

end Go.Proofs.YtjgpifjfaiaidaaDoor.P

namespace Go.Proofs.YtjgpifjfaiaidaaDoor.P
open Go.RowKit Go.Proofs.YtjgpifjfaiaidaaDoorW.PrintWords Go.Proofs.YtjgpifjfaiaidaaDoorW.PrintLast Go.Proofs.YtjgpifjfaiaidaaDoorW.PrintMore
attribute [local go_sem] max2_int min2_int max_two min_two max_three min_three max_four min_four   -- for this text's walks alone
set_option linter.unusedVariables false
set_option linter.unusedSimpArgs false

def line_minor.f (a0 : ByteArray) : Option (Int × Bool) := if a0.toList = ([72, 84, 84, 80, 47, 49, 46, 48] : List UInt8) then (some (0, true)) else (if a0.toList = ([72, 84, 84, 80, 47, 49, 46, 49] : List UInt8) then (some (1, true)) else (some (0, false)))
set_option maxHeartbeats 8000000 in
set_option maxRecDepth 100000 in
theorem line_minor.calls (a0 : ByteArray) (r1 : Int) (r2 : Bool) (w : World) (h : line_minor.f a0 = some (r1, r2)) :
    Calls Tryd.prog 38 #[.string a0] w fun e w' => e = .returned (.tuple #[.int .i64 r1, .bool r2]) ∧ Drawn0 w w' := by
  have H : (if a0.toList = ([72, 84, 84, 80, 47, 49, 46, 48] : List UInt8) then (some (0, true)) else (if a0.toList = ([72, 84, 84, 80, 47, 49, 46, 49] : List UInt8) then (some (1, true)) else (some (0, false)))) = some (r1, r2) := h
  clear h
  by_cases c2 : a0.toList = ([72, 84, 84, 80, 47, 49, 46, 48] : List UInt8)
  · rw [if_pos c2] at H
    have c2b0 : (a0.toList == ([72, 84, 84, 80, 47, 49, 46, 48] : List UInt8)) = true := beq_iff_eq.mpr c2
    have c2b1 : (a0.toList != ([72, 84, 84, 80, 47, 49, 46, 48] : List UInt8)) = false := bne_eq_false_iff_eq.mpr c2
    clear c2
    simp only [Option.some.injEq, Prod.mk.injEq] at H
    obtain ⟨rfl, rfl⟩ := H
    go_enter Tryd.func38, Tryd.ntmps38
    go_wp2
    go_ret2
    exact ⟨by first | rfl | (simp; done) | (simp [*]; done), by repeat (first | exact Drawn0.refl _ | apply Drawn0.step)⟩
  · rw [if_neg c2] at H
    have c2b0 : (a0.toList == ([72, 84, 84, 80, 47, 49, 46, 48] : List UInt8)) = false := beq_eq_false_iff_ne.mpr c2
    have c2b1 : (a0.toList != ([72, 84, 84, 80, 47, 49, 46, 48] : List UInt8)) = true := bne_iff_ne.mpr c2
    by_cases c3 : a0.toList = ([72, 84, 84, 80, 47, 49, 46, 49] : List UInt8)
    · rw [if_pos c3] at H
      have c3b0 : (a0.toList == ([72, 84, 84, 80, 47, 49, 46, 49] : List UInt8)) = true := beq_iff_eq.mpr c3
      have c3b1 : (a0.toList != ([72, 84, 84, 80, 47, 49, 46, 49] : List UInt8)) = false := bne_eq_false_iff_eq.mpr c3
      clear c3
      simp only [Option.some.injEq, Prod.mk.injEq] at H
      obtain ⟨rfl, rfl⟩ := H
      go_enter Tryd.func38, Tryd.ntmps38
      go_wp2
      go_ret2
      exact ⟨by first | rfl | (simp; done) | (simp [*]; done), by repeat (first | exact Drawn0.refl _ | apply Drawn0.step)⟩
    · rw [if_neg c3] at H
      have c3b0 : (a0.toList == ([72, 84, 84, 80, 47, 49, 46, 49] : List UInt8)) = false := beq_eq_false_iff_ne.mpr c3
      have c3b1 : (a0.toList != ([72, 84, 84, 80, 47, 49, 46, 49] : List UInt8)) = true := bne_iff_ne.mpr c3
      simp only [Option.some.injEq, Prod.mk.injEq] at H
      obtain ⟨rfl, rfl⟩ := H
      go_enter Tryd.func38, Tryd.ntmps38
      go_wp2
      go_ret2
      exact ⟨by first | rfl | (simp; done) | (simp [*]; done), by repeat (first | exact Drawn0.refl _ | apply Drawn0.step)⟩

end Go.Proofs.YtjgpifjfaiaidaaDoor.P

namespace Go.Proofs.YtjgpifjfaiaidaaDoor.P
open Go.RowKit Go.Proofs.YtjgpifjfaiaidaaDoorW.PrintWords Go.Proofs.YtjgpifjfaiaidaaDoorW.PrintLast Go.Proofs.YtjgpifjfaiaidaaDoorW.PrintMore
attribute [local go_sem] max2_int min2_int max_two min_two max_three min_three max_four min_four   -- for this text's walks alone
set_option linter.unusedVariables false
set_option linter.unusedSimpArgs false

def line_digit.f (a0 : Int) : Option (Bool) := if a0 ≥ 48 then (some (decide (a0 ≤ 57))) else (some false)
set_option maxHeartbeats 8000000 in
set_option maxRecDepth 100000 in
theorem line_digit.calls (a0 : Int) (r : Bool) (w : World) (h : line_digit.f a0 = some r) :
    Calls Tryd.prog 71 #[.int .u8 a0] w fun e w' => e = .returned (.bool r) ∧ Drawn0 w w' := by
  have H : (if a0 ≥ 48 then (some (decide (a0 ≤ 57))) else (some false)) = some r := h
  clear h
  by_cases c2 : a0 ≥ 48
  · rw [if_pos c2] at H
    have c2b0 : decide (48 ≤ a0) = true := decide_eq_true c2
    clear c2
    obtain rfl := Option.some.inj H
    go_enter Tryd.func71, Tryd.ntmps71
    go_wp2
    go_ret
    exact ⟨by first | rfl | (simp; done) | (simp [*]; done), by repeat (first | exact Drawn0.refl _ | apply Drawn0.step)⟩
  · rw [if_neg c2] at H
    have c2b0 : decide (48 ≤ a0) = false := decide_eq_false c2
    clear c2
    obtain rfl := Option.some.inj H
    go_enter Tryd.func71, Tryd.ntmps71
    go_wp2
    go_ret
    exact ⟨by first | rfl | (simp; done) | (simp [*]; done), by repeat (first | exact Drawn0.refl _ | apply Drawn0.step)⟩

end Go.Proofs.YtjgpifjfaiaidaaDoor.P

