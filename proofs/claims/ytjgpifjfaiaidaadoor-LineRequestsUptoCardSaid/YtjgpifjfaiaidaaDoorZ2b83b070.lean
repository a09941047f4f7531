/- Each function below answers as its Lean twin says; plain lemmas; a row where its theorem stands. No further condition. (Laid by this repo's pack.py out of its texts and of the print's words.) -/
import Derived.Test.YtjgpifjfaiaidaaDoorU0base0x0
import Derived.Test.YtjgpifjfaiaidaaDoorUline0x1
import Derived.Test.YtjgpifjfaiaidaaDoorUlineRequest
import Derived.Test.YtjgpifjfaiaidaaDoorUline0x2
import Derived.Test.YtjgpifjfaiaidaaDoorUlineStatus
import Derived.Test.YtjgpifjfaiaidaaDoorUline0x3
import Derived.Test.YtjgpifjfaiaidaaDoorUsign0x0
import Derived.Test.YtjgpifjfaiaidaaDoorUstrconv0x0
import Derived.Test.YtjgpifjfaiaidaaDoorUtollbarlaw05reading
import Derived.Test.YtjgpifjfaiaidaaDoorUstrings0x0
import Derived.Test.YtjgpifjfaiaidaaDoorUstrings1x0
import Derived.Test.YtjgpifjfaiaidaaDoorUstringsgenSplit
import Derived.Test.YtjgpifjfaiaidaaDoorUtollbarref050x0
import Derived.Test.YtjgpifjfaiaidaaDoorUtollbarref020x0
import Derived.Test.YtjgpifjfaiaidaaDoorUtollbarref020x1
import Derived.Test.YtjgpifjfaiaidaaDoorUstringslite0x0
import Derived.Test.YtjgpifjfaiaidaaDoorUtollbarref05Request
import Derived.Test.YtjgpifjfaiaidaaDoorUtollbarlaw051x0
import Derived.Lib.IndexBytes
import Derived.Lib.Strings
namespace Go.Proofs.YtjgpifjfaiaidaaDoor.Pure
open Go.RowKit Go.Proofs.YtjgpifjfaiaidaaDoor.P Go.Proofs.YtjgpifjfaiaidaaDoorW.PrintWords Go.Proofs.YtjgpifjfaiaidaaDoorW.PrintLast Go.Proofs.YtjgpifjfaiaidaaDoorW.PrintMore
set_option linter.unusedVariables false
set_option linter.unusedSimpArgs false
theorem w64 {i : Int} {n : Nat} (c : Int) (h0 : 0 ≤ i) (h : i < (n : Int)) (hn : n ≤ 140737488355328) (hc0 : -3 ≤ c) (hc : c ≤ 3) : wrap64 (i + c) = i + c := by
  unfold wrap64; omega
theorem toList_data (s : ByteArray) : s.toList = s.data.toList := by
  simp [ByteArray.toList_eq]
theorem isEmpty_size (s : ByteArray) : s.toList.isEmpty = decide (s.size = 0) := by
  rw [toList_data, Bool.eq_iff_iff, List.isEmpty_iff, decide_eq_true_eq, ← data_length]
  exact List.length_eq_zero_iff.symm

end Go.Proofs.YtjgpifjfaiaidaaDoor.Pure

namespace Go.Proofs.YtjgpifjfaiaidaaDoor.Pure
open Go.RowKit Go.Proofs.YtjgpifjfaiaidaaDoor.P Go.Proofs.YtjgpifjfaiaidaaDoorW.PrintWords Go.Proofs.YtjgpifjfaiaidaaDoorW.PrintLast Go.Proofs.YtjgpifjfaiaidaaDoorW.PrintMore
set_option linter.unusedVariables false
set_option linter.unusedSimpArgs false
def mkS (l : List UInt8) : ByteArray := ⟨l.toArray⟩
theorem mkS_data (l : List UInt8) : (mkS l).data.toList = l := by simp [mkS]
theorem mkS_self (s : ByteArray) : mkS s.data.toList = s := by simp [mkS]
theorem mkS_size (l : List UInt8) : (mkS l).size = l.length := by rw [← data_length, mkS_data]
theorem mkS_toList (l : List UInt8) : (mkS l).toList = l := by rw [toList_data, mkS_data]
theorem wn0 (n : Nat) (h : n ≤ 4398046511104) : wrap64 ((n : Int) + 0) = (n : Int) := by unfold wrap64; omega
theorem wn1 (n : Nat) (h : n ≤ 4398046511104) : wrap64 ((n : Int) + 1) = (n : Int) + 1 := by unfold wrap64; omega
theorem wnm (n : Nat) (h : n ≤ 4398046511104) : wrap64 ((n : Int) + 1 - 1) = (n : Int) := by unfold wrap64; omega
theorem bt_mk (l : List UInt8) (i : Nat) (h : i < l.length) : bt (mkS l) i = ((l[i]).toNat : Int) := by
  unfold bt
  have hs : (mkS l).size = l.length := mkS_size l
  rw [dif_pos (by rw [Int.toNat_natCast]; omega)]
  have : (mkS l)[((i : Nat) : Int).toNat]'(by rw [Int.toNat_natCast]; omega) = l[i] := by simp [mkS, ByteArray.getElem_eq_getElem_data]
  rw [this]
theorem mkS_extract (l : List UInt8) (a b : Nat) : (mkS l).extract a b = mkS ((l.drop a).take (b - a)) := by
  rw [← mkS_self ((mkS l).extract a b), Lib.extract_data, mkS_data]
theorem seg_split (l : List UInt8) (f i : Nat) (h : f ≤ i) (hi : i < l.length) : l.drop f = (l.drop f).take (i - f) ++ l[i] :: l.drop (i + 1) ∧ (l.drop f).take (i + 1 - f) = (l.drop f).take (i - f) ++ [l[i]] := by
  have e1 : (l.drop f).drop (i - f) = l.drop i := by rw [List.drop_drop]; congr 1; omega
  have e2 : l.drop i = l[i] :: l.drop (i + 1) := List.drop_eq_getElem_cons hi
  refine ⟨?_, ?_⟩
  · rw [← e2, ← e1, List.take_append_drop]
  · have hl : i - f < (l.drop f).length := by rw [List.length_drop]; omega
    rw [show i + 1 - f = i - f + 1 by omega, List.take_succ_eq_append_getElem hl]
    congr 2
    rw [List.getElem_drop]
    congr 1
    omega
end Go.Proofs.YtjgpifjfaiaidaaDoor.Pure

namespace Go.Proofs.YtjgpifjfaiaidaaDoor.Pure
open Go.RowKit Go.Proofs.YtjgpifjfaiaidaaDoor.P Go.Proofs.YtjgpifjfaiaidaaDoorW.PrintWords Go.Proofs.YtjgpifjfaiaidaaDoorW.PrintLast Go.Proofs.YtjgpifjfaiaidaaDoorW.PrintMore
set_option linter.unusedVariables false
set_option linter.unusedSimpArgs false
theorem text_1 : sign_Text.f 1 = some ⟨#[49]⟩ := by
  show strconv_FormatInt_85.f 1 10 = _
  unfold strconv_FormatInt_85.f strconv_FormatInt_105.f
  simp [Lib.itoa, Lib.decDigits]
theorem text_0 : sign_Text.f 0 = some ⟨#[48]⟩ := by
  show strconv_FormatInt_85.f 0 10 = _
  unfold strconv_FormatInt_85.f strconv_FormatInt_105.f
  simp [Lib.itoa, Lib.decDigits]
set_option maxRecDepth 100000 in
theorem text_404 : sign_Text.f 404 = some ⟨#[52, 48, 52]⟩ := by
  show strconv_FormatInt_85.f 404 10 = _
  unfold strconv_FormatInt_85.f strconv_FormatInt_105.f
  simp [Lib.itoa, Lib.decDigits]
theorem reading_1 : line_Request.f 60 ⟨#[71, 69, 84, 32, 47, 97, 32, 72, 84, 84, 80, 47, 49, 46, 49]⟩ = some (⟨#[71, 69, 84]⟩, ⟨#[47, 97]⟩, 1, [], [], 0) := by kernel_rfl
theorem reading_2 : line_Status.f 60 ⟨#[72, 84, 84, 80, 47, 49, 46, 48, 32, 52, 48, 52, 32, 78, 111, 116, 32, 70, 111, 117, 110, 100]⟩ = some (404, ⟨#[78, 111, 116, 32, 70, 111, 117, 110, 100]⟩, 0, [], [], true) := by kernel_rfl
theorem reading_3 : line_Host.f ⟨#[65, 46, 98, 58, 56, 48]⟩ = some (⟨#[97, 46, 98]⟩, true) := by kernel_rfl
theorem reading_4 : line_Request.f 60 ⟨#[71, 69, 84, 32, 47, 97, 32, 72, 84, 84, 80, 47, 50, 46, 48]⟩ = some (⟨#[]⟩, ⟨#[]⟩, 0, [], [], 505) := by kernel_rfl
theorem reading_5 : line_RequestLine.f ⟨#[71, 69, 84]⟩ ⟨#[47, 97]⟩ 1 [] [] = some ⟨#[71, 69, 84, 32, 47, 97, 32, 72, 84, 84, 80, 47, 49, 46, 49, 13, 10]⟩ := by
  unfold line_RequestLine.f
  rw [text_1]
  kernel_rfl
set_option maxRecDepth 100000 in
theorem reading_6 : line_StatusLine.f 60 404 ⟨#[78, 111, 116, 32, 70, 111, 117, 110, 100]⟩ 0 [] [] = some ⟨#[72, 84, 84, 80, 47, 49, 46, 48, 32, 52, 48, 52, 32, 78, 111, 116, 32, 70, 111, 117, 110, 100, 13, 10]⟩ := by
  unfold line_StatusLine.f
  rw [text_404, Option.bind_some]
  unfold line_StatusLine.l0
  rw [if_neg (by decide), text_0]
  kernel_rfl
theorem reading_7 : line_Reason.f 404 = some ⟨#[78, 111, 116, 32, 70, 111, 117, 110, 100]⟩ := by kernel_rfl
set_option maxRecDepth 100000 in
theorem reading_f (k : Nat) (hk : 60 ≤ k) : tollbarlaw05_reading.f k = some true := by
  refine at_rounds (fun k => tollbarlaw05_reading.mono k) hk ?_
  unfold tollbarlaw05_reading.f
  rw [reading_1, Option.bind_some, reading_2, Option.bind_some, reading_3, Option.bind_some, reading_4, Option.bind_some, if_pos rfl]
  rw [if_pos (by kernel_rfl), if_pos (by kernel_rfl), if_pos (by kernel_rfl), if_pos (by kernel_rfl), if_pos (by kernel_rfl), if_pos (by kernel_rfl), if_pos (by kernel_rfl), if_pos (by kernel_rfl), if_pos (by kernel_rfl), reading_5, Option.bind_some, if_pos (by kernel_rfl), reading_6, Option.bind_some, if_pos (by kernel_rfl), reading_7, Option.bind_some]
  kernel_rfl

end Go.Proofs.YtjgpifjfaiaidaaDoor.Pure

namespace Go.Proofs.YtjgpifjfaiaidaaDoor.Pure
open Go.RowKit Go.Proofs.YtjgpifjfaiaidaaDoor.P Go.Proofs.YtjgpifjfaiaidaaDoorW.PrintWords Go.Proofs.YtjgpifjfaiaidaaDoorW.PrintLast Go.Proofs.YtjgpifjfaiaidaaDoorW.PrintMore
set_option linter.unusedVariables false
set_option linter.unusedSimpArgs false
/-- How many commas. -/
def cntC (sp : UInt8) : List UInt8 → Nat
  | [] => 0
  | c :: l => if c = sp then cntC sp l + 1 else cntC sp l
theorem cntC_count {sp : UInt8} (l : List UInt8) : l.count sp = cntC sp l := by
  induction l with
  | nil => rfl
  | cons c l ih => rw [List.count_cons, ih]; by_cases hc : c = sp <;> simp [cntC, hc]
theorem cntC_append {sp : UInt8} (a b : List UInt8) : cntC sp (a ++ b) = cntC sp a + cntC sp b := by
  rw [← cntC_count, ← cntC_count, ← cntC_count, List.count_append]
theorem cntC_none {sp : UInt8} (l : List UInt8) : cntC sp l = 0 ↔ sp ∉ l := by rw [← cntC_count]; exact List.count_eq_zero
theorem cntC_le {sp : UInt8} (l : List UInt8) : cntC sp l ≤ l.length := by rw [← cntC_count]; exact List.count_le_length
/-- The parts between commas. -/
def pcs (sp : UInt8) : List UInt8 → List (List UInt8)
  | [] => [[]]
  | c :: l => if c = sp then [] :: pcs sp l else (match pcs sp l with | p :: ps => (c :: p) :: ps | [] => [[c]])
theorem pcs_ne {sp : UInt8} (l : List UInt8) : ∃ p ps, pcs sp l = p :: ps := by
  induction l with
  | nil => exact ⟨[], [], rfl⟩
  | cons c l ih =>
    obtain ⟨p, ps, h⟩ := ih
    by_cases hc : c = sp
    · exact ⟨[], pcs sp l, by simp [pcs, hc]⟩
    · exact ⟨c :: p, ps, by simp [pcs, hc, h]⟩
theorem pcs_none {sp : UInt8} (l : List UInt8) (h : sp ∉ l) : pcs sp l = [l] := by
  induction l with
  | nil => rfl
  | cons c l ih =>
    have hc : c ≠ sp := fun e => h (e ▸ List.mem_cons_self ..)
    simp [pcs, hc, ih (fun e => h (List.mem_cons_of_mem _ e))]
theorem pcs_append {sp : UInt8} (a b : List UInt8) : pcs sp (a ++ sp :: b) = pcs sp a ++ pcs sp b := by
  induction a with
  | nil => simp [pcs]
  | cons c a ih =>
    by_cases hc : c = sp
    · simp [pcs, hc, ih]
    · obtain ⟨p, ps, hp⟩ := pcs_ne (sp := sp) a
      simp [pcs, hc, ih, hp]
theorem pcs_le {sp : UInt8} (l : List UInt8) : ∀ p ∈ pcs sp l, p.length ≤ l.length := by
  induction l with
  | nil => intro p hp; simp [pcs] at hp; simp [hp]
  | cons c l ih =>
    intro p hp
    by_cases hc : c = sp
    · simp only [pcs, hc, if_true] at hp
      rcases List.mem_cons.1 hp with rfl | hp
      · simp
      · have := ih p hp; simp; omega
    · obtain ⟨q, qs, hq⟩ := pcs_ne (sp := sp) l
      simp only [pcs, hc, if_false, hq] at hp
      rcases List.mem_cons.1 hp with rfl | hp
      · have := ih q (by rw [hq]; exact List.mem_cons_self ..); simp; omega
      · have := ih p (by rw [hq]; exact List.mem_cons_of_mem _ hp); simp; omega
/-- What Split tells. -/
theorem index_splitC {sp : UInt8} (l : List UInt8) (h : 0 < cntC sp l) : ∃ a b, l = a ++ sp :: b ∧ sp ∉ a ∧ Lib.indexByte l sp = a.length := by
  induction l with
  | nil => simp [cntC] at h
  | cons c l ih =>
    by_cases hc : c = sp
    · exact ⟨[], l, by simp [hc], by simp, by simp [Lib.indexByte, hc]⟩
    · have h' : 0 < cntC sp l := by simpa [cntC, hc] using h
      obtain ⟨a, b, h1, h2, h3⟩ := ih h'
      refine ⟨c :: a, b, by simp [h1], ?_, ?_⟩
      · intro hm
        rcases List.mem_cons.1 hm with e | e
        · exact hc e.symm
        · exact h2 e
      · have hb : (c == sp) = false := by simpa using hc
        have hn : ((a.length : Int) == -1) = false := by simp only [beq_eq_false_iff_ne]; omega
        simp [Lib.indexByte, hb, h3, hn]
theorem gs_endC {sp : UInt8} (k : Nat) (s : ByteArray) (x3 : Int) (x9 : List ByteArray) (i : Nat) (hc : sp ∉ s.data.toList) (hx : x3 = i) (hl : x9.length = i + 1) (hi : i ≤ 4398046511104) :
    strings_genSplit.l0 (k + 1) s ⟨#[sp]⟩ 0 x3 x9 i = some (x9.take i ++ (pcs sp s.data.toList).map mkS) := by
  simp only [strings_genSplit.l0]
  rw [if_neg (by omega), if_pos (by omega), if_pos (by omega), wn1 i hi, if_pos (by omega), if_pos (by omega), pcs_none _ hc]
  have e1 : ((i : Int) + 1).toNat = i + 1 := by omega
  rw [e1, Int.toNat_natCast, List.take_succ_eq_append_getElem (by rw [List.length_set]; omega), List.take_set_of_le (Nat.le_refl _)]
  simp [mkS_self]
theorem extract_midC {sp : UInt8} (s : ByteArray) (a b : List UInt8) (hab : s.data.toList = a ++ sp :: b) : (s.extract (a.length + 1) s.size).data.toList = b ∧ s.extract 0 a.length = mkS a ∧ (s.extract (a.length + 1) s.size).size ≤ s.size := by
  have e2 : (s.extract (a.length + 1) s.size).data.toList = b := by
    rw [Lib.extract_to_end, hab, ← List.drop_drop, List.drop_left]; rfl
  refine ⟨e2, ?_, ?_⟩
  · have : (s.extract 0 a.length).data.toList = a := by
      rw [Lib.extract_data, hab, List.drop_zero, Nat.sub_zero, List.take_left]
    rw [← mkS_self (s.extract 0 _), this]
  · have hlen : a.length + b.length + 1 = s.size := by rw [← data_length, hab]; simp; omega
    rw [← data_length, e2]
    omega
theorem gs_stepC {sp : UInt8} (k : Nat) (s : ByteArray) (x3 : Int) (x9 : List ByteArray) (i : Nat) (a b : List UInt8) (hab : s.data.toList = a ++ sp :: b) (hidx : Lib.indexByte s.data.toList sp = a.length) (hx : (i : Int) < x3) (hl : i < x9.length) (hs : s.size ≤ 4398046511104) (hi : i ≤ 4398046511104) :
    ∀ R, strings_genSplit.l0 k (s.extract (a.length + 1) s.size) ⟨#[sp]⟩ 0 x3 (x9.set i (mkS a)) ((i : Int) + 1) = R → strings_genSplit.l0 (k + 1) s ⟨#[sp]⟩ 0 x3 x9 i = R := by
  intro R hR
  have hlen : a.length + b.length + 1 = s.size := by rw [← data_length, hab]; simp; omega
  have hix : strings_Index.f s ⟨#[sp]⟩ = some (a.length : Int) := by
    show some (Lib.indexByte s.data.toList sp) = _
    rw [hidx]
  have hs1 : ((⟨#[sp]⟩ : ByteArray).size : Int) = 1 := rfl
  have e1 : ((a.length : Int) + 1).toNat = a.length + 1 := by omega
  obtain ⟨_, e3, _⟩ := extract_midC s a b hab
  simp only [strings_genSplit.l0]
  rw [if_pos hx, hix]
  rw [Option.bind_some]
  rw [if_neg (by omega), wn0 _ (by omega), hs1, wn1 _ (by omega), if_pos (by omega), if_pos (by omega), if_pos (by omega), if_pos (by omega), if_pos (by omega), if_pos (by omega), wn1 i hi, e1, Int.toNat_natCast, Int.toNat_natCast, e3]
  exact hR
theorem gs_l0C {sp : UInt8} (d : Nat) : ∀ (k : Nat) (s : ByteArray) (x3 : Int) (x9 : List ByteArray) (i : Nat), cntC sp s.data.toList = d → x3 = i + d → x9.length = i + d + 1 → d + 1 ≤ k → s.size ≤ 4398046511104 →
    i + d ≤ 4398046511104 → strings_genSplit.l0 k s ⟨#[sp]⟩ 0 x3 x9 i = some (x9.take i ++ (pcs sp s.data.toList).map mkS) := by
  induction d with
  | zero =>
    intro k s x3 x9 i hc hx hl hk hs hid
    obtain ⟨k, rfl⟩ : ∃ m, k = m + 1 := ⟨k - 1, by omega⟩
    exact gs_endC k s x3 x9 i ((cntC_none _).1 hc) (by omega) (by omega) (by omega)
  | succ d ih =>
    intro k s x3 x9 i hc hx hl hk hs hid
    obtain ⟨k, rfl⟩ : ∃ m, k = m + 1 := ⟨k - 1, by omega⟩
    obtain ⟨a, b, hab, ha, hidx⟩ := index_splitC (sp := sp) s.data.toList (by omega)
    obtain ⟨e2, _, e4⟩ := extract_midC s a b hab
    have hcb : cntC sp b = d := by
      rw [hab, cntC_append, (cntC_none a).2 ha] at hc
      simp only [cntC, if_true] at hc
      omega
    refine gs_stepC k s x3 x9 i a b hab hidx (by omega) (by omega) hs (by omega) _ ?_
    have := ih k (s.extract (a.length + 1) s.size) x3 (x9.set i (mkS a)) (i + 1) (by rw [e2]; exact hcb) (by omega) (by rw [List.length_set]; omega) (by omega) (by omega) (by omega)
    rw [show (((i + 1 : Nat)) : Int) = (i : Int) + 1 by omega] at this
    rw [this, e2, hab, pcs_append, pcs_none a ha, List.take_succ_eq_append_getElem (by rw [List.length_set]; omega), List.take_set_of_le (Nat.le_refl _)]
    simp
theorem gs_firstC {sp : UInt8} (k : Nat) (s : ByteArray) (hs : s.size ≤ 4398046511103) :
    ∀ R, strings_genSplit.l0 k s ⟨#[sp]⟩ 0 ((cntC sp s.data.toList : Nat) : Int) (List.replicate (cntC sp s.data.toList + 1) (⟨#[]⟩ : ByteArray)) 0 = R → strings_genSplit.f (k + 1) s ⟨#[sp]⟩ 0 (-1) = R := by
  intro R hR
  have hcl := cntC_le (sp := sp) s.data.toList
  rw [data_length] at hcl
  have hcf : strings_Count.f s ⟨#[sp]⟩ = some ((cntC sp s.data.toList : Nat) : Int) := by
    rw [← cntC_count]; rfl
  obtain ⟨c, hc⟩ : ∃ c, c = cntC sp s.data.toList := ⟨_, rfl⟩
  rw [← hc] at hcf hcl hR
  have hm : mn ((c : Int) + 1) ((s.size : Int) + 1) = (c : Int) + 1 := by unfold mn; split <;> omega
  have e1 : ((c : Int) + 1).toNat = c + 1 := by omega
  have hne : ¬ ((⟨#[sp]⟩ : ByteArray).toList = []) := by rw [toList_data]; simp
  unfold strings_genSplit.f
  rw [if_neg (by decide), if_neg hne, if_pos (by decide), hcf]
  rw [Option.bind_some]
  simp only [strings_genSplit.j0]
  rw [wn1 c (by omega), wn1 s.size (by omega), hm, wnm c (by omega), e1, if_pos (by omega), if_pos (by omega)]
  exact hR
theorem Split_fC {sp : UInt8} (s : ByteArray) (hs : s.size ≤ 4398046511103) (k : Nat) (hk : s.size + 3 ≤ k) : strings_Split.f k s ⟨#[sp]⟩ = some ((pcs sp s.data.toList).map mkS) := by
  obtain ⟨k, rfl⟩ : ∃ m, k = m + 1 := ⟨k - 1, by omega⟩
  have hcl := cntC_le (sp := sp) s.data.toList
  rw [data_length] at hcl
  unfold strings_Split.f
  have := gs_l0C (cntC sp s.data.toList) k s ((cntC sp s.data.toList : Nat) : Int) (List.replicate (cntC sp s.data.toList + 1) (⟨#[]⟩ : ByteArray)) 0 rfl (by omega) (by rw [List.length_replicate]; omega) (by omega) (by omega) (by omega)
  rw [show ((0 : Nat) : Int) = 0 from rfl] at this
  rw [gs_firstC k s hs _ this]
  simp

end Go.Proofs.YtjgpifjfaiaidaaDoor.Pure

namespace Go.Proofs.YtjgpifjfaiaidaaDoor.Pure
open Go.RowKit Go.Proofs.YtjgpifjfaiaidaaDoor.P Go.Proofs.YtjgpifjfaiaidaaDoorW.PrintWords Go.Proofs.YtjgpifjfaiaidaaDoorW.PrintLast Go.Proofs.YtjgpifjfaiaidaaDoorW.PrintMore
set_option linter.unusedVariables false
set_option linter.unusedSimpArgs false
theorem refParts_l0 (l : List UInt8) (hn : l.length ≤ 4398046511100) (d : Nat) : ∀ (k : Nat) (out : List ByteArray) (f i : Nat), f ≤ i → i + d = l.length → 32 ∉ (l.drop f).take (i - f) → out.length ≤ i → d + 2 ≤ k →
    tollbarref05_parts.l0 k (mkS l) out f i = some (out ++ (pcs 32 (l.drop f)).map mkS) := by
  induction d with
  | zero =>
    intro k out f i hf hi hs ho hk
    obtain ⟨k, rfl⟩ : ∃ m, k = m + 2 := ⟨k - 2, by omega⟩
    have hz : (mkS l).size = l.length := mkS_size l
    have hw : wrap64 ((i : Int) + 1) = (i : Int) + 1 := wn1 i (by omega)
    have ht : (l.drop f).take (i - f) = l.drop f := List.take_of_length_le (by rw [List.length_drop]; omega)
    simp only [tollbarref05_parts.l0]
    rw [hz, if_pos (by omega), if_pos (by omega), if_pos (by omega), if_pos (by omega), if_pos (by omega), hw, if_neg (by omega), Int.toNat_natCast, Int.toNat_natCast, mkS_extract, ht]
    rw [ht] at hs
    rw [pcs_none _ hs]
    rfl
  | succ d ih =>
    intro k out f i hf hi hs ho hk
    obtain ⟨k, rfl⟩ : ∃ m, k = m + 1 := ⟨k - 1, by omega⟩
    have hlt : i < l.length := by omega
    have hz : (mkS l).size = l.length := mkS_size l
    have hw : wrap64 ((i : Int) + 1) = ((i + 1 : Nat) : Int) := by rw [wn1 i (by omega)]; omega
    obtain ⟨e1, e2⟩ := seg_split l f i hf hlt
    have ih1 := fun o (h : o.length ≤ i + 1) => ih k o (i + 1) (i + 1) (Nat.le_refl _) (by omega) (by simp) h (by omega)
    have ih2 := fun h => ih k out f (i + 1) (by omega) (by omega) h (by omega) (by omega)
    simp only [tollbarref05_parts.l0]
    rw [hz, if_pos (by omega), if_neg (by omega), if_pos (by omega), if_pos (by omega), bt_mk l i hlt, hw]
    by_cases hc : l[i] = 32
    · have hb : ((l[i]).toNat : Int) = 32 := by rw [hc]; rfl
      rw [if_pos hb, if_pos (by omega), if_pos (by omega), if_pos (by omega), Int.toNat_natCast, Int.toNat_natCast, mkS_extract, ih1 _ (by rw [List.length_append]; simp; omega)]
      have e3 : pcs 32 (l.drop f) = pcs 32 ((l.drop f).take (i - f)) ++ pcs 32 (l.drop (i + 1)) := by
        rw [← pcs_append]
        congr 1
        rw [← hc]
        exact e1
      rw [e3, pcs_none _ hs]
      simp
    · have hb : ¬ ((l[i]).toNat : Int) = 32 := fun e => hc (UInt8.toNat_inj.1 (by show _ = 32; omega))
      rw [if_neg hb]
      refine ih2 ?_
      rw [e2]
      intro hm
      rcases List.mem_append.1 hm with hm | hm
      · exact hs hm
      · exact hc (List.mem_singleton.1 hm).symm
theorem refParts_f (l : List UInt8) (hn : l.length ≤ 4398046511100) (k : Nat) (hk : l.length + 2 ≤ k) : tollbarref05_parts.f k (mkS l) = some ((pcs 32 l).map mkS) := by
  have := refParts_l0 l hn l.length k [] 0 0 (Nat.le_refl _) (by omega) (by simp) (by simp) (by omega)
  unfold tollbarref05_parts.f
  rw [show ((0 : Nat) : Int) = 0 from rfl] at this
  rw [this]
  rfl

end Go.Proofs.YtjgpifjfaiaidaaDoor.Pure

namespace Go.Proofs.YtjgpifjfaiaidaaDoor.Pure
open Go.RowKit Go.Proofs.YtjgpifjfaiaidaaDoor.P Go.Proofs.YtjgpifjfaiaidaaDoorW.PrintWords Go.Proofs.YtjgpifjfaiaidaaDoorW.PrintLast Go.Proofs.YtjgpifjfaiaidaaDoorW.PrintMore
set_option linter.unusedVariables false
set_option linter.unusedSimpArgs false
theorem byte_cases {P : Int → Prop} (h : ∀ n : Fin 256, P (n.val : Int)) (c : Int) (h0 : 0 ≤ c) (h1 : c ≤ 255) : P c := by
  obtain ⟨n, rfl⟩ := Int.eq_ofNat_of_zero_le h0
  exact h ⟨n, by omega⟩
def tokB (c : Int) : Bool := (sign_Token_1.f c).getD false
def tgtB (c : Int) : Bool := (sign_Target_1.f c).getD false
theorem Token_f (s : ByteArray) (h : s.size ≤ 140737488355328) : sign_Token.f s = some (!s.toList.isEmpty && (bytesOf s).all tokB) := if_pos h
theorem Target_f (s : ByteArray) (h : s.size ≤ 140737488355328) : sign_Target.f s = some (!s.toList.isEmpty && (bytesOf s).all tgtB) := if_pos h
theorem drop_all (p : Int → Bool) (s : ByteArray) (x : Int) (h0 : 0 ≤ x) (h : x < (s.size : Int)) :
    ((bytesOf s).drop x.toNat).all p = (p (bt s x) && ((bytesOf s).drop (x + 1).toNat).all p) := by
  rw [show (x + 1).toNat = x.toNat + 1 by omega]
  exact bytes_drop_all p s x h0 h
theorem drop_end (p : Int → Bool) (s : ByteArray) (x : Int) (h : (s.size : Int) ≤ x) : ((bytesOf s).drop x.toNat).all p = true := by
  rw [List.drop_of_length_le (by rw [bytesOf_length]; omega)]; rfl

end Go.Proofs.YtjgpifjfaiaidaaDoor.Pure

namespace Go.Proofs.YtjgpifjfaiaidaaDoor.Pure
open Go.RowKit Go.Proofs.YtjgpifjfaiaidaaDoor.P Go.Proofs.YtjgpifjfaiaidaaDoorW.PrintWords Go.Proofs.YtjgpifjfaiaidaaDoorW.PrintLast Go.Proofs.YtjgpifjfaiaidaaDoorW.PrintMore
set_option linter.unusedVariables false
set_option linter.unusedSimpArgs false
theorem tokenByte_tells (c : Int) (h0 : 0 ≤ c) (h1 : c ≤ 255) (k : Nat) (hk : 1 ≤ k) : tollbarref02_tokenByte.f k c = some (tokB c) := by
  refine at_rounds (fun k => tollbarref02_tokenByte.mono c k) hk ?_
  exact byte_cases (P := fun c => tollbarref02_tokenByte.f 1 c = some (tokB c)) (by decide +kernel) c h0 h1
theorem tgtB_eq (c : Int) (h0 : 0 ≤ c) (h1 : c ≤ 255) : tgtB c = !(decide (c ≤ 32) || decide (127 ≤ c)) :=
  byte_cases (P := fun c => tgtB c = !(decide (c ≤ 32) || decide (127 ≤ c))) (by decide +kernel) c h0 h1
theorem refToken_l0 (s : ByteArray) (hn : s.size ≤ 140737488355328) (d : Nat) : ∀ (k : Nat) (i : Int), 0 ≤ i → (s.size : Int) - i = d → d + 2 ≤ k →
    tollbarref02_Token.l0 k s i = some (!s.toList.isEmpty && ((bytesOf s).drop i.toNat).all tokB) := by
  induction d with
  | zero =>
    intro k i h0 hd hk
    obtain ⟨k, rfl⟩ : ∃ m, k = m + 1 := ⟨k - 1, by omega⟩
    simp only [tollbarref02_Token.l0]
    rw [if_neg (by omega), drop_end _ _ _ (by omega), isEmpty_size]
    congr 1
    by_cases h : s.size = 0 <;> simp [h]; omega
  | succ d ih =>
    intro k i h0 hd hk
    obtain ⟨k, rfl⟩ : ∃ m, k = m + 1 := ⟨k - 1, by omega⟩
    have hlt : i < (s.size : Int) := by omega
    simp only [tollbarref02_Token.l0]
    rw [if_pos hlt, if_pos h0, tokenByte_tells _ (bt_range s i).1 (bt_range s i).2 k (by omega), w64 1 h0 hlt hn (by omega) (by omega), drop_all _ _ _ h0 hlt, isEmpty_size]
    have ih' := ih k (i + 1) (by omega) (by omega) (by omega)
    rw [isEmpty_size] at ih'
    simp only [Option.bind_some, ih']
    have hz : s.size ≠ 0 := by omega
    cases tokB (bt s i) <;> simp [hz]
theorem refToken_f (s : ByteArray) (hn : s.size ≤ 140737488355328) (k : Nat) (hk : s.size + 2 ≤ k) : tollbarref02_Token.f k s = sign_Token.f s := by
  rw [Token_f s hn]
  unfold tollbarref02_Token.f
  rw [refToken_l0 s hn s.size k 0 (by omega) (by omega) hk]
  rfl
theorem refTarget_l0 (s : ByteArray) (hn : s.size ≤ 140737488355328) (d : Nat) : ∀ (k : Nat) (i : Int), 0 ≤ i → (s.size : Int) - i = d → d + 1 ≤ k →
    tollbarref02_Target.l0 k s i = some (!s.toList.isEmpty && ((bytesOf s).drop i.toNat).all tgtB) := by
  induction d with
  | zero =>
    intro k i h0 hd hk
    obtain ⟨k, rfl⟩ : ∃ m, k = m + 1 := ⟨k - 1, by omega⟩
    simp only [tollbarref02_Target.l0]
    rw [if_neg (by omega), drop_end _ _ _ (by omega), isEmpty_size]
    congr 1
    by_cases h : s.size = 0 <;> simp [h]; omega
  | succ d ih =>
    intro k i h0 hd hk
    obtain ⟨k, rfl⟩ : ∃ m, k = m + 1 := ⟨k - 1, by omega⟩
    have hlt : i < (s.size : Int) := by omega
    simp only [tollbarref02_Target.l0]
    have ih' := ih k (i + 1) (by omega) (by omega) (by omega)
    rw [isEmpty_size] at ih'
    have hz : s.size ≠ 0 := by omega
    rw [if_pos hlt, if_pos h0, w64 1 h0 hlt hn (by omega) (by omega), drop_all _ _ _ h0 hlt, ih', tgtB_eq _ (bt_range s i).1 (bt_range s i).2, isEmpty_size]
    by_cases a : bt s i ≤ 32 <;> by_cases b : 127 ≤ bt s i <;> simp [a, b, hz]
theorem refTarget_f (s : ByteArray) (hn : s.size ≤ 140737488355328) (k : Nat) (hk : s.size + 1 ≤ k) : tollbarref02_Target.f k s = sign_Target.f s := by
  rw [Target_f s hn]
  unfold tollbarref02_Target.f
  rw [refTarget_l0 s hn s.size k 0 (by omega) (by omega) hk]
  rfl

end Go.Proofs.YtjgpifjfaiaidaaDoor.Pure

namespace Go.Proofs.YtjgpifjfaiaidaaDoor.Pure
open Go.RowKit Go.Proofs.YtjgpifjfaiaidaaDoor.P Go.Proofs.YtjgpifjfaiaidaaDoorW.PrintWords Go.Proofs.YtjgpifjfaiaidaaDoorW.PrintLast Go.Proofs.YtjgpifjfaiaidaaDoorW.PrintMore
set_option linter.unusedVariables false
set_option linter.unusedSimpArgs false
/-- The digits of a version. -/
def verL (l : List UInt8) : Option (Int × Int) := match l with
  | [a, b, c, d, e, f, g, h] => if [a, b, c, d, e] = [72, 84, 84, 80, 47] ∧ (48 ≤ (f.toNat : Int) ∧ (f.toNat : Int) ≤ 57) ∧ g = 46 ∧ (48 ≤ (h.toNat : Int) ∧ (h.toNat : Int) ≤ 57) then some ((f.toNat : Int) - 48, (h.toNat : Int) - 48) else none
  | _ => none
theorem verL_8 (a b c d e f g h : UInt8) : verL [a, b, c, d, e, f, g, h] = if [a, b, c, d, e] = [72, 84, 84, 80, 47] ∧ (48 ≤ (f.toNat : Int) ∧ (f.toNat : Int) ≤ 57) ∧ g = 46 ∧ (48 ≤ (h.toNat : Int) ∧ (h.toNat : Int) ≤ 57) then some ((f.toNat : Int) - 48, (h.toNat : Int) - 48) else none := rfl
theorem verL_none {l : List UInt8} (h : l.length ≠ 8) : verL l = none := by
  unfold verL
  split
  · simp at h
  · rfl
theorem eight {l : List UInt8} (h : l.length = 8) : ∃ a b c d e f g i, l = [a, b, c, d, e, f, g, i] := by
  match l, h with
  | [a, b, c, d, e, f, g, i], _ => exact ⟨a, b, c, d, e, f, g, i, rfl⟩
theorem refDigit_f (c : Int) : tollbarref02_Digit.f c = some (decide (48 ≤ c ∧ c ≤ 57)) := by
  unfold tollbarref02_Digit.f
  by_cases h : c ≥ 48
  · rw [if_pos h]; congr 1; rw [Bool.eq_iff_iff, decide_eq_true_eq, decide_eq_true_eq]; omega
  · rw [if_neg h, decide_eq_false (by omega)]
theorem digit_f (c : Int) : line_digit.f c = some (decide (48 ≤ c ∧ c ≤ 57)) := refDigit_f c
theorem refVersion_f (l : List UInt8) : tollbarref05_Version.f (mkS l) = some (match verL l with | some p => (p.1, p.2, true) | none => (0, 0, false)) := by
  unfold tollbarref05_Version.f
  by_cases h8 : l.length = 8
  · obtain ⟨a, b, c, d, e, f, g, i, rfl⟩ := eight h8
    have hz : ((mkS [a, b, c, d, e, f, g, i]).size : Int) = 8 := by rw [mkS_size]; rfl
    have b5 := bt_mk [a, b, c, d, e, f, g, i] 5 (by simp)
    have b6 := bt_mk [a, b, c, d, e, f, g, i] 6 (by simp)
    have b7 := bt_mk [a, b, c, d, e, f, g, i] 7 (by simp)
    simp only [List.getElem_cons_succ, List.getElem_cons_zero] at b5 b6 b7
    have b5' : bt (mkS [a, b, c, d, e, f, g, i]) 5 = f.toNat := b5
    have b6' : bt (mkS [a, b, c, d, e, f, g, i]) 6 = g.toNat := b6
    have b7' : bt (mkS [a, b, c, d, e, f, g, i]) 7 = i.toNat := b7
    have hx : ((mkS [a, b, c, d, e, f, g, i]).extract 0 5).toList = [a, b, c, d, e] := by rw [mkS_extract, mkS_toList]; rfl
    rw [hz, hx, b5', b6', b7', if_pos rfl, if_pos (by decide), if_pos (by decide), refDigit_f, refDigit_f, Option.bind_some, Option.bind_some]
    have fr := f.toNat_lt
    have ir := i.toNat_lt
    rw [verL_8]
    by_cases c1 : [a, b, c, d, e] = [72, 84, 84, 80, 47]
    · rw [if_pos c1, if_pos (by decide)]
      by_cases c2 : 48 ≤ (f.toNat : Int) ∧ (f.toNat : Int) ≤ 57
      · rw [decide_eq_true c2, if_pos rfl, if_pos (by decide)]
        by_cases c3 : g = 46
        · have g1 : ((g.toNat : Nat) : Int) = 46 := by rw [c3]; rfl
          rw [if_pos g1, if_pos (by decide)]
          by_cases c4 : 48 ≤ (i.toNat : Int) ∧ (i.toNat : Int) ≤ 57
          · rw [decide_eq_true c4, if_pos rfl, if_pos ⟨c1, c2, c3, c4⟩]
            simp only
            congr 2
            · omega
            · congr 1; omega
          · rw [decide_eq_false c4, if_neg (by simp), if_neg (fun h => c4 h.2.2.2)]
        · have g1 : ¬ ((g.toNat : Nat) : Int) = 46 := fun h => c3 (UInt8.toNat_inj.1 (by show _ = 46; omega))
          rw [if_neg g1, if_neg (fun h => c3 h.2.2.1)]
      · rw [decide_eq_false c2, if_neg (by simp), if_neg (fun h => c2 h.2.1)]
    · rw [if_neg c1, if_neg (fun h => c1 h.1)]
  · rw [mkS_size, if_neg (by omega), verL_none h8]
theorem CutPrefix_f (s p : List UInt8) : strings_CutPrefix.f (mkS s) (mkS p) = some (if s.take p.length = p then (mkS (s.drop p.length), true) else (mkS s, false)) := by
  unfold strings_CutPrefix.f stringslite_CutPrefix.f stringslite_HasPrefix.f
  rw [mkS_size, mkS_size]
  by_cases h : p.length ≤ s.length
  · rw [if_pos (by omega), if_pos (by omega), if_pos (by omega), Option.bind_some, Int.toNat_natCast, mkS_extract, mkS_extract, mkS_toList, mkS_toList, List.drop_zero, Nat.sub_zero]
    by_cases e : s.take p.length = p
    · rw [if_pos e, e, if_pos (by simp), if_pos (by omega), if_pos (by omega), Option.bind_some, List.take_of_length_le (by rw [List.length_drop]; omega)]
    · rw [if_neg e, if_neg (by simpa using e), Option.bind_some]
  · rw [if_neg (by omega), Option.bind_some, if_neg (by decide), Option.bind_some, if_neg ?_]
    intro e
    have := congrArg List.length e
    rw [List.length_take] at this
    omega
theorem CutPrefix_yes (s p : List UInt8) (h : s.take p.length = p) : strings_CutPrefix.f (mkS s) (mkS p) = some (mkS (s.drop p.length), true) := by rw [CutPrefix_f, if_pos h]
theorem CutPrefix_no (s p : List UInt8) (h : ¬ s.take p.length = p) : strings_CutPrefix.f (mkS s) (mkS p) = some (mkS s, false) := by rw [CutPrefix_f, if_neg h]
theorem numbered_f (l : List UInt8) : line_numbered.f (mkS l) = some (verL l).isSome := by
  unfold line_numbered.f
  rw [show (⟨#[72, 84, 84, 80, 47]⟩ : ByteArray) = mkS [72, 84, 84, 80, 47] from rfl]
  by_cases c1 : l.take ([72, 84, 84, 80, 47] : List UInt8).length = [72, 84, 84, 80, 47]
  · rw [CutPrefix_yes _ _ c1, Option.bind_some, if_pos rfl, mkS_size]
    have hl : l.take 5 = [72, 84, 84, 80, 47] := c1
    by_cases h8 : l.length = 8
    · obtain ⟨a, b, c, d, e, f, g, i, rfl⟩ := eight h8
      have c1' : [a, b, c, d, e] = [72, 84, 84, 80, 47] := c1
      have hd : List.drop ([72, 84, 84, 80, 47] : List UInt8).length [a, b, c, d, e, f, g, i] = [f, g, i] := rfl
      have b0 : bt (mkS [f, g, i]) 0 = f.toNat := bt_mk [f, g, i] 0 (by simp)
      have b1 : bt (mkS [f, g, i]) 1 = g.toNat := bt_mk [f, g, i] 1 (by simp)
      have b2 : bt (mkS [f, g, i]) 2 = i.toNat := bt_mk [f, g, i] 2 (by simp)
      rw [hd, if_pos (by rfl), if_pos (by simp), b0, b1, b2, digit_f, digit_f, Option.bind_some, Option.bind_some]
      rw [verL_8]
      by_cases c2 : 48 ≤ (f.toNat : Int) ∧ (f.toNat : Int) ≤ 57
      · rw [decide_eq_true c2, if_pos rfl, if_pos (by simp)]
        by_cases c3 : g = 46
        · have g1 : ((g.toNat : Nat) : Int) = 46 := by rw [c3]; rfl
          rw [if_pos g1, if_pos (by simp)]
          by_cases c4 : 48 ≤ (i.toNat : Int) ∧ (i.toNat : Int) ≤ 57
          · rw [decide_eq_true c4, if_pos ⟨c1', c2, c3, c4⟩]; rfl
          · rw [decide_eq_false c4, if_neg (fun h => c4 h.2.2.2)]; rfl
        · have g1 : ¬ ((g.toNat : Nat) : Int) = 46 := fun h => c3 (UInt8.toNat_inj.1 (by show _ = 46; omega))
          rw [if_neg g1, if_neg (fun h => c3 h.2.2.1)]; rfl
      · rw [decide_eq_false c2, if_neg (by simp), if_neg (fun h => c2 h.2.1)]; rfl
    · rw [verL_none h8, List.length_drop, if_neg (by
        have := congrArg List.length hl
        rw [List.length_take] at this
        simp only [List.length_cons, List.length_nil] at this ⊢
        omega)]
      rfl
  · rw [CutPrefix_no _ _ c1, Option.bind_some, if_neg (by simp)]
    have : verL l = none := by
      unfold verL
      split
      · rw [if_neg (fun h => c1 h.1)]
      · rfl
    rw [this]
    rfl
/-- The last digit of a version that is known. -/
def minL (l : List UInt8) : Option Int := if l = [72, 84, 84, 80, 47, 49, 46, 48] then some 0 else if l = [72, 84, 84, 80, 47, 49, 46, 49] then some 1 else none
theorem minor_f (l : List UInt8) : line_minor.f (mkS l) = some (match minL l with | some n => (n, true) | none => (0, false)) := by
  unfold line_minor.f minL
  rw [mkS_toList]
  by_cases h1 : l = [72, 84, 84, 80, 47, 49, 46, 48]
  · rw [if_pos h1, if_pos h1]
  · rw [if_neg h1, if_neg h1]
    by_cases h2 : l = [72, 84, 84, 80, 47, 49, 46, 49]
    · rw [if_pos h2, if_pos h2]
    · rw [if_neg h2, if_neg h2]
theorem ver_min (l : List UInt8) : minL l = match verL l with | some p => if p.1 = 1 ∧ p.2 ≤ 1 then some p.2 else none | none => none := by
  by_cases h8 : l.length = 8
  · obtain ⟨a, b, c, d, e, f, g, i, rfl⟩ := eight h8
    have fr := f.toNat_lt
    have ir := i.toNat_lt
    rw [verL_8]
    unfold minL
    by_cases c0 : [a, b, c, d, e] = [72, 84, 84, 80, 47] ∧ (48 ≤ (f.toNat : Int) ∧ (f.toNat : Int) ≤ 57) ∧ g = 46 ∧ (48 ≤ (i.toNat : Int) ∧ (i.toNat : Int) ≤ 57)
    · rw [if_pos c0]
      obtain ⟨c1, c2, c3, c4⟩ := c0
      simp only [List.cons.injEq, and_true] at c1
      obtain ⟨rfl, rfl, rfl, rfl, rfl⟩ := c1
      subst c3
      simp only [List.cons.injEq, and_true, true_and]
      by_cases f1 : f = 49
      · subst f1
        simp only [true_and]
        by_cases i0 : i = 48
        · subst i0; simp
        · rw [if_neg i0]
          by_cases i1 : i = 49
          · subst i1; simp
          · rw [if_neg i1, if_neg ?_]
            rintro ⟨_, h⟩
            have e0 : i.toNat ≠ 48 := fun h => i0 (UInt8.toNat_inj.1 h)
            have e1 : i.toNat ≠ 49 := fun h => i1 (UInt8.toNat_inj.1 h)
            omega
      · rw [if_neg (fun h => f1 h.1), if_neg (fun h => f1 h.1), if_neg ?_]
        rintro ⟨h, _⟩
        exact f1 (UInt8.toNat_inj.1 (by show _ = 49; omega))
    · rw [if_neg c0, if_neg, if_neg]
      · intro h; simp only [List.cons.injEq, and_true] at h; obtain ⟨rfl, rfl, rfl, rfl, rfl, rfl, rfl, rfl⟩ := h; exact c0 (by decide)
      · intro h; simp only [List.cons.injEq, and_true] at h; obtain ⟨rfl, rfl, rfl, rfl, rfl, rfl, rfl, rfl⟩ := h; exact c0 (by decide)
  · rw [verL_none h8]
    unfold minL
    rw [if_neg (fun h => h8 (by rw [h]; rfl)), if_neg (fun h => h8 (by rw [h]; rfl))]

end Go.Proofs.YtjgpifjfaiaidaaDoor.Pure

namespace Go.Proofs.YtjgpifjfaiaidaaDoor.Pure
open Go.RowKit Go.Proofs.YtjgpifjfaiaidaaDoor.P Go.Proofs.YtjgpifjfaiaidaaDoorW.PrintWords Go.Proofs.YtjgpifjfaiaidaaDoorW.PrintLast Go.Proofs.YtjgpifjfaiaidaaDoorW.PrintMore
set_option linter.unusedVariables false
set_option linter.unusedSimpArgs false
def tokOk (s : ByteArray) : Bool := !s.toList.isEmpty && (bytesOf s).all tokB
def tgtOk (s : ByteArray) : Bool := !s.toList.isEmpty && (bytesOf s).all tgtB
/-- A method and its target. -/
def aimOk (m t : ByteArray) : Bool := tgtOk t && (decide (bt t 0 = 47) || (decide (t.toList = [42]) && (m.toList == [79, 80, 84, 73, 79, 78, 83])))
def reqBad (c : Int) : ByteArray × ByteArray × Int × (List (S84)) × List Int × Int := ((⟨#[]⟩ : ByteArray), (⟨#[]⟩ : ByteArray), 0, [], [], c)
/-- What a request's three parts tell. -/
def reqP (m t v : List UInt8) : ByteArray × ByteArray × Int × (List (S84)) × List Int × Int :=
  if (m.length ≤ 20 ∧ tokOk (mkS m) = true) ∧ aimOk (mkS m) (mkS t) = true then
    if 512 < t.length then reqBad 414 else
    match verL v with
    | none => reqBad 400
    | some p => if p.1 = 1 ∧ p.2 ≤ 1 then (mkS m, mkS t, p.2, [], [], 0) else reqBad 505
  else reqBad 400
def reqSpec (l : List UInt8) : ByteArray × ByteArray × Int × (List (S84)) × List Int × Int := match pcs 32 l with | [m, t, v] => reqP m t v | _ => reqBad 400
theorem three {α : Type} {l : List α} (h : l.length = 3) : ∃ a b c, l = [a, b, c] := by
  match l, h with
  | [a, b, c], _ => exact ⟨a, b, c, rfl⟩
theorem reqSpec_not {l : List UInt8} (h : (pcs 32 l).length ≠ 3) : reqSpec l = reqBad 400 := by
  unfold reqSpec
  split
  · rename_i e; rw [e] at h; simp at h
  · rfl
theorem reqSpec_yes {l m t v : List UInt8} (h : pcs 32 l = [m, t, v]) : reqSpec l = reqP m t v := by
  unfold reqSpec
  rw [h]
theorem tgt_ne {s : ByteArray} (h : tgtOk s = true) : 0 < s.size := by
  unfold tgtOk at h
  rw [isEmpty_size] at h
  rcases Nat.eq_zero_or_pos s.size with e | e
  · rw [e] at h; simp at h
  · exact e
theorem target_f (m t : ByteArray) (h : t.size ≤ 140737488355328) : line_target.f m t = some (aimOk m t) := by
  unfold line_target.f aimOk
  rw [Target_f t h, Option.bind_some]
  change (if tgtOk t = true then _ else _) = _
  cases ht : tgtOk t
  · rfl
  · have hp := tgt_ne ht
    rw [if_pos rfl, if_pos (by omega), Bool.true_and]
    by_cases c1 : bt t 0 = 47
    · rw [if_pos c1, decide_eq_true c1]; rfl
    · rw [if_neg c1, decide_eq_false c1, Bool.false_or]
      by_cases c2 : t.toList = [42]
      · rw [if_pos c2, decide_eq_true c2]; rfl
      · rw [if_neg c2, decide_eq_false c2]; rfl
theorem Request_f (l : List UInt8) (hn : l.length ≤ 4398046511100) (k : Nat) (hk : l.length + 4 ≤ k) : line_Request.f k (mkS l) = some (reqSpec l) := by
  obtain ⟨k, rfl⟩ : ∃ m, k = m + 1 := ⟨k - 1, by omega⟩
  unfold line_Request.f
  rw [Split_fC (sp := 32) (mkS l) (by rw [mkS_size]; omega) (k + 1) (by rw [mkS_size]; omega), Option.bind_some, mkS_data, List.length_map]
  have hle := pcs_le (sp := 32) l
  by_cases h3 : (pcs 32 l).length = 3
  · obtain ⟨m, t, v, hp⟩ := three h3
    rw [reqSpec_yes hp]
    rw [hp] at hle ⊢
    have hm := hle m (by simp)
    have ht := hle t (by simp)
    have e0 : rdOf ByteArray.empty ([m, t, v].map mkS) 0 = mkS m := rfl
    have e1 : rdOf ByteArray.empty ([m, t, v].map mkS) 1 = mkS t := rfl
    have e2 : rdOf ByteArray.empty ([m, t, v].map mkS) 2 = mkS v := rfl
    have hl : (([m, t, v].map mkS).length : Int) = 3 := rfl
    have hbad : line_Request.j0 (k + 1) ([m, t, v].map mkS) true = some (reqBad 400) := by simp only [line_Request.j0]; rfl
    rw [hbad, e0, e1, if_pos (by simp), if_pos (by simp), mkS_size, Token_f _ (by rw [mkS_size]; omega), Option.bind_some]
    unfold reqP
    change (if (m.length : Int) > 20 then _ else if tokOk (mkS m) = true then _ else _) = _
    by_cases c1 : (m.length : Int) > 20
    · rw [if_pos c1, if_neg (fun h => by omega)]
    · rw [if_neg c1]
      cases c2 : tokOk (mkS m)
      · rw [if_neg (by simp), if_neg (by simp)]
      · rw [if_pos rfl, if_pos (by simp), target_f _ _ (by rw [mkS_size]; omega), Option.bind_some]
        cases c3 : aimOk (mkS m) (mkS t)
        · rw [if_neg (by simp), Bool.not_false, hbad]
        · rw [if_pos ⟨⟨by omega, rfl⟩, rfl⟩, Bool.not_true]
          simp only [line_Request.j0]
          rw [if_neg (by simp), hl, e0, e1, e2, if_pos (by omega), minor_f, Option.bind_some, if_pos (by omega), mkS_size]
          by_cases c4 : 512 < t.length
          · rw [if_pos (by omega), if_pos c4]; rfl
          · rw [if_neg (by omega), if_neg c4, numbered_f, Option.bind_some, ver_min]
            cases hv : verL v with
            | none => rfl
            | some p =>
              simp only [Option.isSome_some, if_true]
              by_cases c5 : p.1 = 1 ∧ p.2 ≤ 1
              · rw [if_pos c5, if_pos c5]; rfl
              · rw [if_neg c5, if_neg c5]; rfl
  · rw [reqSpec_not h3, if_neg (by omega)]
    simp only [line_Request.j0]
    rfl
theorem refRequest_f (l : List UInt8) (hn : l.length ≤ 4398046511100) (k : Nat) (hk : l.length + 6 ≤ k) : tollbarref05_Request.f k (mkS l) = some (reqSpec l) := by
  obtain ⟨k, rfl⟩ : ∃ m, k = m + 2 := ⟨k - 2, by omega⟩
  unfold tollbarref05_Request.f
  rw [refParts_f l hn (k + 2) (by omega), Option.bind_some, List.length_map]
  have hle := pcs_le (sp := 32) l
  by_cases h3 : (pcs 32 l).length = 3
  · obtain ⟨m, t, v, hp⟩ := three h3
    rw [reqSpec_yes hp]
    rw [hp] at hle ⊢
    have hm := hle m (by simp)
    have ht := hle t (by simp)
    have e0 : rdOf ByteArray.empty ([m, t, v].map mkS) 0 = mkS m := rfl
    have e1 : rdOf ByteArray.empty ([m, t, v].map mkS) 1 = mkS t := rfl
    have e2 : rdOf ByteArray.empty ([m, t, v].map mkS) 2 = mkS v := rfl
    have hl : (([m, t, v].map mkS).length : Int) = 3 := rfl
    have hbad : tollbarref05_Request.j0 (k + 2) ([m, t, v].map mkS) true = some (reqBad 400) := by simp only [tollbarref05_Request.j0]; rfl
    have hbad1 : tollbarref05_Request.j1 (k + 1) ([m, t, v].map mkS) true = some (reqBad 400) := by simp only [tollbarref05_Request.j1]; rfl
    rw [hbad, e0, e1, if_pos (by simp), if_pos (by simp), mkS_size, refToken_f _ (by rw [mkS_size]; omega) _ (by rw [mkS_size]; omega), refTarget_f _ (by rw [mkS_size]; omega) _ (by rw [mkS_size]; omega), Token_f _ (by rw [mkS_size]; omega), Target_f _ (by rw [mkS_size]; omega), Option.bind_some, Option.bind_some]
    unfold reqP
    change (if tokOk (mkS m) = true then (if (m.length : Int) > 20 then _ else if _ then tollbarref05_Request.j0 (k + 2) _ (!tgtOk (mkS t)) else _) else _) = _
    cases c2 : tokOk (mkS m)
    · rw [if_neg (by simp), if_neg (by simp)]
    · rw [if_pos rfl]
      by_cases c1 : (m.length : Int) > 20
      · rw [if_pos c1, if_neg (fun h => by omega)]
      · rw [if_neg c1, if_pos (by simp)]
        cases ht3 : tgtOk (mkS t)
        · rw [Bool.not_false, hbad, if_neg (by unfold aimOk; rw [ht3]; simp)]
        · have hp0 := tgt_ne ht3
          rw [Bool.not_true]
          have haim : aimOk (mkS m) (mkS t) = (decide (bt (mkS t) 0 = 47) || (decide ((mkS t).toList = [42]) && ((mkS m).toList == [79, 80, 84, 73, 79, 78, 83]))) := by unfold aimOk; rw [ht3]; rfl
          have hj1 : tollbarref05_Request.j0 (k + 2) ([m, t, v].map mkS) false = tollbarref05_Request.j1 (k + 1) ([m, t, v].map mkS) (!aimOk (mkS m) (mkS t)) := by
            simp only [tollbarref05_Request.j0]
            rw [if_neg (by simp), hl, e0, e1, if_pos (by omega), if_pos (by omega), haim]
            by_cases d1 : bt (mkS t) 0 = 47
            · rw [if_pos d1, decide_eq_true d1]; rfl
            · rw [if_neg d1, decide_eq_false d1, Bool.false_or]
              by_cases d2 : (mkS t).toList = [42]
              · rw [if_pos d2, decide_eq_true d2, if_pos (by omega), Bool.true_and]; rfl
              · rw [if_neg d2, decide_eq_false d2]; rfl
          rw [hj1]
          cases c3 : aimOk (mkS m) (mkS t)
          · rw [if_neg (by simp), Bool.not_false, hbad1]
          · rw [if_pos ⟨⟨by omega, rfl⟩, rfl⟩, Bool.not_true]
            simp only [tollbarref05_Request.j1]
            rw [if_neg (by simp), hl, e0, e1, e2, if_pos (by omega), mkS_size]
            by_cases c4 : 512 < t.length
            · rw [if_pos (by omega), if_pos c4]; rfl
            · rw [if_neg (by omega), if_neg c4, if_pos (by omega), refVersion_f, Option.bind_some]
              cases hv : verL v with
              | none => rfl
              | some p =>
                simp only [if_true]
                by_cases c5 : p.1 = 1 ∧ p.2 ≤ 1
                · rw [if_pos c5, if_pos c5.1, if_neg (by omega), if_pos (by omega)]
                · rw [if_neg c5]
                  by_cases c6 : p.1 = 1
                  · rw [if_pos c6, if_pos (by omega)]; rfl
                  · rw [if_neg c6]; rfl
  · rw [reqSpec_not h3, if_neg (by omega)]
    simp only [tollbarref05_Request.j0]
    rfl
theorem reqSpec_nil (l : List UInt8) : (reqSpec l).2.2.2.1 = [] ∧ (reqSpec l).2.2.2.2.1 = [] := by
  unfold reqSpec
  split
  · unfold reqP
    split
    · split
      · exact ⟨rfl, rfl⟩
      · split
        · exact ⟨rfl, rfl⟩
        · split <;> exact ⟨rfl, rfl⟩
    · exact ⟨rfl, rfl⟩
  · exact ⟨rfl, rfl⟩

end Go.Proofs.YtjgpifjfaiaidaaDoor.Pure

namespace Go.Proofs.YtjgpifjfaiaidaaDoor.Pure
open Go.RowKit Go.Proofs.YtjgpifjfaiaidaaDoor.P Go.Proofs.YtjgpifjfaiaidaaDoorW.PrintWords Go.Proofs.YtjgpifjfaiaidaaDoorW.PrintLast Go.Proofs.YtjgpifjfaiaidaaDoorW.PrintMore
set_option linter.unusedVariables false
set_option linter.unusedSimpArgs false
theorem LineRequestsU : ∀ (a0 : ByteArray), a0.size ≤ 1048576 → ∃ k, tollbarlaw05_LineRequests.f k a0 = some true := by
  intro s hs
  obtain ⟨l, rfl⟩ : ∃ l, s = mkS l := ⟨_, (mkS_self s).symm⟩
  rw [mkS_size] at hs
  refine ⟨l.length + 100, ?_⟩
  obtain ⟨h1, h2⟩ := reqSpec_nil l
  unfold tollbarlaw05_LineRequests.f
  rw [reading_f _ (by omega), Option.bind_some, if_pos rfl, Request_f l (by omega) _ (by omega), refRequest_f l (by omega) _ (by omega), Option.bind_some, Option.bind_some, if_pos rfl, if_pos rfl, if_pos rfl, if_pos rfl, h1, h2]
  rfl

end Go.Proofs.YtjgpifjfaiaidaaDoor.Pure

