/- Each function below answers as its Lean twin says; plain lemmas; a row where its theorem stands. No further condition. (Laid by this repo's pack.py out of its texts and of the print's words.) -/
import Derived.Test.YtjgpifjfaiaidaaDoorU0base0x0
import Derived.Test.YtjgpifjfaiaidaaDoorUsign0x0
import Derived.Test.YtjgpifjfaiaidaaDoorUstrings0x0
import Derived.Test.YtjgpifjfaiaidaaDoorUline0x1
import Derived.Test.YtjgpifjfaiaidaaDoorUlineRequest
import Derived.Test.YtjgpifjfaiaidaaDoorUline0x2
import Derived.Test.YtjgpifjfaiaidaaDoorUlineStatus
import Derived.Test.YtjgpifjfaiaidaaDoorUline0x3
import Derived.Test.YtjgpifjfaiaidaaDoorUstrconv0x0
import Derived.Test.YtjgpifjfaiaidaaDoorUtollbarlaw05reading
import Derived.Test.YtjgpifjfaiaidaaDoorUtollbarref020x0
import Derived.Test.YtjgpifjfaiaidaaDoorUstringslite0x0
import Derived.Test.YtjgpifjfaiaidaaDoorUtollbarref050x0
import Derived.Test.YtjgpifjfaiaidaaDoorUtollbarref05Host
import Derived.Test.YtjgpifjfaiaidaaDoorUtollbarlaw051x0
import Derived.Lib.IndexBytes
import Derived.Lib.Strings
import Derived.Shelf.Strings.SlTrimAscii
import Derived.Lib.SlTrimSet
import Derived.Lib.LastIndexByte
namespace Go.Proofs.YtjgpifjfaiaidaaDoor.Pure
open Go.RowKit Go.Proofs.YtjgpifjfaiaidaaDoor.P Go.Proofs.YtjgpifjfaiaidaaDoorW.PrintWords Go.Proofs.YtjgpifjfaiaidaaDoorW.PrintLast Go.Proofs.YtjgpifjfaiaidaaDoorW.PrintMore
set_option linter.unusedVariables false
set_option linter.unusedSimpArgs false
theorem toList_data (s : ByteArray) : s.toList = s.data.toList := by
  simp [ByteArray.toList_eq]
end Go.Proofs.YtjgpifjfaiaidaaDoor.Pure

namespace Go.Proofs.YtjgpifjfaiaidaaDoor.Pure
open Go.RowKit Go.Proofs.YtjgpifjfaiaidaaDoor.P Go.Proofs.YtjgpifjfaiaidaaDoorW.PrintWords Go.Proofs.YtjgpifjfaiaidaaDoorW.PrintLast Go.Proofs.YtjgpifjfaiaidaaDoorW.PrintMore
set_option linter.unusedVariables false
set_option linter.unusedSimpArgs false
def mkS (l : List UInt8) : ByteArray := ⟨l.toArray⟩
theorem mkS_data (l : List UInt8) : (mkS l).data.toList = l := by simp [mkS]
theorem mkS_self (s : ByteArray) : mkS s.data.toList = s := by simp [mkS]
theorem mkS_size (l : List UInt8) : (mkS l).size = l.length := by rw [← data_length, mkS_data]
theorem mkS_toList (l : List UInt8) : (mkS l).toList = l := by rw [toList_data, mkS_data]
theorem bt_mk (l : List UInt8) (i : Nat) (h : i < l.length) : bt (mkS l) i = ((l[i]).toNat : Int) := by
  unfold bt
  have hs : (mkS l).size = l.length := mkS_size l
  rw [dif_pos (by rw [Int.toNat_natCast]; omega)]
  have : (mkS l)[((i : Nat) : Int).toNat]'(by rw [Int.toNat_natCast]; omega) = l[i] := by simp [mkS, ByteArray.getElem_eq_getElem_data]
  rw [this]
theorem mkS_extract (l : List UInt8) (a b : Nat) : (mkS l).extract a b = mkS ((l.drop a).take (b - a)) := by
  rw [← mkS_self ((mkS l).extract a b), Lib.extract_data, mkS_data]
theorem mkS_bytes (l : List UInt8) : bytesOf (mkS l) = l.map fun b => (b.toNat : Int) := by unfold bytesOf; rw [mkS_data]
theorem mkS_append (a b : List UInt8) : mkS a ++ mkS b = mkS (a ++ b) := by
  apply ByteArray.ext
  simp [mkS]
end Go.Proofs.YtjgpifjfaiaidaaDoor.Pure

namespace Go.Proofs.YtjgpifjfaiaidaaDoor.Pure
open Go.RowKit Go.Proofs.YtjgpifjfaiaidaaDoor.P Go.Proofs.YtjgpifjfaiaidaaDoorW.PrintWords Go.Proofs.YtjgpifjfaiaidaaDoorW.PrintLast Go.Proofs.YtjgpifjfaiaidaaDoorW.PrintMore
set_option linter.unusedVariables false
set_option linter.unusedSimpArgs false
theorem dw_head (p : UInt8 → Bool) (l : List UInt8) : ∀ a, (l.dropWhile p).head? = some a → p a = false := by
  induction l with
  | nil => intro a h; simp at h
  | cons b l ih =>
    intro a h
    cases hb : p b
    · simp [List.dropWhile, hb] at h; rw [← h]; exact hb
    · simp only [List.dropWhile, hb] at h; exact ih a h
theorem dw_append {p : UInt8 → Bool} (pre t : List UInt8) (h : ∀ a ∈ pre, p a = true) : (pre ++ t).dropWhile p = t.dropWhile p := by
  induction pre with
  | nil => rfl
  | cons b l ih =>
    simp only [List.cons_append, List.dropWhile, h b (List.mem_cons_self ..)]
    exact ih (fun a ha => h a (List.mem_cons_of_mem _ ha))
theorem dw_split (p : UInt8 → Bool) (l : List UInt8) : ∃ pre, l = pre ++ l.dropWhile p ∧ ∀ a ∈ pre, p a = true := by
  induction l with
  | nil => exact ⟨[], rfl, by simp⟩
  | cons b l ih =>
    obtain ⟨pre, h, hp⟩ := ih
    cases hb : p b
    · exact ⟨[], by simp [List.dropWhile, hb], by simp⟩
    · refine ⟨b :: pre, by simp only [List.dropWhile, hb, List.cons_append]; rw [← h], ?_⟩
      intro a ha
      rcases List.mem_cons.1 ha with rfl | ha
      · exact hb
      · exact hp a ha
end Go.Proofs.YtjgpifjfaiaidaaDoor.Pure

namespace Go.Proofs.YtjgpifjfaiaidaaDoor.Pure
open Go.RowKit Go.Proofs.YtjgpifjfaiaidaaDoor.P Go.Proofs.YtjgpifjfaiaidaaDoorW.PrintWords Go.Proofs.YtjgpifjfaiaidaaDoorW.PrintLast Go.Proofs.YtjgpifjfaiaidaaDoorW.PrintMore
set_option linter.unusedVariables false
set_option linter.unusedSimpArgs false
theorem byteAll {P : UInt8 → Prop} (h : ∀ n : Fin 256, P (UInt8.ofNat n.val)) (b : UInt8) : P b := by
  have := h ⟨b.toNat, b.toNat_lt⟩
  rwa [show UInt8.ofNat (⟨b.toNat, b.toNat_lt⟩ : Fin 256).val = b from UInt8.ofNat_toNat] at this
def foldU (b : UInt8) : UInt8 := UInt8.ofNat (foldC (b.toNat : Int)).toNat
def digU (b : UInt8) : Bool := ([48, 49, 50, 51, 52, 53, 54, 55, 56, 57] : List UInt8).contains b
theorem foldU_colon (b : UInt8) : foldU b = 58 ↔ b = 58 := byteAll (P := fun b => foldU b = 58 ↔ b = 58) (by decide +kernel) b
theorem foldU_dig (b : UInt8) : digU (foldU b) = digU b := byteAll (P := fun b => digU (foldU b) = digU b) (by decide +kernel) b
theorem foldU_host (b : UInt8) : hostC (b.toNat : Int) = true → foldU b = b := byteAll (P := fun b => hostC (b.toNat : Int) = true → foldU b = b) (by decide +kernel) b
theorem dig_host (b : UInt8) : digU b = decide (48 ≤ (b.toNat : Int) ∧ (b.toNat : Int) ≤ 57) := byteAll (P := fun b => digU b = decide (48 ≤ (b.toNat : Int) ∧ (b.toNat : Int) ≤ 57)) (by decide +kernel) b
theorem fold_mk (l : List UInt8) : strOfNums ((bytesOf (mkS l)).map foldC) = mkS (l.map foldU) := by
  rw [mkS_bytes]
  unfold strOfNums mkS
  rw [List.map_map, List.map_map]
  rfl
theorem data_get (l : List UInt8) (j : Nat) (h : j < l.length) : (((mkS l).data[j]!).toNat : Int) = (l[j].toNat : Int) := by
  have hs : j < (mkS l).data.size := by show j < (mkS l).size; rw [mkS_size]; exact h
  rw [getElem!_pos (mkS l).data j hs]
  simp [mkS]
theorem trimS_nil (l : List UInt8) : Lib.trimS l [48, 49, 50, 51, 52, 53, 54, 55, 56, 57] = [] ↔ ∀ x ∈ l, digU x = true := by
  show (l.reverse.dropWhile digU).reverse.dropWhile digU = [] ↔ _
  constructor
  · intro h
    obtain ⟨pre, h1, h2⟩ := dw_split digU (l.reverse.dropWhile digU).reverse
    rw [h, List.append_nil] at h1
    have h3 : l.reverse.dropWhile digU = [] := by
      cases hd : l.reverse.dropWhile digU with
      | nil => rfl
      | cons a t =>
        have h4 := dw_head digU l.reverse a (by rw [hd]; rfl)
        have h5 := h2 a (by rw [← h1, hd]; simp)
        rw [h4] at h5
        cases h5
    obtain ⟨pre, h4, h5⟩ := dw_split digU l.reverse
    rw [h3, List.append_nil] at h4
    exact fun x hx => h5 x (by rw [← h4]; exact List.mem_reverse.2 hx)
  · intro h
    have h1 : l.reverse.dropWhile digU = [] := by
      have := dw_append (p := digU) l.reverse [] (fun a ha => h a (List.mem_reverse.1 ha))
      rwa [List.append_nil] at this
    rw [h1]
    rfl
/-- A port at the place n. -/
def PortAt (l : List UInt8) (n : Nat) : Prop := ∃ h : n < l.length, l[n] = 58 ∧ ∀ x ∈ l.drop (n + 1), digU x = true
theorem last_at (l : List UInt8) (n : Nat) (h : n < l.length) (hc : l[n] = 58) (hn : 58 ∉ l.drop (n + 1)) : Lib.lastIndexByte (mkS l) 58 = n := by
  have hd := fun j (hj : j < l.length) => data_get l j hj
  have no : ∀ j (hj : j < l.length), n < j → l[j] ≠ 58 := by
    intro j hj hnj e
    apply hn
    rw [List.mem_iff_getElem]
    exact ⟨j - (n + 1), by rw [List.length_drop]; omega, by rw [List.getElem_drop, ← e]; congr 1; omega⟩
  rcases Lib.lastIndexByte_spec (mkS l) 58 with ⟨_, h2⟩ | ⟨i, hi, h1, h2, h3⟩
  · exfalso
    have := h2 n (by rw [mkS_size]; exact h)
    rw [hd n h, hc] at this
    exact this rfl
  · rw [mkS_size] at hi h3
    rw [hd i hi] at h2
    have hi58 : l[i] = 58 := UInt8.toNat_inj.1 (by show _ = 58; omega)
    rcases Nat.lt_trichotomy i n with c | c | c
    · have := h3 n c h
      rw [hd n h, hc] at this
      exact absurd rfl this
    · rw [h1, c]
    · exact absurd hi58 (no i hi c)
theorem cut_port (l : List UInt8) (n : Nat) (h : PortAt l n) : hostCut (mkS l) = mkS (l.take n) := by
  obtain ⟨hn, hc, hd⟩ := h
  have hl := last_at l n hn hc (fun h => by have := hd 58 h; revert this; decide)
  have e1 : ((n : Int) + 1).toNat = n + 1 := by omega
  have e2 : ((mkS l).extract (n + 1) (mkS l).size).data.toList = l.drop (n + 1) := by
    rw [mkS_size, mkS_extract, mkS_data, List.take_of_length_le (by rw [List.length_drop]; omega)]
  have hp : hostPort (mkS l) = true := by
    unfold hostPort
    rw [hl, decide_eq_true (by omega), e1, e2, (trimS_nil _).2 hd]
    rfl
  unfold hostCut
  rw [if_pos hp, hl, Int.toNat_natCast, mkS_extract]
  rfl
theorem cut_none (l : List UInt8) (h : ∀ n, ¬ PortAt l n) : hostCut (mkS l) = mkS l := by
  unfold hostCut
  rw [if_neg]
  intro hp
  unfold hostPort at hp
  simp only [Bool.and_eq_true, decide_eq_true_eq, List.isEmpty_iff] at hp
  obtain ⟨h0, h1⟩ := hp
  rcases Lib.lastIndexByte_spec (mkS l) 58 with ⟨e, _⟩ | ⟨i, hi, e, h2, _⟩
  · omega
  · rw [mkS_size] at hi
    rw [data_get l i hi] at h2
    have e1 : ((i : Int) + 1).toNat = i + 1 := by omega
    rw [e, e1, mkS_size, mkS_extract, mkS_data, List.take_of_length_le (by rw [List.length_drop]; omega), trimS_nil] at h1
    exact h i ⟨hi, UInt8.toNat_inj.1 (by show _ = 58; omega), h1⟩
theorem port_fold (l : List UInt8) (n : Nat) : PortAt (l.map foldU) n ↔ PortAt l n := by
  unfold PortAt
  constructor
  · rintro ⟨h, h1, h2⟩
    rw [List.length_map] at h
    refine ⟨h, ?_, fun x hx => ?_⟩
    · rw [List.getElem_map] at h1
      exact (foldU_colon _).1 h1
    · rw [← foldU_dig]
      exact h2 _ (by rw [← List.map_drop]; exact List.mem_map_of_mem hx)
  · rintro ⟨h, h1, h2⟩
    refine ⟨by rw [List.length_map]; exact h, ?_, fun x hx => ?_⟩
    · rw [List.getElem_map, h1]; rfl
    · rw [← List.map_drop] at hx
      obtain ⟨y, hy, rfl⟩ := List.mem_map.1 hx
      rw [foldU_dig]
      exact h2 y hy
/-- The host of a text of which n bytes stand ahead of the port. -/
def hostOf (l : List UInt8) (n : Nat) : ByteArray × Bool := hostEnd (mkS ((l.take n).map foldU))
theorem Host_port (l : List UInt8) (hn : l.length ≤ 140737488355328) (n : Nat) (h : PortAt l n) : line_Host.f (mkS l) = some (hostOf l n) := by
  unfold line_Host.f hostOf
  rw [if_pos (by rw [mkS_size]; exact hn), fold_mk, cut_port _ n ((port_fold l n).2 h), List.map_take]
theorem Host_none (l : List UInt8) (hn : l.length ≤ 140737488355328) (h : ∀ n, ¬ PortAt l n) : line_Host.f (mkS l) = some (hostOf l l.length) := by
  unfold line_Host.f hostOf
  rw [if_pos (by rw [mkS_size]; exact hn), fold_mk, cut_none _ (fun n hp => h n ((port_fold l n).1 hp)), List.take_length]
theorem hostEnd_ok (u : List UInt8) (h : (hostEnd (mkS u)).2 = true) : (hostEnd (mkS u)).1 = mkS u ∧ 0 < u.length ∧ u.length ≤ 64 ∧ (bytesOf (mkS u)).all hostC = true := by
  unfold hostEnd at h ⊢
  rw [mkS_size] at h ⊢
  by_cases c : u.length = 0 ∨ 64 < u.length
  · rw [if_pos c] at h; cases h
  · rw [if_neg c] at h ⊢
    by_cases c2 : (bytesOf (mkS u)).all hostC = true
    · rw [if_pos c2]; exact ⟨rfl, by omega, by omega, c2⟩
    · rw [if_neg c2] at h; cases h
theorem hostEnd_no (u : ByteArray) (h : (hostEnd u).2 = false) : (hostEnd u).1 = (⟨#[]⟩ : ByteArray) := by
  unfold hostEnd at h ⊢
  split
  · rfl
  · rename_i c
    rw [if_neg c] at h
    split
    · rename_i c2; rw [if_pos c2] at h; cases h
    · rfl
/-- A host's host, a port behind it, is itself. -/
theorem host_again (u : List UInt8) (h : (hostEnd (mkS u)).2 = true) : line_Host.f (mkS (u ++ [58, 56, 48])) = some (mkS u, true) := by
  obtain ⟨h1, h2, h3, h4⟩ := hostEnd_ok u h
  have hf : u.map foldU = u := by
    conv => rhs; rw [← List.map_id u]
    refine List.map_congr_left fun x hx => foldU_host x ?_
    rw [mkS_bytes, List.all_map, List.all_eq_true] at h4
    exact h4 x hx
  have hp : PortAt (u ++ [58, 56, 48]) u.length := by
    refine ⟨by simp, by simp, fun x hx => ?_⟩
    rw [List.drop_append, List.drop_of_length_le (by omega), List.nil_append] at hx
    rw [show u.length + 1 - u.length = 1 by omega] at hx
    have : x = 56 ∨ x = 48 := by simpa using hx
    rcases this with rfl | rfl <;> decide
  rw [Host_port _ (by rw [List.length_append]; simp; omega) u.length hp]
  unfold hostOf
  rw [List.take_left, hf]
  congr 1
  exact Prod.ext h1 h

end Go.Proofs.YtjgpifjfaiaidaaDoor.Pure

namespace Go.Proofs.YtjgpifjfaiaidaaDoor.Pure
open Go.RowKit Go.Proofs.YtjgpifjfaiaidaaDoor.P Go.Proofs.YtjgpifjfaiaidaaDoorW.PrintWords Go.Proofs.YtjgpifjfaiaidaaDoorW.PrintLast Go.Proofs.YtjgpifjfaiaidaaDoorW.PrintMore
set_option linter.unusedVariables false
set_option linter.unusedSimpArgs false
theorem text_1 : sign_Text.f 1 = some ⟨#[49]⟩ := by
  show strconv_FormatInt_85.f 1 10 = _
  unfold strconv_FormatInt_85.f strconv_FormatInt_105.f
  simp [Lib.itoa, Lib.decDigits]
theorem text_0 : sign_Text.f 0 = some ⟨#[48]⟩ := by
  show strconv_FormatInt_85.f 0 10 = _
  unfold strconv_FormatInt_85.f strconv_FormatInt_105.f
  simp [Lib.itoa, Lib.decDigits]
set_option maxRecDepth 100000 in
theorem text_404 : sign_Text.f 404 = some ⟨#[52, 48, 52]⟩ := by
  show strconv_FormatInt_85.f 404 10 = _
  unfold strconv_FormatInt_85.f strconv_FormatInt_105.f
  simp [Lib.itoa, Lib.decDigits]
theorem reading_1 : line_Request.f 60 ⟨#[71, 69, 84, 32, 47, 97, 32, 72, 84, 84, 80, 47, 49, 46, 49]⟩ = some (⟨#[71, 69, 84]⟩, ⟨#[47, 97]⟩, 1, [], [], 0) := by kernel_rfl
theorem reading_2 : line_Status.f 60 ⟨#[72, 84, 84, 80, 47, 49, 46, 48, 32, 52, 48, 52, 32, 78, 111, 116, 32, 70, 111, 117, 110, 100]⟩ = some (404, ⟨#[78, 111, 116, 32, 70, 111, 117, 110, 100]⟩, 0, [], [], true) := by kernel_rfl
theorem reading_3 : line_Host.f ⟨#[65, 46, 98, 58, 56, 48]⟩ = some (⟨#[97, 46, 98]⟩, true) := by kernel_rfl
theorem reading_4 : line_Request.f 60 ⟨#[71, 69, 84, 32, 47, 97, 32, 72, 84, 84, 80, 47, 50, 46, 48]⟩ = some (⟨#[]⟩, ⟨#[]⟩, 0, [], [], 505) := by kernel_rfl
theorem reading_5 : line_RequestLine.f ⟨#[71, 69, 84]⟩ ⟨#[47, 97]⟩ 1 [] [] = some ⟨#[71, 69, 84, 32, 47, 97, 32, 72, 84, 84, 80, 47, 49, 46, 49, 13, 10]⟩ := by
  unfold line_RequestLine.f
  rw [text_1]
  kernel_rfl
set_option maxRecDepth 100000 in
theorem reading_6 : line_StatusLine.f 60 404 ⟨#[78, 111, 116, 32, 70, 111, 117, 110, 100]⟩ 0 [] [] = some ⟨#[72, 84, 84, 80, 47, 49, 46, 48, 32, 52, 48, 52, 32, 78, 111, 116, 32, 70, 111, 117, 110, 100, 13, 10]⟩ := by
  unfold line_StatusLine.f
  rw [text_404, Option.bind_some]
  unfold line_StatusLine.l0
  rw [if_neg (by decide), text_0]
  kernel_rfl
theorem reading_7 : line_Reason.f 404 = some ⟨#[78, 111, 116, 32, 70, 111, 117, 110, 100]⟩ := by kernel_rfl
set_option maxRecDepth 100000 in
theorem reading_f (k : Nat) (hk : 60 ≤ k) : tollbarlaw05_reading.f k = some true := by
  refine at_rounds (fun k => tollbarlaw05_reading.mono k) hk ?_
  unfold tollbarlaw05_reading.f
  rw [reading_1, Option.bind_some, reading_2, Option.bind_some, reading_3, Option.bind_some, reading_4, Option.bind_some, if_pos rfl]
  rw [if_pos (by kernel_rfl), if_pos (by kernel_rfl), if_pos (by kernel_rfl), if_pos (by kernel_rfl), if_pos (by kernel_rfl), if_pos (by kernel_rfl), if_pos (by kernel_rfl), if_pos (by kernel_rfl), if_pos (by kernel_rfl), reading_5, Option.bind_some, if_pos (by kernel_rfl), reading_6, Option.bind_some, if_pos (by kernel_rfl), reading_7, Option.bind_some]
  kernel_rfl

end Go.Proofs.YtjgpifjfaiaidaaDoor.Pure

namespace Go.Proofs.YtjgpifjfaiaidaaDoor.Pure
open Go.RowKit Go.Proofs.YtjgpifjfaiaidaaDoor.P Go.Proofs.YtjgpifjfaiaidaaDoorW.PrintWords Go.Proofs.YtjgpifjfaiaidaaDoorW.PrintLast Go.Proofs.YtjgpifjfaiaidaaDoorW.PrintMore
set_option linter.unusedVariables false
set_option linter.unusedSimpArgs false
theorem refFold_l0 (s : ByteArray) (hn : s.size ≤ 140737488355327) (d : Nat) : ∀ (k : Nat) (out : List Int) (i : Int), 0 ≤ i → (s.size : Int) - i = d → d + 1 ≤ k → (out.length : Int) = i →
    tollbarref02_Fold.l0 k s out i = some (strOfNums (out ++ ((bytesOf s).drop i.toNat).map foldC)) := by
  induction d with
  | zero =>
    intro k out i h0 hd hk ho
    obtain ⟨k, rfl⟩ : ∃ m, k = m + 1 := ⟨k - 1, by omega⟩
    simp only [tollbarref02_Fold.l0]
    rw [if_neg (by omega), List.drop_of_length_le (by rw [bytesOf_length]; omega), List.map_nil, List.append_nil]
  | succ d ih =>
    intro k out i h0 hd hk ho
    obtain ⟨k, rfl⟩ : ∃ m, k = m + 1 := ⟨k - 1, by omega⟩
    have hlt : i < (s.size : Int) := by omega
    have hl : i.toNat < (bytesOf s).length := by rw [bytesOf_length]; omega
    have hg : (bytesOf s)[i.toNat] = bt s i := by rw [← rd_bytesOf]; simp [rd, List.getD_eq_getElem?_getD, List.getElem?_eq_getElem hl]
    have hr := bt_range s i
    have ih' := fun v => ih k (out ++ [v]) (i + 1) (by omega) (by omega) (by omega) (by rw [List.length_append]; simp; omega)
    have e1 : (i + 1).toNat = i.toNat + 1 := by omega
    rw [List.drop_eq_getElem_cons hl, hg, List.map_cons]
    simp only [tollbarref02_Fold.l0]
    rw [if_pos hlt, if_pos h0, show wrap64 (i + 1) = i + 1 by unfold wrap64; omega]
    have hf : ∀ v, v = foldC (bt s i) → some (strOfNums (out ++ [v] ++ ((bytesOf s).drop (i.toNat + 1)).map foldC)) = some (strOfNums (out ++ foldC (bt s i) :: ((bytesOf s).drop (i.toNat + 1)).map foldC)) := by
      intro v hv
      rw [hv, List.append_assoc]
      rfl
    have ho2 : out.length < 140737488355328 := by omega
    by_cases h1 : bt s i ≥ 65
    · rw [if_pos h1]
      by_cases h2 : bt s i ≤ 90
      · rw [if_pos h2, if_pos ho2, ih', e1]; exact hf _ (by unfold foldC; rw [if_pos ⟨h1, h2⟩]; omega)
      · rw [if_neg h2, if_pos ho2, ih', e1]; exact hf _ (by unfold foldC; rw [if_neg (by omega)])
    · rw [if_neg h1, if_pos ho2, ih', e1]; exact hf _ (by unfold foldC; rw [if_neg (by omega)])
theorem refFold_f (s : ByteArray) (hn : s.size ≤ 140737488355327) (k : Nat) (hk : s.size + 1 ≤ k) : tollbarref02_Fold.f k s = sign_Fold.f s := by
  unfold tollbarref02_Fold.f sign_Fold.f
  rw [refFold_l0 s hn s.size k [] 0 (by omega) (by omega) hk rfl, if_pos (by omega)]
  rfl
theorem Fold_f (s : ByteArray) (hn : s.size ≤ 140737488355328) : sign_Fold.f s = some (strOfNums ((bytesOf s).map foldC)) := if_pos hn
end Go.Proofs.YtjgpifjfaiaidaaDoor.Pure

namespace Go.Proofs.YtjgpifjfaiaidaaDoor.Pure
open Go.RowKit Go.Proofs.YtjgpifjfaiaidaaDoor.P Go.Proofs.YtjgpifjfaiaidaaDoorW.PrintWords Go.Proofs.YtjgpifjfaiaidaaDoorW.PrintLast Go.Proofs.YtjgpifjfaiaidaaDoorW.PrintMore
set_option linter.unusedVariables false
set_option linter.unusedSimpArgs false
theorem refDigit_f (c : Int) : tollbarref02_Digit.f c = some (decide (48 ≤ c ∧ c ≤ 57)) := by
  unfold tollbarref02_Digit.f
  by_cases h : c ≥ 48
  · rw [if_pos h]; congr 1; rw [Bool.eq_iff_iff, decide_eq_true_eq, decide_eq_true_eq]; omega
  · rw [if_neg h, decide_eq_false (by omega)]
end Go.Proofs.YtjgpifjfaiaidaaDoor.Pure

namespace Go.Proofs.YtjgpifjfaiaidaaDoor.Pure
open Go.RowKit Go.Proofs.YtjgpifjfaiaidaaDoor.P Go.Proofs.YtjgpifjfaiaidaaDoorW.PrintWords Go.Proofs.YtjgpifjfaiaidaaDoorW.PrintLast Go.Proofs.YtjgpifjfaiaidaaDoorW.PrintMore
set_option linter.unusedVariables false
set_option linter.unusedSimpArgs false
theorem ref_l1 (x : List UInt8) (hn : x.length ≤ 140737488355328) (d : Nat) : ∀ (k i : Nat), i + d = x.length → d + 1 ≤ k →
    tollbarref05_Host.l1 k (mkS x) i = some (if ((bytesOf (mkS x)).drop i).all hostC = true then (if x.length = 0 ∨ 64 < x.length then ((⟨#[]⟩ : ByteArray), false) else (mkS x, true)) else ((⟨#[]⟩ : ByteArray), false)) := by
  induction d with
  | zero =>
    intro k i hi hk
    obtain ⟨k, rfl⟩ : ∃ m, k = m + 1 := ⟨k - 1, by omega⟩
    rw [List.drop_of_length_le (by rw [bytesOf_length, mkS_size]; omega), if_pos (show ([] : List Int).all hostC = true from rfl)]
    simp only [tollbarref05_Host.l1]
    rw [mkS_size, if_neg (by omega)]
    by_cases h0 : x.length = 0
    · rw [if_pos (by omega), if_pos (Or.inl h0)]
    · rw [if_neg (by omega)]
      by_cases h1 : 64 < x.length
      · rw [if_pos (by omega), if_pos (Or.inr h1)]
      · rw [if_neg (by omega), if_neg (by omega)]
  | succ d ih =>
    intro k i hi hk
    obtain ⟨k, rfl⟩ : ∃ m, k = m + 1 := ⟨k - 1, by omega⟩
    have hlt : i < x.length := by omega
    have ih' := ih k (i + 1) (by omega) (by omega)
    have hw : wrap64 ((i : Int) + 1) = ((i + 1 : Nat) : Int) := by unfold wrap64; omega
    have hd := bytes_drop_all hostC (mkS x) (i : Int) (by omega) (by rw [mkS_size]; omega)
    rw [Int.toNat_natCast] at hd
    rw [hd]
    simp only [tollbarref05_Host.l1]
    rw [mkS_size, if_pos (by omega), if_pos (by omega), hw, ih', refDigit_f]
    have hr := bt_range (mkS x) i
    generalize bt (mkS x) (i : Int) = c at hr ⊢
    have hh : hostC c = decide ((48 ≤ c ∧ c ≤ 57) ∨ (97 ≤ c ∧ c ≤ 122) ∨ c = 45 ∨ c = 46) := rfl
    simp only [Option.bind_some]
    by_cases a1 : c ≥ 97
    · rw [if_pos a1]
      by_cases a2 : c ≤ 122
      · rw [if_pos a2, hh, decide_eq_true (by omega), Bool.true_and]
      · rw [if_neg a2, decide_eq_false (by omega), if_neg (by simp), if_neg (by omega), if_neg (by omega), hh, decide_eq_false (by omega), Bool.false_and, if_neg (by simp)]
    · rw [if_neg a1]
      by_cases a2 : 48 ≤ c ∧ c ≤ 57
      · rw [decide_eq_true a2, if_pos rfl, hh, decide_eq_true (by omega), Bool.true_and]
      · rw [decide_eq_false a2, if_neg (by simp)]
        by_cases a3 : c = 45
        · rw [if_pos a3, hh, decide_eq_true (by omega), Bool.true_and]
        · rw [if_neg a3]
          by_cases a4 : c = 46
          · rw [if_pos a4, hh, decide_eq_true (by omega), Bool.true_and]
          · rw [if_neg a4, hh, decide_eq_false (by omega), Bool.false_and, if_neg (by simp)]
theorem ref_j3 (l : List UInt8) (hn : l.length ≤ 140737488355327) (n : Nat) (h : n ≤ l.length) (k : Nat) (hk : 2 * l.length + 10 ≤ k) : tollbarref05_Host.j3 k (mkS l) n = some (hostOf l n) := by
  obtain ⟨k, rfl⟩ : ∃ m, k = m + 1 := ⟨k - 1, by omega⟩
  simp only [tollbarref05_Host.j3]
  have hl : (l.take n).length ≤ l.length := by rw [List.length_take]; omega
  rw [mkS_size, if_pos (by omega), if_pos (by omega), Int.toNat_natCast, mkS_extract, List.drop_zero, Nat.sub_zero, refFold_f _ (by rw [mkS_size]; omega) k (by rw [mkS_size]; omega), Fold_f _ (by rw [mkS_size]; omega), fold_mk, Option.bind_some]
  have := ref_l1 ((l.take n).map foldU) (by rw [List.length_map]; omega) ((l.take n).map foldU).length k 0 (by omega) (by rw [List.length_map]; omega)
  rw [show ((0 : Nat) : Int) = 0 from rfl, List.drop_zero] at this
  rw [this]
  unfold hostOf hostEnd
  rw [mkS_size]
  congr 1
  by_cases c : ((l.take n).map foldU).length = 0 ∨ 64 < ((l.take n).map foldU).length
  · rw [if_pos c]
    simp only [if_pos c]
    split <;> rfl
  · rw [if_neg c]
    simp only [if_neg c]
theorem ref_j1 (l : List UInt8) (hn : l.length ≤ 140737488355327) (i : Nat) (h : i < l.length) (k : Nat) (hk : 2 * l.length + 20 ≤ k) :
    tollbarref05_Host.j1 k (mkS l) (l.length : Int) (i : Int) = some (if l[i] = 58 then hostOf l i else hostOf l l.length) := by
  obtain ⟨k, rfl⟩ : ∃ m, k = m + 2 := ⟨k - 2, by omega⟩
  simp only [tollbarref05_Host.j1]
  rw [mkS_size, if_pos (by omega), if_pos (by omega), if_pos (by omega), bt_mk l i h]
  simp only [tollbarref05_Host.j2]
  by_cases c : l[i] = 58
  · rw [if_pos c, if_pos (by rw [c]; rfl), ref_j3 l hn i (by omega) k (by omega)]
  · rw [if_neg c, if_neg (by rw [beq_iff_eq]; exact fun e => c (UInt8.toNat_inj.1 (by show _ = 58; omega))), ref_j3 l hn l.length (by omega) k (by omega)]
theorem ref_l0 (l : List UInt8) (hn : l.length ≤ 140737488355327) (d : Nat) : ∀ (k : Nat), d ≤ l.length → 3 * l.length + 20 + d ≤ k → (∀ x ∈ l.drop d, digU x = true) →
    tollbarref05_Host.l0 k (mkS l) (l.length : Int) ((d : Int) - 1) = line_Host.f (mkS l) := by
  induction d with
  | zero =>
    intro k hd hk ha
    obtain ⟨k, rfl⟩ : ∃ m, k = m + 3 := ⟨k - 3, by omega⟩
    rw [List.drop_zero] at ha
    have hno : ∀ n, ¬ PortAt l n := by
      rintro n ⟨h, h1, _⟩
      have := ha _ (List.getElem_mem h)
      rw [h1] at this
      revert this
      decide
    rw [Host_none l (by omega) hno]
    simp only [tollbarref05_Host.l0]
    rw [if_neg (by omega)]
    simp only [tollbarref05_Host.j1]
    rw [if_neg (by omega)]
    simp only [tollbarref05_Host.j2]
    rw [if_neg (by simp), ref_j3 l hn l.length (by omega) k (by omega)]
  | succ d ih =>
    intro k hd hk ha
    obtain ⟨k, rfl⟩ : ∃ m, k = m + 1 := ⟨k - 1, by omega⟩
    have hlt : d < l.length := by omega
    have e : ((d + 1 : Nat) : Int) - 1 = (d : Int) := by omega
    have hw : wrap64 ((d : Int) - 1) = (d : Int) - 1 := by unfold wrap64; omega
    rw [e]
    simp only [tollbarref05_Host.l0]
    rw [mkS_size, if_pos (by omega), if_pos (by omega), if_pos (by omega), bt_mk l d hlt, refDigit_f, ← dig_host, Option.bind_some]
    cases hc : digU l[d]
    · rw [if_neg (by simp), ref_j1 l hn d hlt k (by omega)]
      by_cases c : l[d] = 58
      · rw [if_pos c, Host_port l (by omega) d ⟨hlt, c, ha⟩]
      · rw [if_neg c, Host_none l (by omega)]
        rintro n ⟨h, h1, h2⟩
        rcases Nat.lt_trichotomy n d with q | q | q
        · have := h2 l[d] (by
            rw [List.mem_iff_getElem]
            exact ⟨d - (n + 1), by rw [List.length_drop]; omega, by rw [List.getElem_drop]; congr 1; omega⟩)
          rw [hc] at this
          cases this
        · subst q; exact c h1
        · have := ha l[n] (by
            rw [List.mem_iff_getElem]
            exact ⟨n - (d + 1), by rw [List.length_drop]; omega, by rw [List.getElem_drop]; congr 1; omega⟩)
          rw [h1] at this
          revert this
          decide
    · rw [if_pos rfl, hw]
      refine ih k (by omega) (by omega) ?_
      intro x hx
      rw [List.drop_eq_getElem_cons hlt] at hx
      rcases List.mem_cons.1 hx with rfl | hx
      · exact hc
      · exact ha x hx
theorem refHost_f (l : List UInt8) (hn : l.length ≤ 140737488355327) (k : Nat) (hk : 4 * l.length + 20 ≤ k) : tollbarref05_Host.f k (mkS l) = line_Host.f (mkS l) := by
  unfold tollbarref05_Host.f
  rw [mkS_size, show wrap64 ((l.length : Int) - 1) = (l.length : Int) - 1 by unfold wrap64; omega]
  exact ref_l0 l hn l.length k (by omega) (by omega) (by simp)
theorem Host_some (l : List UInt8) (hn : l.length ≤ 140737488355328) : ∃ u, line_Host.f (mkS l) = some (hostEnd (mkS u)) := by
  unfold line_Host.f
  rw [if_pos (by rw [mkS_size]; exact hn)]
  exact ⟨(hostCut (strOfNums ((bytesOf (mkS l)).map foldC))).data.toList, by rw [mkS_self]⟩

end Go.Proofs.YtjgpifjfaiaidaaDoor.Pure

namespace Go.Proofs.YtjgpifjfaiaidaaDoor.Pure
open Go.RowKit Go.Proofs.YtjgpifjfaiaidaaDoor.P Go.Proofs.YtjgpifjfaiaidaaDoorW.PrintWords Go.Proofs.YtjgpifjfaiaidaaDoorW.PrintLast Go.Proofs.YtjgpifjfaiaidaaDoorW.PrintMore
set_option linter.unusedVariables false
set_option linter.unusedSimpArgs false
theorem LineHosts : tollbarlaw05_LineHosts.Pure := by
  intro s hs
  obtain ⟨l, rfl⟩ : ∃ l, s = mkS l := ⟨_, (mkS_self s).symm⟩
  rw [mkS_size] at hs
  refine ⟨4 * l.length + 100 + 1, ?_⟩
  obtain ⟨u, hu⟩ := Host_some l (by omega)
  unfold tollbarlaw05_LineHosts.f
  rw [reading_f _ (by omega), Option.bind_some, if_pos rfl, refHost_f l (by omega) _ (by omega), hu, Option.bind_some, Option.bind_some, if_pos rfl]
  simp only [tollbarlaw05_LineHosts.j0]
  rw [if_neg (by simp)]
  cases h : (hostEnd (mkS u)).2
  · rw [if_neg (by simp), hostEnd_no _ h, show (⟨#[]⟩ : ByteArray) = mkS [] from rfl, mkS_toList]
    rfl
  · obtain ⟨h1, h2, h3, _⟩ := hostEnd_ok u h
    rw [if_pos rfl, h1, if_pos (by rw [mkS_size]; omega), show (⟨#[58, 56, 48]⟩ : ByteArray) = mkS [58, 56, 48] from rfl, mkS_append, host_again u h, Option.bind_some, if_pos rfl]
    simp

end Go.Proofs.YtjgpifjfaiaidaaDoor.Pure

