/- Each function below answers as its Lean twin says; a law answers true at every input that its row speaks of. No further condition. (Laid by this repo's seatprint.py.) -/
import Derived.Test.YthkkkfeiklfjoaaPx0
import Derived.Test.YthkkkfeiklfjoaaFlineCut
import Derived.Test.YthkkkfeiklfjoaaFtollbarlaw05LineJoins
import Derived.Test.YthkkkfeiklfjoaaFtollbarlaw05cutting
import Derived.Test.YthkkkfeiklfjoaaFtollbarref01SameBytes
import Derived.Test.YthkkkfeiklfjoaaQBits
import Derived.Test.YthkkkfeiklfjoaaQBytes
import Derived.Test.YthkkkfeiklfjoaaQCut
namespace Go.Proofs.Ythkkkfeiklfjoaa.Pure
open Go.RowKit Go.Proofs.Ythkkkfeiklfjoaa.P Go.Proofs.YthkkkfeiklfjoaaW.PrintWords Go.Proofs.YthkkkfeiklfjoaaW.PrintLast Go.Proofs.YthkkkfeiklfjoaaW.PrintMore
set_option linter.unusedVariables false
set_option linter.unusedSimpArgs false
/-- A text without ends of lines, short enough. -/
def Plain (s : ByteArray) : Prop := s.size ≤ 500 ∧ ∀ x ∈ bytesOf s, x ≠ 13 ∧ x ≠ 10
def joinL : List ByteArray → List Int
  | [] => []
  | s :: r => bytesOf s ++ ([13, 10] ++ joinL r)
theorem joinL_append (a : List ByteArray) (s : ByteArray) : joinL (a ++ [s]) = joinL a ++ bytesOf s ++ [13, 10] := by
  induction a with
  | nil => simp [joinL]
  | cons x a ih => simp [joinL, ih]
theorem joinL_len (a : List ByteArray) (h : ∀ s ∈ a, s.size ≤ 500) : (joinL a).length ≤ 502 * a.length := by
  induction a with
  | nil => simp [joinL]
  | cons x a ih =>
    have h1 := h x (List.mem_cons_self ..)
    have h2 := ih (fun s hs => h s (List.mem_cons_of_mem _ hs))
    simp only [joinL, List.length_append, bytesOf_length, List.length_cons]
    simp
    omega
/-- The line that a plain text and its end are. -/
theorem cut_line (s : ByteArray) (hs : Plain s) (r : List Int) (m : Int) (hm : 0 ≤ m) (d : Nat) : ∀ (j e : Nat), j + d = s.size → e = d + 2 + r.length → (j : Int) ≤ m →
    cutAt (bytesOf s ++ ([13, 10] ++ r)) m e j = if (s.size : Int) > m then ((⟨#[]⟩ : ByteArray), 0, 2) else (strOfNums (bytesOf s), (s.size : Int) + 2, 0) := by
  have hl : (bytesOf s).length = s.size := bytesOf_length s
  induction d with
  | zero =>
    intro j e hj he hjm
    subst he
    obtain rfl : j = s.size := by omega
    have e1 : rd (bytesOf s ++ ([13, 10] ++ r)) (s.size : Int) = 13 := by rw [rd_append_right _ _ _ (by omega), hl, Int.sub_self]; rfl
    have e2 : rd (bytesOf s ++ ([13, 10] ++ r)) ((s.size : Int) + 1) = 10 := by rw [rd_append_right _ _ _ (by omega), hl, show (s.size : Int) + 1 - s.size = 1 by omega]; rfl
    rw [show 0 + 2 + r.length = (r.length + 1) + 1 by omega]
    simp only [cutAt]
    rw [e1, if_neg (by decide), if_pos rfl, if_pos (by rw [List.length_append, hl]; simp; omega), e2, if_pos rfl, if_neg (by omega), Int.toNat_natCast, ← hl, List.take_left]
  | succ d ih =>
    intro j e hj he hjm
    subst he
    have hlt : j < (bytesOf s).length := by omega
    have e1 : rd (bytesOf s ++ ([13, 10] ++ r)) (j : Int) = (bytesOf s)[j] := by
      rw [rd_append_left _ _ _ (by omega) (by omega)]
      simp [rd, List.getD_eq_getElem?_getD, List.getElem?_eq_getElem hlt]
    obtain ⟨h13, h10⟩ := hs.2 _ (List.getElem_mem hlt)
    rw [show d + 1 + 2 + r.length = (d + 2 + r.length) + 1 by omega]
    simp only [cutAt]
    rw [e1, if_neg h10, if_neg h13]
    by_cases hc : m ≤ (j : Int)
    · rw [if_pos hc, if_pos (by omega)]
    · rw [if_neg hc]
      have := ih (j + 1) (d + 2 + r.length) (by omega) rfl (by omega)
      rw [show ((j + 1 : Nat) : Int) = (j : Int) + 1 by omega] at this
      exact this
theorem cut_plain (s : ByteArray) (hs : Plain s) (r : List Int) (m : Int) (hm : 0 ≤ m) : cutSpec (bytesOf s ++ ([13, 10] ++ r)) m = if (s.size : Int) > m then ((⟨#[]⟩ : ByteArray), 0, 2) else (strOfNums (bytesOf s), (s.size : Int) + 2, 0) := by
  have e1 : mx m 0 = m := by unfold mx; split <;> omega
  unfold cutSpec
  rw [e1]
  exact cut_line s hs r m hm s.size 0 _ (by omega) (by rw [List.length_append, bytesOf_length, List.length_append]; simp; omega) (by omega)
theorem bytes_back (s : ByteArray) : strOfNums (bytesOf s) = s := by
  unfold bytesOf strOfNums
  rw [List.map_map]
  have : (s.data.toList.map ((fun n : Int => UInt8.ofNat n.toNat) ∘ fun b : UInt8 => (b.toNat : Int))) = s.data.toList := by
    conv => rhs; rw [← List.map_id s.data.toList]
    exact List.map_congr_left fun b _ => by simp
  rw [this]
theorem sameB_l0 (xs : List Int) (hn : xs.length ≤ 4398046511104) (d : Nat) : ∀ (k : Nat) (i : Int), 0 ≤ i → (xs.length : Int) - i = d → d + 1 ≤ k → tollbarref01_SameBytes.l0 k xs xs i = some true := by
  induction d with
  | zero =>
    intro k i h0 hd hk
    obtain ⟨k, rfl⟩ : ∃ m, k = m + 1 := ⟨k - 1, by omega⟩
    simp only [tollbarref01_SameBytes.l0]
    rw [if_neg (by omega)]
  | succ d ih =>
    intro k i h0 hd hk
    obtain ⟨k, rfl⟩ : ∃ m, k = m + 1 := ⟨k - 1, by omega⟩
    simp only [tollbarref01_SameBytes.l0]
    rw [if_pos (by omega), if_pos h0, if_pos (by omega), if_pos trivial, show wrap64 (i + 1) = i + 1 by unfold wrap64; omega]
    exact ih k (i + 1) (by omega) (by omega) (by omega)
theorem sameB_self (xs : List Int) (hn : xs.length ≤ 4398046511104) (k : Nat) (hk : xs.length + 1 ≤ k) : tollbarref01_SameBytes.f k xs xs = some true := by
  unfold tollbarref01_SameBytes.f
  rw [if_pos rfl]
  exact sameB_l0 xs hn xs.length k 0 (by omega) (by omega) hk
theorem rdOf_at (ts : List ByteArray) (i : Nat) (h : i < ts.length) : rdOf ByteArray.empty ts (i : Int) = ts[i] := by
  unfold rdOf
  rw [Int.toNat_natCast, List.getD_eq_getElem?_getD, List.getElem?_eq_getElem h]
  rfl
theorem line_drop (s : ByteArray) (T : List Int) : (bytesOf s ++ ([13, 10] ++ T)).drop ((s.size : Int) + 2).toNat = T := by
  have e : ((s.size : Int) + 2).toNat = (bytesOf s).length + 2 := by rw [bytesOf_length]; omega
  rw [e, ← List.drop_drop, List.drop_left]
  rfl
theorem line_len (s : ByteArray) (T : List Int) : (bytesOf s ++ ([13, 10] ++ T)).length = s.size + 2 + T.length := by
  rw [List.length_append, List.length_append, bytesOf_length]
  simp
  omega
theorem cut_here (s : ByteArray) (hs : Plain s) (T : List Int) (hT : T.length ≤ 30000) (m : Int) (hm : 0 ≤ m) (k : Nat) (hk : 100000 ≤ k) :
    line_Cut.f k (bytesOf s ++ ([13, 10] ++ T)) m = some (if (s.size : Int) > m then ((⟨#[]⟩ : ByteArray), 0, 2) else (strOfNums (bytesOf s), (s.size : Int) + 2, 0)) := by
  have hz := hs.1
  have hl := line_len s T
  rw [cut_f _ m (by omega) k (by omega), cut_plain s hs T m hm]
theorem l2_step (ts : List ByteArray) (s : ByteArray) (hs : Plain s) (i : Nat) (hlt : i < ts.length) (he : ts[i] = s) (rest T : List Int) (hT : T.length ≤ 30000) (m : Int) (hm : 0 ≤ m) (k : Nat) (hk : 100000 ≤ k) (hi : i ≤ 1000)
    (hR : tollbarlaw05_LineJoins.l2 k rest m T ts (ts.length : Int) ((i + 1 : Nat) : Int) = some true) :
    tollbarlaw05_LineJoins.l2 (k + 1) rest m (bytesOf s ++ ([13, 10] ++ T)) ts (ts.length : Int) i = some true := by
  have hz := hs.1
  have hl := line_len s T
  have hd := line_drop s T
  have hcut := cut_here s hs T hT m hm k hk
  have hb := bytes_back s
  have hw : wrap64 ((i : Int) + 1) = ((i + 1 : Nat) : Int) := by unfold wrap64; omega
  have hw2 : wrap64 ((s.size : Int) + 2) = (s.size : Int) + 2 := by unfold wrap64; omega
  have hr : rdOf ByteArray.empty ts (i : Int) = s := (rdOf_at ts i hlt).trans he
  generalize bytesOf s ++ ([13, 10] ++ T) = L at *
  simp only [tollbarlaw05_LineJoins.l2]
  rw [if_pos (by omega), if_pos (by omega), if_pos (by omega), hr, hcut, Option.bind_some]
  by_cases hc : (s.size : Int) > m
  · rw [if_pos hc, if_pos hc, if_pos (by rw [toList_data]), if_pos rfl]
    rfl
  · rw [if_neg hc, if_neg hc, hb, if_pos rfl, hw2, if_pos rfl, if_pos rfl, if_pos (by show (0 : Int) ≤ (s.size : Int) + 2; omega), if_pos (by show (s.size : Int) + 2 ≤ (L.length : Int); omega), hd, hw]
    exact hR
theorem joins_l2 (ts : List ByteArray) (hts : ∀ s ∈ ts, Plain s) (hn : ts.length ≤ 20) (rest : List Int) (hr : rest.length ≤ 1000) (m : Int) (hm : 0 ≤ m) (d : Nat) : ∀ (k i : Nat), i + d = ts.length → d + 120000 ≤ k →
    tollbarlaw05_LineJoins.l2 k rest m (joinL (ts.drop i) ++ rest) ts (ts.length : Int) i = some true := by
  induction d with
  | zero =>
    intro k i hi hk
    obtain ⟨k, rfl⟩ : ∃ m, k = m + 1 := ⟨k - 1, by omega⟩
    rw [List.drop_of_length_le (by omega)]
    simp only [tollbarlaw05_LineJoins.l2]
    rw [if_neg (by omega)]
    show (tollbarref01_SameBytes.f k ([] ++ rest) rest).bind _ = _
    rw [List.nil_append, sameB_self rest (by omega) k (by omega), Option.bind_some]
  | succ d ih =>
    intro k i hi hk
    obtain ⟨k, rfl⟩ : ∃ m, k = m + 1 := ⟨k - 1, by omega⟩
    have hlt : i < ts.length := by omega
    have hp := hts _ (List.getElem_mem hlt)
    have hjl := joinL_len (ts.drop (i + 1)) (fun s hs => (hts s (List.mem_of_mem_drop hs)).1)
    have hdl : (ts.drop (i + 1)).length ≤ 20 := by rw [List.length_drop]; omega
    have ih' := ih k (i + 1) (by omega) (by omega)
    have hall : joinL (ts.drop i) ++ rest = bytesOf ts[i] ++ ([13, 10] ++ (joinL (ts.drop (i + 1)) ++ rest)) := by
      rw [List.drop_eq_getElem_cons hlt]
      simp [joinL]
    rw [hall]
    exact l2_step ts _ hp i hlt rfl rest _ (by rw [List.length_append]; omega) m hm k (by omega) (by omega) ih'
theorem joins_l1 (ts : List ByteArray) (rest : List Int) (a : Int) (acc : List Int) (s : ByteArray) (x27 : List ByteArray) (x28 x29 : Int) (hs : s.size ≤ 500) (ha : acc.length ≤ 20000) (K : Nat)
    (hR : Plain s → ∀ k, K ≤ k → tollbarlaw05_LineJoins.l0 k ts rest a (acc ++ bytesOf s ++ [13, 10]) x27 x28 (wrap64 (x29 + 1)) = some true) (d : Nat) : ∀ (k j : Nat), j + d = s.size → K + d + 1 ≤ k → (∀ x ∈ (bytesOf s).take j, x ≠ 13 ∧ x ≠ 10) →
    tollbarlaw05_LineJoins.l1 k ts rest a acc s j x27 x28 x29 = some true := by
  have hl : (bytesOf s).length = s.size := bytesOf_length s
  induction d with
  | zero =>
    intro k j hj hk hp
    obtain ⟨k, rfl⟩ : ∃ m, k = m + 1 := ⟨k - 1, by omega⟩
    rw [List.take_of_length_le (by omega)] at hp
    have := hR ⟨hs, hp⟩ k (by omega)
    simp only [tollbarlaw05_LineJoins.l1]
    rw [if_neg (by omega), if_pos (by omega), Option.bind_some, Option.bind_some, if_pos (by rw [List.length_append, hl]; simp; omega)]
    exact this
  | succ d ih =>
    intro k j hj hk hp
    obtain ⟨k, rfl⟩ : ∃ m, k = m + 1 := ⟨k - 1, by omega⟩
    have hlt : j < (bytesOf s).length := by omega
    have hg : bt s (j : Int) = (bytesOf s)[j] := by rw [← rd_bytesOf]; simp [rd, List.getD_eq_getElem?_getD, List.getElem?_eq_getElem hlt]
    have hw : wrap64 ((j : Int) + 1) = ((j + 1 : Nat) : Int) := by unfold wrap64; omega
    simp only [tollbarlaw05_LineJoins.l1]
    rw [if_pos (by omega), if_pos (by omega), hg, hw]
    by_cases h13 : (bytesOf s)[j] = 13
    · rw [if_pos h13]
    · rw [if_neg h13]
      by_cases h10 : (bytesOf s)[j] = 10
      · rw [if_pos h10]
      · rw [if_neg h10]
        refine ih k (j + 1) (by omega) (by omega) ?_
        rw [List.take_succ_eq_append_getElem hlt]
        intro x hx
        rcases List.mem_append.1 hx with hx | hx
        · exact hp x hx
        · rw [List.mem_singleton.1 hx]; exact ⟨h13, h10⟩
theorem joins_l0 (ts : List ByteArray) (hsz : ∀ s ∈ ts, s.size ≤ maxLen) (hn : ts.length ≤ 20) (rest : List Int) (hr : rest.length ≤ 1000) (a : Int) (d : Nat) : ∀ (k i : Nat), i + d = ts.length → d * 600 + 150000 ≤ k → (∀ s ∈ ts.take i, Plain s) →
    tollbarlaw05_LineJoins.l0 k ts rest a (joinL (ts.take i)) ts (ts.length : Int) i = some true := by
  induction d with
  | zero =>
    intro k i hi hk hp
    obtain ⟨k, rfl⟩ : ∃ m, k = m + 1 := ⟨k - 1, by omega⟩
    have ht : ts.take i = ts := List.take_of_length_le (by omega)
    rw [ht] at hp ⊢
    have hjl := joinL_len ts (fun s hs => (hp s hs).1)
    have h2 := joins_l2 ts hp hn rest hr (Go.bits .and .i64 a 511) (by rw [and_511]; omega) ts.length k 0 (by omega) (by omega)
    rw [show ((0 : Nat) : Int) = 0 from rfl, List.drop_zero] at h2
    simp only [tollbarlaw05_LineJoins.l0]
    rw [if_neg (by omega), if_pos (by omega)]
    exact h2
  | succ d ih =>
    intro k i hi hk hp
    obtain ⟨k, rfl⟩ : ∃ m, k = m + 1 := ⟨k - 1, by omega⟩
    have hlt : i < ts.length := by omega
    have hw : wrap64 ((i : Int) + 1) = ((i + 1 : Nat) : Int) := by unfold wrap64; omega
    have hjl := joinL_len (ts.take i) (fun s hs => (hp s hs).1)
    rw [List.length_take] at hjl
    simp only [tollbarlaw05_LineJoins.l0]
    rw [if_pos (by omega), if_pos (by omega), if_pos (by omega), rdOf_at ts i hlt]
    by_cases hc : ((ts[i]).size : Int) > 500
    · rw [if_pos hc]
    · rw [if_neg hc]
      refine joins_l1 ts rest a _ ts[i] ts _ _ (by omega) (by omega) (d * 600 + 150000) ?_ (ts[i]).size k 0 (by omega) (by omega) (by simp)
      intro hpl k' hk'
      rw [hw]
      have e : joinL (ts.take i) ++ bytesOf ts[i] ++ [13, 10] = joinL (ts.take (i + 1)) := by rw [List.take_succ_eq_append_getElem hlt, joinL_append]
      rw [e]
      refine ih k' (i + 1) (by omega) hk' ?_
      rw [List.take_succ_eq_append_getElem hlt]
      intro s hs
      rcases List.mem_append.1 hs with hs | hs
      · exact hp s hs
      · rw [List.mem_singleton.1 hs]; exact hpl
theorem LineJoins : ∀ (l0 : List ByteArray) (l1 : List Int) (a2 : Int), l0.length ≤ maxLen → (∀ s ∈ l0, s.size ≤ maxLen) → l1.length ≤ maxLen → l1.length * 1 ≤ 140737488351232 → (∀ x ∈ l1, (Lit.int .u8 x).wf = true) → (Lit.int .i64 a2).wf = true → ∃ k, tollbarlaw05_LineJoins.f k l0 l1 a2 = some true := by
  intro ts rest a _ hsz _ hr _ _
  obtain ⟨K, hK⟩ : ∃ K : Nat, K = 200000 := ⟨_, rfl⟩
  refine ⟨K + 1, ?_⟩
  unfold tollbarlaw05_LineJoins.f tollbarlaw05_cutting.f
  rw [Option.bind_some, if_pos rfl]
  by_cases h1 : (ts.length : Int) > 20
  · rw [if_pos h1]
    simp only [tollbarlaw05_LineJoins.j0]
    rfl
  · rw [if_neg h1]
    by_cases h2 : (rest.length : Int) > 1000
    · rw [decide_eq_true h2]
      simp only [tollbarlaw05_LineJoins.j0]
      rfl
    · rw [decide_eq_false h2]
      simp only [tollbarlaw05_LineJoins.j0]
      rw [if_neg (by simp)]
      exact joins_l0 ts hsz (by omega) rest (by omega) a ts.length K 0 (by omega) (by omega) (by simp)

end Go.Proofs.Ythkkkfeiklfjoaa.Pure
