/- Each function below answers as its Lean twin says; a law answers true at every input that its row speaks of. No further condition. (Laid by this repo's seatprint.py.) -/
import Derived.Test.YthkkkfeiklfjoaaDoorPx0
import Derived.Test.YthkkkfeiklfjoaaDoorFsignTrim
import Derived.Test.YthkkkfeiklfjoaaDoorFtollbarlaw02SignParts
import Derived.Test.YthkkkfeiklfjoaaDoorFtollbarlaw02texts
import Derived.Test.YthkkkfeiklfjoaaDoorQSame
import Derived.Test.YthkkkfeiklfjoaaDoorQSplit
import Derived.Test.YthkkkfeiklfjoaaDoorQTrim
namespace Go.Proofs.YthkkkfeiklfjoaaDoor.Pure
open Go.RowKit Go.Proofs.YthkkkfeiklfjoaaDoor.P Go.Proofs.YthkkkfeiklfjoaaDoorW.PrintWords Go.Proofs.YthkkkfeiklfjoaaDoorW.PrintLast Go.Proofs.YthkkkfeiklfjoaaDoorW.PrintMore
set_option linter.unusedVariables false
set_option linter.unusedSimpArgs false
theorem bt_at' (l : List UInt8) (i : Int) (h0 : 0 ≤ i) (h : i < (l.length : Int)) : bt (mkS l) i = ((l.getD i.toNat 0).toNat : Int) := by
  have hs : (mkS l).size = l.length := mkS_size l
  have hl : i.toNat < l.length := by omega
  unfold bt
  rw [dif_pos (by omega), List.getD_eq_getElem?_getD, List.getElem?_eq_getElem hl]
  have : (mkS l)[i.toNat]'(by omega) = l[i.toNat] := by simp [mkS, ByteArray.getElem_eq_getElem_data]
  rw [this]
  rfl
theorem parts_l1 (x3 x12 : List ByteArray) (x4 : ByteArray) (p : List UInt8) (x13 x14 : Int) (hp : 44 ∉ p) (hl : p.length ≤ 1048576) (h4 : x4.size ≤ 4398046511103) (K : Nat) (R : Option Bool)
    (hR : ∀ k, K ≤ k → tollbarlaw02_SignParts.l0 k x3 (x4 ++ mkS p ++ ⟨#[9, 44, 44, 32]⟩) x12 x13 (wrap64 (x14 + 1)) = R) (d : Nat) :
    ∀ (k : Nat) (j : Int), 0 ≤ j → (p.length : Int) - j = d → K + d + 1 ≤ k → tollbarlaw02_SignParts.l1 k x3 x4 (mkS p) j x12 x13 x14 = R := by
  induction d with
  | zero =>
    intro k j h0 hd hk
    obtain ⟨k, rfl⟩ : ∃ m, k = m + 1 := ⟨k - 1, by omega⟩
    have hs := mkS_size p
    simp only [tollbarlaw02_SignParts.l1]
    rw [if_neg (by omega), if_pos (by omega), if_pos (by rw [ByteArray.size_append]; omega)]
    exact hR k (by omega)
  | succ d ih =>
    intro k j h0 hd hk
    obtain ⟨k, rfl⟩ : ∃ m, k = m + 1 := ⟨k - 1, by omega⟩
    have hs := mkS_size p
    have hne : ¬ (bt (mkS p) j = 44) := by
      rw [bt_at' p j h0 (by omega)]
      intro e
      have hj : j.toNat < p.length := by omega
      rw [List.getD_eq_getElem?_getD, List.getElem?_eq_getElem hj] at e
      have e3 : (p[j.toNat].toNat : Int) = 44 := by simpa using e
      have e2 : p[j.toNat] = 44 := UInt8.toNat_inj.1 (by show _ = 44; omega)
      exact hp (e2 ▸ List.getElem_mem hj)
    have := ih k (j + 1) (by omega) (by omega) (by omega)
    simp only [tollbarlaw02_SignParts.l1]
    rw [if_pos (by omega), if_pos h0, if_neg hne, show wrap64 (j + 1) = j + 1 by unfold wrap64; omega]
    exact this
theorem comma_blank : commaParts [32] = [] := by decide +kernel
theorem comma_nil : commaParts [] = [] := by decide +kernel
theorem comma_around (p : List UInt8) (h : p ≠ []) (hc : Clean p) (hn : 44 ∉ p) : commaParts ([32] ++ p ++ [9]) = [p] := by
  rw [comma_one _ (by
    intro hm
    rcases List.mem_append.1 hm with hm | hm
    · rcases List.mem_append.1 hm with hm | hm
      · revert hm; decide
      · exact hn hm
    · revert hm; decide), trm_around [32] p [9] hc (by decide) (by decide), if_neg (by simpa using h)]
theorem parts_l0 (ps : List (List UInt8)) (hps : ∀ p ∈ ps, p ≠ [] ∧ Clean p ∧ 44 ∉ p) (hl : ∀ p ∈ ps, p.length ≤ 1048576) (hn : ps.length ≤ 1048578) (d : Nat) : ∀ (k i : Nat) (x4 : ByteArray) (y : List UInt8),
    i + d = ps.length → x4.data.toList = y ++ [44, 32] → commaParts y = ps.take i → x4.size ≤ 3 + i * 1048580 → d * 1048590 + 4398046511110 ≤ k →
    tollbarlaw02_SignParts.l0 k (ps.map mkS) x4 (ps.map mkS) (ps.length : Int) i = some true := by
  induction d with
  | zero =>
    intro k i x4 y hi hx hy hs hk
    obtain ⟨k, rfl⟩ : ∃ m, k = m + 1 := ⟨k - 1, by omega⟩
    have hsp := signSplit_f x4 (by omega) k (by omega)
    have e : commaParts x4.data.toList = ps := by
      rw [hx, show y ++ [44, 32] = y ++ 44 :: [32] from rfl, comma_append, comma_blank, hy, List.append_nil, List.take_of_length_le (by omega)]
    rw [e] at hsp
    simp only [tollbarlaw02_SignParts.l0]
    rw [if_neg (by omega), hsp, Option.bind_some, same_self _ (by rw [List.length_map]; omega) k (by rw [List.length_map]; omega), Option.bind_some]
  | succ d ih =>
    intro k i x4 y hi hx hy hs hk
    obtain ⟨k, rfl⟩ : ∃ m, k = m + 2 := ⟨k - 2, by omega⟩
    have hlt : i < ps.length := by omega
    have hmem := List.getElem_mem hlt
    have hg : ps.getD i [] = ps[i] := by rw [List.getD_eq_getElem?_getD, List.getElem?_eq_getElem hlt]; rfl
    obtain ⟨h1, h2, h3⟩ := hps _ hmem
    have h4 := hl _ hmem
    obtain ⟨p, hp⟩ : ∃ p, p = ps[i] := ⟨_, rfl⟩
    rw [← hp] at h1 h2 h3 h4
    have hrd : rdOf ByteArray.empty (ps.map mkS) (i : Int) = mkS p := by rw [rdOf_mk ps i (by omega) (by omega), Int.toNat_natCast, hg, hp]
    have htr : sign_Trim.f (mkS p) = some (mkS p) := by
      rw [Trim_f _ (by rw [mkS_size]; omega), mkS_data, trm_self h2]
      rfl
    have hw : wrap64 ((i : Int) + 1) = ((i + 1 : Nat) : Int) := by unfold wrap64; omega
    simp only [tollbarlaw02_SignParts.l0]
    rw [if_pos (by omega), if_pos (by omega), if_pos (by rw [List.length_map]; omega), hrd, mkS_toList, if_neg h1, htr, Option.bind_some, mkS_toList]
    simp only [tollbarlaw02_SignParts.j1]
    rw [if_neg (by simp)]
    refine parts_l1 _ _ x4 p _ _ h3 h4 (by omega) (d * 1048590 + 4398046511110) _ ?_ p.length k 0 (by omega) (by omega) (by omega)
    intro k' hk'
    rw [hw]
    refine ih k' (i + 1) _ (y ++ 44 :: ([32] ++ p ++ [9]) ++ 44 :: []) (by omega) ?_ ?_ ?_ hk'
    · have : (x4 ++ mkS p ++ (⟨#[9, 44, 44, 32]⟩ : ByteArray)).data.toList = x4.data.toList ++ (mkS p).data.toList ++ [9, 44, 44, 32] := by simp
      rw [this, hx, mkS_data]
      simp
    · rw [comma_append, comma_append, comma_nil, comma_around p h1 h2 h3, hy, List.take_succ_eq_append_getElem hlt, hp, List.append_nil]
    · rw [ByteArray.size_append, ByteArray.size_append, mkS_size]
      show x4.size + p.length + 4 ≤ _
      omega
theorem comma_len (l : List UInt8) : ∀ p ∈ commaParts l, p.length ≤ l.length := by
  intro p hp
  rw [commaParts, List.mem_filter] at hp
  obtain ⟨q, hq, rfl⟩ := List.mem_map.1 hp.1
  have := pieces_le l q hq
  have := trm_length q
  omega
theorem SignPartsU : ∀ (a0 : ByteArray), a0.size ≤ 1048576 → ∃ k, tollbarlaw02_SignParts.f k a0 = some true := by
  intro s hs
  obtain ⟨K, hK⟩ : ∃ K : Nat, K = 1048578 * 1048590 + 4398046511110 + 100 := ⟨_, rfl⟩
  refine ⟨K, ?_⟩
  have hlen : (commaParts s.data.toList).length ≤ 1048577 := by
    have h1 : (commaParts s.data.toList).length ≤ ((pieces s.data.toList).map trm).length := List.length_filter_le _ _
    rw [List.length_map, pieces_length] at h1
    have h2 := cnt_le s.data.toList
    rw [data_length] at h2
    omega
  have htx : tollbarlaw02_texts.f K = some true := at_rounds (fun k => tollbarlaw02_texts.mono k) (show 40 ≤ K by omega) (by kernel_rfl)
  unfold tollbarlaw02_SignParts.f
  rw [htx, Option.bind_some, if_pos rfl, signSplit_f s (by omega) K (by omega), Option.bind_some, List.length_map]
  exact parts_l0 _ (comma_part _) (fun p hp => by have := comma_len _ p hp; rw [data_length] at this; omega) (by omega) (commaParts s.data.toList).length K 0 _ [32] (by omega) (by decide) (by rw [comma_blank]; rfl) (by decide) (by omega)

end Go.Proofs.YthkkkfeiklfjoaaDoor.Pure
