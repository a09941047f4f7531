/- Each function below answers as its Lean twin says; a law answers true at every input that its row speaks of. No further condition. (Laid by this repo's seatprint.py.) -/
import Derived.Test.YthkkkfeiklfjoaaDoorPx0
import Derived.Test.YthkkkfeiklfjoaaDoorFsignSplit
import Derived.Test.YthkkkfeiklfjoaaDoorFstringsCount
import Derived.Test.YthkkkfeiklfjoaaDoorFstringsIndex
import Derived.Test.YthkkkfeiklfjoaaDoorFstringsSplit
import Derived.Test.YthkkkfeiklfjoaaDoorFstringsgenSplit
import Derived.Test.YthkkkfeiklfjoaaDoorQBytes
import Derived.Test.YthkkkfeiklfjoaaDoorQTrim
import Derived.Lib.IndexBytes
namespace Go.Proofs.YthkkkfeiklfjoaaDoor.Pure
open Go.RowKit Go.Proofs.YthkkkfeiklfjoaaDoor.P Go.Proofs.YthkkkfeiklfjoaaDoorW.PrintWords Go.Proofs.YthkkkfeiklfjoaaDoorW.PrintLast Go.Proofs.YthkkkfeiklfjoaaDoorW.PrintMore
set_option linter.unusedVariables false
set_option linter.unusedSimpArgs false
def mkS (l : List UInt8) : ByteArray := ⟨l.toArray⟩
theorem mkS_data (l : List UInt8) : (mkS l).data.toList = l := by simp [mkS]
theorem mkS_self (s : ByteArray) : mkS s.data.toList = s := by simp [mkS]
theorem mkS_size (l : List UInt8) : (mkS l).size = l.length := by rw [← data_length, mkS_data]
theorem mkS_toList (l : List UInt8) : (mkS l).toList = l := by rw [toList_data, mkS_data]
theorem mkS_empty : mkS [] = ByteArray.empty := rfl
theorem wn (n : Nat) (c : Nat) (h : n ≤ 4398046511104) (hc : c ≤ 4) : wrap64 ((n : Int) + (c : Int)) = (n : Int) + (c : Int) := by unfold wrap64; omega
theorem wn0 (n : Nat) (h : n ≤ 4398046511104) : wrap64 ((n : Int) + 0) = (n : Int) := by unfold wrap64; omega
theorem wn1 (n : Nat) (h : n ≤ 4398046511104) : wrap64 ((n : Int) + 1) = (n : Int) + 1 := by unfold wrap64; omega
theorem wnm (n : Nat) (h : n ≤ 4398046511104) : wrap64 ((n : Int) + 1 - 1) = (n : Int) := by unfold wrap64; omega
theorem wi1 (i : Int) (h0 : 0 ≤ i) (h : i ≤ 4398046511104) : wrap64 (i + 1) = i + 1 := by unfold wrap64; omega
/-- How many commas. -/
def cnt : List UInt8 → Nat
  | [] => 0
  | c :: l => if c = 44 then cnt l + 1 else cnt l
theorem cnt_count (l : List UInt8) : l.count 44 = cnt l := by
  induction l with
  | nil => rfl
  | cons c l ih => rw [List.count_cons, ih]; by_cases hc : c = 44 <;> simp [cnt, hc]
theorem cnt_append (a b : List UInt8) : cnt (a ++ b) = cnt a + cnt b := by
  rw [← cnt_count, ← cnt_count, ← cnt_count, List.count_append]
theorem cnt_none (l : List UInt8) : cnt l = 0 ↔ 44 ∉ l := by rw [← cnt_count]; exact List.count_eq_zero
theorem cnt_le (l : List UInt8) : cnt l ≤ l.length := by rw [← cnt_count]; exact List.count_le_length
/-- The parts between commas. -/
def pieces : List UInt8 → List (List UInt8)
  | [] => [[]]
  | c :: l => if c = 44 then [] :: pieces l else (match pieces l with | p :: ps => (c :: p) :: ps | [] => [[c]])
theorem pieces_ne (l : List UInt8) : ∃ p ps, pieces l = p :: ps := by
  induction l with
  | nil => exact ⟨[], [], rfl⟩
  | cons c l ih =>
    obtain ⟨p, ps, h⟩ := ih
    by_cases hc : c = 44
    · exact ⟨[], pieces l, by simp [pieces, hc]⟩
    · exact ⟨c :: p, ps, by simp [pieces, hc, h]⟩
theorem pieces_none (l : List UInt8) (h : 44 ∉ l) : pieces l = [l] := by
  induction l with
  | nil => rfl
  | cons c l ih =>
    have hc : c ≠ 44 := fun e => h (e ▸ List.mem_cons_self ..)
    simp [pieces, hc, ih (fun e => h (List.mem_cons_of_mem _ e))]
theorem pieces_append (a b : List UInt8) : pieces (a ++ 44 :: b) = pieces a ++ pieces b := by
  induction a with
  | nil => simp [pieces]
  | cons c a ih =>
    by_cases hc : c = 44
    · simp [pieces, hc, ih]
    · obtain ⟨p, ps, hp⟩ := pieces_ne a
      simp [pieces, hc, ih, hp]
theorem pieces_length (l : List UInt8) : (pieces l).length = cnt l + 1 := by
  induction l with
  | nil => rfl
  | cons c l ih =>
    by_cases hc : c = 44
    · simp [pieces, cnt, hc, ih]
    · obtain ⟨p, ps, hp⟩ := pieces_ne l
      rw [hp] at ih
      simp only [pieces, hc, if_false, hp, cnt]
      simpa using ih
theorem pieces_no (l : List UInt8) : ∀ p ∈ pieces l, 44 ∉ p := by
  induction l with
  | nil => intro p hp; simp [pieces] at hp; simp [hp]
  | cons c l ih =>
    intro p hp
    by_cases hc : c = 44
    · simp only [pieces, hc, if_true] at hp
      rcases List.mem_cons.1 hp with rfl | hp
      · simp
      · exact ih p hp
    · obtain ⟨q, qs, hq⟩ := pieces_ne l
      simp only [pieces, hc, if_false, hq] at hp
      rcases List.mem_cons.1 hp with rfl | hp
      · intro h
        rcases List.mem_cons.1 h with h | h
        · exact hc h.symm
        · exact ih q (by rw [hq]; exact List.mem_cons_self ..) h
      · exact ih p (by rw [hq]; exact List.mem_cons_of_mem _ hp)
/-- The parts of a list: trimmed, the empty ones left out. -/
def commaParts (l : List UInt8) : List (List UInt8) := ((pieces l).map trm).filter (fun p => !p.isEmpty)
theorem comma_append (a b : List UInt8) : commaParts (a ++ 44 :: b) = commaParts a ++ commaParts b := by
  simp [commaParts, pieces_append]
theorem comma_one (l : List UInt8) (h : 44 ∉ l) : commaParts l = if (trm l).isEmpty then [] else [trm l] := by
  rw [commaParts, pieces_none l h]
  cases ht : (trm l).isEmpty <;> simp [ht]
theorem comma_part (l : List UInt8) : ∀ p ∈ commaParts l, p ≠ [] ∧ Clean p ∧ 44 ∉ p := by
  intro p hp
  rw [commaParts, List.mem_filter] at hp
  obtain ⟨hm, hne⟩ := hp
  obtain ⟨q, hq, rfl⟩ := List.mem_map.1 hm
  refine ⟨fun e => by rw [e] at hne; simp at hne, trm_clean q, fun h => pieces_no l q hq ?_⟩
  have h1 : (trm q).Sublist q := by
    unfold trm
    refine (List.dropWhile_suffix _).sublist.trans ?_
    have h2 := (List.dropWhile_suffix (p := blk) (l := q.reverse)).sublist.reverse
    rwa [List.reverse_reverse] at h2
  exact h1.subset h
theorem index_split (l : List UInt8) (h : 0 < cnt l) : ∃ a b, l = a ++ 44 :: b ∧ 44 ∉ a ∧ Lib.indexByte l 44 = a.length := by
  induction l with
  | nil => simp [cnt] at h
  | cons c l ih =>
    by_cases hc : c = 44
    · exact ⟨[], l, by simp [hc], by simp, by simp [Lib.indexByte, hc]⟩
    · have h' : 0 < cnt l := by simpa [cnt, hc] using h
      obtain ⟨a, b, h1, h2, h3⟩ := ih h'
      refine ⟨c :: a, b, by simp [h1], ?_, ?_⟩
      · intro hm
        rcases List.mem_cons.1 hm with e | e
        · exact hc e.symm
        · exact h2 e
      · have hb : (c == 44) = false := by simpa using hc
        have hn : ((a.length : Int) == -1) = false := by simp only [beq_eq_false_iff_ne]; omega
        simp [Lib.indexByte, hb, h3, hn]
theorem gs_end (k : Nat) (s : ByteArray) (x3 : Int) (x9 : List ByteArray) (i : Nat) (hc : 44 ∉ s.data.toList) (hx : x3 = i) (hl : x9.length = i + 1) (hi : i ≤ 4398046511104) :
    strings_genSplit.l0 (k + 1) s ⟨#[44]⟩ 0 x3 x9 i = some (x9.take i ++ (pieces s.data.toList).map mkS) := by
  simp only [strings_genSplit.l0]
  rw [if_neg (by omega), if_pos (by omega), if_pos (by omega), wn1 i hi, if_pos (by omega), if_pos (by omega), pieces_none _ hc]
  have e1 : ((i : Int) + 1).toNat = i + 1 := by omega
  rw [e1, Int.toNat_natCast, List.take_succ_eq_append_getElem (by rw [List.length_set]; omega), List.take_set_of_le (Nat.le_refl _)]
  simp [mkS_self]
theorem extract_mid (s : ByteArray) (a b : List UInt8) (hab : s.data.toList = a ++ 44 :: b) : (s.extract (a.length + 1) s.size).data.toList = b ∧ s.extract 0 a.length = mkS a ∧ (s.extract (a.length + 1) s.size).size ≤ s.size := by
  have e2 : (s.extract (a.length + 1) s.size).data.toList = b := by
    rw [Lib.extract_to_end, hab, ← List.drop_drop, List.drop_left]; rfl
  refine ⟨e2, ?_, ?_⟩
  · have : (s.extract 0 a.length).data.toList = a := by
      rw [Lib.extract_data, hab, List.drop_zero, Nat.sub_zero, List.take_left]
    rw [← mkS_self (s.extract 0 _), this]
  · have hlen : a.length + b.length + 1 = s.size := by rw [← data_length, hab]; simp; omega
    rw [← data_length, e2]
    omega
theorem gs_step (k : Nat) (s : ByteArray) (x3 : Int) (x9 : List ByteArray) (i : Nat) (a b : List UInt8) (hab : s.data.toList = a ++ 44 :: b) (hidx : Lib.indexByte s.data.toList 44 = a.length) (hx : (i : Int) < x3) (hl : i < x9.length) (hs : s.size ≤ 4398046511104) (hi : i ≤ 4398046511104) :
    ∀ R, strings_genSplit.l0 k (s.extract (a.length + 1) s.size) ⟨#[44]⟩ 0 x3 (x9.set i (mkS a)) ((i : Int) + 1) = R → strings_genSplit.l0 (k + 1) s ⟨#[44]⟩ 0 x3 x9 i = R := by
  intro R hR
  have hlen : a.length + b.length + 1 = s.size := by rw [← data_length, hab]; simp; omega
  have hix : strings_Index.f s ⟨#[44]⟩ = some (a.length : Int) := by
    show some (Lib.indexByte s.data.toList 44) = _
    rw [hidx]
  have hs1 : ((⟨#[44]⟩ : ByteArray).size : Int) = 1 := rfl
  have e1 : ((a.length : Int) + 1).toNat = a.length + 1 := by omega
  obtain ⟨_, e3, _⟩ := extract_mid s a b hab
  simp only [strings_genSplit.l0]
  rw [if_pos hx, hix]
  rw [Option.bind_some]
  rw [if_neg (by omega), wn0 _ (by omega), hs1, wn1 _ (by omega), if_pos (by omega), if_pos (by omega), if_pos (by omega), if_pos (by omega), if_pos (by omega), if_pos (by omega), wn1 i hi, e1, Int.toNat_natCast, Int.toNat_natCast, e3]
  exact hR
theorem gs_l0 (d : Nat) : ∀ (k : Nat) (s : ByteArray) (x3 : Int) (x9 : List ByteArray) (i : Nat), cnt s.data.toList = d → x3 = i + d → x9.length = i + d + 1 → d + 1 ≤ k → s.size ≤ 4398046511104 →
    i + d ≤ 4398046511104 → strings_genSplit.l0 k s ⟨#[44]⟩ 0 x3 x9 i = some (x9.take i ++ (pieces s.data.toList).map mkS) := by
  induction d with
  | zero =>
    intro k s x3 x9 i hc hx hl hk hs hid
    obtain ⟨k, rfl⟩ : ∃ m, k = m + 1 := ⟨k - 1, by omega⟩
    exact gs_end k s x3 x9 i ((cnt_none _).1 hc) (by omega) (by omega) (by omega)
  | succ d ih =>
    intro k s x3 x9 i hc hx hl hk hs hid
    obtain ⟨k, rfl⟩ : ∃ m, k = m + 1 := ⟨k - 1, by omega⟩
    obtain ⟨a, b, hab, ha, hidx⟩ := index_split s.data.toList (by omega)
    obtain ⟨e2, _, e4⟩ := extract_mid s a b hab
    have hcb : cnt b = d := by
      rw [hab, cnt_append, (cnt_none a).2 ha] at hc
      simp only [cnt, if_true] at hc
      omega
    refine gs_step k s x3 x9 i a b hab hidx (by omega) (by omega) hs (by omega) _ ?_
    have := ih k (s.extract (a.length + 1) s.size) x3 (x9.set i (mkS a)) (i + 1) (by rw [e2]; exact hcb) (by omega) (by rw [List.length_set]; omega) (by omega) (by omega) (by omega)
    rw [show (((i + 1 : Nat)) : Int) = (i : Int) + 1 by omega] at this
    rw [this, e2, hab, pieces_append, pieces_none a ha, List.take_succ_eq_append_getElem (by rw [List.length_set]; omega), List.take_set_of_le (Nat.le_refl _)]
    simp
theorem gs_first (k : Nat) (s : ByteArray) (hs : s.size ≤ 4398046511103) :
    ∀ R, strings_genSplit.l0 k s ⟨#[44]⟩ 0 ((cnt s.data.toList : Nat) : Int) (List.replicate (cnt s.data.toList + 1) (⟨#[]⟩ : ByteArray)) 0 = R → strings_genSplit.f (k + 1) s ⟨#[44]⟩ 0 (-1) = R := by
  intro R hR
  have hcl := cnt_le s.data.toList
  rw [data_length] at hcl
  have hcf : strings_Count.f s ⟨#[44]⟩ = some ((cnt s.data.toList : Nat) : Int) := by
    rw [← cnt_count]; rfl
  obtain ⟨c, hc⟩ : ∃ c, c = cnt s.data.toList := ⟨_, rfl⟩
  rw [← hc] at hcf hcl hR
  have hm : mn ((c : Int) + 1) ((s.size : Int) + 1) = (c : Int) + 1 := by unfold mn; split <;> omega
  have e1 : ((c : Int) + 1).toNat = c + 1 := by omega
  have hne : ¬ ((⟨#[44]⟩ : ByteArray).toList = []) := by rw [toList_data]; simp
  unfold strings_genSplit.f
  rw [if_neg (by decide), if_neg hne, if_pos (by decide), hcf]
  rw [Option.bind_some]
  simp only [strings_genSplit.j0]
  rw [wn1 c (by omega), wn1 s.size (by omega), hm, wnm c (by omega), e1, if_pos (by omega), if_pos (by omega)]
  exact hR
theorem Split_f (s : ByteArray) (hs : s.size ≤ 4398046511103) (k : Nat) (hk : s.size + 3 ≤ k) : strings_Split.f k s ⟨#[44]⟩ = some ((pieces s.data.toList).map mkS) := by
  obtain ⟨k, rfl⟩ : ∃ m, k = m + 1 := ⟨k - 1, by omega⟩
  have hcl := cnt_le s.data.toList
  rw [data_length] at hcl
  unfold strings_Split.f
  have := gs_l0 (cnt s.data.toList) k s ((cnt s.data.toList : Nat) : Int) (List.replicate (cnt s.data.toList + 1) (⟨#[]⟩ : ByteArray)) 0 rfl (by omega) (by rw [List.length_replicate]; omega) (by omega) (by omega) (by omega)
  rw [show ((0 : Nat) : Int) = 0 from rfl] at this
  rw [gs_first k s hs _ this]
  simp
theorem rdOf_mk (ps : List (List UInt8)) (i : Int) (h0 : 0 ≤ i) (h : i < (ps.length : Int)) : rdOf ByteArray.empty (ps.map mkS) i = mkS (ps.getD i.toNat []) := by
  unfold rdOf
  rw [List.getD_eq_getElem?_getD, List.getElem?_map, List.getD_eq_getElem?_getD, List.getElem?_eq_getElem (by omega)]
  rfl
theorem split_step (ps : List (List UInt8)) (i : Int) (h0 : 0 ≤ i) (hlt : i < (ps.length : Int)) : ((ps.drop i.toNat).map trm).filter (fun p => !p.isEmpty) = (if trm (ps.getD i.toNat []) = [] then [] else [trm (ps.getD i.toNat [])]) ++ ((ps.drop (i + 1).toNat).map trm).filter (fun p => !p.isEmpty) := by
  have hl : i.toNat < ps.length := by omega
  have hg : ps.getD i.toNat [] = ps[i.toNat] := by rw [List.getD_eq_getElem?_getD, List.getElem?_eq_getElem hl]; rfl
  rw [hg, List.drop_eq_getElem_cons hl, show (i + 1).toNat = i.toNat + 1 by omega, List.map_cons, List.filter_cons]
  by_cases he : trm ps[i.toNat] = []
  · rw [if_pos he, he]; rfl
  · rw [if_neg he, if_pos (by simpa using he)]; rfl
theorem split_l0 (ps : List (List UInt8)) (hl : ∀ p ∈ ps, p.length ≤ 4398046511104) (hn : ps.length ≤ 4398046511104) (d : Nat) : ∀ (k : Nat) (out : List ByteArray) (i : Int), 0 ≤ i → (ps.length : Int) - i = d → d + 1 ≤ k → (out.length : Int) ≤ i →
    sign_Split.l0 k out (ps.map mkS) (ps.length : Int) i = some (out ++ (((ps.drop i.toNat).map trm).filter (fun p => !p.isEmpty)).map mkS) := by
  induction d with
  | zero =>
    intro k out i h0 hd hk ho
    obtain ⟨k, rfl⟩ : ∃ m, k = m + 1 := ⟨k - 1, by omega⟩
    simp only [sign_Split.l0]
    rw [if_neg (by omega), List.drop_of_length_le (by omega)]
    simp
  | succ d ih =>
    intro k out i h0 hd hk ho
    obtain ⟨k, rfl⟩ : ∃ m, k = m + 1 := ⟨k - 1, by omega⟩
    have hlt : i.toNat < ps.length := by omega
    have hg : ps.getD i.toNat [] = ps[i.toNat] := by rw [List.getD_eq_getElem?_getD, List.getElem?_eq_getElem hlt]; rfl
    have hlp := hl _ (List.getElem_mem hlt)
    rw [← hg] at hlp
    rw [split_step ps i h0 (by omega)]
    simp only [sign_Split.l0]
    rw [if_pos (by omega), if_pos h0, if_pos (by rw [List.length_map]; omega), rdOf_mk ps i h0 (by omega), Trim_f _ (by rw [mkS_size]; omega), mkS_data]
    simp only [Option.bind_some, wi1 i h0 (by omega)]
    rw [show (⟨(trm (ps.getD i.toNat [])).toArray⟩ : ByteArray) = mkS (trm (ps.getD i.toNat [])) from rfl, mkS_toList]
    by_cases he : trm (ps.getD i.toNat []) = []
    · rw [if_pos he, if_pos he, ih k out (i + 1) (by omega) (by omega) (by omega) (by omega)]
      rfl
    · rw [if_neg he, if_neg he, if_pos (by omega), ih k _ (i + 1) (by omega) (by omega) (by omega) (by rw [List.length_append]; simp; omega)]
      simp only [List.map_append, List.map_cons, List.map_nil, List.append_assoc]
theorem pieces_le (l : List UInt8) : ∀ p ∈ pieces l, p.length ≤ l.length := by
  induction l with
  | nil => intro p hp; simp [pieces] at hp; simp [hp]
  | cons c l ih =>
    intro p hp
    by_cases hc : c = 44
    · simp only [pieces, hc, if_true] at hp
      rcases List.mem_cons.1 hp with rfl | hp
      · simp
      · have := ih p hp; simp; omega
    · obtain ⟨q, qs, hq⟩ := pieces_ne l
      simp only [pieces, hc, if_false, hq] at hp
      rcases List.mem_cons.1 hp with rfl | hp
      · have := ih q (by rw [hq]; exact List.mem_cons_self ..); simp; omega
      · have := ih p (by rw [hq]; exact List.mem_cons_of_mem _ hp); simp; omega
/-- What Split tells. -/
theorem signSplit_f (s : ByteArray) (hs : s.size ≤ 4398046511103) (k : Nat) (hk : s.size + 3 ≤ k) : sign_Split.f k s = some ((commaParts s.data.toList).map mkS) := by
  unfold sign_Split.f
  have hpl := pieces_length s.data.toList
  have hcl := cnt_le s.data.toList
  rw [data_length] at hcl
  rw [Split_f s hs k hk]
  simp only [Option.bind_some, List.length_map]
  rw [split_l0 (pieces s.data.toList) (fun p hp => by have := pieces_le _ p hp; rw [data_length] at this; omega) (by omega) (pieces s.data.toList).length k [] 0 (by omega) (by omega) (by omega) (by simp)]
  rfl

end Go.Proofs.YthkkkfeiklfjoaaDoor.Pure
