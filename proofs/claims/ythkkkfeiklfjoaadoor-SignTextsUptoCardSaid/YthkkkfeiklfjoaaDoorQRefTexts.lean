/- Each function below answers as its Lean twin says; a law answers true at every input that its row speaks of. No further condition. (Laid by this repo's seatprint.py.) -/
import Derived.Test.YthkkkfeiklfjoaaDoorPx0
import Derived.Test.YthkkkfeiklfjoaaDoorFtollbarref02Split
import Derived.Test.YthkkkfeiklfjoaaDoorFtollbarref02Trim
import Derived.Test.YthkkkfeiklfjoaaDoorFtollbarref02blank
import Derived.Test.YthkkkfeiklfjoaaDoorQSplit
import Derived.Test.YthkkkfeiklfjoaaDoorQTrim
namespace Go.Proofs.YthkkkfeiklfjoaaDoor.Pure
open Go.RowKit Go.Proofs.YthkkkfeiklfjoaaDoor.P Go.Proofs.YthkkkfeiklfjoaaDoorW.PrintWords Go.Proofs.YthkkkfeiklfjoaaDoorW.PrintLast Go.Proofs.YthkkkfeiklfjoaaDoorW.PrintMore
set_option linter.unusedVariables false
set_option linter.unusedSimpArgs false
theorem bt_mk (l : List UInt8) (i : Nat) (h : i < l.length) : bt (mkS l) i = ((l[i]).toNat : Int) := by
  unfold bt
  have hs : (mkS l).size = l.length := mkS_size l
  rw [dif_pos (by rw [Int.toNat_natCast]; omega)]
  have : (mkS l)[((i : Nat) : Int).toNat]'(by rw [Int.toNat_natCast]; omega) = l[i] := by simp [mkS, ByteArray.getElem_eq_getElem_data]
  rw [this]
theorem blank_tells (b : UInt8) : tollbarref02_blank.f (b.toNat : Int) = some (blk b) := by
  have h : ∀ n : Fin 256, tollbarref02_blank.f (n.val : Int) = some (blk (UInt8.ofNat n.val)) := by decide +kernel
  have := h ⟨b.toNat, b.toNat_lt⟩
  rw [this]
  congr 2
  exact UInt8.ofNat_toNat
theorem mkS_extract (l : List UInt8) (a b : Nat) : (mkS l).extract a b = mkS ((l.drop a).take (b - a)) := by
  rw [← mkS_self ((mkS l).extract a b), Lib.extract_data, mkS_data]
theorem trimR_ref (d : Nat) : ∀ (k : Nat) (x : List UInt8), x.length = d → x.length ≤ 4398046511104 → d + 1 ≤ k → (∀ a, x.head? = some a → blk a = false) →
    ∃ r post, tollbarref02_Trim.l1 k (mkS x) = some (mkS r) ∧ x = r ++ post ∧ Clean r ∧ ∀ a ∈ post, blk a = true := by
  induction d with
  | zero =>
    intro k x hx hn hk hh
    obtain ⟨k, rfl⟩ : ∃ m, k = m + 1 := ⟨k - 1, by omega⟩
    obtain rfl : x = [] := List.eq_nil_of_length_eq_zero hx
    refine ⟨[], [], ?_, rfl, ⟨by simp, by simp⟩, by simp⟩
    simp only [tollbarref02_Trim.l1]
    rw [if_neg (by rw [mkS_size]; simp)]
  | succ d ih =>
    intro k x hx hn hk hh
    obtain ⟨k, rfl⟩ : ∃ m, k = m + 1 := ⟨k - 1, by omega⟩
    obtain ⟨y, b, rfl⟩ : ∃ y b, x = y ++ [b] := ⟨x.dropLast, x.getLast (by intro e; simp [e] at hx), (List.dropLast_concat_getLast _).symm⟩
    have hy : y.length = d := by simpa using hx
    have hs : (mkS (y ++ [b])).size = d + 1 := by rw [mkS_size]; simp [hy]
    have hw : wrap64 (((d + 1 : Nat) : Int) - 1) = ((d : Nat) : Int) := by unfold wrap64; omega
    have hb : bt (mkS (y ++ [b])) ((d : Nat) : Int) = (b.toNat : Int) := by
      rw [bt_mk _ d (by simp; omega)]
      simp [← hy]
    have hex : (mkS (y ++ [b])).extract 0 d = mkS y := by
      rw [mkS_extract, List.drop_zero, Nat.sub_zero, ← hy, List.take_left]
    simp only [tollbarref02_Trim.l1]
    rw [hs, if_pos (by omega), hw, if_pos (by omega), if_pos (by omega), hb, blank_tells, Option.bind_some, Int.toNat_natCast, hex]
    cases hbl : blk b
    · rw [if_neg (by simp)]
      exact ⟨y ++ [b], [], rfl, by simp, ⟨hh, by intro a ha; simp at ha; rw [← ha]; exact hbl⟩, by simp⟩
    · rw [if_pos rfl, if_pos (by omega)]
      obtain ⟨r, post, h1, h2, h3, h4⟩ := ih k y hy (by omega) (by omega) (by
        intro a ha
        refine hh a ?_
        rw [List.head?_append, ha]
        rfl)
      refine ⟨r, post ++ [b], h1, by rw [h2]; simp, h3, fun a ha => ?_⟩
      rcases List.mem_append.1 ha with ha | ha
      · exact h4 a ha
      · rw [List.mem_singleton.1 ha]; exact hbl
theorem trimL_ref (n : Nat) (hn : n ≤ 4398046511104) (d : Nat) : ∀ (k : Nat) (x : List UInt8), x.length = d → d ≤ n → d + n + 4 ≤ k →
    ∃ r pre post, tollbarref02_Trim.l0 k (mkS x) = some (mkS r) ∧ x = pre ++ r ++ post ∧ Clean r ∧ (∀ a ∈ pre, blk a = true) ∧ ∀ a ∈ post, blk a = true := by
  induction d with
  | zero =>
    intro k x hx hd hk
    obtain ⟨k, rfl⟩ : ∃ m, k = m + 2 := ⟨k - 2, by omega⟩
    obtain rfl : x = [] := List.eq_nil_of_length_eq_zero hx
    obtain ⟨r, post, h1, h2, h3, h4⟩ := trimR_ref 0 k [] rfl (by simp) (by omega) (by simp)
    refine ⟨r, [], post, ?_, by simpa using h2, h3, by simp, h4⟩
    simp only [tollbarref02_Trim.l0]
    rw [if_neg (by rw [mkS_size]; simp)]
    simp only [tollbarref02_Trim.j1]
    exact h1
  | succ d ih =>
    intro k x hx hd hk
    obtain ⟨k, rfl⟩ : ∃ m, k = m + 2 := ⟨k - 2, by omega⟩
    obtain ⟨b, y, rfl⟩ : ∃ b y, x = b :: y := by
      cases x with
      | nil => simp at hx
      | cons b y => exact ⟨b, y, rfl⟩
    have hy : y.length = d := by simpa using hx
    have hs : (mkS (b :: y)).size = d + 1 := by rw [mkS_size]; simp [hy]
    have hb : bt (mkS (b :: y)) 0 = (b.toNat : Int) := bt_mk (b :: y) 0 (by simp)
    have hex : (mkS (b :: y)).extract 1 (d + 1) = mkS y := by
      rw [mkS_extract]
      simp [← hy]
    simp only [tollbarref02_Trim.l0]
    rw [hs, if_pos (by omega), if_pos (by omega), hb, blank_tells, Option.bind_some]
    cases hbl : blk b
    · rw [if_neg (by simp)]
      obtain ⟨r, post, h1, h2, h3, h4⟩ := trimR_ref (d + 1) k (b :: y) hx (by omega) (by omega) (by intro a ha; simp at ha; rw [← ha]; exact hbl)
      refine ⟨r, [], post, ?_, by simpa using h2, h3, by simp, h4⟩
      simp only [tollbarref02_Trim.j1]
      exact h1
    · rw [if_pos rfl, if_pos (by omega), hex]
      obtain ⟨r, pre, post, h1, h2, h3, h4, h5⟩ := ih (k + 1) y hy (by omega) (by omega)
      refine ⟨r, b :: pre, post, h1, by rw [h2]; simp, h3, fun a ha => ?_, h5⟩
      rcases List.mem_cons.1 ha with rfl | ha
      · exact hbl
      · exact h4 a ha
theorem refTrim_f (x : List UInt8) (hn : x.length ≤ 4398046511104) (k : Nat) (hk : 2 * x.length + 4 ≤ k) : tollbarref02_Trim.f k (mkS x) = some (mkS (trm x)) := by
  obtain ⟨r, pre, post, h1, h2, h3, h4, h5⟩ := trimL_ref x.length hn x.length k x rfl (Nat.le_refl _) (by omega)
  unfold tollbarref02_Trim.f
  rw [h1, h2, trm_around pre r post h3 h4 h5]
theorem seg_split (l : List UInt8) (f i : Nat) (h : f ≤ i) (hi : i < l.length) : l.drop f = (l.drop f).take (i - f) ++ l[i] :: l.drop (i + 1) ∧ (l.drop f).take (i + 1 - f) = (l.drop f).take (i - f) ++ [l[i]] := by
  have e1 : (l.drop f).drop (i - f) = l.drop i := by rw [List.drop_drop]; congr 1; omega
  have e2 : l.drop i = l[i] :: l.drop (i + 1) := List.drop_eq_getElem_cons hi
  refine ⟨?_, ?_⟩
  · rw [← e2, ← e1, List.take_append_drop]
  · have hl : i - f < (l.drop f).length := by rw [List.length_drop]; omega
    rw [show i + 1 - f = i - f + 1 by omega, List.take_succ_eq_append_getElem hl]
    congr 2
    rw [List.getElem_drop]
    congr 1
    omega
/-- One part ends: what is told of it. -/
theorem part_ends (out : List ByteArray) (seg : List UInt8) (h : 44 ∉ seg) (ho : out.length < 8796093022208) (R : List ByteArray → Option (List ByteArray)) :
    (if (mkS (trm seg)).toList = ([] : List UInt8) then R out else (if out.length < 8796093022208 then R (out ++ [mkS (trm seg)]) else none)) = R (out ++ (commaParts seg).map mkS) := by
  rw [comma_one seg h, mkS_toList]
  by_cases he : trm seg = []
  · rw [if_pos he, if_pos (by simpa using he)]; simp
  · rw [if_neg he, if_pos ho, if_neg (by simpa using he)]; rfl
theorem refSplit_l0 (l : List UInt8) (hn : l.length ≤ 1048580) (d : Nat) : ∀ (k : Nat) (out : List ByteArray) (f i : Nat), f ≤ i → i + d = l.length → 44 ∉ (l.drop f).take (i - f) → out.length ≤ 2 * i → 3 * d + 2 * l.length + 20 ≤ k →
    tollbarref02_Split.l0 k (mkS l) out f i = some (out ++ (commaParts (l.drop f)).map mkS) := by
  induction d with
  | zero =>
    intro k out f i hf hi hs ho hk
    obtain ⟨k, rfl⟩ : ∃ m, k = m + 3 := ⟨k - 3, by omega⟩
    have hz : (mkS l).size = l.length := mkS_size l
    have hw : wrap64 ((i : Int) + 1) = (i : Int) + 1 := wn1 i (by omega)
    have ht : (l.drop f).take (i - f) = l.drop f := List.take_of_length_le (by rw [List.length_drop]; omega)
    have hend : ∀ o : List ByteArray, tollbarref02_Split.l0 (k + 1) (mkS l) o ((i : Int) + 1) ((i : Int) + 1) = some o := by
      intro o
      simp only [tollbarref02_Split.l0]
      rw [if_neg (by omega)]
    simp only [tollbarref02_Split.l0]
    rw [hz, if_pos (by omega), if_pos (by omega)]
    simp only [tollbarref02_Split.j1]
    rw [if_pos trivial, if_pos (by omega), if_pos (by omega), hz, if_pos (by omega), Int.toNat_natCast, Int.toNat_natCast, mkS_extract, refTrim_f _ (by rw [List.length_take, List.length_drop]; omega) _ (by rw [List.length_take, List.length_drop]; omega), Option.bind_some, hw, hend, hend]
    rw [ht] at hs ⊢
    exact part_ends out _ hs (by omega) (fun o => some o)
  | succ d ih =>
    intro k out f i hf hi hs ho hk
    obtain ⟨k, rfl⟩ : ∃ m, k = m + 2 := ⟨k - 2, by omega⟩
    have hlt : i < l.length := by omega
    have hz : (mkS l).size = l.length := mkS_size l
    have hw : wrap64 ((i : Int) + 1) = ((i + 1 : Nat) : Int) := by rw [wn1 i (by omega)]; omega
    obtain ⟨e1, e2⟩ := seg_split l f i hf hlt
    have ih1 := fun o (h : o.length ≤ 2 * (i + 1)) => ih k o (i + 1) (i + 1) (Nat.le_refl _) (by omega) (by simp) h (by omega)
    have ih2 := fun h => ih k out f (i + 1) (by omega) (by omega) h (by omega) (by omega)
    simp only [tollbarref02_Split.l0]
    rw [hz, if_pos (by omega), if_neg (by omega), if_pos (by omega), if_pos (by omega), bt_mk l i hlt]
    simp only [tollbarref02_Split.j1]
    by_cases hc : l[i] = 44
    · have hb : (((l[i]).toNat : Int) == 44) = true := by rw [hc]; rfl
      rw [hb, if_pos rfl, if_pos (by omega), if_pos (by omega), hz, if_pos (by omega), Int.toNat_natCast, Int.toNat_natCast, mkS_extract, refTrim_f _ (by rw [List.length_take, List.length_drop]; omega) _ (by rw [List.length_take, List.length_drop]; omega), Option.bind_some, hw]
      have hp := part_ends out ((l.drop f).take (i - f)) hs (by omega) (fun o => tollbarref02_Split.l0 k (mkS l) o ((i + 1 : Nat) : Int) ((i + 1 : Nat) : Int))
      refine hp.trans ?_
      have hlen : (commaParts ((l.drop f).take (i - f))).length ≤ 1 := by rw [comma_one _ hs]; split <;> simp
      rw [ih1 _ (by rw [List.length_append, List.length_map]; omega)]
      have e3 : commaParts (l.drop f) = commaParts ((l.drop f).take (i - f)) ++ commaParts (l.drop (i + 1)) := by
        rw [← comma_append]
        congr 1
        rw [← hc]
        exact e1
      rw [e3, List.map_append, List.append_assoc]
    · have hb : (((l[i]).toNat : Int) == 44) = false := by
        rw [beq_eq_false_iff_ne]
        intro e
        exact hc (UInt8.toNat_inj.1 (by show _ = 44; omega))
      rw [hb, if_neg (by simp), hw]
      refine ih2 ?_
      rw [e2]
      intro hm
      rcases List.mem_append.1 hm with hm | hm
      · exact hs hm
      · exact hc (List.mem_singleton.1 hm).symm
theorem refSplit_f (l : List UInt8) (hn : l.length ≤ 1048580) (k : Nat) (hk : 5 * l.length + 20 ≤ k) : tollbarref02_Split.f k (mkS l) = some ((commaParts l).map mkS) := by
  have := refSplit_l0 l hn l.length k [] 0 0 (Nat.le_refl _) (by omega) (by simp) (by simp) (by omega)
  unfold tollbarref02_Split.f
  rw [show ((0 : Nat) : Int) = 0 from rfl] at this
  rw [this]
  rfl

end Go.Proofs.YthkkkfeiklfjoaaDoor.Pure
