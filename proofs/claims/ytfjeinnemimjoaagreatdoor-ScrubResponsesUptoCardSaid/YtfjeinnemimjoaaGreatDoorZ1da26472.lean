/- Each function below answers as its Lean twin says; plain lemmas; a row where its theorem stands. No further condition. (Laid by this repo's pack.py out of its texts and of the print's words.) -/
import Derived.Test.YtfjeinnemimjoaaGreatDoorZ82d83582
import Derived.Test.YtfjeinnemimjoaaGreatDoorZ4e30dcf2
import Derived.Test.YtfjeinnemimjoaaGreatDoorZ07f8021a
import Derived.Test.YtfjeinnemimjoaaGreatDoorZ1ac3bfcd
namespace Go.Proofs.YtfjeinnemimjoaaGreatDoor.Pure
open Go.RowKit Go.Proofs.YtfjeinnemimjoaaGreatDoor.P Go.Proofs.YtfjeinnemimjoaaGreatDoorW.PrintWords Go.Proofs.YtfjeinnemimjoaaGreatDoorW.PrintLast Go.Proofs.YtfjeinnemimjoaaGreatDoorW.PrintMore
set_option linter.unusedVariables false
set_option linter.unusedSimpArgs false
def closeF : S55 := ⟨⟨#[67, 111, 110, 110, 101, 99, 116, 105, 111, 110]⟩, ⟨#[99, 108, 111, 115, 101]⟩⟩
/-- Has it a body? -/
def hasBody (method : ByteArray) (code minor : Int) (fs : List (S55)) : Bool := if (respLen method code minor fs).2.2 = true then (respLen method code minor fs).1 != 0 else true
def respS (x2 has : Bool) (code : Int) (reason : ByteArray) (fs : List (S55)) (b : List Int) : Int × ByteArray × Int × List (S55) × List Int :=
  (code, reason, 1, (fs ++ (if has = true then [lenF (b.length : Int)] else [])) ++ (if x2 = true then [closeF] else []), if has = true then b else [])
theorem resp_j0 (x2 has : Bool) (c0 : Int) (r0 : ByteArray) (m0 : Int) (f0 : List (S55)) (b : List Int) (hb : b.length ≤ 100000) (code : Int) (reason : ByteArray) (fs : List (S55)) (hf : fs.length ≤ 100000) (k : Nat) :
    scrub_Response.j0 (k + 1) x2 has c0 r0 m0 f0 b code reason 1 fs = some (respS x2 has code reason fs b) := by
  have hcl : bytes_Clone.f b = some b := if_pos (by omega)
  have hc : scrub_closing.f = some (closeF.f0, closeF.f1) := rfl
  rw [scrub_Response.j0, hc]
  unfold respS
  cases has
  · rw [if_neg (by simp)]
    cases x2
    · rw [if_neg (by simp), if_neg (by simp), if_neg (by simp), if_neg (by simp), List.append_nil, List.append_nil]
    · rw [if_pos rfl, Option.bind_some, if_pos (by omega), if_pos rfl, if_neg (by simp), if_neg (by simp), List.append_nil]
  · have hl : (fs ++ [lenF (b.length : Int)]).length < 4398046511104 := by rw [List.length_append, List.length_singleton]; omega
    rw [if_pos rfl, hcl, Option.bind_some, length_f _ (by omega) (by omega), Option.bind_some, if_pos (by omega), Option.bind_some]
    cases x2
    · rw [if_neg (by simp), if_pos rfl, if_neg (by simp), if_pos rfl, List.append_nil]
    · rw [if_pos rfl, Option.bind_some, if_pos hl, if_pos rfl, if_pos rfl, if_pos rfl]
theorem refResp_j0 (x2 has : Bool) (c0 : Int) (r0 : ByteArray) (m0 : Int) (f0 : List (S55)) (b : List Int) (hb : b.length ≤ 100000) (code : Int) (reason : ByteArray) (fs : List (S55)) (hf : fs.length ≤ 100000) (k : Nat) (hk : 200000 ≤ k) :
    tollbarref12_Response.j0 (k + 1) x2 has c0 r0 m0 f0 b code reason 1 fs = some (respS x2 has code reason fs b) := by
  rw [tollbarref12_Response.j0]
  unfold respS
  cases has
  · rw [if_neg (by simp)]
    cases x2
    · rw [if_neg (by simp), if_neg (by simp), if_neg (by simp), if_neg (by simp), List.append_nil, List.append_nil]
    · rw [if_pos rfl, if_pos (by omega), if_pos rfl, if_neg (by simp), if_neg (by simp), List.append_nil]
      rfl
  · have hl : (fs ++ [lenF (b.length : Int)]).length < 4398046511104 := by rw [List.length_append, List.length_singleton]; omega
    rw [if_pos rfl, Join_f b [] k (by simp; omega) (by simp; omega), Option.bind_some, List.append_nil, refLength_f _ (by omega) (by omega) k (by omega), Option.bind_some, if_pos (by omega), Option.bind_some]
    cases x2
    · rw [if_neg (by simp), if_pos rfl, if_neg (by simp), if_pos rfl, List.append_nil]
    · rw [if_pos rfl, if_pos hl, if_pos rfl, if_pos rfl, if_pos rfl]
      rfl
theorem Response12_f (code : Int) (reason : ByteArray) (minor : Int) (fs : List (S55)) (b : List Int) (method : ByteArray) (x2 : Bool) (hf : FB fs) (hb : b.length ≤ 100000) (k : Nat) (hk : 1070000000 ≤ k) :
    scrub_Response.f k code reason minor fs b method x2 = some (respS x2 (hasBody method code minor fs) code reason (onwS fs) b) := by
  have hol := (onwS_FB fs hf).1
  obtain ⟨k, rfl⟩ : ∃ m, k = m + 1 := ⟨k - 1, by omega⟩
  unfold scrub_Response.f hasBody
  rw [onward_f fs hf (k + 1) (by omega), Option.bind_some, frameResp_f method code reason minor fs b hf (k + 1) (by omega), Option.bind_some, resp_j0 _ _ _ _ _ _ b hb _ _ _ (by omega) k, resp_j0 _ _ _ _ _ _ b hb _ _ _ (by omega) k]
  split <;> rfl
theorem refResponse12_f (code : Int) (reason : ByteArray) (minor : Int) (fs : List (S55)) (b : List Int) (method : ByteArray) (x2 : Bool) (hf : FB fs) (hb : b.length ≤ 100000) (k : Nat) (hk : 1070000000 ≤ k) :
    tollbarref12_Response.f k code reason minor fs b method x2 = some (respS x2 (hasBody method code minor fs) code reason (onwS fs) b) := by
  have hol := (onwS_FB fs hf).1
  obtain ⟨k, rfl⟩ : ∃ m, k = m + 1 := ⟨k - 1, by omega⟩
  unfold tollbarref12_Response.f hasBody
  rw [refOnward_f fs hf (k + 1) (by omega), Option.bind_some, refFrameResp_f method code reason minor fs b hf (k + 1) (by omega), Option.bind_some, refResp_j0 _ _ _ _ _ _ b hb _ _ _ (by omega) k (by omega), refResp_j0 _ _ _ _ _ _ b hb _ _ _ (by omega) k (by omega)]
  obtain ⟨z, hz⟩ : ∃ z, z = respLen method code minor fs := ⟨_, rfl⟩
  rw [← hz]
  by_cases h1 : z.1 = 0
  · rw [if_pos h1, h1]
    cases z.2.2 <;> rfl
  · rw [if_neg h1, show (z.1 != 0) = true from bne_iff_ne.2 h1]
    cases z.2.2 <;> rfl
def ownS (code : Int) (reason : ByteArray) (x2 : Bool) : Int × ByteArray × Int × List (S55) × List Int := (code, reason, 1, lenF 0 :: (if x2 = true then [closeF] else []), [])
theorem Own_f (code : Int) (x2 : Bool) (r : ByteArray) (hr : line_Reason.f code = some r) : scrub_Own.f code x2 = some (ownS code r x2) := by
  have hc : scrub_closing.f = some (closeF.f0, closeF.f1) := rfl
  unfold scrub_Own.f ownS
  rw [length_f 0 (by decide) (by decide), Option.bind_some, Option.bind_some, hr]
  cases x2
  · rfl
  · rw [if_pos rfl, hc, Option.bind_some, if_pos (by simp), Option.bind_some]
    rfl
theorem refOwn_f (code : Int) (x2 : Bool) (r : ByteArray) (hr : line_Reason.f code = some r) (k : Nat) (hk : 60 ≤ k) : tollbarref12_Own.f k code x2 = some (ownS code r x2) := by
  unfold tollbarref12_Own.f ownS
  rw [refReason_f code k (by omega), hr, Option.bind_some, refLength_f 0 (by decide) (by decide) k hk, Option.bind_some, Option.bind_some]
  cases x2
  · rfl
  · rw [if_pos rfl, if_pos (by simp)]
    rfl
theorem sameResp_eq (c : Int) (r : ByteArray) (fs : List (S55)) (b : List Int) (hf : fs.length ≤ 100000) (hb : b.length ≤ 100000) (k : Nat) (hk : 1000000 ≤ k) : tollbarref08_SameResp.f k c r 1 fs b c r 1 fs b = some true := by
  unfold tollbarref08_SameResp.f
  rw [if_pos rfl, if_pos rfl, if_pos rfl, sameF_eq _ (by omega) k (by omega), Option.bind_some, if_pos rfl, sameB_eq b (by omega) k (by omega), Option.bind_some]
theorem ScrubResponsesU (code : Int) (reason : ByteArray) (minor : Int) (fs : List (S55)) (b : List Int) (method : ByteArray) (x2 : Bool)
    (h0 : (Lit.int .i64 code).wf = true ∧ ((reason.size ≤ 1048576 ∧ reason.size ≤ maxLen) ∧ ((Lit.int .i64 minor).wf = true ∧ ((fs.length ≤ 1048576 ∧ fs.length ≤ maxLen ∧ ∀ x ∈ fs, (x.f0.size ≤ 1048576 ∧ x.f0.size ≤ maxLen) ∧ (x.f1.size ≤ 1048576 ∧ x.f1.size ≤ maxLen)) ∧ (b.length ≤ 1048576 ∧ b.length ≤ maxLen ∧ ∀ x ∈ b, (Lit.int .u8 x).wf = true)))))
    (_ : method.size ≤ 1048576) : ∃ k, tollbarlaw12_ScrubResponses.f k code reason minor fs b method x2 = some true := by
  refine ⟨1200000000, ?_⟩
  obtain ⟨_, _, _, ⟨_, _, hfs⟩, _⟩ := h0
  have ht : tollbarlaw12_ScrubResponses.j0 1200000000 method x2 true code reason minor fs b = some true := by
    rw [show 1200000000 = 1199999999 + 1 from rfl, tollbarlaw12_ScrubResponses.j0, if_pos rfl]
  unfold tollbarlaw12_ScrubResponses.f
  rw [show tollbarlaw12_alive.f = some true from rfl, Option.bind_some, if_pos rfl]
  unfold tollbarlaw12_few.f
  by_cases c1 : (fs.length : Int) ≤ 60
  · rw [if_pos c1, Option.bind_some, if_pos (by decide)]
    by_cases c4 : (b.length : Int) > 5000
    · rw [decide_eq_true c4, ht]
    · have hF : FB fs := ⟨by omega, fun f hf => ⟨(hfs f hf).1.1, (hfs f hf).2.1⟩⟩
      have hol := (onwS_FB fs hF).1
      obtain ⟨r, hr⟩ := Reason_some code
      have hlen : ((onwS fs ++ (if hasBody method code minor fs = true then [lenF (b.length : Int)] else [])) ++ (if x2 = true then [closeF] else [])).length ≤ 100000 := by
        split <;> split <;> simp only [List.length_append, List.length_cons, List.length_nil] <;> omega
      have hlen2 : (if hasBody method code minor fs = true then b else []).length ≤ 100000 := by
        split
        · omega
        · simp
      have hlen3 : (lenF 0 :: (if x2 = true then [closeF] else [])).length ≤ 100000 := by
        split <;> simp
      rw [decide_eq_false c4, show 1200000000 = 1199999999 + 1 from rfl, tollbarlaw12_ScrubResponses.j0, if_neg (by simp), Response12_f code reason minor fs b method x2 hF (by omega) _ (by omega), Option.bind_some, refResponse12_f code reason minor fs b method x2 hF (by omega) _ (by omega), Option.bind_some]
      simp only [respS]
      rw [sameResp_eq _ _ _ _ hlen hlen2 _ (by omega), Option.bind_some, if_pos rfl, Own_f code x2 r hr, Option.bind_some, refOwn_f code x2 r hr _ (by omega), Option.bind_some]
      simp only [ownS]
      rw [sameResp_eq _ _ _ _ hlen3 (by simp) _ (by omega), Option.bind_some]
  · rw [if_neg c1, Option.bind_some, if_neg (by simp), ht]
end Go.Proofs.YtfjeinnemimjoaaGreatDoor.Pure
