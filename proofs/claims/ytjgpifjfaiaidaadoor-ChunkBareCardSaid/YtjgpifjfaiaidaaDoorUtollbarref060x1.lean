/- Each function below answers as its Lean twin says. No further condition. (Laid by this repo's packseat.py out of the seat's texts and of the print's words.) -/
import Derived.Test.YtjgpifjfaiaidaaDoorU0base0x0
import Derived.Test.YtjgpifjfaiaidaaDoorUtollbarref010x0
import Derived.Test.YtjgpifjfaiaidaaDoorUtollbarref020x3
import Derived.Lib.SlBytesConst
namespace Go.Proofs.YtjgpifjfaiaidaaDoor.P
open Go.RowKit Go.Proofs.YtjgpifjfaiaidaaDoorW.PrintWords Go.Proofs.YtjgpifjfaiaidaaDoorW.PrintLast Go.Proofs.YtjgpifjfaiaidaaDoorW.PrintMore
attribute [local go_sem] max2_int min2_int max_two min_two max_three min_three max_four min_four   -- for this text's walks alone
set_option linter.unusedVariables false
set_option linter.unusedSimpArgs false

def tollbarref06_Encode.l : Nat → List Int → Int → List Int → Option (List Int)
  | 0, _, _, _ => none
  | k + 1, body, size, out => if 0 < body.length then
      ((tollbarref02_HexText.f k (if size < (body.length : Int) then size else (body.length : Int))).bind fun h => if h.size ≤ 1000 then ((tollbarref01_Join.f k out (bytesOf (h ++ (⟨#[13, 10]⟩ : ByteArray)))).bind fun o1 =>
        (tollbarref01_Join.f k (body.take (if size < (body.length : Int) then size else (body.length : Int)).toNat) [13, 10]).bind fun j1 => (tollbarref01_Join.f k o1 j1).bind fun o2 => tollbarref06_Encode.l k (body.drop (if size < (body.length : Int) then size else (body.length : Int)).toNat) size o2) else none)
    else tollbarref01_Join.f k out [48, 13, 10, 13, 10]
def tollbarref06_Encode.f (k : Nat) (l0 : List Int) (a1 : Int) : Option (List Int) := tollbarref06_Encode.l k l0 (if a1 < 1 then 1 else a1) []
theorem tollbarref06_Encode.mono_l : ∀ k l p out, LeO (tollbarref06_Encode.l k l p out) (tollbarref06_Encode.l (k + 1) l p out)
  | 0 => fun _ _ _ r h => by simp [tollbarref06_Encode.l] at h
  | k + 1 => by
    intro l p out
    have ih := tollbarref06_Encode.mono_l k
    rw [tollbarref06_Encode.l, tollbarref06_Encode.l]
    repeat' first
      | (with_reducible exact tollbarref02_HexText.mono _ _)
      | (with_reducible exact tollbarref01_Join.mono _ _ _)
      | (with_reducible exact ih _ _ _)
      | (with_reducible exact LeO.refl _)
      | (with_reducible exact LeO.none _)
      | (with_reducible refine LeO.ite ?_ ?_)
      | (with_reducible refine LeO.bind ?_ (fun _ => ?_))
theorem tollbarref06_Encode.mono : ∀ a0 a1 k, LeO (tollbarref06_Encode.f k a0 a1) (tollbarref06_Encode.f (k + 1) a0 a1) := fun a0 a1 k => tollbarref06_Encode.mono_l k a0 _ []
theorem enc_less {w w1 : World} {g : Nat} (hg : g ≤ w.heap.size) (h : Below w.heap.size w w1) : Below g w w1 := ⟨h.os, h.tape, h.output, h.size, fun b hb => h.block b (Nat.lt_of_lt_of_le hb hg)⟩
theorem enc_base {w w1 : World} {b g : Nat} (hg : b ≤ g) (h : Below g w w1) : Below b w w1 := ⟨h.os, h.tape, h.output, h.size, fun i hi => h.block i (Nat.lt_of_lt_of_le hi hg)⟩
set_option maxHeartbeats 16000000 in
set_option maxRecDepth 100000 in
theorem tollbarref06_Encode.calls (k : Nat) (A0 : Option Addr) (c0 : Nat) (l0 : List Int) (a1 : Int) (r : List Int) (w : World) (hr0 : Kd.C (Kd.int .u8) w A0 l0.length l0) (hc0 : l0.length ≤ c0) (h : tollbarref06_Encode.f k l0 a1 = some r) :
    Calls Tryd.prog 33 #[.slice A0 l0.length c0, .int .i64 a1] w fun e w' => ∃ v0_ : Value, e = .returned (v0_) ∧ Kd.R (Kd.int .u8) 5 w' w.heap.size (fun _ => True) v0_ r ∧ Below w.heap.size w w' := by
  unfold tollbarref06_Encode.f at h
  have HC := Aside0.mk (And.intro hr0 hc0)
  have H := Aside0.mk h
  clear hr0 hc0 h
  have kc := fun (w : World) (C : Array Value) (n c : Nat) => Lib.run_convert_bytes_const (P := Tryd.prog) w 24 5 C n c Tryd.underlying24 Tryd.underlying5
  have h0 : Aside0 (Kd.C (Kd.int .u8) (w.alloc (.cells #[] 5)) (some ⟨w.heap.size, 0, none⟩) 0 []) := ⟨C_const w 5 [] (0, 0) (by decide)⟩
  obtain ⟨sz, hsz⟩ : ∃ sz, sz = (if a1 < 1 then 1 else a1) := ⟨_, rfl⟩
  rw [← hsz] at H
  have HSZ := Aside0.mk (show 0 ≤ sz by rw [hsz]; split <;> omega)
  have hd1 : a1 < 1 → sz = 1 := fun q => by rw [hsz, if_pos q]
  have hd2 : ¬ a1 < 1 → sz = a1 := fun q => by rw [hsz, if_neg q]
  clear hsz
  by_cases h1 : a1 < 1
  · have e1 := hd1 h1
    have d1 : decide (a1 < 1) = true := decide_eq_true h1
    rw [e1] at H HSZ
    clear h1 hd1 hd2 e1
    go_enter Tryd.func33, Tryd.ntmps33
    go_wp2_with fail
    go_loopg [0, 5, 6] k (fun kq v0 v5 _ wr => ∃ (A : Option Addr) (c : Nat) (A5 : Option Addr) (c5 : Nat) (body out : List Int), v0 = .slice A body.length c ∧ v5 = .slice A5 out.length c5 ∧ Aside0 (tollbarref06_Encode.l kq body (1 : Int) out = some r) ∧ Aside0 (Kd.C (Kd.int .u8) w A body.length body ∧ body.length ≤ c) ∧ Aside0 (Kd.C (Kd.int .u8) wr A5 out.length out ∧ out.length ≤ c5) ∧ Aside0 (Below w.heap.size w wr))
    case atStart => exact ⟨A0, c0, some ⟨w.heap.size, 0, none⟩, 0, l0, [], rfl, rfl, H, HC, ⟨h0.out, Nat.le_refl _⟩, ⟨below_alloc (Below.refl _ _) _⟩⟩
    case round =>
      obtain ⟨A, c, A5, c5, body, out, rfl, rfl, H, HBD, HOT, HB⟩ := hrel
      cases gk with
      | zero => exact absurd H.out (by simp [tollbarref06_Encode.l])
      | succ k =>
        have h := H.out
        clear H
        simp only [tollbarref06_Encode.l] at h
        by_cases hb : 0 < body.length
        · rw [if_pos hb] at h
          have b1 : ((0 : Int) < (body.length : Int)) = True := eq_true (by omega)
          have b2 : decide ((0 : Int) < (body.length : Int)) = true := decide_eq_true (by omega)
          have b3 : (0 < body.length) = True := eq_true hb
          by_cases hs : (1 : Int) < (body.length : Int)
          · rw [if_pos hs] at h
            have s1 : decide ((1 : Int) < (body.length : Int)) = true := decide_eq_true hs
            have s2 : ((1 : Int) < (body.length : Int)) = True := eq_true hs
            obtain ⟨n, hn⟩ : ∃ n : Int, n = (1 : Int) := ⟨_, rfl⟩
            have HNN := Aside0.mk (show 0 ≤ n ∧ n ≤ (body.length : Int) by have := HSZ.out; omega)
            rw [← hn] at h
            have HNE := Aside0.mk hn
            clear hn hs hb
            obtain ⟨hx, h1, h⟩ := Option.bind_eq_some_iff.1 h
            by_cases hxs : hx.size ≤ 1000
            case neg => rw [if_neg hxs] at h; cases h
            rw [if_pos hxs] at h
            have HXS := Aside0.mk hxs
            clear hxs
            obtain ⟨o1, h2, h⟩ := Option.bind_eq_some_iff.1 h
            obtain ⟨j1, h3, h⟩ := Option.bind_eq_some_iff.1 h
            obtain ⟨o2, h4, h⟩ := Option.bind_eq_some_iff.1 h
            obtain ⟨i011, hi011, _, hsz11, _⟩ := info_parts info5
            obtain ⟨hsl1, hrd1, hcc1⟩ := print_take_of (P := Tryd.prog) (Value.int .u8) 0 24 5 .i64 Tryd.underlying24 hi011 hsz11 A c body n HNN.out.1 HNN.out.2 HBD.out.2
            obtain ⟨A', hsl2, hrd2, hcc2⟩ := print_drop_of (P := Tryd.prog) (Value.int .u8) 0 24 5 .i64 Tryd.underlying24 hi011 hsz11 A c body n HNN.out.1 HNN.out.2 HBD.out.2
            have CT := Aside0.mk (Kd.C_of_reads (h1 := fun _ => rfl) (hrd1 _ (Kd.reads_of_C HBD.out.1)))
            have CD := Aside0.mk (Kd.C_of_reads (h1 := fun _ => rfl) (hrd2 _ (Kd.reads_of_C HBD.out.1)))
            have HTK := Aside0.mk (show (body.take n.toNat).length = n.toNat by rw [List.length_take]; have := HNN.out; omega)
            have HDR := Aside0.mk (show (body.drop n.toNat).length = body.length - n.toNat by rw [List.length_drop])
            obtain ⟨tk, htk⟩ : ∃ tk, tk = body.take n.toNat := ⟨_, rfl⟩
            obtain ⟨dr, hdr⟩ : ∃ dr, dr = body.drop n.toNat := ⟨_, rfl⟩
            rw [← htk] at CT h3 HTK hsl1
            try rw [← htk] at hcc1
            rw [← hdr] at CD h HDR hsl2
            try rw [← hdr] at hcc2
            obtain ⟨cd, hcd⟩ : ∃ cd, cd = c - n.toNat := ⟨_, rfl⟩
            rw [← hcd] at hsl2 hcc2
            rw [HNE.out] at h1 hsl1 hsl2
            try rw [HNE.out] at h
            have H1 := Aside0.mk h1
            have H2 := Aside0.mk h2
            have H3 := Aside0.mk h3
            have H4 := Aside0.mk h4
            have H5 := Aside0.mk h
            have TC := Aside0.mk hcc1
            have DC := Aside0.mk hcc2
            clear h h1 h2 h3 h4 hrd1 hrd2 hcc1 hcc2 htk hdr hcd hsz11
            obtain ⟨bs, hbs⟩ : ∃ bs, bs = bytesOf (hx ++ (⟨#[13, 10]⟩ : ByteArray)) := ⟨_, rfl⟩
            rw [← hbs] at H2
            have hbl : (hx ++ (⟨#[13, 10]⟩ : ByteArray)).size = bs.length := by rw [hbs, bytesOf_length]
            have HBL := Aside0.mk (show bs.length ≤ 9223372036854775807 by rw [← hbl, ByteArray.size_append]; have := HXS.out; have e2 : (⟨#[13, 10]⟩ : ByteArray).size = 2 := rfl; omega)
            have kb := fun W => print_bytes (P := Tryd.prog) 9 24 5 Tryd.underlying9 Tryd.underlying24 Tryd.underlying5 (hx ++ (⟨#[13, 10]⟩ : ByteArray)) W
            rw [hbl] at kb
            have KC : ∀ W : World, Kd.C (Kd.int .u8) (Lib.bytesWorld W 5 (hx ++ (⟨#[13, 10]⟩ : ByteArray))) (some ⟨W.heap.size, 0, none⟩) bs.length bs := fun W => by rw [hbs]; exact Kd.C_of_reads (d := (0 : Int)) (h1 := fun _ => rfl) ((MRow.bytes W 5 (hx ++ (⟨#[13, 10]⟩ : ByteArray))).reads (by rw [← hbs]; exact HBL.out))
            have KG := fun W : World => grownCap_ge W bs.length 0 5
            clear hbl hbs
            have J2 : Aside0 (∀ (W : World) (g : Nat), Kd.C (Kd.int .u8) W A tk.length tk → Kd.C (Kd.int .u8) W (some ⟨g, 0, none⟩) 2 [13, 10] → Calls Tryd.prog 63 #[.slice A tk.length c, .slice (some ⟨g, 0, none⟩) 2 2] W fun e w' => ∃ v0_ : Value, e = .returned (v0_) ∧ Kd.R (Kd.int .u8) 5 w' W.heap.size (fun _ => True) v0_ j1 ∧ Below W.heap.size W w') := ⟨fun W g h0 h1 => tollbarref01_Join.calls k A c tk (some ⟨g, 0, none⟩) 2 [13, 10] j1 W h0 TC.out h1 (by decide) H3.out⟩
            have z1 : (9223372036854775807 < (hx.size : Int) + 2) = False := eq_false (by have := HXS.out; omega)
            have z2 : (9223372036854775807 < hx.size + 2) = False := eq_false (by have := HXS.out; omega)
            have z3 : (9223372036854775807 < hx.size + (⟨#[13, 10]⟩ : ByteArray).size) = False := eq_false (by have := HXS.out; have e2 : (⟨#[13, 10]⟩ : ByteArray).size = 2 := rfl; omega)
            go_wp2_with (first | (go_at_call 64; (with_reducible refine (tollbarref02_HexText.calls k (1 : Int) hx _ H1.out).mono ?_); rintro E w1 ⟨rfl, hb1⟩; have HB1 := Aside0.mk hb1; clear hb1; have BB := Aside0.mk (bytes_below HB1.out HB1.out.size 5 (hx ++ (⟨#[13, 10]⟩ : ByteArray)))) | (go_at_call 63; (with_reducible refine (tollbarref01_Join.calls k A5 c5 out (some ⟨w1.heap.size, 0, none⟩) _ bs o1 _ ?j0 HOT.out.2 ?j1 ?j2 H2.out).mono ?_); (case j0 => exact Kd.C_below HOT.out.1 BB.out); (case j1 => exact KC w1); (case j2 => exact KG w1); rintro E w2 ⟨v2, rfl, hr2, hb2⟩; obtain ⟨A6, c6, rfl, hl6, hC6⟩ := Kd.R_reads hr2; have C6 := Aside0.mk (And.intro hC6 hl6); have HB2 := Aside0.mk (HB.out.trans (enc_base HB.out.size (BB.out.trans (enc_less BB.out.size hb2)))); clear hr2 hb2 hl6 hC6) | (go_at_call 63; (with_reducible refine (J2.out _ w2.heap.size ?j0 ?j1).mono ?_); (case j0 => exact Kd.C_below CT.out (below_alloc HB2.out _)); (case j1 => exact C_const w2 5 [13, 10] _ (by decide)); rintro E w3 ⟨v3, rfl, hr3, hb3⟩; obtain ⟨A7, c7, rfl, hl7, hC7⟩ := Kd.R_reads hr3; have C7 := Aside0.mk (And.intro hC7 hl7); have HB3 := Aside0.mk (Below.trans (below_alloc (Below.refl w2.heap.size w2) (.cells #[.int .u8 13, .int .u8 10] 5)) (enc_less (by simp) hb3)); clear hr3 hb3 hl7 hC7) | (go_at_call 63; (with_reducible refine (tollbarref01_Join.calls k A6 c6 o1 A7 c7 j1 o2 _ ?j0 C6.out.2 C7.out.1 C7.out.2 H4.out).mono ?_); (case j0 => exact Kd.C_below C6.out.1 HB3.out); rintro E w4 ⟨v4, rfl, hr4, hb4⟩; obtain ⟨A8, c8, rfl, hl8, hC8⟩ := Kd.R_reads hr4; have C8 := Aside0.mk (And.intro hC8 hl8); have HB4 := Aside0.mk (HB2.out.trans (enc_base HB2.out.size (HB3.out.trans (enc_less HB3.out.size hb4)))); clear hr4 hb4 hl8 hC8))
            go_roundg k
            case measure => exact Nat.lt_succ_self k
            case rel => exact ⟨A', cd, A8, c8, dr, o2, rfl, rfl, H5, ⟨CD.out, DC.out⟩, C8, HB4⟩
          · rw [if_neg hs] at h
            have s1 : decide ((1 : Int) < (body.length : Int)) = false := decide_eq_false hs
            have s2 : ((1 : Int) < (body.length : Int)) = False := eq_false hs
            obtain ⟨n, hn⟩ : ∃ n : Int, n = (body.length : Int) := ⟨_, rfl⟩
            have HNN := Aside0.mk (show 0 ≤ n ∧ n ≤ (body.length : Int) by have := HSZ.out; omega)
            rw [← hn] at h
            have HNE := Aside0.mk hn
            clear hn hs hb
            obtain ⟨hx, h1, h⟩ := Option.bind_eq_some_iff.1 h
            by_cases hxs : hx.size ≤ 1000
            case neg => rw [if_neg hxs] at h; cases h
            rw [if_pos hxs] at h
            have HXS := Aside0.mk hxs
            clear hxs
            obtain ⟨o1, h2, h⟩ := Option.bind_eq_some_iff.1 h
            obtain ⟨j1, h3, h⟩ := Option.bind_eq_some_iff.1 h
            obtain ⟨o2, h4, h⟩ := Option.bind_eq_some_iff.1 h
            obtain ⟨i011, hi011, _, hsz11, _⟩ := info_parts info5
            obtain ⟨hsl1, hrd1, hcc1⟩ := print_take_of (P := Tryd.prog) (Value.int .u8) 0 24 5 .i64 Tryd.underlying24 hi011 hsz11 A c body n HNN.out.1 HNN.out.2 HBD.out.2
            obtain ⟨A', hsl2, hrd2, hcc2⟩ := print_drop_of (P := Tryd.prog) (Value.int .u8) 0 24 5 .i64 Tryd.underlying24 hi011 hsz11 A c body n HNN.out.1 HNN.out.2 HBD.out.2
            have CT := Aside0.mk (Kd.C_of_reads (h1 := fun _ => rfl) (hrd1 _ (Kd.reads_of_C HBD.out.1)))
            have CD := Aside0.mk (Kd.C_of_reads (h1 := fun _ => rfl) (hrd2 _ (Kd.reads_of_C HBD.out.1)))
            have HTK := Aside0.mk (show (body.take n.toNat).length = n.toNat by rw [List.length_take]; have := HNN.out; omega)
            have HDR := Aside0.mk (show (body.drop n.toNat).length = body.length - n.toNat by rw [List.length_drop])
            obtain ⟨tk, htk⟩ : ∃ tk, tk = body.take n.toNat := ⟨_, rfl⟩
            obtain ⟨dr, hdr⟩ : ∃ dr, dr = body.drop n.toNat := ⟨_, rfl⟩
            rw [← htk] at CT h3 HTK hsl1
            try rw [← htk] at hcc1
            rw [← hdr] at CD h HDR hsl2
            try rw [← hdr] at hcc2
            obtain ⟨cd, hcd⟩ : ∃ cd, cd = c - n.toNat := ⟨_, rfl⟩
            rw [← hcd] at hsl2 hcc2
            rw [HNE.out] at h1 hsl1 hsl2
            try rw [HNE.out] at h
            have H1 := Aside0.mk h1
            have H2 := Aside0.mk h2
            have H3 := Aside0.mk h3
            have H4 := Aside0.mk h4
            have H5 := Aside0.mk h
            have TC := Aside0.mk hcc1
            have DC := Aside0.mk hcc2
            clear h h1 h2 h3 h4 hrd1 hrd2 hcc1 hcc2 htk hdr hcd hsz11
            obtain ⟨bs, hbs⟩ : ∃ bs, bs = bytesOf (hx ++ (⟨#[13, 10]⟩ : ByteArray)) := ⟨_, rfl⟩
            rw [← hbs] at H2
            have hbl : (hx ++ (⟨#[13, 10]⟩ : ByteArray)).size = bs.length := by rw [hbs, bytesOf_length]
            have HBL := Aside0.mk (show bs.length ≤ 9223372036854775807 by rw [← hbl, ByteArray.size_append]; have := HXS.out; have e2 : (⟨#[13, 10]⟩ : ByteArray).size = 2 := rfl; omega)
            have kb := fun W => print_bytes (P := Tryd.prog) 9 24 5 Tryd.underlying9 Tryd.underlying24 Tryd.underlying5 (hx ++ (⟨#[13, 10]⟩ : ByteArray)) W
            rw [hbl] at kb
            have KC : ∀ W : World, Kd.C (Kd.int .u8) (Lib.bytesWorld W 5 (hx ++ (⟨#[13, 10]⟩ : ByteArray))) (some ⟨W.heap.size, 0, none⟩) bs.length bs := fun W => by rw [hbs]; exact Kd.C_of_reads (d := (0 : Int)) (h1 := fun _ => rfl) ((MRow.bytes W 5 (hx ++ (⟨#[13, 10]⟩ : ByteArray))).reads (by rw [← hbs]; exact HBL.out))
            have KG := fun W : World => grownCap_ge W bs.length 0 5
            clear hbl hbs
            have J2 : Aside0 (∀ (W : World) (g : Nat), Kd.C (Kd.int .u8) W A tk.length tk → Kd.C (Kd.int .u8) W (some ⟨g, 0, none⟩) 2 [13, 10] → Calls Tryd.prog 63 #[.slice A tk.length c, .slice (some ⟨g, 0, none⟩) 2 2] W fun e w' => ∃ v0_ : Value, e = .returned (v0_) ∧ Kd.R (Kd.int .u8) 5 w' W.heap.size (fun _ => True) v0_ j1 ∧ Below W.heap.size W w') := ⟨fun W g h0 h1 => tollbarref01_Join.calls k A c tk (some ⟨g, 0, none⟩) 2 [13, 10] j1 W h0 TC.out h1 (by decide) H3.out⟩
            have z1 : (9223372036854775807 < (hx.size : Int) + 2) = False := eq_false (by have := HXS.out; omega)
            have z2 : (9223372036854775807 < hx.size + 2) = False := eq_false (by have := HXS.out; omega)
            have z3 : (9223372036854775807 < hx.size + (⟨#[13, 10]⟩ : ByteArray).size) = False := eq_false (by have := HXS.out; have e2 : (⟨#[13, 10]⟩ : ByteArray).size = 2 := rfl; omega)
            go_wp2_with (first | (go_at_call 64; (with_reducible refine (tollbarref02_HexText.calls k (body.length : Int) hx _ H1.out).mono ?_); rintro E w1 ⟨rfl, hb1⟩; have HB1 := Aside0.mk hb1; clear hb1; have BB := Aside0.mk (bytes_below HB1.out HB1.out.size 5 (hx ++ (⟨#[13, 10]⟩ : ByteArray)))) | (go_at_call 63; (with_reducible refine (tollbarref01_Join.calls k A5 c5 out (some ⟨w1.heap.size, 0, none⟩) _ bs o1 _ ?j0 HOT.out.2 ?j1 ?j2 H2.out).mono ?_); (case j0 => exact Kd.C_below HOT.out.1 BB.out); (case j1 => exact KC w1); (case j2 => exact KG w1); rintro E w2 ⟨v2, rfl, hr2, hb2⟩; obtain ⟨A6, c6, rfl, hl6, hC6⟩ := Kd.R_reads hr2; have C6 := Aside0.mk (And.intro hC6 hl6); have HB2 := Aside0.mk (HB.out.trans (enc_base HB.out.size (BB.out.trans (enc_less BB.out.size hb2)))); clear hr2 hb2 hl6 hC6) | (go_at_call 63; (with_reducible refine (J2.out _ w2.heap.size ?j0 ?j1).mono ?_); (case j0 => exact Kd.C_below CT.out (below_alloc HB2.out _)); (case j1 => exact C_const w2 5 [13, 10] _ (by decide)); rintro E w3 ⟨v3, rfl, hr3, hb3⟩; obtain ⟨A7, c7, rfl, hl7, hC7⟩ := Kd.R_reads hr3; have C7 := Aside0.mk (And.intro hC7 hl7); have HB3 := Aside0.mk (Below.trans (below_alloc (Below.refl w2.heap.size w2) (.cells #[.int .u8 13, .int .u8 10] 5)) (enc_less (by simp) hb3)); clear hr3 hb3 hl7 hC7) | (go_at_call 63; (with_reducible refine (tollbarref01_Join.calls k A6 c6 o1 A7 c7 j1 o2 _ ?j0 C6.out.2 C7.out.1 C7.out.2 H4.out).mono ?_); (case j0 => exact Kd.C_below C6.out.1 HB3.out); rintro E w4 ⟨v4, rfl, hr4, hb4⟩; obtain ⟨A8, c8, rfl, hl8, hC8⟩ := Kd.R_reads hr4; have C8 := Aside0.mk (And.intro hC8 hl8); have HB4 := Aside0.mk (HB2.out.trans (enc_base HB2.out.size (HB3.out.trans (enc_less HB3.out.size hb4)))); clear hr4 hb4 hl8 hC8))
            go_roundg k
            case measure => exact Nat.lt_succ_self k
            case rel => exact ⟨A', cd, A8, c8, dr, o2, rfl, rfl, H5, ⟨CD.out, DC.out⟩, C8, HB4⟩
        · rw [if_neg hb] at h
          have b1 : ((0 : Int) < (body.length : Int)) = False := eq_false (by omega)
          have b2 : decide ((0 : Int) < (body.length : Int)) = false := decide_eq_false (by omega)
          have b3 : (0 < body.length) = False := eq_false hb
          have H2 := Aside0.mk h
          clear h hb
          go_wp2_with fail
          go_at_call 63
          refine (tollbarref01_Join.calls k A5 c5 out (some ⟨wr.heap.size, 0, none⟩) 5 [48, 13, 10, 13, 10] r _ (Kd.C_below HOT.out.1 (below_alloc (Below.refl _ _) _)) HOT.out.2 (C_const wr 5 [48, 13, 10, 13, 10] _ (by decide)) (by decide) H2.out).mono ?_
          rintro E w1 ⟨v1, rfl, hr1, hb1⟩
          have B1 := Aside0.mk (HB.out.trans (enc_base HB.out.size (Below.trans (below_alloc (Below.refl _ _) _) (enc_less (by simp) hb1))))
          have R1 := Aside0.mk (Kd.R_lower hr1 (Nat.le_trans HB.out.size (by simp)))
          clear hr1 hb1
          go_wp2
          go_ret
          exact ⟨_, rfl, R1.out, B1.out⟩
  · have e1 := hd2 h1
    have d1 : decide (a1 < 1) = false := decide_eq_false h1
    rw [e1] at H HSZ
    clear h1 hd1 hd2 e1
    go_enter Tryd.func33, Tryd.ntmps33
    go_wp2_with fail
    go_loopg [0, 5, 6] k (fun kq v0 v5 _ wr => ∃ (A : Option Addr) (c : Nat) (A5 : Option Addr) (c5 : Nat) (body out : List Int), v0 = .slice A body.length c ∧ v5 = .slice A5 out.length c5 ∧ Aside0 (tollbarref06_Encode.l kq body a1 out = some r) ∧ Aside0 (Kd.C (Kd.int .u8) w A body.length body ∧ body.length ≤ c) ∧ Aside0 (Kd.C (Kd.int .u8) wr A5 out.length out ∧ out.length ≤ c5) ∧ Aside0 (Below w.heap.size w wr))
    case atStart => exact ⟨A0, c0, some ⟨w.heap.size, 0, none⟩, 0, l0, [], rfl, rfl, H, HC, ⟨h0.out, Nat.le_refl _⟩, ⟨below_alloc (Below.refl _ _) _⟩⟩
    case round =>
      obtain ⟨A, c, A5, c5, body, out, rfl, rfl, H, HBD, HOT, HB⟩ := hrel
      cases gk with
      | zero => exact absurd H.out (by simp [tollbarref06_Encode.l])
      | succ k =>
        have h := H.out
        clear H
        simp only [tollbarref06_Encode.l] at h
        by_cases hb : 0 < body.length
        · rw [if_pos hb] at h
          have b1 : ((0 : Int) < (body.length : Int)) = True := eq_true (by omega)
          have b2 : decide ((0 : Int) < (body.length : Int)) = true := decide_eq_true (by omega)
          have b3 : (0 < body.length) = True := eq_true hb
          by_cases hs : a1 < (body.length : Int)
          · rw [if_pos hs] at h
            have s1 : decide (a1 < (body.length : Int)) = true := decide_eq_true hs
            have s2 : (a1 < (body.length : Int)) = True := eq_true hs
            obtain ⟨n, hn⟩ : ∃ n : Int, n = a1 := ⟨_, rfl⟩
            have HNN := Aside0.mk (show 0 ≤ n ∧ n ≤ (body.length : Int) by have := HSZ.out; omega)
            rw [← hn] at h
            have HNE := Aside0.mk hn
            clear hn hs hb
            obtain ⟨hx, h1, h⟩ := Option.bind_eq_some_iff.1 h
            by_cases hxs : hx.size ≤ 1000
            case neg => rw [if_neg hxs] at h; cases h
            rw [if_pos hxs] at h
            have HXS := Aside0.mk hxs
            clear hxs
            obtain ⟨o1, h2, h⟩ := Option.bind_eq_some_iff.1 h
            obtain ⟨j1, h3, h⟩ := Option.bind_eq_some_iff.1 h
            obtain ⟨o2, h4, h⟩ := Option.bind_eq_some_iff.1 h
            obtain ⟨i011, hi011, _, hsz11, _⟩ := info_parts info5
            obtain ⟨hsl1, hrd1, hcc1⟩ := print_take_of (P := Tryd.prog) (Value.int .u8) 0 24 5 .i64 Tryd.underlying24 hi011 hsz11 A c body n HNN.out.1 HNN.out.2 HBD.out.2
            obtain ⟨A', hsl2, hrd2, hcc2⟩ := print_drop_of (P := Tryd.prog) (Value.int .u8) 0 24 5 .i64 Tryd.underlying24 hi011 hsz11 A c body n HNN.out.1 HNN.out.2 HBD.out.2
            have CT := Aside0.mk (Kd.C_of_reads (h1 := fun _ => rfl) (hrd1 _ (Kd.reads_of_C HBD.out.1)))
            have CD := Aside0.mk (Kd.C_of_reads (h1 := fun _ => rfl) (hrd2 _ (Kd.reads_of_C HBD.out.1)))
            have HTK := Aside0.mk (show (body.take n.toNat).length = n.toNat by rw [List.length_take]; have := HNN.out; omega)
            have HDR := Aside0.mk (show (body.drop n.toNat).length = body.length - n.toNat by rw [List.length_drop])
            obtain ⟨tk, htk⟩ : ∃ tk, tk = body.take n.toNat := ⟨_, rfl⟩
            obtain ⟨dr, hdr⟩ : ∃ dr, dr = body.drop n.toNat := ⟨_, rfl⟩
            rw [← htk] at CT h3 HTK hsl1
            try rw [← htk] at hcc1
            rw [← hdr] at CD h HDR hsl2
            try rw [← hdr] at hcc2
            obtain ⟨cd, hcd⟩ : ∃ cd, cd = c - n.toNat := ⟨_, rfl⟩
            rw [← hcd] at hsl2 hcc2
            rw [HNE.out] at h1 hsl1 hsl2
            try rw [HNE.out] at h
            have H1 := Aside0.mk h1
            have H2 := Aside0.mk h2
            have H3 := Aside0.mk h3
            have H4 := Aside0.mk h4
            have H5 := Aside0.mk h
            have TC := Aside0.mk hcc1
            have DC := Aside0.mk hcc2
            clear h h1 h2 h3 h4 hrd1 hrd2 hcc1 hcc2 htk hdr hcd hsz11
            obtain ⟨bs, hbs⟩ : ∃ bs, bs = bytesOf (hx ++ (⟨#[13, 10]⟩ : ByteArray)) := ⟨_, rfl⟩
            rw [← hbs] at H2
            have hbl : (hx ++ (⟨#[13, 10]⟩ : ByteArray)).size = bs.length := by rw [hbs, bytesOf_length]
            have HBL := Aside0.mk (show bs.length ≤ 9223372036854775807 by rw [← hbl, ByteArray.size_append]; have := HXS.out; have e2 : (⟨#[13, 10]⟩ : ByteArray).size = 2 := rfl; omega)
            have kb := fun W => print_bytes (P := Tryd.prog) 9 24 5 Tryd.underlying9 Tryd.underlying24 Tryd.underlying5 (hx ++ (⟨#[13, 10]⟩ : ByteArray)) W
            rw [hbl] at kb
            have KC : ∀ W : World, Kd.C (Kd.int .u8) (Lib.bytesWorld W 5 (hx ++ (⟨#[13, 10]⟩ : ByteArray))) (some ⟨W.heap.size, 0, none⟩) bs.length bs := fun W => by rw [hbs]; exact Kd.C_of_reads (d := (0 : Int)) (h1 := fun _ => rfl) ((MRow.bytes W 5 (hx ++ (⟨#[13, 10]⟩ : ByteArray))).reads (by rw [← hbs]; exact HBL.out))
            have KG := fun W : World => grownCap_ge W bs.length 0 5
            clear hbl hbs
            have J2 : Aside0 (∀ (W : World) (g : Nat), Kd.C (Kd.int .u8) W A tk.length tk → Kd.C (Kd.int .u8) W (some ⟨g, 0, none⟩) 2 [13, 10] → Calls Tryd.prog 63 #[.slice A tk.length c, .slice (some ⟨g, 0, none⟩) 2 2] W fun e w' => ∃ v0_ : Value, e = .returned (v0_) ∧ Kd.R (Kd.int .u8) 5 w' W.heap.size (fun _ => True) v0_ j1 ∧ Below W.heap.size W w') := ⟨fun W g h0 h1 => tollbarref01_Join.calls k A c tk (some ⟨g, 0, none⟩) 2 [13, 10] j1 W h0 TC.out h1 (by decide) H3.out⟩
            have z1 : (9223372036854775807 < (hx.size : Int) + 2) = False := eq_false (by have := HXS.out; omega)
            have z2 : (9223372036854775807 < hx.size + 2) = False := eq_false (by have := HXS.out; omega)
            have z3 : (9223372036854775807 < hx.size + (⟨#[13, 10]⟩ : ByteArray).size) = False := eq_false (by have := HXS.out; have e2 : (⟨#[13, 10]⟩ : ByteArray).size = 2 := rfl; omega)
            go_wp2_with (first | (go_at_call 64; (with_reducible refine (tollbarref02_HexText.calls k a1 hx _ H1.out).mono ?_); rintro E w1 ⟨rfl, hb1⟩; have HB1 := Aside0.mk hb1; clear hb1; have BB := Aside0.mk (bytes_below HB1.out HB1.out.size 5 (hx ++ (⟨#[13, 10]⟩ : ByteArray)))) | (go_at_call 63; (with_reducible refine (tollbarref01_Join.calls k A5 c5 out (some ⟨w1.heap.size, 0, none⟩) _ bs o1 _ ?j0 HOT.out.2 ?j1 ?j2 H2.out).mono ?_); (case j0 => exact Kd.C_below HOT.out.1 BB.out); (case j1 => exact KC w1); (case j2 => exact KG w1); rintro E w2 ⟨v2, rfl, hr2, hb2⟩; obtain ⟨A6, c6, rfl, hl6, hC6⟩ := Kd.R_reads hr2; have C6 := Aside0.mk (And.intro hC6 hl6); have HB2 := Aside0.mk (HB.out.trans (enc_base HB.out.size (BB.out.trans (enc_less BB.out.size hb2)))); clear hr2 hb2 hl6 hC6) | (go_at_call 63; (with_reducible refine (J2.out _ w2.heap.size ?j0 ?j1).mono ?_); (case j0 => exact Kd.C_below CT.out (below_alloc HB2.out _)); (case j1 => exact C_const w2 5 [13, 10] _ (by decide)); rintro E w3 ⟨v3, rfl, hr3, hb3⟩; obtain ⟨A7, c7, rfl, hl7, hC7⟩ := Kd.R_reads hr3; have C7 := Aside0.mk (And.intro hC7 hl7); have HB3 := Aside0.mk (Below.trans (below_alloc (Below.refl w2.heap.size w2) (.cells #[.int .u8 13, .int .u8 10] 5)) (enc_less (by simp) hb3)); clear hr3 hb3 hl7 hC7) | (go_at_call 63; (with_reducible refine (tollbarref01_Join.calls k A6 c6 o1 A7 c7 j1 o2 _ ?j0 C6.out.2 C7.out.1 C7.out.2 H4.out).mono ?_); (case j0 => exact Kd.C_below C6.out.1 HB3.out); rintro E w4 ⟨v4, rfl, hr4, hb4⟩; obtain ⟨A8, c8, rfl, hl8, hC8⟩ := Kd.R_reads hr4; have C8 := Aside0.mk (And.intro hC8 hl8); have HB4 := Aside0.mk (HB2.out.trans (enc_base HB2.out.size (HB3.out.trans (enc_less HB3.out.size hb4)))); clear hr4 hb4 hl8 hC8))
            go_roundg k
            case measure => exact Nat.lt_succ_self k
            case rel => exact ⟨A', cd, A8, c8, dr, o2, rfl, rfl, H5, ⟨CD.out, DC.out⟩, C8, HB4⟩
          · rw [if_neg hs] at h
            have s1 : decide (a1 < (body.length : Int)) = false := decide_eq_false hs
            have s2 : (a1 < (body.length : Int)) = False := eq_false hs
            obtain ⟨n, hn⟩ : ∃ n : Int, n = (body.length : Int) := ⟨_, rfl⟩
            have HNN := Aside0.mk (show 0 ≤ n ∧ n ≤ (body.length : Int) by have := HSZ.out; omega)
            rw [← hn] at h
            have HNE := Aside0.mk hn
            clear hn hs hb
            obtain ⟨hx, h1, h⟩ := Option.bind_eq_some_iff.1 h
            by_cases hxs : hx.size ≤ 1000
            case neg => rw [if_neg hxs] at h; cases h
            rw [if_pos hxs] at h
            have HXS := Aside0.mk hxs
            clear hxs
            obtain ⟨o1, h2, h⟩ := Option.bind_eq_some_iff.1 h
            obtain ⟨j1, h3, h⟩ := Option.bind_eq_some_iff.1 h
            obtain ⟨o2, h4, h⟩ := Option.bind_eq_some_iff.1 h
            obtain ⟨i011, hi011, _, hsz11, _⟩ := info_parts info5
            obtain ⟨hsl1, hrd1, hcc1⟩ := print_take_of (P := Tryd.prog) (Value.int .u8) 0 24 5 .i64 Tryd.underlying24 hi011 hsz11 A c body n HNN.out.1 HNN.out.2 HBD.out.2
            obtain ⟨A', hsl2, hrd2, hcc2⟩ := print_drop_of (P := Tryd.prog) (Value.int .u8) 0 24 5 .i64 Tryd.underlying24 hi011 hsz11 A c body n HNN.out.1 HNN.out.2 HBD.out.2
            have CT := Aside0.mk (Kd.C_of_reads (h1 := fun _ => rfl) (hrd1 _ (Kd.reads_of_C HBD.out.1)))
            have CD := Aside0.mk (Kd.C_of_reads (h1 := fun _ => rfl) (hrd2 _ (Kd.reads_of_C HBD.out.1)))
            have HTK := Aside0.mk (show (body.take n.toNat).length = n.toNat by rw [List.length_take]; have := HNN.out; omega)
            have HDR := Aside0.mk (show (body.drop n.toNat).length = body.length - n.toNat by rw [List.length_drop])
            obtain ⟨tk, htk⟩ : ∃ tk, tk = body.take n.toNat := ⟨_, rfl⟩
            obtain ⟨dr, hdr⟩ : ∃ dr, dr = body.drop n.toNat := ⟨_, rfl⟩
            rw [← htk] at CT h3 HTK hsl1
            try rw [← htk] at hcc1
            rw [← hdr] at CD h HDR hsl2
            try rw [← hdr] at hcc2
            obtain ⟨cd, hcd⟩ : ∃ cd, cd = c - n.toNat := ⟨_, rfl⟩
            rw [← hcd] at hsl2 hcc2
            rw [HNE.out] at h1 hsl1 hsl2
            try rw [HNE.out] at h
            have H1 := Aside0.mk h1
            have H2 := Aside0.mk h2
            have H3 := Aside0.mk h3
            have H4 := Aside0.mk h4
            have H5 := Aside0.mk h
            have TC := Aside0.mk hcc1
            have DC := Aside0.mk hcc2
            clear h h1 h2 h3 h4 hrd1 hrd2 hcc1 hcc2 htk hdr hcd hsz11
            obtain ⟨bs, hbs⟩ : ∃ bs, bs = bytesOf (hx ++ (⟨#[13, 10]⟩ : ByteArray)) := ⟨_, rfl⟩
            rw [← hbs] at H2
            have hbl : (hx ++ (⟨#[13, 10]⟩ : ByteArray)).size = bs.length := by rw [hbs, bytesOf_length]
            have HBL := Aside0.mk (show bs.length ≤ 9223372036854775807 by rw [← hbl, ByteArray.size_append]; have := HXS.out; have e2 : (⟨#[13, 10]⟩ : ByteArray).size = 2 := rfl; omega)
            have kb := fun W => print_bytes (P := Tryd.prog) 9 24 5 Tryd.underlying9 Tryd.underlying24 Tryd.underlying5 (hx ++ (⟨#[13, 10]⟩ : ByteArray)) W
            rw [hbl] at kb
            have KC : ∀ W : World, Kd.C (Kd.int .u8) (Lib.bytesWorld W 5 (hx ++ (⟨#[13, 10]⟩ : ByteArray))) (some ⟨W.heap.size, 0, none⟩) bs.length bs := fun W => by rw [hbs]; exact Kd.C_of_reads (d := (0 : Int)) (h1 := fun _ => rfl) ((MRow.bytes W 5 (hx ++ (⟨#[13, 10]⟩ : ByteArray))).reads (by rw [← hbs]; exact HBL.out))
            have KG := fun W : World => grownCap_ge W bs.length 0 5
            clear hbl hbs
            have J2 : Aside0 (∀ (W : World) (g : Nat), Kd.C (Kd.int .u8) W A tk.length tk → Kd.C (Kd.int .u8) W (some ⟨g, 0, none⟩) 2 [13, 10] → Calls Tryd.prog 63 #[.slice A tk.length c, .slice (some ⟨g, 0, none⟩) 2 2] W fun e w' => ∃ v0_ : Value, e = .returned (v0_) ∧ Kd.R (Kd.int .u8) 5 w' W.heap.size (fun _ => True) v0_ j1 ∧ Below W.heap.size W w') := ⟨fun W g h0 h1 => tollbarref01_Join.calls k A c tk (some ⟨g, 0, none⟩) 2 [13, 10] j1 W h0 TC.out h1 (by decide) H3.out⟩
            have z1 : (9223372036854775807 < (hx.size : Int) + 2) = False := eq_false (by have := HXS.out; omega)
            have z2 : (9223372036854775807 < hx.size + 2) = False := eq_false (by have := HXS.out; omega)
            have z3 : (9223372036854775807 < hx.size + (⟨#[13, 10]⟩ : ByteArray).size) = False := eq_false (by have := HXS.out; have e2 : (⟨#[13, 10]⟩ : ByteArray).size = 2 := rfl; omega)
            go_wp2_with (first | (go_at_call 64; (with_reducible refine (tollbarref02_HexText.calls k (body.length : Int) hx _ H1.out).mono ?_); rintro E w1 ⟨rfl, hb1⟩; have HB1 := Aside0.mk hb1; clear hb1; have BB := Aside0.mk (bytes_below HB1.out HB1.out.size 5 (hx ++ (⟨#[13, 10]⟩ : ByteArray)))) | (go_at_call 63; (with_reducible refine (tollbarref01_Join.calls k A5 c5 out (some ⟨w1.heap.size, 0, none⟩) _ bs o1 _ ?j0 HOT.out.2 ?j1 ?j2 H2.out).mono ?_); (case j0 => exact Kd.C_below HOT.out.1 BB.out); (case j1 => exact KC w1); (case j2 => exact KG w1); rintro E w2 ⟨v2, rfl, hr2, hb2⟩; obtain ⟨A6, c6, rfl, hl6, hC6⟩ := Kd.R_reads hr2; have C6 := Aside0.mk (And.intro hC6 hl6); have HB2 := Aside0.mk (HB.out.trans (enc_base HB.out.size (BB.out.trans (enc_less BB.out.size hb2)))); clear hr2 hb2 hl6 hC6) | (go_at_call 63; (with_reducible refine (J2.out _ w2.heap.size ?j0 ?j1).mono ?_); (case j0 => exact Kd.C_below CT.out (below_alloc HB2.out _)); (case j1 => exact C_const w2 5 [13, 10] _ (by decide)); rintro E w3 ⟨v3, rfl, hr3, hb3⟩; obtain ⟨A7, c7, rfl, hl7, hC7⟩ := Kd.R_reads hr3; have C7 := Aside0.mk (And.intro hC7 hl7); have HB3 := Aside0.mk (Below.trans (below_alloc (Below.refl w2.heap.size w2) (.cells #[.int .u8 13, .int .u8 10] 5)) (enc_less (by simp) hb3)); clear hr3 hb3 hl7 hC7) | (go_at_call 63; (with_reducible refine (tollbarref01_Join.calls k A6 c6 o1 A7 c7 j1 o2 _ ?j0 C6.out.2 C7.out.1 C7.out.2 H4.out).mono ?_); (case j0 => exact Kd.C_below C6.out.1 HB3.out); rintro E w4 ⟨v4, rfl, hr4, hb4⟩; obtain ⟨A8, c8, rfl, hl8, hC8⟩ := Kd.R_reads hr4; have C8 := Aside0.mk (And.intro hC8 hl8); have HB4 := Aside0.mk (HB2.out.trans (enc_base HB2.out.size (HB3.out.trans (enc_less HB3.out.size hb4)))); clear hr4 hb4 hl8 hC8))
            go_roundg k
            case measure => exact Nat.lt_succ_self k
            case rel => exact ⟨A', cd, A8, c8, dr, o2, rfl, rfl, H5, ⟨CD.out, DC.out⟩, C8, HB4⟩
        · rw [if_neg hb] at h
          have b1 : ((0 : Int) < (body.length : Int)) = False := eq_false (by omega)
          have b2 : decide ((0 : Int) < (body.length : Int)) = false := decide_eq_false (by omega)
          have b3 : (0 < body.length) = False := eq_false hb
          have H2 := Aside0.mk h
          clear h hb
          go_wp2_with fail
          go_at_call 63
          refine (tollbarref01_Join.calls k A5 c5 out (some ⟨wr.heap.size, 0, none⟩) 5 [48, 13, 10, 13, 10] r _ (Kd.C_below HOT.out.1 (below_alloc (Below.refl _ _) _)) HOT.out.2 (C_const wr 5 [48, 13, 10, 13, 10] _ (by decide)) (by decide) H2.out).mono ?_
          rintro E w1 ⟨v1, rfl, hr1, hb1⟩
          have B1 := Aside0.mk (HB.out.trans (enc_base HB.out.size (Below.trans (below_alloc (Below.refl _ _) _) (enc_less (by simp) hb1))))
          have R1 := Aside0.mk (Kd.R_lower hr1 (Nat.le_trans HB.out.size (by simp)))
          clear hr1 hb1
          go_wp2
          go_ret
          exact ⟨_, rfl, R1.out, B1.out⟩


end Go.Proofs.YtjgpifjfaiaidaaDoor.P

