/-
  Proved: the law TableHosts answers true at every input of its row, and its arguments read behind the call as they read before.
  Conditions: those of the given statement, and no other.
-/
import Derived.Test.YtclpanalnbmejaaDoorCards
import Derived.Test.YtclpanalnbmejaaDoorTie
import Derived.Test.YtclpanalnbmejaaDoorRows
import Derived.Test.YtclpanalnbmejaaDoorZcd4b2e0f
import Derived.Test.YtclpanalnbmejaaDoorZ3da5bef4
import Derived.WalkKit
import Derived.ProofKit
import Derived.OpenShut
import Derived.ShutString
import Derived.ChangeOld
import Derived.Below
import Derived.SizedLaws
import Derived.SliceStrings
import Derived.Deep.DeepHandedRow
import Derived.Lib.LaidTab
import Derived.ChangeShapes
import Derived.ChangeSlices
namespace Go.Proofs.YtclpanalnbmejaaDoor.tableHosts
open Go.ChangeShapes Go.WideShapes Go.ChangeAt Go.RowKit
open Go.ChangeMaps (open_string shut_string)
open Go.Proofs.YtclpanalnbmejaaDoorW.PrintWords
set_option linter.unusedVariables false
set_option linter.unusedSimpArgs false
theorem own : ownKnob Tryd.prog.godebug = none := by kernel_rfl
theorem laidOut : laidOutB Tryd.prog = true := by kernel_rfl
theorem tabsOf {W : World} (h : laidMetH Tryd.prog Rows.tableHostsRow.laid W) : P.Tabs W :=
  P.Tabs.of_met (laid := Rows.tableHostsRow.laid) h (List.mem_of_getElem? (i := 2) (by kernel_rfl)) (List.mem_of_getElem? (i := 1) (by kernel_rfl))
/-- What is read of a type is a value of a kind; 'fit': no text and no slice in it is longer than the bound. -/
def Opens {α : Type} (W : World) (t : TypeId) (d : Kd α) (fit : Nat → α → Prop) : Prop :=
  ∀ (H : Type) (enc : TypeId × Value → H) (base : Nat) (spare : Nat → Bool) (held : Bool) (fuel : Nat) (cs : List Value) (x : DataW H × List MemPlace),
    DataW.trod enc Tryd.prog W base spare held fuel t cs = some x →
    ∃ v, d.K W v cs ∧ (∀ B, Rows.uptoBulk x.1 ≤ B → fit B v) ∧ (∀ B, (∀ u ∈ x.1.weights Tryd.prog t, u ≤ B) → fit B v)
theorem Opens.str {W : World} {t : TypeId} (hu : Tryd.prog.underlying t = some .string) : Opens W t Kd.string (fun B s => s.size ≤ B ∧ s.size ≤ maxLen) := by
  intro H enc base spare held fuel cs x h
  obtain ⟨s, rfl, rfl, hw⟩ := DataW.trod_string hu h
  have e : s.data.size = s.size := rfl
  refine ⟨s, rfl, fun B hB => ⟨?_, hw⟩, fun B hB => ⟨?_, hw⟩⟩
  · simp only [Rows.uptoBulk, Array.length_toList] at hB; omega
  · have := hB s.data.toList.length (by simp [DataW.weights]); rw [Array.length_toList] at this; omega
theorem Opens.int {W : World} {t : TypeId} {k : IntKind} (hu : Tryd.prog.underlying t = some (.int k)) : Opens W t (Kd.int k) (fun _ n => (Lit.int k n).wf = true) := by
  intro H enc base spare held fuel cs x h
  obtain ⟨n, rfl, rfl, hw⟩ := DataW.trod_int hu h
  exact ⟨n, rfl, fun _ _ => hw, fun _ _ => hw⟩
theorem vals_of {α : Type} (Q : Nat → α → Prop) : ∀ (n : Nat), (∀ i, i < n → ∃ v, Q i v) → ∃ vs : List α, vs.length = n ∧ ∀ i v, vs[i]? = some v → Q i v := by
  intro n
  induction n with
  | zero => intro _; exact ⟨[], rfl, fun i v h => by simp at h⟩
  | succ n ih =>
    intro h
    obtain ⟨vs, hl, hv⟩ := ih (fun i hi => h i (by omega))
    obtain ⟨v, hq⟩ := h n (by omega)
    refine ⟨vs ++ [v], by simp [hl], fun i u hu => ?_⟩
    rcases Nat.lt_or_ge i vs.length with hi | hi
    · rw [List.getElem?_append_left hi] at hu; exact hv i u hu
    · have hi2 : i = n := by
        have := (List.getElem?_eq_some_iff.1 hu).1
        simp at this; omega
      subst hi2
      rw [List.getElem?_append_right hi, hl, Nat.sub_self] at hu
      have : v = u := by simpa using hu
      exact this ▸ hq
theorem bulk_mem {H : Type} : ∀ (l : List (DataW H)) (y : DataW H), y ∈ l → Rows.uptoBulk y ≤ Rows.uptoBulkAll l
  | d :: r, y, h => by
    rw [Rows.uptoBulkAll]
    rcases List.mem_cons.1 h with rfl | h
    · omega
    · have := bulk_mem r y h; omega
theorem bulk_pos {H : Type} (d : DataW H) : 1 ≤ Rows.uptoBulk d := by cases d <;> first | (rename_i l; cases l <;> simp [Rows.uptoBulk]) | simp [Rows.uptoBulk]
theorem bulk_len {H : Type} : ∀ l : List (DataW H), l.length ≤ Rows.uptoBulkAll l
  | [] => Nat.zero_le _
  | d :: r => by rw [Rows.uptoBulkAll]; have := bulk_len r; have := bulk_pos d; simp only [List.length_cons]; omega
theorem weights_mem {H : Type} (e : TypeId) : ∀ (l : List (DataW H)) (y : DataW H) (u : Nat), y ∈ l → u ∈ y.weights Tryd.prog e → u ∈ DataW.weightsAll Tryd.prog e l
  | d :: r, y, u, h, hu => by
    rw [DataW.weightsAll]
    rcases List.mem_cons.1 h with rfl | h
    · exact List.mem_append_left _ hu
    · exact List.mem_append_right _ (weights_mem e r y u h hu)
theorem Opens.slice {α : Type} {W : World} {t e : TypeId} {d : Kd α} {fit : Nat → α → Prop} (E : Nat) (hu : Tryd.prog.underlying t = some (.slice e)) (hc : Tryd.prog.cellsOf e = d.sz) (hb : 1 ≤ Tryd.prog.bytesOf e) (ho : Opens W e d fit) :
    Opens W t (Kd.slice E d) (fun B xs => xs.length ≤ B ∧ xs.length ≤ maxLen ∧ ∀ x ∈ xs, fit B x) := by
  intro H enc base spare held fuel cs x h
  rcases DataW.trod_slice hu h with ⟨rfl, rfl⟩ | ⟨a, len, cap, elems, rest, n, _, rfl, rfl, hbs, hl, hm, hlen, hel, _, _⟩
  · refine ⟨[], ⟨none, 0, rfl, Nat.zero_le _, Kd.C_nil _ _⟩, fun B _ => ⟨Nat.zero_le _, Nat.zero_le _, by simp⟩, fun B _ => ⟨Nat.zero_le _, Nat.zero_le _, by simp⟩⟩
  · obtain ⟨vs, hvl, hv⟩ := vals_of (fun i v => ∃ c y, elems[i]? = some y ∧ W.cells? base (a.add (i * Tryd.prog.cellsOf e)) (Tryd.prog.cellsOf e) = some c ∧ d.K W v c ∧ (∀ B, Rows.uptoBulk y.1 ≤ B → fit B v) ∧ (∀ B, (∀ u ∈ y.1.weights Tryd.prog e, u ≤ B) → fit B v)) len (fun i hi => by
      have hy : elems[i]? = some (elems[i]'(by omega)) := List.getElem?_eq_getElem (by omega)
      have hx := hel i hi
      rw [hy, Option.bind_eq_some_iff] at hx
      obtain ⟨c, hcs, ht⟩ := hx
      obtain ⟨v, hk, h1, h2⟩ := ho H enc base spare held n c _ ht
      exact ⟨v, c, _, hy, hcs, hk, h1, h2⟩)
    have hrow : d.C W (some a) len vs := by
      refine ⟨hvl, by unfold maxLen at hm; omega, fun _ => ⟨a, rfl, fun j p hj => ?_⟩⟩
      obtain ⟨c, y, _, hcs, hk, _, _⟩ := hv j p hj
      obtain ⟨_, hcl, hcell⟩ := World.cells?_some hcs
      refine ⟨c, by rw [hcl, hc], hk, fun i u hi => ?_⟩
      have hil : i < Tryd.prog.cellsOf e := by rw [← hcl]; exact (List.getElem?_eq_some_iff.1 hi).1
      have := hcell i hil
      rw [hi, hc] at this
      rw [← this, add_add]
    have hmem : ∀ v ∈ vs, ∃ y, y ∈ elems ∧ (∀ B, Rows.uptoBulk y.1 ≤ B → fit B v) ∧ (∀ B, (∀ u ∈ y.1.weights Tryd.prog e, u ≤ B) → fit B v) := by
      intro v hv1
      obtain ⟨i, hi⟩ := List.getElem?_of_mem hv1
      obtain ⟨c, y, hy, _, _, h1, h2⟩ := hv i v hi
      exact ⟨y, List.mem_of_getElem? hy, h1, h2⟩
    refine ⟨vs, ⟨some a, cap, by rw [hvl], by rw [hvl]; exact hl, by rw [hvl]; exact hrow⟩, fun B hB => ?_, fun B hB => ?_⟩
    · simp only [Rows.uptoBulk] at hB
      have h1 := bulk_len (elems.map (·.1))
      rw [List.length_map, hlen] at h1
      refine ⟨by omega, by omega, fun v hv1 => ?_⟩
      obtain ⟨y, hy, h2, _⟩ := hmem v hv1
      have := bulk_mem (elems.map (·.1)) y.1 (List.mem_map_of_mem hy)
      exact h2 B (by omega)
    · simp only [DataW.weights, hu] at hB
      have h1 := hB _ List.mem_cons_self
      rw [List.length_map, hlen] at h1
      have h3 : len ≤ (len + (rest.map (·.1)).length) * Tryd.prog.bytesOf e := Nat.le_trans (Nat.le_add_right _ _) (Nat.le_mul_of_pos_right _ hb)
      refine ⟨by omega, by omega, fun v hv1 => ?_⟩
      obtain ⟨y, hy, _, h2⟩ := hmem v hv1
      exact h2 B (fun u hu1 => hB u (List.mem_cons_of_mem _ (List.mem_append_left _ (weights_mem e _ y.1 u (List.mem_map_of_mem hy) hu1))))
/-- The fields of a struct from a place on. -/
def OpensF {α : Type} (W : World) (off : Nat) (fs : List Field) (d : Kd α) (fit : Nat → α → Prop) : Prop :=
  ∀ (H : Type) (enc : TypeId × Value → H) (base : Nat) (spare : Nat → Bool) (held : Bool) (n : Nat) (cs : List Value) (xs : List (DataW H × List MemPlace)),
    xs.length = fs.length → (∀ (i : Nat) (f : Field), fs[i]? = some f → DataW.trod enc Tryd.prog W base spare held n f.type ((cs.drop f.offset).take (Tryd.prog.cellsOf f.type)) = xs[i]?) → cs.length = off + d.sz →
    ∃ v, d.K W v (cs.drop off) ∧ (∀ B, Rows.uptoBulkAll (xs.map (·.1)) ≤ B → fit B v) ∧ (∀ B, (∀ u ∈ DataW.weightsEach Tryd.prog (fs.map (·.type)) (xs.map (·.1)), u ≤ B) → fit B v)
theorem OpensF.one {α : Type} {W : World} {off : Nat} {f : Field} {d : Kd α} {fit : Nat → α → Prop} (h : Opens W f.type d fit) (hof : f.offset = off) (hc : Tryd.prog.cellsOf f.type = d.sz) : OpensF W off [f] d fit := by
  intro H enc base spare held n cs xs hl hx hcs
  match xs, hl with
  | [y], _ =>
    have h0 := hx 0 f rfl
    rw [hof, hc, List.take_of_length_le (by rw [List.length_drop]; omega)] at h0
    obtain ⟨v, hk, h1, h2⟩ := h H enc base spare held n _ y h0
    refine ⟨v, hk, fun B hB => h1 B ?_, fun B hB => h2 B (fun u hu => hB u ?_)⟩
    · simp only [List.map_cons, List.map_nil, Rows.uptoBulkAll] at hB; omega
    · simp only [List.map_cons, List.map_nil, DataW.weightsEach]; exact List.mem_append_left _ hu
theorem OpensF.cons {α β : Type} {W : World} {off : Nat} {f : Field} {fs : List Field} {a : Kd α} {b : Kd β} {fa : Nat → α → Prop} {fb : Nat → β → Prop} (h : Opens W f.type a fa) (hof : f.offset = off) (hc : Tryd.prog.cellsOf f.type = a.sz) (hr : OpensF W (off + a.sz) fs b fb) :
    OpensF W off (f :: fs) (Kd.pair a b) (fun B p => fa B p.1 ∧ fb B p.2) := by
  intro H enc base spare held n cs xs hl hx hcs
  match xs, hl with
  | y :: ys, hl =>
    have hcs2 : cs.length = off + (a.sz + b.sz) := hcs
    have h0 := hx 0 f rfl
    rw [hof, hc] at h0
    obtain ⟨v, hk, h1, h2⟩ := h H enc base spare held n _ y h0
    obtain ⟨u, hku, h3, h4⟩ := hr H enc base spare held n cs ys (by simpa using hl) (fun i g hg => by have := hx (i + 1) g (by simpa using hg); simpa using this) (by omega)
    refine ⟨(v, u), ⟨_, _, ?_, hk, hku⟩, fun B hB => ?_, fun B hB => ?_⟩
    · rw [← List.drop_drop, List.take_append_drop]
    · simp only [List.map_cons, Rows.uptoBulkAll] at hB
      exact ⟨h1 B (by omega), h3 B (by omega)⟩
    · simp only [List.map_cons, DataW.weightsEach] at hB
      exact ⟨h2 B (fun u hu => hB u (List.mem_append_left _ hu)), h4 B (fun u hu => hB u (List.mem_append_right _ hu))⟩
theorem Opens.struct {α : Type} {W : World} {t : TypeId} {fs : Array Field} {d : Kd α} {fit : Nat → α → Prop} (hu : Tryd.prog.underlying t = some (.struct fs)) (hc : Tryd.prog.cellsOf t = d.sz) (h : OpensF W 0 fs.toList d fit) : Opens W t d fit := by
  intro H enc base spare held fuel cs x hx
  obtain ⟨xs, n, _, rfl, hl, hxl, hf⟩ := DataW.trod_struct hu hx
  obtain ⟨v, hk, h1, h2⟩ := h H enc base spare held n cs xs (by simpa using hxl) (fun i f hi => hf i f (by simpa using hi)) (by omega)
  refine ⟨v, hk, fun B hB => h1 B ?_, fun B hB => h2 B (fun u hu1 => hB u ?_)⟩
  · simp only [Rows.uptoBulk] at hB; omega
  · simp only [DataW.weights, hu]; exact hu1
theorem Opens.iso {α β : Type} {W : World} {t : TypeId} {d : Kd α} {fit : Nat → α → Prop} (h : Opens W t d fit) (f : β → α) (g : α → β) (hfg : ∀ x, f (g x) = x) : Opens W t (Kd.iso d f) (fun B b => fit B (f b)) := by
  intro H enc base spare held fuel cs x hx
  obtain ⟨v, hk, h1, h2⟩ := h H enc base spare held fuel cs x hx
  exact ⟨g v, by show d.K W (f (g v)) cs; rw [hfg]; exact hk, fun B hB => by show fit B (f (g v)); rw [hfg]; exact h1 B hB, fun B hB => by show fit B (f (g v)); rw [hfg]; exact h2 B hB⟩
set_option maxRecDepth 100000 in
theorem contract (H : Type) (enc : TypeId × Value → H) (W : World) (base : Nat) (args : Array Value) (ds gs : List (DataW H)) (before : List MemPlace)
    (hval0 : ∀ (j : Nat) t v, Tryd.f5.params[j]? = some t → args[j]? = some v → Value.okWide Tryd.prog W .any base t v)
    (hW : DataW.Whole enc Tryd.prog Tryd.f5.params.toList Rows.tableHostsSpec.vars false W args.toList ds gs before)
    (hsz0 : (DataW.weightsEach Tryd.prog (Tryd.f5.params.toList ++ Rows.tableHostsSpec.plain.varTypes Tryd.prog) (ds ++ gs)).all (· ≤ reachBytes) = true) (hL : laidMetH Tryd.prog Rows.tableHostsRow.laid W) :
    Calls Tryd.prog 5 args W fun e W' => ∃ v, e = .returned v ∧ Rows.tableHostsSpec.post enc Tryd.prog Tryd.f5 false true false false W args v W' := by
  have hsz : (DataW.weightsEach Tryd.prog (Tryd.f5.params.toList ++ Rows.tableHostsSpec.plain.varTypes Tryd.prog) (ds ++ gs)).all (· ≤ reachBytes) = true := hsz0
  have hval : ∀ (j : Nat) t v, Tryd.f5.params[j]? = some t → args[j]? = some v → Value.okWide Tryd.prog W .any base t v := hval0
  have hW' := hW
  obtain ⟨p, q, hA0, hV, rfl, hfz, hnd⟩ := hW
  have hA : DataW.TrodAll enc Tryd.prog W 0 (fun _ => true) true Tryd.f5.params.toList args.toList ds p := hA0
  rw [Tryd.params5] at hA hval hsz
  obtain ⟨v0, vs0, d0, ds0, p0, q0, hargs, rfl, rfl, h0, r0⟩ := trodAll_cons hA
  obtain ⟨v1, vs1, d1, ds1, p1, q1, rfl, rfl, rfl, h1, r1⟩ := trodAll_cons r0
  obtain ⟨v2, vs2, d2, ds2, p2, q2, rfl, rfl, rfl, h2, r2⟩ := trodAll_cons r1
  obtain ⟨rfl, rfl, rfl⟩ := trodAll_nil r2
  obtain rfl : args = #[v0, v1, v2] := by cases args; simp_all
  obtain ⟨rfl, rfl⟩ := trodVars_none hV
  obtain ⟨a0, len0, cap0, rfl⟩ := okWide_slice Tryd.underlying22 (hval 0 22 v0 rfl rfl)
  have k0 := h0
  have lt0 : ∀ x ∈ p0, x.block < W.heap.size := by obtain ⟨m, hm⟩ := k0; exact DataW.trod_lt m _ _ _ hm
  obtain ⟨fuel0, hf0⟩ := h0
  obtain ⟨l0, hK0, hu0, hs0⟩ := (Opens.slice (d := P.k26) 26 Tryd.underlying22 (by kernel_rfl) (of_decide_eq_true (by kernel_rfl)) ((Opens.struct Tryd.underlying26 (by kernel_rfl) (.cons (Opens.str Tryd.underlying9) rfl (by kernel_rfl) (.cons (Opens.slice (d := Kd.string) 9 Tryd.underlying24 (by kernel_rfl) (of_decide_eq_true (by kernel_rfl)) (Opens.str Tryd.underlying9)) rfl (by kernel_rfl) (.cons (Opens.int Tryd.underlying3) rfl (by kernel_rfl) (.cons (Opens.int Tryd.underlying3) rfl (by kernel_rfl) (.cons (Opens.int Tryd.underlying3) rfl (by kernel_rfl) (.cons (Opens.int Tryd.underlying3) rfl (by kernel_rfl) (.cons (Opens.int Tryd.underlying3) rfl (by kernel_rfl) (.one (Opens.int Tryd.underlying3) rfl (by kernel_rfl)))))))))).iso (fun (x : P.S26) => (x.f0, x.f1, x.f2, x.f3, x.f4, x.f5, x.f6, x.f7)) (fun p => ⟨p.1, p.2.1, p.2.2.1, p.2.2.2.1, p.2.2.2.2.1, p.2.2.2.2.2.1, p.2.2.2.2.2.2.1, p.2.2.2.2.2.2.2⟩) (fun _ => rfl))) H enc 0 (fun _ => true) true fuel0 _ _ hf0
  have hB0 := hs0 140737488351232 (fun u hu_ => by have h_ : u ≤ reachBytes := of_decide_eq_true (List.all_eq_true.1 hsz u (DataW.weights_mem_each (j := 0) rfl rfl u hu_)); exact Nat.le_trans h_ (by decide))
  obtain ⟨A0, q0_, hcs0, hc0, hr0⟩ := hK0
  simp [Value.cells] at hcs0
  obtain ⟨rfl, rfl, rfl⟩ := hcs0
  obtain ⟨a1, rfl, rfl, rfl, w1⟩ := open_int Tryd.underlying3 (hval 1 3 v1 rfl rfl) h1
  obtain ⟨a2, rfl, rfl, rfl, w2⟩ := open_int Tryd.underlying3 (hval 2 3 v2 rfl rfl) h2
  clear hA0 hval0 hsz0 hsz
  obtain ⟨k, h⟩ := Pure.TableHosts l0 a1 a2 hB0 w1 w2
  refine (P.tollbarlaw09_TableHosts.calls k _ _ l0 a1 a2 true W hr0 hc0 h rfl (tabsOf hL)).mono fun e W' he => ?_
  obtain ⟨he, bel0⟩ := he
  have bel : Below W.heap.size W W' := bel0
  subst he
  exact ⟨_, rfl, _, _, _, [], _, [], hW', trodAll_mk1 (shut_bool Tryd.underlying4 _), (trodAll_cons_mk (Below.trod laidOut (by kernel_rfl) (of_decide_eq_true (by kernel_rfl)) k0 bel lt0) (trodAll_cons_mk (shut_int Tryd.underlying3 w1) (trodAll_cons_mk (shut_int Tryd.underlying3 w2) trodAll_mk0))), rfl, bel.frame _, fun h => by cases h⟩
def cells_4 : Array Value := #[.int .u8 0, .int .u8 1, .int .u8 28, .int .u8 2, .int .u8 29, .int .u8 14, .int .u8 24, .int .u8 3, .int .u8 30, .int .u8 22, .int .u8 20, .int .u8 15, .int .u8 25, .int .u8 17, .int .u8 4, .int .u8 8, .int .u8 31, .int .u8 27, .int .u8 13, .int .u8 23, .int .u8 21, .int .u8 19, .int .u8 16, .int .u8 7, .int .u8 26, .int .u8 12, .int .u8 18, .int .u8 6, .int .u8 11, .int .u8 5, .int .u8 10, .int .u8 9]
def cells_5 : Array Value := #[.int .u8 0, .int .u8 1, .int .u8 56, .int .u8 2, .int .u8 57, .int .u8 49, .int .u8 28, .int .u8 3, .int .u8 61, .int .u8 58, .int .u8 42, .int .u8 50, .int .u8 38, .int .u8 29, .int .u8 17, .int .u8 4, .int .u8 62, .int .u8 47, .int .u8 59, .int .u8 36, .int .u8 45, .int .u8 43, .int .u8 51, .int .u8 22, .int .u8 53, .int .u8 39, .int .u8 33, .int .u8 30, .int .u8 24, .int .u8 18, .int .u8 12, .int .u8 5, .int .u8 63, .int .u8 55, .int .u8 48, .int .u8 27, .int .u8 60, .int .u8 41, .int .u8 37, .int .u8 16, .int .u8 46, .int .u8 35, .int .u8 44, .int .u8 21, .int .u8 52, .int .u8 32, .int .u8 23, .int .u8 11, .int .u8 54, .int .u8 26, .int .u8 40, .int .u8 15, .int .u8 34, .int .u8 20, .int .u8 31, .int .u8 10, .int .u8 25, .int .u8 14, .int .u8 19, .int .u8 9, .int .u8 13, .int .u8 8, .int .u8 7, .int .u8 6]
def cells_1 : Array Value := #[.int .u64 1, .int .u64 10, .int .u64 100, .int .u64 1000, .int .u64 10000, .int .u64 100000, .int .u64 1000000, .int .u64 10000000, .int .u64 100000000, .int .u64 1000000000, .int .u64 10000000000, .int .u64 100000000000, .int .u64 1000000000000, .int .u64 10000000000000, .int .u64 100000000000000, .int .u64 1000000000000000, .int .u64 10000000000000000, .int .u64 100000000000000000, .int .u64 1000000000000000000, .int .u64 10000000000000000000]
def cells_3 : Array Value := #[.int .u8 128, .int .u8 191, .int .u8 160, .int .u8 191, .int .u8 128, .int .u8 159, .int .u8 144, .int .u8 191, .int .u8 128, .int .u8 143, .int .u8 0, .int .u8 0, .int .u8 0, .int .u8 0, .int .u8 0, .int .u8 0, .int .u8 0, .int .u8 0, .int .u8 0, .int .u8 0, .int .u8 0, .int .u8 0, .int .u8 0, .int .u8 0, .int .u8 0, .int .u8 0, .int .u8 0, .int .u8 0, .int .u8 0, .int .u8 0, .int .u8 0, .int .u8 0]
def cells_2 : Array Value := (Go.Pinned.utf8FirstZ.map fun (n : Nat) => Value.int .u8 (n : Int)).toArray
def setCells (cs : Array Value) : Obj → Obj
  | .cells _ t frozen => .cells cs t frozen
  | o => o
noncomputable def laidWorld (os : Os) : World :=
  { World.holding Tryd.prog os ⟨#[], #[], []⟩ with heap := ((((((World.holding Tryd.prog os ⟨#[], #[], []⟩).heap).modify 4 (setCells cells_4)).modify 5 (setCells cells_5)).modify 1 (setCells cells_1)).modify 3 (setCells cells_3)).modify 2 (setCells cells_2) }
theorem laid_met (os : Os) : laidMet Tryd.prog Rows.tableHostsRow.laid ((laidWorld os).forCall (fun _ _ => 0) ⟨#[], #[.slice none 0 0, .int .i64 0, .int .i64 0], []⟩).memory :=
  laidMet_of_run' 8 (by kernel_rfl) (by kernel_rfl)
theorem reads (os : Os) {H : Type} (enc : TypeId × Value → H) : ∃ places, DataW.whole enc Tryd.prog ((laidWorld os).forCall (fun _ _ => 0) ⟨#[], #[.slice none 0 0, .int .i64 0, .int .i64 0], []⟩).memory Tryd.f5.params.toList Rows.tableHostsSpec.vars false (#[.slice none 0 0, .int .i64 0, .int .i64 0] : Array Value).toList 8 = some ([.nil, .lit (.int .i64 0), .lit (.int .i64 0)], [], places) :=
  ⟨[], by kernel_rfl⟩
set_option maxRecDepth 100000 in
theorem lifted (os : Os) (started : os.Started) (H : Type) (enc : TypeId × Value → H) (F : Stop.Interp) :
    ReturnsInHanded {} Tryd.checked os 5 .any ((OpenSpec.ofChange Rows.tableHostsSpec).preRow enc Tryd.prog Tryd.f5 Rows.tableHostsRow.domain false Rows.tableHostsRow.laid) (((OpenSpec.ofChange Rows.tableHostsSpec).at F).post enc Tryd.prog Tryd.f5 false true false false) := by
  obtain ⟨places, hx⟩ := reads os enc
  refine returnsInHanded_of_row (C := Tryd.checked) (s := OpenSpec.ofChange Rows.tableHostsSpec) own started (by kernel_rfl) Tryd.func5
    (witness_row_at (enc := enc) (C := Tryd.checked) false (laidWorld os) #[.slice none 0 0, .int .i64 0, .int .i64 0] rfl (by kernel_rfl) (by kernel_rfl) (by kernel_rfl)
      (OpenSpec.preRow_of_cond 8 hx (by kernel_rfl) (fun k hk => by cases hk) (by kernel_rfl) (laid_met os))) ?_
  intro W base args ds gs before hval hW _ hcond hsz hL _ _
  exact contract H enc W base args ds gs before hval hW hsz hL
theorem said : Rows.TableHostsSaid :=
  OpenClaim.holds_of_cond 5 Tryd.f5 rfl rfl rfl rfl rfl rfl rfl ⟨rfl, rfl, rfl, rfl, rfl⟩ rfl rfl rfl rfl rfl (by kernel_rfl) Tryd.func5 (by kernel_rfl)
    (of_decide_eq_true (by kernel_rfl)) (by unfold Func.isWrapper; first | (rw [if_pos (by decide +kernel)]; kernel_rfl) | (rw [if_neg (by decide +kernel)]; exact ⟨rfl, rfl⟩))
    (fun os started H enc _ F => by rw [OpenClaim.pre_eq_preRow]; exact lifted os started H enc F)
theorem plain (f : FuncId) (fn : Func) (hf : Tryd.pinned.checked.prog.funcNamed "tollbar/tollbarlaw09.TableHosts" = some f) (hfn : Tryd.pinned.checked.prog.funcs[f]? = some fn) :
    false = Tryd.pinned.checked.prog.looks [] ∧ ∀ (j : Nat) t, fn.params[j]? = some t → Tryd.pinned.checked.prog.wantsStandIn t = false := by
  obtain rfl : f = 5 := Option.some.inj ((show Tryd.prog.funcNamed "tollbar/tollbarlaw09.TableHosts" = some 5 by kernel_rfl).symm.trans hf) |>.symm
  obtain rfl : fn = Tryd.f5 := (Option.some.inj (Tryd.func5.symm.trans hfn)).symm
  refine ⟨by kernel_rfl, fun j t ht => ?_⟩
  rw [Tryd.params5] at ht
  have hm := Array.mem_of_getElem? ht
  simp only [List.mem_toArray, List.mem_cons, List.not_mem_nil, or_false] at hm
  rcases hm with rfl | rfl | rfl
  · exact (show Tryd.prog.wantsStandIn 22 = false by kernel_rfl)
  · exact (show Tryd.prog.wantsStandIn 3 = false by kernel_rfl)
  · exact (show Tryd.prog.wantsStandIn 3 = false by kernel_rfl)
theorem card : Rows.TableHostsCardSaid :=
  Claim7.holds_tied_plain_at .later [] _ _ _ _ said (fun _ h => by cases h) (by kernel_rfl) (fun _ h => by cases h) tableHosts_row_tie rfl ⟨rfl, rfl⟩ (by kernel_rfl) rfl plain (by kernel_rfl)
#print axioms card
end Go.Proofs.YtclpanalnbmejaaDoor.tableHosts
namespace Go.Proofs.YtclpanalnbmejaaDoor
/-- The statement, under a short name, for the claim. -/
theorem tableHosts_holds : Rows.TableHostsCardSaid := tableHosts.card
end Go.Proofs.YtclpanalnbmejaaDoor
