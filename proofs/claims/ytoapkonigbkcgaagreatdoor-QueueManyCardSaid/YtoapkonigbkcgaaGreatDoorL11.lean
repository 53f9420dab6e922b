/- A library for the proof (part 11): Rl. -/
import Derived.Test.YtoapkonigbkcgaaGreatDoorL10
import Derived.ChangeShapes
import Derived.Handed
import Derived.LaidMore
import Derived.OpenShut
import Derived.ProofKit
import Derived.WideKeyArgs
set_option linter.unusedVariables false
set_option linter.unusedSimpArgs false
set_option linter.unusedSectionVars false
/-! From a contract to what a row asks: whatever the arguments reach is a resource that is given back. -/
namespace Go.Sl
open Go Go.ChangeShapes Go.RowKit

/-- The whole memory of W; but for the cells in S it is owned. -/
def keepH (W : World) (S : Fp) (w : World) (O R : Fp) : Prop :=
  (∀ b i, O b i ↔ b < W.heap.size ∧ ¬ S b i) ∧ (∀ b i, R b i ↔ S b i) ∧ (∀ b i, S b i → (W.cell? ⟨b, i, none⟩).isSome = true) ∧
  (∀ b i, b < W.heap.size → ¬ S b i → lookO w b i = lookO W b i) ∧ ∀ b i, S b i → w.cell? ⟨b, i, none⟩ = W.cell? ⟨b, i, none⟩

theorem look_some {w W : World} {b i : Nat} (h : lookO w b i = lookO W b i) (hb : b < W.heap.size) : b < w.heap.size := by
  simp only [lookO, Prod.mk.injEq] at h
  have h3 := h.2.2.1
  cases hw : w.heap[b]? with
  | none =>
    obtain ⟨o, ho⟩ : ∃ o, W.heap[b]? = some o := ⟨_, Array.getElem?_eq_getElem hb⟩
    rw [hw, ho] at h3
    cases o <;> simp at h3
  | some o => exact (Array.getElem?_eq_some_iff.1 hw).1

theorem cell_lt' {w : World} {b i : Nat} (h : (w.cell? ⟨b, i, none⟩).isSome = true) : b < w.heap.size := by
  unfold World.cell? at h
  cases hb : w.heap[b]? with
  | none => simp [hb] at h
  | some o => exact (Array.getElem?_eq_some_iff.1 hb).1

def keep (W : World) (S : Fp) : Res where
  holds := keepH W S
  loc := by
    rintro w w' O R ⟨h1, h2, h3, h4, h5⟩ ha
    exact ⟨h1, h2, h3, fun b i hb hn => (ha.own b i ((h1 b i).2 ⟨hb, hn⟩)).trans (h4 b i hb hn), fun b i hs => (ha.ro b i ((h2 b i).2 hs)).trans (h5 b i hs)⟩
  bd := by
    rintro w O R ⟨h1, h2, h3, h4, h5⟩ b i hb
    rcases hb with hb | hb
    · have := (h1 b i).1 hb
      exact look_some (h4 b i this.1 this.2) this.1
    · have := (h2 b i).1 hb
      exact cell_lt' (by rw [h5 b i this]; exact h3 b i this)
  rd := by
    rintro w O R ⟨h1, h2, h3, h4, h5⟩ b i hb
    have := (h2 b i).1 hb
    rw [h5 b i this]; exact h3 b i this

theorem keep_block {W w : World} {S O R : Fp} (h : keepH W S w O R) {b : Nat} (hb : b < W.heap.size) : w.heap[b]? = W.heap[b]? ∧ w.os = W.os ∧ w.output = W.output := by
  obtain ⟨h1, h2, h3, h4, h5⟩ := h
  obtain ⟨o, ho⟩ : ∃ o, W.heap[b]? = some o := ⟨_, Array.getElem?_eq_getElem hb⟩
  have other : (∀ cs t f, o ≠ .cells cs t f) → w.heap[b]? = W.heap[b]? ∧ w.os = W.os ∧ w.output = W.output := by
    intro hc
    have hn : ¬ S b 0 := fun hs => by
      have := h3 b 0 hs
      unfold World.cell? at this
      simp only [ho] at this
      cases o <;> first | exact (hc _ _ _ rfl).elim | simp at this
    have hl := h4 b 0 hb hn
    simp only [lookO, Prod.mk.injEq] at hl
    refine ⟨?_, hl.2.2.2.1, hl.2.2.2.2⟩
    have h7 := hl.2.2.1
    rw [ho] at h7 ⊢
    cases hw : w.heap[b]? with
    | none => rw [hw] at h7; cases o <;> first | exact (hc _ _ _ rfl).elim | cases h7
    | some o' => rw [hw] at h7; cases o <;> first | exact (hc _ _ _ rfl).elim | (cases o' <;> first | exact h7 | cases h7)
  cases o with
  | cells c t f =>
    have hW : ∀ i, W.cell? ⟨b, i, none⟩ = c[i]? := fun i => by simp [World.cell?, ho]
    have hn : ¬ S b c.size := fun hs => by have := h3 b c.size hs; rw [hW] at this; simp at this
    have hl := h4 b c.size hb hn
    simp only [lookO, Prod.mk.injEq] at hl
    refine ⟨?_, hl.2.2.2.1, hl.2.2.2.2⟩
    have h7 := hl.2.2.1
    have h8 := hl.1
    rw [hW] at h8
    rw [ho] at h7 ⊢
    simp only [Nat.le_refl, if_true] at h7
    cases hw : w.heap[b]? with
    | none => rw [hw] at h7; cases h7
    | some o' =>
      rw [hw] at h7
      cases o' with
      | cells c' t' f' =>
        have hw' : ∀ i, w.cell? ⟨b, i, none⟩ = c'[i]? := fun i => by simp [World.cell?, hw]
        rw [hw'] at h8
        have hs : c'.size ≤ c.size := by
          rw [Array.getElem?_eq_none (Nat.le_refl _)] at h8
          exact Array.getElem?_eq_none_iff.1 h8
        simp only [hs, if_true, Option.some.injEq, Obj.cells.injEq, true_and] at h7
        obtain ⟨e1, e2⟩ := h7
        subst e1 e2
        have hc : c' = c := by
          apply Array.ext_getElem?
          intro i
          by_cases hS : S b i
          · rw [← hw', ← hW]; exact h5 b i hS
          · have := h4 b i hb hS
            simp only [lookO, Prod.mk.injEq] at this
            rw [← hw', ← hW]; exact this.1
        rw [hc]
      | _ => cases h7
  | _ => exact other (by intro _ _ _ e; cases e)

theorem keep_in {W : World} {Hin : List Res} {S : Fp} (h : Sep W Hin none0 S) : Holds (Hin ++ [keep W S]) W := by
  refine ⟨_, _, Sep.append.2 ⟨none0, S, fun b i => b < W.heap.size ∧ ¬ S b i, S, h,
    ⟨fun b i => b < W.heap.size ∧ ¬ S b i, S, none0, none0, ⟨fun _ _ => Iff.rfl, fun _ _ => Iff.rfl, fun b i hs => h.rd b i hs, fun _ _ _ _ => rfl, fun _ _ _ => rfl⟩, ⟨fun _ _ h => h, fun _ _ h => h⟩,
      fun _ _ _ => ⟨fun h => h, fun h => h⟩, fun _ _ h => h.elim, fun _ _ => by simp [none0], fun _ _ => by simp [none0]⟩,
    fun _ _ h => h.elim, fun b i hb hs => hb.2 hs, fun _ _ => Iff.rfl, fun _ _ => Iff.rfl⟩⟩

/-- A law that a contract is shown of: it ends in true, and below the old end of memory nothing has turned. -/
theorem law_calls {P : Program} {f : FuncId} {args : List Value} {Hin : List Res} {X : Type} {v : X → Value} {Hout : X → List Res} {W : World} {S : Fp} (hs : Spec P f args Hin v Hout) (h : Sep W Hin none0 S) :
    Calls P f args.toArray W fun e W' => ∃ x, e = .returned (v x) ∧ ∀ b, b < W.heap.size → W'.heap[b]? = W.heap[b]? ∧ W'.os = W.os ∧ W'.output = W.output := by
  refine (hs [keep W S] W (keep_in h)).mono fun e W' ⟨x, he, hw⟩ => ⟨x, he, fun b hb => ?_⟩
  obtain ⟨O, R, O1, R1, O2, R2, h1, h2, _⟩ := (Holds.dropApp hw)
  exact keep_block h1 hb

section
variable {H : Type} {enc : TypeId × Value → H} {P : Program}
theorem trodAll_stays (hl : laidOutB P = true) {W W' : World} (hb : ∀ b, b < W.heap.size → W'.heap[b]? = W.heap[b]?) : ∀ {ts : List TypeId} {vs : List Value} {ds : List (DataW H)} {ps : List MemPlace},
    (∀ t ∈ ts, P.readableRec t = true ∧ t < P.types.size) → DataW.TrodAll enc P W 0 (fun _ => true) true ts vs ds ps → (∀ p ∈ ps, p.block < W.heap.size) →
    DataW.TrodAll enc P W' 0 (fun b => decide (b < W.heap.size)) true ts vs ds ps
  | [], vs, ds, ps, _, h, _ => by
    obtain ⟨rfl, rfl, rfl⟩ := trodAll_nil h
    exact trodAll_mk0
  | t :: ts, vs, ds, ps, ht, h, hlt => by
    obtain ⟨v, vs1, d, ds1, p, q, rfl, rfl, rfl, h1, h2⟩ := trodAll_cons h
    have g1 : ∀ x ∈ p, x.block < W.heap.size := fun x hx => hlt x (List.mem_append_left _ hx)
    refine ⟨p, q, WideElems.Trod_stays hl (ht t (by simp)).1 (ht t (by simp)).2 h1 (fun x hx => ?_) (fun x hx => by simpa using g1 x hx),
      trodAll_stays hl hb (fun u hu => ht u (by simp [hu])) h2 (fun x hx => hlt x (List.mem_append_right _ hx)), rfl⟩
    have := hb x.block (g1 x hx)
    cases x with
    | cell b o => exact World.cell?_of_block (w := W) this
    | map b => exact this

theorem law_post {fn : Func} {s : ChangeSpec} {apart fresh handsOn : Bool} {W W' : World} {args : List Value} {ds gs : List (DataW H)} {before : List MemPlace} {tb : TypeId}
    (hW : DataW.Whole enc P fn.params.toList s.vars apart W args ds gs before) (hl : laidOutB P = true) (hr : ∀ t ∈ fn.params.toList, P.readableRec t = true ∧ t < P.types.size)
    (hv : s.vars = []) (hfn : s.fn H ds = { results := [.lit (.bool true)], args := ds }) (hres : fn.resultTypes = #[tb]) (htb : P.underlying tb = some .bool)
    (hb : ∀ b, b < W.heap.size → W'.heap[b]? = W.heap[b]? ∧ W'.os = W.os ∧ W'.output = W.output) (h0 : 0 < W.heap.size) : s.post enc P fn apart fresh handsOn false W args.toArray (.bool true) W' := by
  have hW0 := hW
  obtain ⟨p, q, hA, hV, rfl, hz, hn⟩ := hW
  rw [hv] at hV
  obtain ⟨rfl, rfl⟩ := trodVars_none hV
  refine ⟨ds, [], p ++ [], [], p, [], by simpa using hW0, ?_, ?_, ?_, ⟨(hb 0 h0).2.1, (hb 0 h0).2.2, fun i hi => ?_⟩, fun h => by cases h⟩
  · rw [List.append_nil, hfn, hres]
    exact trodAll_mk1 (shut_bool htb true)
  · rw [List.append_nil, hfn]
    exact trodAll_stays hl (fun b h => (hb b h).1) hr hA hA.lt
  · rw [List.append_nil, hfn, hv]; rfl
  · rw [(hb i hi).1]
    cases hh : W.heap[i]? with
    | none => rfl
    | some o => cases o <;> simp
end
end Go.Sl
