/- A library for the proof (part 9): Lo0 Qt1 Qt2 Qt3 Qt4 Qa0 Qb0. -/
import Derived.Test.YtoapkonigbkcgaaGreatDoorL08
set_option linter.unusedVariables false
set_option linter.unusedSimpArgs false
set_option linter.unusedSectionVars false
/-! A log is opened; nothing is torn. -/
namespace Go.Sl
open Go Go.Proofs
set_option maxRecDepth 20000
def dotnew : Bytes := [46, 110, 101, 119]
theorem c107 {g : Nat} {D : DM} {nm : Bytes} {recs : List Bytes} (hln : lname nm = true) (hnl : nm.length ≤ 100) (hD : D.Ok) (hR : (D.remove (nm ++ dotnew)).1 = 0 ∨ (D.remove (nm ++ dotnew)).1 = 3) (hD1 : (D.remove (nm ++ dotnew)).2.Ok)
    (hE : ((D.remove (nm ++ dotnew)).2.read nm).2 = 0 ∨ ((D.remove (nm ++ dotnew)).2.read nm).2 = 3) (hB : ((D.remove (nm ++ dotnew)).2.read nm).1 = flat recs) (hr : ∀ b, b ∈ recs → b.length ≤ 262144) (hn : recs.length ≤ 2 ^ 30) (hN : (flat recs).length ≤ 2 ^ 50) :
    Spec P 48 [.pointer (some ⟨g, 0, none⟩), str nm] [dsk g D] (fun l : Nat => .tuple #[.pointer (some ⟨l, 0, none⟩), .int .i64 0]) (fun l => [lg l g nm recs false, dsk g (D.remove (nm ++ dotnew)).2]) := by
  have hfl : flat recs = flat recs ++ [] := (List.append_nil _).symm
  have c175h := c175 (g := g) (D := D) (s := nm ++ dotnew) hD (by rw [List.length_append]; show nm.length + 4 < _; omega)
  have c176h := c176 (g := g) (D := (D.remove (nm ++ dotnew)).2) (s := nm) hD1 (by omega)
  rw [hB] at c176h
  have c174h := c174 (s := nm) (by omega)
  rw [hln] at c174h
  obtain ⟨e1, he1⟩ : ∃ e, e = (D.remove (nm ++ dotnew)).1 := ⟨_, rfl⟩
  obtain ⟨D1, hD1'⟩ : ∃ e, e = (D.remove (nm ++ dotnew)).2 := ⟨_, rfl⟩
  rw [← he1, ← hD1'] at c175h
  rw [← he1] at hR
  rw [← hD1'] at c176h hE ⊢
  obtain ⟨e2, he2⟩ : ∃ e, e = (D1.read nm).2 := ⟨_, rfl⟩
  rw [← he2] at c176h hE
  have c177h := fun p => c177 (p := p) (recs := recs) (t := []) hr hn (by rw [List.append_nil]; exact hN) Torn.nil
  rw [List.append_nil] at c177h
  clear he1 hD1' he2 hB hfl
  refine Spec.intro Tryz.func48 rfl rfl rfl fun F => ?_
  refine W.rseq ?_
  refine WL.p rfl rfl rfl (PV.as rfl) ?_
  refine WL.p rfl rfl rfl (PV.as rfl) ?_
  refine WL.next [(5, _), (4, _), (0, _), (1, _)] ⟨rfl, rfl, rfl, rfl, trivial⟩ ?_
  refine W.seq ?_
  refine W.rseq ?_
  refine WL.p rfl rfl rfl (PV.mv rfl) ?_
  refine WL.p rfl rfl rfl (PV.eqV rfl rfl rfl (EqIs.p0 ul24)) ?_
  refine WL.p rfl rfl rfl (PV.mv rfl) ?_
  refine WL.yes (dj := 15) rfl rfl rfl rfl rfl rfl (OpD.fv (PV.fv (PV.mv rfl))) ?_
  refine WL.yesX (dj := 15) rfl rfl rfl rfl rfl rfl (OpX.call cb174 (c174h) rfl .nil) fun x17 => ?_
  refine WL.nm (H' := _ :: _) rfl ?_
  refine WL.yes (dj := 15) rfl rfl rfl rfl rfl rfl (OpD.fv (PV.fv (PV.not rfl))) ?_
  refine WL.p rfl rfl rfl (PV.pickF rfl rfl rfl) ?_
  refine WL.next [(19, _), (5, _), (4, _), (0, _), (1, _)] ⟨rfl, rfl, rfl, rfl, rfl, trivial⟩ ?_
  refine W.cF rfl ?_
  refine W.skip ?_
  refine K.next [(5, _), (4, _), (0, _), (1, _)] ⟨rfl, rfl, rfl, rfl, trivial⟩ ?_
  refine W.seq ?_
  refine W.rseq ?_
  refine WL.p rfl rfl rfl (PV.mv rfl) ?_
  refine WL.p rfl rfl rfl (PV.mv rfl) ?_
  refine WL.p rfl rfl rfl (PV.cat rfl rfl (by first | assumption | (simp only [List.length_append, List.length_cons, List.length_nil]; omega))) ?_
  refine WL.putX rfl rfl rfl (OpX.call cb175 (c175h) rfl (.cons (i := 0) rfl .nil)) fun x23 => ?_
  refine WL.nm (H' := _ :: _) rfl ?_
  refine WL.p rfl rfl rfl (PV.as rfl) ?_
  refine WL.next [(6, _), (5, _), (4, _), (0, _), (1, _)] ⟨rfl, rfl, rfl, rfl, rfl, trivial⟩ ?_
  refine W.rseq ?_
  refine WL.p rfl rfl rfl (PV.mv rfl) ?_
  refine WL.p rfl rfl rfl (PV.neI rfl rfl) ?_
  refine WL.p rfl rfl rfl (PV.mv rfl) ?_
  refine WL.splitD (t := 26) rfl (fun h0 => ?_) (fun h0 => ?_)
  refine WL.yes (dj := 26) rfl rfl rfl (decide_eq_true (by assumption)) rfl rfl (OpD.fv (PV.fv (PV.mv rfl))) ?_
  refine WL.yes (dj := 26) rfl rfl rfl (decide_eq_true (by assumption)) rfl rfl (OpD.fv (PV.fv (PV.neI rfl rfl))) ?_
  refine WL.p rfl rfl rfl (PV.pickT rfl (decide_eq_true (by assumption)) rfl) ?_
  refine WL.next [(29, _), (6, _), (5, _), (4, _), (0, _), (1, _)] ⟨rfl, rfl, rfl, rfl, rfl, rfl, trivial⟩ ?_
  refine W.condD rfl (fun h1 => ?_) (fun h1 => ?_)
  refine W.rseq ?_
  refine WL.p rfl rfl rfl (PV.mv rfl) ?_
  refine WL.p rfl rfl rfl (PV.as rfl) ?_
  refine WL.p rfl rfl rfl (PV.as rfl) ?_
  refine WL.next [(5, _), (4, _), (0, _), (1, _)] ⟨rfl, rfl, rfl, rfl, trivial⟩ ?_
  refine W.ret ?_
  refine K.retT ?_
  rotate_left
  refine W.skip ?_
  refine K.next [(5, _), (4, _), (0, _), (1, _)] ⟨rfl, rfl, rfl, rfl, trivial⟩ ?_
  refine W.rseq ?_
  refine WL.p rfl rfl rfl (PV.mv rfl) ?_
  refine WL.p rfl rfl rfl (PV.mv rfl) ?_
  refine WL.putX rfl rfl rfl (OpX.call cb176 (c176h) rfl (.cons (i := 0) rfl .nil)) fun x34 => ?_
  refine WL.nm (H' := _ :: _ :: _) rfl ?_
  refine WL.p rfl rfl rfl (PV.mv rfl) ?_
  refine WL.p rfl rfl rfl (PV.ext0 rfl) ?_
  refine WL.p rfl rfl rfl (PV.ext1 rfl) ?_
  refine WL.p rfl rfl rfl (PV.as rfl) ?_
  refine WL.p rfl rfl rfl (PV.as rfl) ?_
  refine WL.next [(8, _), (7, _), (5, _), (4, _), (0, _), (1, _)] ⟨rfl, rfl, rfl, rfl, rfl, rfl, trivial⟩ ?_
  refine W.seq ?_
  refine W.rseq ?_
  refine WL.p rfl rfl rfl (PV.mv rfl) ?_
  refine WL.p rfl rfl rfl (PV.neI rfl rfl) ?_
  refine WL.p rfl rfl rfl (PV.mv rfl) ?_
  refine WL.splitD (t := 39) rfl (fun h2 => ?_) (fun h2 => ?_)
  refine WL.yes (dj := 39) rfl rfl rfl (decide_eq_true (by assumption)) rfl rfl (OpD.fv (PV.fv (PV.mv rfl))) ?_
  refine WL.yes (dj := 39) rfl rfl rfl (decide_eq_true (by assumption)) rfl rfl (OpD.fv (PV.fv (PV.neI rfl rfl))) ?_
  refine WL.p rfl rfl rfl (PV.pickT rfl (decide_eq_true (by assumption)) rfl) ?_
  refine WL.next [(42, _), (8, _), (7, _), (5, _), (4, _), (0, _), (1, _)] ⟨rfl, rfl, rfl, rfl, rfl, rfl, rfl, trivial⟩ ?_
  refine W.condD rfl (fun h3 => ?_) (fun h3 => ?_)
  refine W.rseq ?_
  refine WL.p rfl rfl rfl (PV.mv rfl) ?_
  refine WL.p rfl rfl rfl (PV.as rfl) ?_
  refine WL.p rfl rfl rfl (PV.as rfl) ?_
  refine WL.next [(5, _), (4, _), (7, _), (0, _), (1, _)] ⟨rfl, rfl, rfl, rfl, rfl, trivial⟩ ?_
  refine W.ret ?_
  refine K.retT ?_
  rotate_left
  refine W.skip ?_
  refine K.next [(7, _), (5, _), (4, _), (0, _), (1, _)] ⟨rfl, rfl, rfl, rfl, rfl, trivial⟩ ?_
  refine W.rseq ?_
  refine WL.p rfl rfl rfl (PV.mv rfl) ?_
  refine WL.putX rfl rfl rfl (OpX.call cb177 (c177h _) rfl (.cons (i := 1) rfl .nil)) fun x46 => ?_
  refine WL.nm (H' := _ :: _ :: _ :: _ :: _) rfl ?_
  refine WL.p rfl rfl rfl (PV.mv rfl) ?_
  refine WL.p rfl rfl rfl (PV.ext0 rfl) ?_
  refine WL.p rfl rfl rfl (PV.ext1 rfl) ?_
  refine WL.p rfl rfl rfl (PV.as rfl) ?_
  refine WL.p rfl rfl rfl (PV.as rfl) ?_
  refine WL.next [(10, _), (9, _), (7, _), (5, _), (4, _), (0, _), (1, _)] ⟨rfl, rfl, rfl, rfl, rfl, rfl, rfl, trivial⟩ ?_
  refine W.rseq ?_
  refine WL.p rfl rfl rfl (PV.mv rfl) ?_
  refine WL.p rfl rfl rfl (PV.mv rfl) ?_
  refine WL.p rfl rfl rfl (PV.mv rfl) ?_
  refine WL.p rfl rfl rfl (PV.bld (cs := [_, _, _, _]) bt271 rfl rfl) ?_
  refine WL.putX rfl rfl rfl (OpX.box rfl) fun x53 => ?_
  refine WL.nm (H' := pt _ _ [_, _, _, _] :: _ :: _ :: _ :: _ :: _) rfl ?_
  refine WL.p rfl rfl rfl (PV.as rfl) ?_
  refine WL.next [(11, _), (10, _), (9, _), (7, _), (5, _), (4, _)] ⟨rfl, rfl, rfl, rfl, rfl, rfl, trivial⟩ ?_
  refine W.seq ?_
  refine W.rseq ?_
  refine WL.p rfl rfl rfl (PV.mv rfl) ?_
  refine WL.p rfl rfl rfl (PV.mv rfl) ?_
  refine WL.p rfl rfl rfl (PV.lenL ul62 rfl rfl) ?_
  refine WL.p rfl rfl rfl (PV.lt rfl rfl) ?_
  refine WL.next [(57, _), (11, _), (9, _), (5, _), (4, _)] ⟨rfl, rfl, rfl, rfl, rfl, trivial⟩ ?_
  refine W.condD rfl (fun h4 => ?_) (fun h4 => ?_)
  refine W.rseq ?_
  refine WL.p rfl rfl rfl (PV.mv rfl) ?_
  refine WL.p rfl rfl rfl (PV.mv rfl) ?_
  rotate_left
  refine W.skip ?_
  refine K.next [(11, _), (5, _), (4, _)] ⟨rfl, rfl, rfl, trivial⟩ ?_
  refine W.rseq ?_
  refine WL.p rfl rfl rfl (PV.mv rfl) ?_
  refine WL.p rfl rfl rfl (PV.as rfl) ?_
  refine WL.p rfl rfl rfl (PV.as rfl) ?_
  refine WL.next [(5, _), (4, _)] ⟨rfl, rfl, trivial⟩ ?_
  refine W.ret ?_
  rotate_left
  refine WL.no (dj := 39) rfl rfl rfl (decide_eq_false (by assumption)) rfl ?_
  refine WL.no (dj := 39) rfl rfl rfl (decide_eq_false (by assumption)) rfl ?_
  refine WL.p rfl rfl rfl (PV.pickF rfl (decide_eq_false (by assumption)) rfl) ?_
  refine WL.next [(42, _), (8, _), (7, _), (5, _), (4, _), (0, _), (1, _)] ⟨rfl, rfl, rfl, rfl, rfl, rfl, rfl, trivial⟩ ?_
  refine W.cF rfl ?_
  refine W.skip ?_
  refine K.next [(7, _), (5, _), (4, _), (0, _), (1, _)] ⟨rfl, rfl, rfl, rfl, rfl, trivial⟩ ?_
  refine W.rseq ?_
  refine WL.p rfl rfl rfl (PV.mv rfl) ?_
  refine WL.putX rfl rfl rfl (OpX.call cb177 (c177h _) rfl (.cons (i := 1) rfl .nil)) fun x46 => ?_
  refine WL.nm (H' := _ :: _ :: _ :: _ :: _) rfl ?_
  refine WL.p rfl rfl rfl (PV.mv rfl) ?_
  refine WL.p rfl rfl rfl (PV.ext0 rfl) ?_
  refine WL.p rfl rfl rfl (PV.ext1 rfl) ?_
  refine WL.p rfl rfl rfl (PV.as rfl) ?_
  refine WL.p rfl rfl rfl (PV.as rfl) ?_
  refine WL.next [(10, _), (9, _), (7, _), (5, _), (4, _), (0, _), (1, _)] ⟨rfl, rfl, rfl, rfl, rfl, rfl, rfl, trivial⟩ ?_
  refine W.rseq ?_
  refine WL.p rfl rfl rfl (PV.mv rfl) ?_
  refine WL.p rfl rfl rfl (PV.mv rfl) ?_
  refine WL.p rfl rfl rfl (PV.mv rfl) ?_
  refine WL.p rfl rfl rfl (PV.bld (cs := [_, _, _, _]) bt271 rfl rfl) ?_
  refine WL.putX rfl rfl rfl (OpX.box rfl) fun x53 => ?_
  refine WL.nm (H' := pt _ _ [_, _, _, _] :: _ :: _ :: _ :: _ :: _) rfl ?_
  refine WL.p rfl rfl rfl (PV.as rfl) ?_
  refine WL.next [(11, _), (10, _), (9, _), (7, _), (5, _), (4, _)] ⟨rfl, rfl, rfl, rfl, rfl, rfl, trivial⟩ ?_
  refine W.seq ?_
  refine W.rseq ?_
  refine WL.p rfl rfl rfl (PV.mv rfl) ?_
  refine WL.p rfl rfl rfl (PV.mv rfl) ?_
  refine WL.p rfl rfl rfl (PV.lenL ul62 rfl rfl) ?_
  refine WL.p rfl rfl rfl (PV.lt rfl rfl) ?_
  refine WL.next [(57, _), (11, _), (9, _), (5, _), (4, _)] ⟨rfl, rfl, rfl, rfl, rfl, trivial⟩ ?_
  refine W.condD rfl (fun h5 => ?_) (fun h5 => ?_)
  refine W.rseq ?_
  refine WL.p rfl rfl rfl (PV.mv rfl) ?_
  refine WL.p rfl rfl rfl (PV.mv rfl) ?_
  rotate_left
  refine W.skip ?_
  refine K.next [(11, _), (5, _), (4, _)] ⟨rfl, rfl, rfl, trivial⟩ ?_
  refine W.rseq ?_
  refine WL.p rfl rfl rfl (PV.mv rfl) ?_
  refine WL.p rfl rfl rfl (PV.as rfl) ?_
  refine WL.p rfl rfl rfl (PV.as rfl) ?_
  refine WL.next [(5, _), (4, _)] ⟨rfl, rfl, trivial⟩ ?_
  refine W.ret ?_
  rotate_left
  refine WL.no (dj := 26) rfl rfl rfl (decide_eq_false (by assumption)) rfl ?_
  refine WL.no (dj := 26) rfl rfl rfl (decide_eq_false (by assumption)) rfl ?_
  refine WL.p rfl rfl rfl (PV.pickF rfl (decide_eq_false (by assumption)) rfl) ?_
  refine WL.next [(29, _), (6, _), (5, _), (4, _), (0, _), (1, _)] ⟨rfl, rfl, rfl, rfl, rfl, rfl, trivial⟩ ?_
  refine W.cF rfl ?_
  refine W.skip ?_
  refine K.next [(5, _), (4, _), (0, _), (1, _)] ⟨rfl, rfl, rfl, rfl, trivial⟩ ?_
  refine W.rseq ?_
  refine WL.p rfl rfl rfl (PV.mv rfl) ?_
  refine WL.p rfl rfl rfl (PV.mv rfl) ?_
  refine WL.putX rfl rfl rfl (OpX.call cb176 (c176h) rfl (.cons (i := 0) rfl .nil)) fun x34 => ?_
  refine WL.nm (H' := _ :: _ :: _) rfl ?_
  refine WL.p rfl rfl rfl (PV.mv rfl) ?_
  refine WL.p rfl rfl rfl (PV.ext0 rfl) ?_
  refine WL.p rfl rfl rfl (PV.ext1 rfl) ?_
  refine WL.p rfl rfl rfl (PV.as rfl) ?_
  refine WL.p rfl rfl rfl (PV.as rfl) ?_
  refine WL.next [(8, _), (7, _), (5, _), (4, _), (0, _), (1, _)] ⟨rfl, rfl, rfl, rfl, rfl, rfl, trivial⟩ ?_
  refine W.seq ?_
  refine W.rseq ?_
  refine WL.p rfl rfl rfl (PV.mv rfl) ?_
  refine WL.p rfl rfl rfl (PV.neI rfl rfl) ?_
  refine WL.p rfl rfl rfl (PV.mv rfl) ?_
  refine WL.splitD (t := 39) rfl (fun h6 => ?_) (fun h6 => ?_)
  refine WL.yes (dj := 39) rfl rfl rfl (decide_eq_true (by assumption)) rfl rfl (OpD.fv (PV.fv (PV.mv rfl))) ?_
  refine WL.yes (dj := 39) rfl rfl rfl (decide_eq_true (by assumption)) rfl rfl (OpD.fv (PV.fv (PV.neI rfl rfl))) ?_
  refine WL.p rfl rfl rfl (PV.pickT rfl (decide_eq_true (by assumption)) rfl) ?_
  refine WL.next [(42, _), (8, _), (7, _), (5, _), (4, _), (0, _), (1, _)] ⟨rfl, rfl, rfl, rfl, rfl, rfl, rfl, trivial⟩ ?_
  refine W.condD rfl (fun h7 => ?_) (fun h7 => ?_)
  refine W.rseq ?_
  refine WL.p rfl rfl rfl (PV.mv rfl) ?_
  refine WL.p rfl rfl rfl (PV.as rfl) ?_
  refine WL.p rfl rfl rfl (PV.as rfl) ?_
  refine WL.next [(5, _), (4, _), (7, _), (0, _), (1, _)] ⟨rfl, rfl, rfl, rfl, rfl, trivial⟩ ?_
  refine W.ret ?_
  refine K.retT ?_
  rotate_left
  refine W.skip ?_
  refine K.next [(7, _), (5, _), (4, _), (0, _), (1, _)] ⟨rfl, rfl, rfl, rfl, rfl, trivial⟩ ?_
  refine W.rseq ?_
  refine WL.p rfl rfl rfl (PV.mv rfl) ?_
  refine WL.putX rfl rfl rfl (OpX.call cb177 (c177h _) rfl (.cons (i := 1) rfl .nil)) fun x46 => ?_
  refine WL.nm (H' := _ :: _ :: _ :: _ :: _) rfl ?_
  refine WL.p rfl rfl rfl (PV.mv rfl) ?_
  refine WL.p rfl rfl rfl (PV.ext0 rfl) ?_
  refine WL.p rfl rfl rfl (PV.ext1 rfl) ?_
  refine WL.p rfl rfl rfl (PV.as rfl) ?_
  refine WL.p rfl rfl rfl (PV.as rfl) ?_
  refine WL.next [(10, _), (9, _), (7, _), (5, _), (4, _), (0, _), (1, _)] ⟨rfl, rfl, rfl, rfl, rfl, rfl, rfl, trivial⟩ ?_
  refine W.rseq ?_
  refine WL.p rfl rfl rfl (PV.mv rfl) ?_
  refine WL.p rfl rfl rfl (PV.mv rfl) ?_
  refine WL.p rfl rfl rfl (PV.mv rfl) ?_
  refine WL.p rfl rfl rfl (PV.bld (cs := [_, _, _, _]) bt271 rfl rfl) ?_
  refine WL.putX rfl rfl rfl (OpX.box rfl) fun x53 => ?_
  refine WL.nm (H' := pt _ _ [_, _, _, _] :: _ :: _ :: _ :: _ :: _) rfl ?_
  refine WL.p rfl rfl rfl (PV.as rfl) ?_
  refine WL.next [(11, _), (10, _), (9, _), (7, _), (5, _), (4, _)] ⟨rfl, rfl, rfl, rfl, rfl, rfl, trivial⟩ ?_
  refine W.seq ?_
  refine W.rseq ?_
  refine WL.p rfl rfl rfl (PV.mv rfl) ?_
  refine WL.p rfl rfl rfl (PV.mv rfl) ?_
  refine WL.p rfl rfl rfl (PV.lenL ul62 rfl rfl) ?_
  refine WL.p rfl rfl rfl (PV.lt rfl rfl) ?_
  refine WL.next [(57, _), (11, _), (9, _), (5, _), (4, _)] ⟨rfl, rfl, rfl, rfl, rfl, trivial⟩ ?_
  refine W.condD rfl (fun h8 => ?_) (fun h8 => ?_)
  refine W.rseq ?_
  refine WL.p rfl rfl rfl (PV.mv rfl) ?_
  refine WL.p rfl rfl rfl (PV.mv rfl) ?_
  rotate_left
  refine W.skip ?_
  refine K.next [(11, _), (5, _), (4, _)] ⟨rfl, rfl, rfl, trivial⟩ ?_
  refine W.rseq ?_
  refine WL.p rfl rfl rfl (PV.mv rfl) ?_
  refine WL.p rfl rfl rfl (PV.as rfl) ?_
  refine WL.p rfl rfl rfl (PV.as rfl) ?_
  refine WL.next [(5, _), (4, _)] ⟨rfl, rfl, trivial⟩ ?_
  refine W.ret ?_
  rotate_left
  refine WL.no (dj := 39) rfl rfl rfl (decide_eq_false (by assumption)) rfl ?_
  refine WL.no (dj := 39) rfl rfl rfl (decide_eq_false (by assumption)) rfl ?_
  refine WL.p rfl rfl rfl (PV.pickF rfl (decide_eq_false (by assumption)) rfl) ?_
  refine WL.next [(42, _), (8, _), (7, _), (5, _), (4, _), (0, _), (1, _)] ⟨rfl, rfl, rfl, rfl, rfl, rfl, rfl, trivial⟩ ?_
  refine W.cF rfl ?_
  refine W.skip ?_
  refine K.next [(7, _), (5, _), (4, _), (0, _), (1, _)] ⟨rfl, rfl, rfl, rfl, rfl, trivial⟩ ?_
  refine W.rseq ?_
  refine WL.p rfl rfl rfl (PV.mv rfl) ?_
  refine WL.putX rfl rfl rfl (OpX.call cb177 (c177h _) rfl (.cons (i := 1) rfl .nil)) fun x46 => ?_
  refine WL.nm (H' := _ :: _ :: _ :: _ :: _) rfl ?_
  refine WL.p rfl rfl rfl (PV.mv rfl) ?_
  refine WL.p rfl rfl rfl (PV.ext0 rfl) ?_
  refine WL.p rfl rfl rfl (PV.ext1 rfl) ?_
  refine WL.p rfl rfl rfl (PV.as rfl) ?_
  refine WL.p rfl rfl rfl (PV.as rfl) ?_
  refine WL.next [(10, _), (9, _), (7, _), (5, _), (4, _), (0, _), (1, _)] ⟨rfl, rfl, rfl, rfl, rfl, rfl, rfl, trivial⟩ ?_
  refine W.rseq ?_
  refine WL.p rfl rfl rfl (PV.mv rfl) ?_
  refine WL.p rfl rfl rfl (PV.mv rfl) ?_
  refine WL.p rfl rfl rfl (PV.mv rfl) ?_
  refine WL.p rfl rfl rfl (PV.bld (cs := [_, _, _, _]) bt271 rfl rfl) ?_
  refine WL.putX rfl rfl rfl (OpX.box rfl) fun x53 => ?_
  refine WL.nm (H' := pt _ _ [_, _, _, _] :: _ :: _ :: _ :: _ :: _) rfl ?_
  refine WL.p rfl rfl rfl (PV.as rfl) ?_
  refine WL.next [(11, _), (10, _), (9, _), (7, _), (5, _), (4, _)] ⟨rfl, rfl, rfl, rfl, rfl, rfl, trivial⟩ ?_
  refine W.seq ?_
  refine W.rseq ?_
  refine WL.p rfl rfl rfl (PV.mv rfl) ?_
  refine WL.p rfl rfl rfl (PV.mv rfl) ?_
  refine WL.p rfl rfl rfl (PV.lenL ul62 rfl rfl) ?_
  refine WL.p rfl rfl rfl (PV.lt rfl rfl) ?_
  refine WL.next [(57, _), (11, _), (9, _), (5, _), (4, _)] ⟨rfl, rfl, rfl, rfl, rfl, trivial⟩ ?_
  refine W.condD rfl (fun h9 => ?_) (fun h9 => ?_)
  refine W.rseq ?_
  refine WL.p rfl rfl rfl (PV.mv rfl) ?_
  refine WL.p rfl rfl rfl (PV.mv rfl) ?_
  rotate_left
  refine W.skip ?_
  refine K.next [(11, _), (5, _), (4, _)] ⟨rfl, rfl, rfl, trivial⟩ ?_
  refine W.rseq ?_
  refine WL.p rfl rfl rfl (PV.mv rfl) ?_
  refine WL.p rfl rfl rfl (PV.as rfl) ?_
  refine WL.p rfl rfl rfl (PV.as rfl) ?_
  refine WL.next [(5, _), (4, _)] ⟨rfl, rfl, trivial⟩ ?_
  refine W.ret ?_
  rotate_left
  all_goals first
    | (exfalso; omega)
    | (refine K.fin (vs := [_, _]) x53 ⟨rfl, rfl, trivial⟩ rfl (Ent.fold (f := lgF x53 g nm recs false) x46 ?_)
       exact Ent.take 0 rfl (Ent.take 0 rfl (Ent.take 0 rfl (Ent.take 1 rfl (Ent.tail (Ent.refl _))))))
end Go.Sl
/-! The queue: what is written. -/
namespace Go.Sl
open Go Go.Proofs
set_option maxRecDepth 20000
/-- write, where there is room. -/
theorem c205a {q l g : Nat} {c0 c1 c2 c3 : Value} {down : Bool} {L : LM} {p : SP} {b : Bytes} (hfull : (L.append b).1 ≠ 5) (hD : L.D.Ok) (hD2 : (L.D.append L.nm (frame b)).2.Ok) (hn : L.nm.length < 2 ^ 40) (hr : L.recs.length ≤ 2 ^ 40) (hb : b.length ≤ 2 ^ 44) (hfb : (frame b).length ≤ 2 ^ 45) :
    Spec P 90 [.pointer (some ⟨q, 0, none⟩), p.v b.length] [pt q 0 [c0, c1, c2, c3, .pointer (some ⟨l, 0, none⟩), .bool false, .bool down], lg l g L.nm L.recs L.down, dsk g L.D, sl Kb p b]
      (fun _ : Unit => .int .i64 (L.append b).1) (fun _ => [pt q 0 [c0, c1, c2, c3, .pointer (some ⟨l, 0, none⟩), .bool false, .bool (down || decide ((L.append b).1 = 6))], lg l g (L.append b).2.nm (L.append b).2.recs (L.append b).2.down, dsk g (L.append b).2.D, sl Kb p b]) := by
  have c116h := c116 (l := l) (g := g) (L := L) (p := p) (b := b) hD hD2 hn hr hb hfb
  refine Spec.intro Tryz.func90 rfl rfl rfl fun F => ?_
  refine W.rseq ?_
  refine WL.p rfl rfl rfl (PV.as rfl) ?_
  refine WL.next [(4, _), (0, _), (1, _)] ⟨rfl, rfl, rfl, trivial⟩ ?_
  refine W.seq ?_
  refine W.rseq ?_
  refine WL.p rfl rfl rfl (PV.mv rfl) ?_
  refine WL.p rfl rfl rfl (PV.nck rfl) ?_
  refine WL.p rfl rfl rfl (PV.fa fo202_2 rfl rfl) ?_
  refine WL.f rfl rfl rfl (FV.ld (LdD.sc 0 5 sc4 rfl rfl rfl rfl)) ?_
  refine WL.p rfl rfl rfl (PV.not rfl) ?_
  refine WL.next [(11, _), (4, _), (0, _), (1, _)] ⟨rfl, rfl, rfl, rfl, trivial⟩ ?_
  refine W.cT rfl ?_
  refine W.rseq ?_
  refine WL.p rfl rfl rfl (PV.mv rfl) ?_
  refine WL.p rfl rfl rfl (PV.nck rfl) ?_
  refine WL.p rfl rfl rfl (PV.fa fo202_1 rfl rfl) ?_
  refine WL.f rfl rfl rfl (FV.ld (LdD.sc 0 4 sc176 rfl rfl rfl rfl)) ?_
  refine WL.p rfl rfl rfl (PV.mv rfl) ?_
  refine WL.putX rfl rfl rfl (OpX.call cb116 (c116h) rfl (.cons (i := 1) rfl (.cons (i := 1) rfl (.cons (i := 1) rfl .nil)))) fun x17 => ?_
  refine WL.nm (H' := _ :: _ :: _ :: pt _ _ [_, _, _, _, _, _, _] :: _) rfl ?_
  refine WL.p rfl rfl rfl (PV.as rfl) ?_
  refine WL.next [(5, _), (4, _), (0, _)] ⟨rfl, rfl, rfl, trivial⟩ ?_
  refine W.rseq ?_
  refine WL.p rfl rfl rfl (PV.mv rfl) ?_
  refine WL.p rfl rfl rfl (PV.neI rfl rfl) ?_
  refine WL.next [(19, _), (5, _), (4, _), (0, _)] ⟨rfl, rfl, rfl, rfl, trivial⟩ ?_
  refine W.condD rfl (fun h0 => ?_) (fun h0 => ?_)
  refine W.rseq ?_
  refine WL.p rfl rfl rfl (PV.mv rfl) ?_
  refine WL.p rfl rfl rfl (PV.mv rfl) ?_
  refine WL.putX rfl rfl rfl (OpX.call cb274 (c274) rfl (.cons (i := 3) rfl .nil)) fun x22 => ?_
  refine WL.nm (H' := pt _ _ [_, _, _, _, _, _, _] :: _ :: _ :: _ :: _) rfl ?_
  refine WL.p rfl rfl rfl (PV.as rfl) ?_
  refine WL.next [(4, _), (0, _)] ⟨rfl, rfl, trivial⟩ ?_
  refine W.ret ?_
  refine K.retT ?_
  rotate_left
  refine W.skip ?_
  refine K.next [(4, _), (0, _)] ⟨rfl, rfl, trivial⟩ ?_
  refine W.dseq [0, 1, 2, 3, 4, 5, 6, 7, 8, 9] mixedOrders rfl rfl fun hR => ?_
  refine DP.p rfl rfl rfl rfl rfl (PV.mv rfl) ?_
  refine DP.p rfl rfl rfl rfl rfl (PV.nck rfl) ?_
  refine DP.p rfl rfl rfl rfl rfl (PV.fa fo202_1 rfl rfl) ?_
  refine DP.f rfl rfl rfl rfl rfl (FV.ld (LdD.sc 3 4 sc176 rfl rfl rfl rfl)) ?_
  refine DP.p rfl rfl rfl rfl rfl (PV.mv rfl) ?_
  refine DP.p rfl rfl rfl rfl rfl (PV.nck rfl) ?_
  refine DP.p rfl rfl rfl rfl rfl (PV.fa fo202_0 rfl rfl) ?_
  rotate_left
  · refine K.fin (vs := [_]) () ⟨rfl, trivial⟩ rfl ?_
    refine Ent.take 0 rfl ?_
    refine Ent.take 0 rfl ?_
    refine Ent.take 0 rfl ?_
    refine Ent.keep 0 rfl (sl_pers _ _ _) ?_
    exact Ent.tail (Ent.refl _)
  · exact absurd hfull h0
/-- A queue, but for its log. -/
def quF (q l : Nat) (s : QS) (loose down : Bool) (z : Nat × Nat) : List Res := [pt q 0 [.map (some z.1), .map (some z.2), .int .i64 s.next, .int .i64 s.aim, .pointer (some ⟨l, 0, none⟩), .bool loose, .bool down], mx Kmsg z.1 s.mail, mx (Kint .i64) z.2 s.form]
def qu (q l : Nat) (s : QS) (loose down : Bool) : Res := ex (Nat × Nat) (quF q l s loose down)
theorem c125o {q l g : Nat} {z : Nat × Nat} {s : QS} {down : Bool} {L : LM} {p : SP} {f : Int} {m : Msg} {b : Bytes} (hbe : b = [80] ++ encM f m) (hC : Can f m) (hfull : (L.append b).1 ≠ 5) (hD : L.D.Ok) (hD2 : (L.D.append L.nm (frame b)).2.Ok) (hn : L.nm.length < 2 ^ 40) (hr : L.recs.length ≤ 2 ^ 40) :
    Spec P 53 [.pointer (some ⟨q, 0, none⟩), p.v b.length] [pt q 0 [.map (some z.1), .map (some z.2), .int .i64 s.next, .int .i64 s.aim, .pointer (some ⟨l, 0, none⟩), .bool false, .bool down], mx Kmsg z.1 s.mail, mx (Kint .i64) z.2 s.form, lg l g L.nm L.recs L.down, dsk g L.D, sl Kb p b]
      (fun _ : Unit => .int .i64 (L.append b).1) (fun _ => [qu q l (if (L.append b).1 = 0 then s.put m f else s) false (down || decide ((L.append b).1 = 6)), lg l g (L.append b).2.nm (L.append b).2.recs (L.append b).2.down, dsk g (L.append b).2.D, sl Kb p b]) := by
  have hlen := hC.len
  have hbl : b.length = 1 + (encM f m).length := by rw [hbe, List.length_append]; rfl
  have hfl := frame_len b
  have c204h := c204 (q := q) (r1 := z.1) (r2 := z.2) (s := s) (c4 := .pointer (some ⟨l, 0, none⟩)) (c5 := .bool false) (c6 := .bool down)
  have c122h := c122p (q := q) (r1 := z.1) (r2 := z.2) (s := s) (c4 := .pointer (some ⟨l, 0, none⟩)) (c5 := .bool false) (c6 := .bool down) (p := p) hC
  rw [← hbe] at c122h
  have c205h := fun c0 c1 c2 c3 => c205a (q := q) (l := l) (g := g) (c0 := c0) (c1 := c1) (c2 := c2) (c3 := c3) (down := down) (L := L) (p := p) (b := b) hfull hD hD2 hn hr (by omega) (by omega)
  refine Spec.intro Tryz.func53 rfl rfl rfl fun F => ?_
  refine W.rseq ?_
  refine WL.p rfl rfl rfl (PV.as rfl) ?_
  refine WL.next [(4, _), (0, _), (1, _)] ⟨rfl, rfl, rfl, trivial⟩ ?_
  refine W.rseq ?_
  refine WL.p rfl rfl rfl (PV.mv rfl) ?_
  refine WL.p rfl rfl rfl (PV.nck rfl) ?_
  refine WL.p rfl rfl rfl (PV.fa fo202_0 rfl rfl) ?_
  refine WL.putX rfl rfl rfl (OpX.call cb204 (c204h) rfl (.cons (i := 0) rfl (.cons (i := 0) rfl (.cons (i := 0) rfl .nil)))) fun x10 => ?_
  refine WL.nm (H' := pt _ _ [_, _, _, _, _, _, _] :: _ :: _ :: _ :: _ :: _ :: _ :: _ :: _) rfl ?_
  refine WL.putX rfl rfl rfl (OpX.alloc zr200) fun x5 => ?_
  refine WL.nm (H' := pt _ _ [_, _, _, _] :: pt _ _ [_, _, _, _, _, _, _] :: _ :: _ :: _ :: _ :: _ :: _ :: _ :: _) rfl ?_
  refine WL.done rfl rfl (OpD.st 0 0 sz200 rfl rfl rfl rfl rfl rfl (NAs.mem (vs := [_, _, _, _]) ⟨NA.map _, NA.map _, NA.int _ _, NA.int _ _, trivial⟩)) ?_
  refine WL.nm (H' := pt _ _ [_, _, _, _] :: pt _ _ [_, _, _, _, _, _, _] :: _ :: _ :: _ :: _ :: _ :: _ :: _ :: _) rfl ?_
  refine WL.next [(5, _), (4, _), (0, _), (1, _)] ⟨rfl, rfl, rfl, rfl, trivial⟩ ?_
  refine W.rseq ?_
  refine WL.p rfl rfl rfl (PV.mv rfl) ?_
  refine WL.p rfl rfl rfl (PV.nck rfl) ?_
  refine WL.p rfl rfl rfl (PV.fa fo202_0 rfl rfl) ?_
  refine WL.p rfl rfl rfl (PV.mv rfl) ?_
  refine WL.putX rfl rfl rfl (OpX.call cb122 (c122h) rfl (.cons (i := 1) rfl (.cons (i := 1) rfl (.cons (i := 1) rfl (.cons (i := 5) rfl .nil))))) fun x15 => ?_
  refine WL.nm (H' := pt _ _ [_, _, _, _, _, _, _] :: _ :: _ :: _ :: pt _ _ [_, _, _, _] :: _ :: _ :: _ :: _ :: _) rfl ?_
  refine WL.next [(5, _), (4, _), (0, _), (1, _)] ⟨rfl, rfl, rfl, rfl, trivial⟩ ?_
  refine W.rseq ?_
  refine WL.p rfl rfl rfl (PV.mv rfl) ?_
  refine WL.p rfl rfl rfl (PV.mv rfl) ?_
  refine WL.putX rfl rfl rfl (OpX.call cb205 (c205h _ _ _ _) rfl (.cons (i := 0) rfl (.cons (i := 6) rfl (.cons (i := 6) rfl (.cons (i := 2) rfl .nil))))) fun x18 => ?_
  refine WL.nm (H' := pt _ _ [_, _, _, _, _, _, _] :: _ :: _ :: _ :: _ :: _ :: pt _ _ [_, _, _, _] :: _ :: _ :: _) rfl ?_
  refine WL.p rfl rfl rfl (PV.as rfl) ?_
  refine WL.next [(6, _), (5, _), (4, _), (0, _)] ⟨rfl, rfl, rfl, rfl, trivial⟩ ?_
  refine W.seq ?_
  refine W.rseq ?_
  refine WL.p rfl rfl rfl (PV.mv rfl) ?_
  refine WL.p rfl rfl rfl (PV.neI rfl rfl) ?_
  refine WL.next [(20, _), (6, _), (5, _), (4, _), (0, _)] ⟨rfl, rfl, rfl, rfl, rfl, trivial⟩ ?_
  refine W.condD rfl (fun h0 => ?_) (fun h0 => ?_)
  refine W.region ?_
  refine WL.p rfl rfl rfl (PV.mv rfl) ?_
  refine WL.f rfl rfl rfl (FV.ld (LdD.ag (us := [_, _, _, _]) 6 0 ag200 rfl rfl rfl rfl rfl)) ?_
  refine WL.p rfl rfl rfl (PV.nck rfl) ?_
  refine WL.p rfl rfl rfl (PV.fa fo202_0 rfl rfl) ?_
  refine WL.done rfl rfl (OpD.st 0 0 sz200 rfl rfl rfl rfl rfl rfl (NAs.mem (vs := [_, _, _, _]) ⟨NA.map _, NA.map _, NA.int _ _, NA.int _ _, trivial⟩)) ?_
  refine WL.nm (H' := pt _ _ [_, _, _, _, _, _, _] :: _ :: _ :: _ :: _ :: _ :: pt _ _ [_, _, _, _] :: _ :: _ :: _) rfl ?_
  refine WL.next [(6, _), (4, _)] ⟨rfl, rfl, trivial⟩ ?_
  refine W.rseq ?_
  refine WL.p rfl rfl rfl (PV.mv rfl) ?_
  refine WL.p rfl rfl rfl (PV.as rfl) ?_
  refine WL.next [(4, _)] ⟨rfl, trivial⟩ ?_
  refine W.ret ?_
  rotate_left
  refine W.skip ?_
  refine K.next [(6, _), (4, _)] ⟨rfl, rfl, trivial⟩ ?_
  refine W.rseq ?_
  refine WL.p rfl rfl rfl (PV.mv rfl) ?_
  refine WL.p rfl rfl rfl (PV.as rfl) ?_
  refine WL.next [(4, _)] ⟨rfl, trivial⟩ ?_
  refine W.ret ?_
  rotate_left
  · rw [if_neg h0]
    refine K.fin (vs := [_]) () ⟨rfl, trivial⟩ rfl (Ent.fold (f := quF q l s false _) (x10.1, x10.2) ?_)
    refine Ent.take 0 rfl (Ent.take 6 rfl (Ent.take 6 rfl ?_))
    refine Ent.take 0 rfl ?_
    refine Ent.take 0 rfl ?_
    refine Ent.keep 0 rfl (sl_pers _ _ _) ?_
    exact Ent.tail (Ent.tail (Ent.tail (Ent.tail (Ent.refl _))))
  · rw [if_pos (by simpa using h0)]
    refine K.fin (vs := [_]) () ⟨rfl, trivial⟩ rfl (Ent.fold (f := quF q l (s.put m f) false _) z ?_)
    refine Ent.take 0 rfl ?_
    refine Ent.take 3 rfl ?_
    refine Ent.take 3 rfl ?_
    refine Ent.take 0 rfl ?_
    refine Ent.take 0 rfl ?_
    refine Ent.keep 0 rfl (sl_pers _ _ _) ?_
    exact Ent.tail (Ent.tail (Ent.tail (Ent.tail (Ent.refl _))))
theorem FV.lenMx {ρ : Env} {H : List Res} {d : Option Tmp} {ty : TypeId} {pos : String} {af : Array Edge} {g : Option (Nat × Bool)} {x : Operand} {α : Type} {K : Kd α} {t kt et r : Nat} {m : List (Int × α)} {ts : Array TypeId} (i : Nat) (ht : MapT P t kt et) (hts : ts[0]? = some t) (hx : ev ρ x = some (.map (some r))) (hi : H[i]? = some (mx K r m)) :
    FV P ⟨d, .call ⟨.builtin .len, #[x], ts⟩, ty, pos, af, g⟩ ρ H (.int .i64 m.length) := by
  intro n a w ha hw
  obtain ⟨m', h⟩ := (hw.pick hi).ex
  obtain ⟨hm, h'⟩ := Holds.pr h
  have := FV.lenM (P := P) (d := d) (ty := ty) (pos := pos) (af := af) (g := g) 0 ht hts hx (H := mp kvI K r m' :: rem H i) rfl n a w ha h'
  rw [hm.1.length_eq] at this
  exact this
end Go.Sl
/-! The queue: Put. -/
namespace Go.Sl
open Go Go.Proofs
set_option maxRecDepth 20000
/-- The message that is put. -/
def newM (s : QS) (frm : Bytes) (rcpts body : List Bytes) (gen now : Int) : Msg := ⟨s.next, gen, now, 0, now, frm, rcpts, [], body⟩
structure QL where
  s : QS
  down : Bool
  L : LM
def putB (s : QS) (m : Msg) : Bytes := [80] ++ encM s.aim m
def QL.put (q : QL) (frm : Bytes) (rcpts body : List Bytes) (gen now : Int) : Int × Int × QL :=
  if q.down then (0, 6, q)
  else if 60 ≤ q.s.mail.length then (0, 5, q)
  else if goodM (newM q.s frm rcpts body gen now) = false then (0, 2, q)
  else if (q.L.append (putB q.s (newM q.s frm rcpts body gen now))).1 = 0 then (q.s.next, 0, ⟨q.s.put (newM q.s frm rcpts body gen now) q.s.aim, q.down, (q.L.append (putB q.s (newM q.s frm rcpts body gen now))).2⟩)
  else (0, (q.L.append (putB q.s (newM q.s frm rcpts body gen now))).1, ⟨q.s, decide ((q.L.append (putB q.s (newM q.s frm rcpts body gen now))).1 = 6), (q.L.append (putB q.s (newM q.s frm rcpts body gen now))).2⟩)
/-- What is known of a log that is written to. -/
structure LOk (L : LM) (b : Bytes) : Prop where
  full : (L.append b).1 ≠ 5
  dok : L.D.Ok
  dok2 : (L.D.append L.nm (frame b)).2.Ok
  nm : L.nm.length < 2 ^ 40
  rl : L.recs.length ≤ 2 ^ 40
theorem c41 {q l g : Nat} {Q : QL} {p1 p3 : SP} {frm : Bytes} {rcpts body : List Bytes} {gen now : Int} (hM : (newM Q.s frm rcpts body gen now).Ok)
    (hC : goodM (newM Q.s frm rcpts body gen now) = true → Can Q.s.aim (newM Q.s frm rcpts body gen now)) (hL : goodM (newM Q.s frm rcpts body gen now) = true → LOk Q.L (putB Q.s (newM Q.s frm rcpts body gen now))) :
    Spec P 19 [.pointer (some ⟨q, 0, none⟩), .agg #[str frm, p1.v rcpts.length, p3.v body.length], .int .i64 gen, .int .i64 now] [qu q l Q.s false Q.down, lg l g Q.L.nm Q.L.recs Q.L.down, dsk g Q.L.D, sl Kstr p1 rcpts, sl Kstr p3 body]
      (fun _ : Unit => .tuple #[.int .i64 (Q.put frm rcpts body gen now).1, .int .i64 (Q.put frm rcpts body gen now).2.1])
      (fun _ => [qu q l (Q.put frm rcpts body gen now).2.2.s false (Q.put frm rcpts body gen now).2.2.down, lg l g (Q.put frm rcpts body gen now).2.2.L.nm (Q.put frm rcpts body gen now).2.2.L.recs (Q.put frm rcpts body gen now).2.2.L.down, dsk g (Q.put frm rcpts body gen now).2.2.L.D, sl Kstr p1 rcpts, sl Kstr p3 body]) := by
  obtain ⟨m, hm⟩ : ∃ m, m = newM Q.s frm rcpts body gen now := ⟨_, rfl⟩
  obtain ⟨s, down, L⟩ := Q
  simp only at hM hC hL hm ⊢
  refine Spec.exI fun z => ?_
  have c123h := fun c0 c1 c2 c3 c4 c5 => c123 (q := q) (c0 := c0) (c1 := c1) (c2 := c2) (c3 := c3) (c4 := c4) (c5 := c5) (down := down)
  have c124h := c124 (p1 := p1) (p2 := SP.nil) (p3 := p3) hM
  refine Spec.intro Tryz.func19 rfl rfl rfl fun F => ?_
  refine W.entH (Ent.ofNil (Ent.nil_sl (Kint .i64))) ?_
  refine W.entH (Ent.ofNil (Ent.nil_sl Kb)) ?_
  refine W.nm (H' := sl Kb SP.nil [] :: sl (Kint .i64) SP.nil [] :: pt _ _ [_, _, _, _, _, _, _] :: _ :: _ :: _ :: _ :: _ :: _ :: F) rfl ?_
  have c126h : ∀ hg : goodM (newM s frm rcpts body gen now) = true, Spec P 54 [.int .u8 80, .slice none 0 0, .agg #[.int .i64 s.next, .int .i64 gen, .int .i64 now, .int .i64 0, .int .i64 now, str frm, p1.v rcpts.length, .slice none 0 0, p3.v body.length], .int .i64 s.aim] [sl Kb SP.nil [], sl Kstr p1 rcpts, sl (Kint .i64) SP.nil [], sl Kstr p3 body]
    (fun q : SP => q.v (putB s (newM s frm rcpts body gen now)).length) (fun q => [sl Kb q (putB s (newM s frm rcpts body gen now)), tl 1 q (putB s (newM s frm rcpts body gen now)).length, sl Kb SP.nil [], sl Kstr p1 rcpts, sl (Kint .i64) SP.nil [], sl Kstr p3 body]) := fun hg =>
      c126 (kd := 80) (ah := []) (pa := SP.nil) (p1 := p1) (p2 := SP.nil) (p3 := p3) (hC hg) (by simp)
  cases down with
  | true =>
    have e : (⟨s, true, L⟩ : QL).put frm rcpts body gen now = (0, 6, ⟨s, true, L⟩) := by unfold QL.put; simp
    rw [e]
    refine W.rseq ?_
    refine WL.putX rfl rfl rfl (OpX.box rfl) fun x5 => ?_
    refine WL.nm (H' := pt _ _ [_, _, _] :: _ :: _ :: pt _ _ [_, _, _, _, _, _, _] :: _ :: _ :: _ :: _ :: _ :: _ :: _) rfl ?_
    refine WL.p rfl rfl rfl (PV.as rfl) ?_
    refine WL.p rfl rfl rfl (PV.as rfl) ?_
    refine WL.next [(9, _), (8, _), (5, _), (0, _), (2, _), (3, _)] ⟨rfl, rfl, rfl, rfl, rfl, rfl, trivial⟩ ?_
    refine W.seq ?_
    refine W.rseq ?_
    refine WL.p rfl rfl rfl (PV.mv rfl) ?_
    refine WL.putX rfl rfl rfl (OpX.call cb123 (c123h _ _ _ _ _ _) rfl (.cons (i := 3) rfl .nil)) fun x14 => ?_
    refine WL.nm (H' := pt _ _ [_, _, _, _, _, _, _] :: pt _ _ [_, _, _] :: _ :: _ :: _ :: _ :: _ :: _ :: _ :: _ :: _) rfl ?_
    refine WL.p rfl rfl rfl (PV.as rfl) ?_
    refine WL.next [(10, _), (9, _), (8, _), (5, _), (0, _), (2, _), (3, _)] ⟨rfl, rfl, rfl, rfl, rfl, rfl, rfl, trivial⟩ ?_
    refine W.rseq ?_
    refine WL.p rfl rfl rfl (PV.mv rfl) ?_
    refine WL.p rfl rfl rfl (PV.neI rfl rfl) ?_
    refine WL.next [(16, _), (10, _), (9, _), (8, _), (5, _), (0, _), (2, _), (3, _)] ⟨rfl, rfl, rfl, rfl, rfl, rfl, rfl, rfl, trivial⟩ ?_
    refine W.cT rfl ?_
    refine W.rseq ?_
    refine WL.p rfl rfl rfl (PV.mv rfl) ?_
    refine WL.p rfl rfl rfl (PV.as rfl) ?_
    refine WL.p rfl rfl rfl (PV.as rfl) ?_
    refine WL.next [(9, _), (8, _), (5, _), (0, _), (2, _), (3, _)] ⟨rfl, rfl, rfl, rfl, rfl, rfl, trivial⟩ ?_
    refine W.ret ?_
    refine K.retT ?_
    rotate_left
    refine K.fin (vs := [_, _]) () ⟨rfl, rfl, trivial⟩ rfl (Ent.fold (f := quF q l s false true) z ?_)
    refine Ent.take 0 rfl ?_
    refine Ent.take 3 rfl ?_
    refine Ent.take 3 rfl ?_
    refine Ent.take 3 rfl ?_
    refine Ent.take 3 rfl ?_
    refine Ent.keep 3 rfl (sl_pers _ _ _) ?_
    refine Ent.keep 4 rfl (sl_pers _ _ _) ?_
    exact Ent.tail (Ent.tail (Ent.tail (Ent.tail (Ent.tail (Ent.refl _)))))
  | false =>
    cases hg : goodM (newM s frm rcpts body gen now) with
    | false =>
      rw [hg] at c124h
      clear c126h
      refine W.rseq ?_
      refine WL.putX rfl rfl rfl (OpX.box rfl) fun x5 => ?_
      refine WL.nm (H' := pt _ _ [_, _, _] :: _ :: _ :: pt _ _ [_, _, _, _, _, _, _] :: _ :: _ :: _ :: _ :: _ :: _ :: _) rfl ?_
      refine WL.p rfl rfl rfl (PV.as rfl) ?_
      refine WL.p rfl rfl rfl (PV.as rfl) ?_
      refine WL.next [(9, _), (8, _), (5, _), (0, _), (2, _), (3, _)] ⟨rfl, rfl, rfl, rfl, rfl, rfl, trivial⟩ ?_
      refine W.seq ?_
      refine W.rseq ?_
      refine WL.p rfl rfl rfl (PV.mv rfl) ?_
      refine WL.putX rfl rfl rfl (OpX.call cb123 (c123h _ _ _ _ _ _) rfl (.cons (i := 3) rfl .nil)) fun x14 => ?_
      refine WL.nm (H' := pt _ _ [_, _, _, _, _, _, _] :: pt _ _ [_, _, _] :: _ :: _ :: _ :: _ :: _ :: _ :: _ :: _ :: _) rfl ?_
      refine WL.p rfl rfl rfl (PV.as rfl) ?_
      refine WL.next [(10, _), (9, _), (8, _), (5, _), (0, _), (2, _), (3, _)] ⟨rfl, rfl, rfl, rfl, rfl, rfl, rfl, trivial⟩ ?_
      refine W.rseq ?_
      refine WL.p rfl rfl rfl (PV.mv rfl) ?_
      refine WL.p rfl rfl rfl (PV.neI rfl rfl) ?_
      refine WL.next [(16, _), (10, _), (9, _), (8, _), (5, _), (0, _), (2, _), (3, _)] ⟨rfl, rfl, rfl, rfl, rfl, rfl, rfl, rfl, trivial⟩ ?_
      refine W.cF rfl ?_
      refine W.skip ?_
      refine K.next [(9, _), (8, _), (5, _), (0, _), (2, _), (3, _)] ⟨rfl, rfl, rfl, rfl, rfl, rfl, trivial⟩ ?_
      refine W.seq ?_
      refine W.rseq ?_
      refine WL.p rfl rfl rfl (PV.mv rfl) ?_
      refine WL.p rfl rfl rfl (PV.nck rfl) ?_
      refine WL.p rfl rfl rfl (PV.fa fo202_0 rfl rfl) ?_
      refine WL.p rfl rfl rfl (PV.fa fo200_0 rfl rfl) ?_
      refine WL.f rfl rfl rfl (FV.ld (LdD.sc 0 0 sc197 rfl rfl rfl rfl)) ?_
      refine WL.f rfl rfl rfl (FV.lenMx 4 ul197 rfl rfl rfl) ?_
      refine WL.p rfl rfl rfl (PV.ge rfl rfl) ?_
      refine WL.next [(24, _), (9, _), (8, _), (5, _), (0, _), (2, _), (3, _)] ⟨rfl, rfl, rfl, rfl, rfl, rfl, rfl, trivial⟩ ?_
      refine W.condD rfl (fun h0 => ?_) (fun h0 => ?_)
      refine W.rseq ?_
      refine WL.p rfl rfl rfl (PV.as rfl) ?_
      refine WL.p rfl rfl rfl (PV.as rfl) ?_
      refine WL.next [(9, _), (8, _), (5, _), (0, _), (2, _), (3, _)] ⟨rfl, rfl, rfl, rfl, rfl, rfl, trivial⟩ ?_
      refine W.ret ?_
      refine K.retT ?_
      rotate_left
      refine W.skip ?_
      refine K.next [(9, _), (8, _), (5, _), (0, _), (2, _), (3, _)] ⟨rfl, rfl, rfl, rfl, rfl, rfl, trivial⟩ ?_
      refine W.dseq [0, 1, 2, 3, 4, 5, 6, 7, 8, 9, 10, 11, 12, 13, 14, 15, 16] mixedOrders rfl rfl fun hR => ?_
      refine DP.p rfl rfl rfl rfl rfl (PV.mv rfl) ?_
      refine DP.p rfl rfl rfl rfl rfl (PV.nck rfl) ?_
      refine DP.p rfl rfl rfl rfl rfl (PV.fa fo202_0 rfl rfl) ?_
      refine DP.p rfl rfl rfl rfl rfl (PV.fa fo200_2 rfl rfl) ?_
      refine DP.f rfl rfl rfl rfl rfl (FV.ld (LdD.sc 0 2 sc3 rfl rfl rfl rfl)) ?_
      refine DP.p rfl rfl rfl rfl rfl (PV.mv rfl) ?_
      refine DP.p rfl rfl rfl rfl rfl (PV.mv rfl) ?_
      refine DP.p rfl rfl rfl rfl rfl (PV.mv rfl) ?_
      refine DP.p rfl rfl rfl rfl rfl (PV.fa fo46_0 rfl rfl) ?_
      refine DP.f rfl rfl rfl rfl rfl (FV.ld (LdD.sc 1 0 sc9 rfl rfl rfl rfl)) ?_
      refine DP.p rfl rfl rfl rfl rfl (PV.fa fo46_1 rfl rfl) ?_
      refine DP.f rfl rfl rfl rfl rfl (FV.ld (LdD.sc 1 1 sc33 rfl rfl rfl rfl)) ?_
      refine DP.p rfl rfl rfl rfl rfl (PV.fa fo46_2 rfl rfl) ?_
      refine DP.f rfl rfl rfl rfl rfl (FV.ld (LdD.sc 1 2 sc33 rfl rfl rfl rfl)) ?_
      refine DP.p rfl rfl rfl rfl rfl (PV.bld (cs := [_, _, _, _, _, _, _, _, _]) bt52 rfl rfl) ?_
      refine DP.e hR [(13, _), (11, _), (9, _), (4, _)] rfl rfl rfl rfl rfl (OpX.alloc zr52) rfl (fun _ => (KeepL.keep rfl (FloatAt.of rfl (by first | exact FV.ld (LdD.sc 1 2 sc33 rfl rfl rfl rfl) | exact FV.ld (LdD.ag (us := _) 1 2 ag33 rfl rfl rfl rfl rfl) | exact FV.ld (LdD.sc 2 2 sc33 rfl rfl rfl rfl) | exact FV.ld (LdD.ag (us := _) 2 2 ag33 rfl rfl rfl rfl rfl) | exact FV.ld (LdD.sc 3 2 sc33 rfl rfl rfl rfl) | exact FV.ld (LdD.ag (us := _) 3 2 ag33 rfl rfl rfl rfl rfl) | exact FV.ld (LdD.sc 4 2 sc33 rfl rfl rfl rfl) | exact FV.ld (LdD.ag (us := _) 4 2 ag33 rfl rfl rfl rfl rfl) | exact FV.ld (LdD.sc 5 2 sc33 rfl rfl rfl rfl) | exact FV.ld (LdD.ag (us := _) 5 2 ag33 rfl rfl rfl rfl rfl) | exact FV.ld (LdD.sc 6 2 sc33 rfl rfl rfl rfl) | exact FV.ld (LdD.ag (us := _) 6 2 ag33 rfl rfl rfl rfl rfl) | exact FV.ld (LdD.sc 7 2 sc33 rfl rfl rfl rfl) | exact FV.ld (LdD.ag (us := _) 7 2 ag33 rfl rfl rfl rfl rfl) | exact FV.ld (LdD.sc 8 2 sc33 rfl rfl rfl rfl) | exact FV.ld (LdD.ag (us := _) 8 2 ag33 rfl rfl rfl rfl rfl) | exact FV.ld (LdD.sc 9 2 sc33 rfl rfl rfl rfl) | exact FV.ld (LdD.ag (us := _) 9 2 ag33 rfl rfl rfl rfl rfl) | exact FV.ld (LdD.sc 10 2 sc33 rfl rfl rfl rfl) | exact FV.ld (LdD.ag (us := _) 10 2 ag33 rfl rfl rfl rfl rfl))) (KeepL.keep rfl (FloatAt.of rfl (by first | exact FV.ld (LdD.sc 1 1 sc33 rfl rfl rfl rfl) | exact FV.ld (LdD.ag (us := _) 1 1 ag33 rfl rfl rfl rfl rfl) | exact FV.ld (LdD.sc 2 1 sc33 rfl rfl rfl rfl) | exact FV.ld (LdD.ag (us := _) 2 1 ag33 rfl rfl rfl rfl rfl) | exact FV.ld (LdD.sc 3 1 sc33 rfl rfl rfl rfl) | exact FV.ld (LdD.ag (us := _) 3 1 ag33 rfl rfl rfl rfl rfl) | exact FV.ld (LdD.sc 4 1 sc33 rfl rfl rfl rfl) | exact FV.ld (LdD.ag (us := _) 4 1 ag33 rfl rfl rfl rfl rfl) | exact FV.ld (LdD.sc 5 1 sc33 rfl rfl rfl rfl) | exact FV.ld (LdD.ag (us := _) 5 1 ag33 rfl rfl rfl rfl rfl) | exact FV.ld (LdD.sc 6 1 sc33 rfl rfl rfl rfl) | exact FV.ld (LdD.ag (us := _) 6 1 ag33 rfl rfl rfl rfl rfl) | exact FV.ld (LdD.sc 7 1 sc33 rfl rfl rfl rfl) | exact FV.ld (LdD.ag (us := _) 7 1 ag33 rfl rfl rfl rfl rfl) | exact FV.ld (LdD.sc 8 1 sc33 rfl rfl rfl rfl) | exact FV.ld (LdD.ag (us := _) 8 1 ag33 rfl rfl rfl rfl rfl) | exact FV.ld (LdD.sc 9 1 sc33 rfl rfl rfl rfl) | exact FV.ld (LdD.ag (us := _) 9 1 ag33 rfl rfl rfl rfl rfl) | exact FV.ld (LdD.sc 10 1 sc33 rfl rfl rfl rfl) | exact FV.ld (LdD.ag (us := _) 10 1 ag33 rfl rfl rfl rfl rfl))) (KeepL.keep rfl (FloatAt.of rfl (by first | exact FV.ld (LdD.sc 1 0 sc9 rfl rfl rfl rfl) | exact FV.ld (LdD.ag (us := _) 1 0 ag9 rfl rfl rfl rfl rfl) | exact FV.ld (LdD.sc 2 0 sc9 rfl rfl rfl rfl) | exact FV.ld (LdD.ag (us := _) 2 0 ag9 rfl rfl rfl rfl rfl) | exact FV.ld (LdD.sc 3 0 sc9 rfl rfl rfl rfl) | exact FV.ld (LdD.ag (us := _) 3 0 ag9 rfl rfl rfl rfl rfl) | exact FV.ld (LdD.sc 4 0 sc9 rfl rfl rfl rfl) | exact FV.ld (LdD.ag (us := _) 4 0 ag9 rfl rfl rfl rfl rfl) | exact FV.ld (LdD.sc 5 0 sc9 rfl rfl rfl rfl) | exact FV.ld (LdD.ag (us := _) 5 0 ag9 rfl rfl rfl rfl rfl) | exact FV.ld (LdD.sc 6 0 sc9 rfl rfl rfl rfl) | exact FV.ld (LdD.ag (us := _) 6 0 ag9 rfl rfl rfl rfl rfl) | exact FV.ld (LdD.sc 7 0 sc9 rfl rfl rfl rfl) | exact FV.ld (LdD.ag (us := _) 7 0 ag9 rfl rfl rfl rfl rfl) | exact FV.ld (LdD.sc 8 0 sc9 rfl rfl rfl rfl) | exact FV.ld (LdD.ag (us := _) 8 0 ag9 rfl rfl rfl rfl rfl) | exact FV.ld (LdD.sc 9 0 sc9 rfl rfl rfl rfl) | exact FV.ld (LdD.ag (us := _) 9 0 ag9 rfl rfl rfl rfl rfl) | exact FV.ld (LdD.sc 10 0 sc9 rfl rfl rfl rfl) | exact FV.ld (LdD.ag (us := _) 10 0 ag9 rfl rfl rfl rfl rfl))) (KeepL.keep rfl (FloatAt.of rfl (by first | exact FV.ld (LdD.sc 0 2 sc3 rfl rfl rfl rfl) | exact FV.ld (LdD.ag (us := _) 0 2 ag3 rfl rfl rfl rfl rfl) | exact FV.ld (LdD.sc 1 2 sc3 rfl rfl rfl rfl) | exact FV.ld (LdD.ag (us := _) 1 2 ag3 rfl rfl rfl rfl rfl) | exact FV.ld (LdD.sc 2 2 sc3 rfl rfl rfl rfl) | exact FV.ld (LdD.ag (us := _) 2 2 ag3 rfl rfl rfl rfl rfl) | exact FV.ld (LdD.sc 3 2 sc3 rfl rfl rfl rfl) | exact FV.ld (LdD.ag (us := _) 3 2 ag3 rfl rfl rfl rfl rfl) | exact FV.ld (LdD.sc 4 2 sc3 rfl rfl rfl rfl) | exact FV.ld (LdD.ag (us := _) 4 2 ag3 rfl rfl rfl rfl rfl) | exact FV.ld (LdD.sc 5 2 sc3 rfl rfl rfl rfl) | exact FV.ld (LdD.ag (us := _) 5 2 ag3 rfl rfl rfl rfl rfl) | exact FV.ld (LdD.sc 6 2 sc3 rfl rfl rfl rfl) | exact FV.ld (LdD.ag (us := _) 6 2 ag3 rfl rfl rfl rfl rfl) | exact FV.ld (LdD.sc 7 2 sc3 rfl rfl rfl rfl) | exact FV.ld (LdD.ag (us := _) 7 2 ag3 rfl rfl rfl rfl rfl) | exact FV.ld (LdD.sc 8 2 sc3 rfl rfl rfl rfl) | exact FV.ld (LdD.ag (us := _) 8 2 ag3 rfl rfl rfl rfl rfl) | exact FV.ld (LdD.sc 9 2 sc3 rfl rfl rfl rfl) | exact FV.ld (LdD.ag (us := _) 9 2 ag3 rfl rfl rfl rfl rfl))) KeepL.nil))))) fun x11 => ?_
      refine DP.nm (H' := pt _ _ [_, _, _, _, _, _, _, _, _] :: pt _ _ [_, _, _, _, _, _, _] :: pt _ _ [_, _, _] :: _ :: _ :: _ :: _ :: _ :: _ :: _ :: _ :: _) rfl ?_
      refine DP.e0 hR [] rfl rfl rfl (OpD.st 0 0 sz52 rfl rfl rfl rfl rfl rfl (NAs.mem (vs := [_, _, _, _, _, _, _, _, _]) ⟨NA.int _ _, NA.int _ _, NA.int _ _, NA.int _ _, NA.int _ _, NA.str _, NA.sl _ _ _, NA.sl _ _ _, NA.sl _ _ _, trivial⟩)) rfl (fun _ => (KeepL.drop rfl (KeepL.drop rfl (KeepL.drop rfl (KeepL.drop rfl KeepL.nil))))) fun _ => ?_
      refine DP.nm (H' := pt _ _ [_, _, _, _, _, _, _, _, _] :: pt _ _ [_, _, _, _, _, _, _] :: pt _ _ [_, _, _] :: _ :: _ :: _ :: _ :: _ :: _ :: _ :: _ :: _) rfl ?_
      refine DP.fin hR ?_
      clear hR
      refine K.next [(11, _), (9, _), (8, _), (0, _)] ⟨rfl, rfl, rfl, rfl, trivial⟩ ?_
      refine W.seq ?_
      refine W.rseq ?_
      refine WL.f rfl rfl rfl (FV.ld (LdD.ag (us := [_, _, _, _, _, _, _, _, _]) 0 0 ag52 rfl rfl rfl rfl rfl)) ?_
      refine WL.putX rfl rfl rfl (OpX.call cb124 (c124h) rfl (.cons (i := 9) rfl (.cons (i := 4) rfl (.cons (i := 8) rfl .nil)))) fun x41 => ?_
      refine WL.nm (H' := _ :: _ :: _ :: pt _ _ [_, _, _, _, _, _, _, _, _] :: pt _ _ [_, _, _, _, _, _, _] :: pt _ _ [_, _, _] :: _ :: _ :: _ :: _ :: _ :: _) rfl ?_
      refine WL.p rfl rfl rfl (PV.not rfl) ?_
      refine WL.next [(42, _), (11, _), (9, _), (8, _), (0, _)] ⟨rfl, rfl, rfl, rfl, rfl, trivial⟩ ?_
      refine W.cT rfl ?_
      refine W.rseq ?_
      refine WL.p rfl rfl rfl (PV.as rfl) ?_
      refine WL.p rfl rfl rfl (PV.as rfl) ?_
      refine WL.next [(9, _), (8, _), (11, _), (0, _)] ⟨rfl, rfl, rfl, rfl, trivial⟩ ?_
      refine W.ret ?_
      refine K.retT ?_
      rotate_left
      · have e : (⟨s, false, L⟩ : QL).put frm rcpts body gen now = (0, 5, ⟨s, false, L⟩) := by
          unfold QL.put; rw [if_neg (by simp), if_pos (show 60 ≤ s.mail.length by omega)]
        rw [e]
        refine K.fin (vs := [_, _]) () ⟨rfl, rfl, trivial⟩ rfl (Ent.fold (f := quF q l s false false) z ?_)
        refine Ent.take 0 rfl ?_
        refine Ent.take 3 rfl ?_
        refine Ent.take 3 rfl ?_
        refine Ent.take 3 rfl ?_
        refine Ent.take 3 rfl ?_
        refine Ent.keep 3 rfl (sl_pers _ _ _) ?_
        refine Ent.keep 4 rfl (sl_pers _ _ _) ?_
        exact Ent.tail (Ent.tail (Ent.tail (Ent.tail (Ent.tail (Ent.refl _)))))
      · have e : (⟨s, false, L⟩ : QL).put frm rcpts body gen now = (0, 2, ⟨s, false, L⟩) := by
          unfold QL.put; rw [if_neg (by simp), if_neg (show ¬ 60 ≤ s.mail.length by omega), if_pos hg]
        rw [e]
        refine K.fin (vs := [_, _]) () ⟨rfl, rfl, trivial⟩ rfl (Ent.fold (f := quF q l s false false) z ?_)
        refine Ent.take 4 rfl ?_
        refine Ent.take 6 rfl ?_
        refine Ent.take 6 rfl ?_
        refine Ent.take 6 rfl ?_
        refine Ent.take 6 rfl ?_
        refine Ent.keep 0 rfl (sl_pers _ _ _) ?_
        refine Ent.keep 2 rfl (sl_pers _ _ _) ?_
        exact Ent.tail (Ent.tail (Ent.tail (Ent.tail (Ent.tail (Ent.tail (Ent.refl _))))))
    | true =>
      rw [hg] at c124h
      have c126g := c126h hg
      clear c126h
      obtain ⟨k1, k2, k3, k4, k5⟩ := hL hg
      have c125h := fun p => c125o (q := q) (l := l) (g := g) (z := z) (s := s) (down := false) (L := L) (p := p) (f := s.aim) (m := newM s frm rcpts body gen now) (b := putB s (newM s frm rcpts body gen now)) rfl (hC hg) k1 k2 k3 k4 k5
      clear k1 k2 k3 k4 k5
      refine W.rseq ?_
      refine WL.putX rfl rfl rfl (OpX.box rfl) fun x5 => ?_
      refine WL.nm (H' := pt _ _ [_, _, _] :: _ :: _ :: pt _ _ [_, _, _, _, _, _, _] :: _ :: _ :: _ :: _ :: _ :: _ :: _) rfl ?_
      refine WL.p rfl rfl rfl (PV.as rfl) ?_
      refine WL.p rfl rfl rfl (PV.as rfl) ?_
      refine WL.next [(9, _), (8, _), (5, _), (0, _), (2, _), (3, _)] ⟨rfl, rfl, rfl, rfl, rfl, rfl, trivial⟩ ?_
      refine W.seq ?_
      refine W.rseq ?_
      refine WL.p rfl rfl rfl (PV.mv rfl) ?_
      refine WL.putX rfl rfl rfl (OpX.call cb123 (c123h _ _ _ _ _ _) rfl (.cons (i := 3) rfl .nil)) fun x14 => ?_
      refine WL.nm (H' := pt _ _ [_, _, _, _, _, _, _] :: pt _ _ [_, _, _] :: _ :: _ :: _ :: _ :: _ :: _ :: _ :: _ :: _) rfl ?_
      refine WL.p rfl rfl rfl (PV.as rfl) ?_
      refine WL.next [(10, _), (9, _), (8, _), (5, _), (0, _), (2, _), (3, _)] ⟨rfl, rfl, rfl, rfl, rfl, rfl, rfl, trivial⟩ ?_
      refine W.rseq ?_
      refine WL.p rfl rfl rfl (PV.mv rfl) ?_
      refine WL.p rfl rfl rfl (PV.neI rfl rfl) ?_
      refine WL.next [(16, _), (10, _), (9, _), (8, _), (5, _), (0, _), (2, _), (3, _)] ⟨rfl, rfl, rfl, rfl, rfl, rfl, rfl, rfl, trivial⟩ ?_
      refine W.cF rfl ?_
      refine W.skip ?_
      refine K.next [(9, _), (8, _), (5, _), (0, _), (2, _), (3, _)] ⟨rfl, rfl, rfl, rfl, rfl, rfl, trivial⟩ ?_
      refine W.seq ?_
      refine W.rseq ?_
      refine WL.p rfl rfl rfl (PV.mv rfl) ?_
      refine WL.p rfl rfl rfl (PV.nck rfl) ?_
      refine WL.p rfl rfl rfl (PV.fa fo202_0 rfl rfl) ?_
      refine WL.p rfl rfl rfl (PV.fa fo200_0 rfl rfl) ?_
      refine WL.f rfl rfl rfl (FV.ld (LdD.sc 0 0 sc197 rfl rfl rfl rfl)) ?_
      refine WL.f rfl rfl rfl (FV.lenMx 4 ul197 rfl rfl rfl) ?_
      refine WL.p rfl rfl rfl (PV.ge rfl rfl) ?_
      refine WL.next [(24, _), (9, _), (8, _), (5, _), (0, _), (2, _), (3, _)] ⟨rfl, rfl, rfl, rfl, rfl, rfl, rfl, trivial⟩ ?_
      refine W.condD rfl (fun h0 => ?_) (fun h0 => ?_)
      refine W.rseq ?_
      refine WL.p rfl rfl rfl (PV.as rfl) ?_
      refine WL.p rfl rfl rfl (PV.as rfl) ?_
      refine WL.next [(9, _), (8, _), (5, _), (0, _), (2, _), (3, _)] ⟨rfl, rfl, rfl, rfl, rfl, rfl, trivial⟩ ?_
      refine W.ret ?_
      refine K.retT ?_
      rotate_left
      refine W.skip ?_
      refine K.next [(9, _), (8, _), (5, _), (0, _), (2, _), (3, _)] ⟨rfl, rfl, rfl, rfl, rfl, rfl, trivial⟩ ?_
      refine W.dseq [0, 1, 2, 3, 4, 5, 6, 7, 8, 9, 10, 11, 12, 13, 14, 15, 16] mixedOrders rfl rfl fun hR => ?_
      refine DP.p rfl rfl rfl rfl rfl (PV.mv rfl) ?_
      refine DP.p rfl rfl rfl rfl rfl (PV.nck rfl) ?_
      refine DP.p rfl rfl rfl rfl rfl (PV.fa fo202_0 rfl rfl) ?_
      refine DP.p rfl rfl rfl rfl rfl (PV.fa fo200_2 rfl rfl) ?_
      refine DP.f rfl rfl rfl rfl rfl (FV.ld (LdD.sc 0 2 sc3 rfl rfl rfl rfl)) ?_
      refine DP.p rfl rfl rfl rfl rfl (PV.mv rfl) ?_
      refine DP.p rfl rfl rfl rfl rfl (PV.mv rfl) ?_
      refine DP.p rfl rfl rfl rfl rfl (PV.mv rfl) ?_
      refine DP.p rfl rfl rfl rfl rfl (PV.fa fo46_0 rfl rfl) ?_
      refine DP.f rfl rfl rfl rfl rfl (FV.ld (LdD.sc 1 0 sc9 rfl rfl rfl rfl)) ?_
      refine DP.p rfl rfl rfl rfl rfl (PV.fa fo46_1 rfl rfl) ?_
      refine DP.f rfl rfl rfl rfl rfl (FV.ld (LdD.sc 1 1 sc33 rfl rfl rfl rfl)) ?_
      refine DP.p rfl rfl rfl rfl rfl (PV.fa fo46_2 rfl rfl) ?_
      refine DP.f rfl rfl rfl rfl rfl (FV.ld (LdD.sc 1 2 sc33 rfl rfl rfl rfl)) ?_
      refine DP.p rfl rfl rfl rfl rfl (PV.bld (cs := [_, _, _, _, _, _, _, _, _]) bt52 rfl rfl) ?_
      refine DP.e hR [(13, _), (11, _), (9, _), (4, _)] rfl rfl rfl rfl rfl (OpX.alloc zr52) rfl (fun _ => (KeepL.keep rfl (FloatAt.of rfl (by first | exact FV.ld (LdD.sc 1 2 sc33 rfl rfl rfl rfl) | exact FV.ld (LdD.ag (us := _) 1 2 ag33 rfl rfl rfl rfl rfl) | exact FV.ld (LdD.sc 2 2 sc33 rfl rfl rfl rfl) | exact FV.ld (LdD.ag (us := _) 2 2 ag33 rfl rfl rfl rfl rfl) | exact FV.ld (LdD.sc 3 2 sc33 rfl rfl rfl rfl) | exact FV.ld (LdD.ag (us := _) 3 2 ag33 rfl rfl rfl rfl rfl) | exact FV.ld (LdD.sc 4 2 sc33 rfl rfl rfl rfl) | exact FV.ld (LdD.ag (us := _) 4 2 ag33 rfl rfl rfl rfl rfl) | exact FV.ld (LdD.sc 5 2 sc33 rfl rfl rfl rfl) | exact FV.ld (LdD.ag (us := _) 5 2 ag33 rfl rfl rfl rfl rfl) | exact FV.ld (LdD.sc 6 2 sc33 rfl rfl rfl rfl) | exact FV.ld (LdD.ag (us := _) 6 2 ag33 rfl rfl rfl rfl rfl) | exact FV.ld (LdD.sc 7 2 sc33 rfl rfl rfl rfl) | exact FV.ld (LdD.ag (us := _) 7 2 ag33 rfl rfl rfl rfl rfl) | exact FV.ld (LdD.sc 8 2 sc33 rfl rfl rfl rfl) | exact FV.ld (LdD.ag (us := _) 8 2 ag33 rfl rfl rfl rfl rfl) | exact FV.ld (LdD.sc 9 2 sc33 rfl rfl rfl rfl) | exact FV.ld (LdD.ag (us := _) 9 2 ag33 rfl rfl rfl rfl rfl) | exact FV.ld (LdD.sc 10 2 sc33 rfl rfl rfl rfl) | exact FV.ld (LdD.ag (us := _) 10 2 ag33 rfl rfl rfl rfl rfl))) (KeepL.keep rfl (FloatAt.of rfl (by first | exact FV.ld (LdD.sc 1 1 sc33 rfl rfl rfl rfl) | exact FV.ld (LdD.ag (us := _) 1 1 ag33 rfl rfl rfl rfl rfl) | exact FV.ld (LdD.sc 2 1 sc33 rfl rfl rfl rfl) | exact FV.ld (LdD.ag (us := _) 2 1 ag33 rfl rfl rfl rfl rfl) | exact FV.ld (LdD.sc 3 1 sc33 rfl rfl rfl rfl) | exact FV.ld (LdD.ag (us := _) 3 1 ag33 rfl rfl rfl rfl rfl) | exact FV.ld (LdD.sc 4 1 sc33 rfl rfl rfl rfl) | exact FV.ld (LdD.ag (us := _) 4 1 ag33 rfl rfl rfl rfl rfl) | exact FV.ld (LdD.sc 5 1 sc33 rfl rfl rfl rfl) | exact FV.ld (LdD.ag (us := _) 5 1 ag33 rfl rfl rfl rfl rfl) | exact FV.ld (LdD.sc 6 1 sc33 rfl rfl rfl rfl) | exact FV.ld (LdD.ag (us := _) 6 1 ag33 rfl rfl rfl rfl rfl) | exact FV.ld (LdD.sc 7 1 sc33 rfl rfl rfl rfl) | exact FV.ld (LdD.ag (us := _) 7 1 ag33 rfl rfl rfl rfl rfl) | exact FV.ld (LdD.sc 8 1 sc33 rfl rfl rfl rfl) | exact FV.ld (LdD.ag (us := _) 8 1 ag33 rfl rfl rfl rfl rfl) | exact FV.ld (LdD.sc 9 1 sc33 rfl rfl rfl rfl) | exact FV.ld (LdD.ag (us := _) 9 1 ag33 rfl rfl rfl rfl rfl) | exact FV.ld (LdD.sc 10 1 sc33 rfl rfl rfl rfl) | exact FV.ld (LdD.ag (us := _) 10 1 ag33 rfl rfl rfl rfl rfl))) (KeepL.keep rfl (FloatAt.of rfl (by first | exact FV.ld (LdD.sc 1 0 sc9 rfl rfl rfl rfl) | exact FV.ld (LdD.ag (us := _) 1 0 ag9 rfl rfl rfl rfl rfl) | exact FV.ld (LdD.sc 2 0 sc9 rfl rfl rfl rfl) | exact FV.ld (LdD.ag (us := _) 2 0 ag9 rfl rfl rfl rfl rfl) | exact FV.ld (LdD.sc 3 0 sc9 rfl rfl rfl rfl) | exact FV.ld (LdD.ag (us := _) 3 0 ag9 rfl rfl rfl rfl rfl) | exact FV.ld (LdD.sc 4 0 sc9 rfl rfl rfl rfl) | exact FV.ld (LdD.ag (us := _) 4 0 ag9 rfl rfl rfl rfl rfl) | exact FV.ld (LdD.sc 5 0 sc9 rfl rfl rfl rfl) | exact FV.ld (LdD.ag (us := _) 5 0 ag9 rfl rfl rfl rfl rfl) | exact FV.ld (LdD.sc 6 0 sc9 rfl rfl rfl rfl) | exact FV.ld (LdD.ag (us := _) 6 0 ag9 rfl rfl rfl rfl rfl) | exact FV.ld (LdD.sc 7 0 sc9 rfl rfl rfl rfl) | exact FV.ld (LdD.ag (us := _) 7 0 ag9 rfl rfl rfl rfl rfl) | exact FV.ld (LdD.sc 8 0 sc9 rfl rfl rfl rfl) | exact FV.ld (LdD.ag (us := _) 8 0 ag9 rfl rfl rfl rfl rfl) | exact FV.ld (LdD.sc 9 0 sc9 rfl rfl rfl rfl) | exact FV.ld (LdD.ag (us := _) 9 0 ag9 rfl rfl rfl rfl rfl) | exact FV.ld (LdD.sc 10 0 sc9 rfl rfl rfl rfl) | exact FV.ld (LdD.ag (us := _) 10 0 ag9 rfl rfl rfl rfl rfl))) (KeepL.keep rfl (FloatAt.of rfl (by first | exact FV.ld (LdD.sc 0 2 sc3 rfl rfl rfl rfl) | exact FV.ld (LdD.ag (us := _) 0 2 ag3 rfl rfl rfl rfl rfl) | exact FV.ld (LdD.sc 1 2 sc3 rfl rfl rfl rfl) | exact FV.ld (LdD.ag (us := _) 1 2 ag3 rfl rfl rfl rfl rfl) | exact FV.ld (LdD.sc 2 2 sc3 rfl rfl rfl rfl) | exact FV.ld (LdD.ag (us := _) 2 2 ag3 rfl rfl rfl rfl rfl) | exact FV.ld (LdD.sc 3 2 sc3 rfl rfl rfl rfl) | exact FV.ld (LdD.ag (us := _) 3 2 ag3 rfl rfl rfl rfl rfl) | exact FV.ld (LdD.sc 4 2 sc3 rfl rfl rfl rfl) | exact FV.ld (LdD.ag (us := _) 4 2 ag3 rfl rfl rfl rfl rfl) | exact FV.ld (LdD.sc 5 2 sc3 rfl rfl rfl rfl) | exact FV.ld (LdD.ag (us := _) 5 2 ag3 rfl rfl rfl rfl rfl) | exact FV.ld (LdD.sc 6 2 sc3 rfl rfl rfl rfl) | exact FV.ld (LdD.ag (us := _) 6 2 ag3 rfl rfl rfl rfl rfl) | exact FV.ld (LdD.sc 7 2 sc3 rfl rfl rfl rfl) | exact FV.ld (LdD.ag (us := _) 7 2 ag3 rfl rfl rfl rfl rfl) | exact FV.ld (LdD.sc 8 2 sc3 rfl rfl rfl rfl) | exact FV.ld (LdD.ag (us := _) 8 2 ag3 rfl rfl rfl rfl rfl) | exact FV.ld (LdD.sc 9 2 sc3 rfl rfl rfl rfl) | exact FV.ld (LdD.ag (us := _) 9 2 ag3 rfl rfl rfl rfl rfl))) KeepL.nil))))) fun x11 => ?_
      refine DP.nm (H' := pt _ _ [_, _, _, _, _, _, _, _, _] :: pt _ _ [_, _, _, _, _, _, _] :: pt _ _ [_, _, _] :: _ :: _ :: _ :: _ :: _ :: _ :: _ :: _ :: _) rfl ?_
      refine DP.e0 hR [] rfl rfl rfl (OpD.st 0 0 sz52 rfl rfl rfl rfl rfl rfl (NAs.mem (vs := [_, _, _, _, _, _, _, _, _]) ⟨NA.int _ _, NA.int _ _, NA.int _ _, NA.int _ _, NA.int _ _, NA.str _, NA.sl _ _ _, NA.sl _ _ _, NA.sl _ _ _, trivial⟩)) rfl (fun _ => (KeepL.drop rfl (KeepL.drop rfl (KeepL.drop rfl (KeepL.drop rfl KeepL.nil))))) fun _ => ?_
      refine DP.nm (H' := pt _ _ [_, _, _, _, _, _, _, _, _] :: pt _ _ [_, _, _, _, _, _, _] :: pt _ _ [_, _, _] :: _ :: _ :: _ :: _ :: _ :: _ :: _ :: _ :: _) rfl ?_
      refine DP.fin hR ?_
      clear hR
      refine K.next [(11, _), (9, _), (8, _), (0, _)] ⟨rfl, rfl, rfl, rfl, trivial⟩ ?_
      refine W.seq ?_
      refine W.rseq ?_
      refine WL.f rfl rfl rfl (FV.ld (LdD.ag (us := [_, _, _, _, _, _, _, _, _]) 0 0 ag52 rfl rfl rfl rfl rfl)) ?_
      refine WL.putX rfl rfl rfl (OpX.call cb124 (c124h) rfl (.cons (i := 9) rfl (.cons (i := 4) rfl (.cons (i := 8) rfl .nil)))) fun x41 => ?_
      refine WL.nm (H' := _ :: _ :: _ :: pt _ _ [_, _, _, _, _, _, _, _, _] :: pt _ _ [_, _, _, _, _, _, _] :: pt _ _ [_, _, _] :: _ :: _ :: _ :: _ :: _ :: _) rfl ?_
      refine WL.p rfl rfl rfl (PV.not rfl) ?_
      refine WL.next [(42, _), (11, _), (9, _), (8, _), (0, _)] ⟨rfl, rfl, rfl, rfl, rfl, trivial⟩ ?_
      refine W.cF rfl ?_
      refine W.skip ?_
      refine K.next [(11, _), (9, _), (8, _), (0, _)] ⟨rfl, rfl, rfl, rfl, trivial⟩ ?_
      refine W.seq ?_
      refine W.dseq [0, 1, 2, 3, 4, 5, 6, 7, 8, 9] mixedOrders rfl rfl fun hR => ?_
      refine DP.p rfl rfl rfl rfl rfl (PV.mv rfl) ?_
      refine DP.f rfl rfl rfl rfl rfl (FV.ld (LdD.ag (us := [_, _, _, _, _, _, _, _, _]) 3 0 ag52 rfl rfl rfl rfl rfl)) ?_
      refine DP.p rfl rfl rfl rfl rfl (PV.mv rfl) ?_
      refine DP.p rfl rfl rfl rfl rfl (PV.nck rfl) ?_
      refine DP.p rfl rfl rfl rfl rfl (PV.fa fo202_0 rfl rfl) ?_
      refine DP.p rfl rfl rfl rfl rfl (PV.fa fo200_3 rfl rfl) ?_
      refine DP.f rfl rfl rfl rfl rfl (FV.ld (LdD.sc 4 3 sc3 rfl rfl rfl rfl)) ?_
      refine DP.e hR [] rfl rfl rfl rfl rfl (OpX.call cb126 (c126g) rfl (.cons (i := 6) rfl (.cons (i := 0) rfl (.cons (i := 0) rfl (.cons (i := 0) rfl .nil))))) rfl (fun _ => (KeepL.drop rfl (KeepL.drop rfl KeepL.nil))) fun x50 => ?_
      refine DP.nm (H' := _ :: _ :: _ :: _ :: _ :: _ :: pt _ _ [_, _, _, _, _, _, _, _, _] :: pt _ _ [_, _, _, _, _, _, _] :: pt _ _ [_, _, _] :: _ :: _ :: _ :: _ :: _) rfl ?_
      refine DP.e hR [] rfl rfl rfl rfl rfl (OpX.call cb125 (c125h _) rfl (.cons (i := 7) rfl (.cons (i := 8) rfl (.cons (i := 8) rfl (.cons (i := 8) rfl (.cons (i := 8) rfl (.cons (i := 0) rfl .nil))))))) rfl (fun _ => KeepL.nil) fun x51 => ?_
      refine DP.nm (H' := _ :: _ :: _ :: _ :: _ :: _ :: _ :: _ :: _ :: pt _ _ [_, _, _, _, _, _, _, _, _] :: pt _ _ [_, _, _] :: _) rfl ?_
      refine DP.p rfl rfl rfl rfl rfl (PV.as rfl) ?_
      refine DP.fin hR ?_
      clear hR
      refine K.next [(12, _), (11, _), (9, _), (8, _)] ⟨rfl, rfl, rfl, rfl, trivial⟩ ?_
      refine W.rseq ?_
      refine WL.p rfl rfl rfl (PV.mv rfl) ?_
      refine WL.p rfl rfl rfl (PV.neI rfl rfl) ?_
      refine WL.next [(53, _), (12, _), (11, _), (9, _), (8, _)] ⟨rfl, rfl, rfl, rfl, rfl, trivial⟩ ?_
      refine W.condD rfl (fun h1 => ?_) (fun h1 => ?_)
      refine W.rseq ?_
      refine WL.p rfl rfl rfl (PV.mv rfl) ?_
      refine WL.p rfl rfl rfl (PV.as rfl) ?_
      refine WL.p rfl rfl rfl (PV.as rfl) ?_
      refine WL.next [(9, _), (8, _), (11, _)] ⟨rfl, rfl, rfl, trivial⟩ ?_
      refine W.ret ?_
      refine K.retT ?_
      rotate_left
      refine W.skip ?_
      refine K.next [(11, _), (9, _), (8, _)] ⟨rfl, rfl, rfl, trivial⟩ ?_
      refine W.rseq ?_
      refine WL.p rfl rfl rfl (PV.fa fo52_0 rfl rfl) ?_
      refine WL.f rfl rfl rfl (FV.ld (LdD.sc 9 0 sc3 rfl rfl rfl rfl)) ?_
      refine WL.p rfl rfl rfl (PV.as rfl) ?_
      refine WL.p rfl rfl rfl (PV.as rfl) ?_
      refine WL.next [(9, _), (8, _)] ⟨rfl, rfl, trivial⟩ ?_
      refine W.ret ?_
      rotate_left
      · have e : (⟨s, false, L⟩ : QL).put frm rcpts body gen now = (0, 5, ⟨s, false, L⟩) := by
          unfold QL.put; rw [if_neg (by simp), if_pos (show 60 ≤ s.mail.length by omega)]
        rw [e]
        refine K.fin (vs := [_, _]) () ⟨rfl, rfl, trivial⟩ rfl (Ent.fold (f := quF q l s false false) z ?_)
        refine Ent.take 0 rfl ?_
        refine Ent.take 3 rfl ?_
        refine Ent.take 3 rfl ?_
        refine Ent.take 3 rfl ?_
        refine Ent.take 3 rfl ?_
        refine Ent.keep 3 rfl (sl_pers _ _ _) ?_
        refine Ent.keep 4 rfl (sl_pers _ _ _) ?_
        exact Ent.tail (Ent.tail (Ent.tail (Ent.tail (Ent.tail (Ent.refl _)))))
      · have e : (⟨s, false, L⟩ : QL).put frm rcpts body gen now = (0, (L.append (putB s (newM s frm rcpts body gen now))).1, ⟨s, decide ((L.append (putB s (newM s frm rcpts body gen now))).1 = 6), (L.append (putB s (newM s frm rcpts body gen now))).2⟩) := by
          unfold QL.put; rw [if_neg (by simp), if_neg (show ¬ 60 ≤ s.mail.length by omega), if_neg (show ¬ goodM (newM s frm rcpts body gen now) = false by rw [hg]; simp), if_neg (by assumption)]
        rw [e]
        refine K.nm (H' := qu q l s false (decide ((L.append (putB s (newM s frm rcpts body gen now))).1 = 6)) :: _ :: _ :: _ :: _ :: _ :: _ :: _ :: _ :: _ :: _ :: F) (by rw [if_neg (by assumption), Bool.false_or]; rfl) ?_
        refine K.fin (vs := [_, _]) () ⟨rfl, rfl, trivial⟩ rfl ?_
        refine Ent.take 0 rfl ?_
        refine Ent.take 0 rfl ?_
        refine Ent.take 0 rfl ?_
        refine Ent.keep 3 rfl (sl_pers _ _ _) ?_
        refine Ent.keep 5 rfl (sl_pers _ _ _) ?_
        exact Ent.tail (Ent.tail (Ent.tail (Ent.tail (Ent.tail (Ent.tail (Ent.tail (Ent.tail (Ent.refl _))))))))
      · have e0 : (L.append (putB s (newM s frm rcpts body gen now))).1 = 0 := Classical.byContradiction fun hh => absurd hh (by assumption)
        have e : (⟨s, false, L⟩ : QL).put frm rcpts body gen now = (s.next, 0, ⟨s.put (newM s frm rcpts body gen now) s.aim, false, (L.append (putB s (newM s frm rcpts body gen now))).2⟩) := by
          unfold QL.put; rw [if_neg (by simp), if_neg (show ¬ 60 ≤ s.mail.length by omega), if_neg (show ¬ goodM (newM s frm rcpts body gen now) = false by rw [hg]; simp), if_pos e0]
        rw [e]
        refine K.nm (H' := qu q l (s.put (newM s frm rcpts body gen now) s.aim) false false :: _ :: _ :: _ :: _ :: _ :: _ :: _ :: _ :: _ :: _ :: F) (by rw [if_pos e0, e0]; rfl) ?_
        refine K.fin (vs := [_, _]) () ⟨rfl, rfl, trivial⟩ rfl ?_
        refine Ent.take 0 rfl ?_
        refine Ent.take 0 rfl ?_
        refine Ent.take 0 rfl ?_
        refine Ent.keep 3 rfl (sl_pers _ _ _) ?_
        refine Ent.keep 5 rfl (sl_pers _ _ _) ?_
        exact Ent.tail (Ent.tail (Ent.tail (Ent.tail (Ent.tail (Ent.tail (Ent.tail (Ent.tail (Ent.refl _))))))))
end Go.Sl
/-! The queue: Get. -/
namespace Go.Sl
open Go Go.Proofs
set_option maxRecDepth 20000
def zeroM : Msg := ⟨0, 0, 0, 0, 0, [], [], [], []⟩
theorem c43n {n : Int} : Spec P 21 [.pointer none, .int .i64 n] [] (fun _ : Unit => .tuple #[.agg #[.int .i64 0, .int .i64 0, .int .i64 0, .int .i64 0, .int .i64 0, str [], .slice none 0 0, .slice none 0 0, .slice none 0 0], .bool false]) (fun _ => []) := by
  refine Spec.intro Tryz.func21 rfl rfl rfl fun F => ?_
  refine W.rseq ?_
  refine WL.putX rfl rfl rfl (OpX.alloc zr52) fun x4 => ?_
  refine WL.nm (H' := pt _ _ [_, _, _, _, _, _, _, _, _] :: _) rfl ?_
  refine WL.p rfl rfl rfl (PV.as rfl) ?_
  refine WL.next [(5, _), (4, _), (0, _), (1, _)] ⟨rfl, rfl, rfl, rfl, trivial⟩ ?_
  refine W.seq ?_
  refine W.rseq ?_
  refine WL.p rfl rfl rfl (PV.mv rfl) ?_
  refine WL.p rfl rfl rfl (PV.eqV rfl rfl rfl (EqIs.p00 ul47)) ?_
  refine WL.next [(9, _), (5, _), (4, _), (0, _), (1, _)] ⟨rfl, rfl, rfl, rfl, rfl, trivial⟩ ?_
  refine W.cT rfl ?_
  refine W.rseq ?_
  refine WL.p rfl rfl rfl (PV.bld (cs := [_, _, _, _, _, _, _, _, _]) bt52 rfl rfl) ?_
  refine WL.done rfl rfl (OpD.st 0 0 sz52 rfl rfl rfl rfl rfl rfl (NAs.mem (vs := [_, _, _, _, _, _, _, _, _]) ⟨NA.int _ _, NA.int _ _, NA.int _ _, NA.int _ _, NA.int _ _, NA.str _, NA.sl _ _ _, NA.sl _ _ _, NA.sl _ _ _, trivial⟩)) ?_
  refine WL.nm (H' := pt _ _ [_, _, _, _, _, _, _, _, _] :: _) rfl ?_
  refine WL.p rfl rfl rfl (PV.as rfl) ?_
  refine WL.next [(5, _), (4, _), (0, _), (1, _)] ⟨rfl, rfl, rfl, rfl, trivial⟩ ?_
  refine W.ret ?_
  refine K.retT ?_
  rotate_left
  refine K.fin (vs := [_, _]) () ⟨LdD.ag (us := [_, _, _, _, _, _, _, _, _]) 0 0 ag52 rfl rfl rfl rfl rfl, rfl, trivial⟩ rfl ?_
  exact Ent.tail (Ent.refl _)
theorem c43 {q l : Nat} {s : QS} {loose down : Bool} {id : Int} {m : Msg} (hg : mget s.mail id = some m) (hm : m.Ok) : Spec P 21 [.pointer (some ⟨q, 0, none⟩), .int .i64 id] [qu q l s loose down]
    (fun z : SP × SP × SP => .tuple #[.agg #[.int .i64 m.id, .int .i64 m.gen, .int .i64 m.born, .int .i64 m.tries, .int .i64 m.due, str m.frm, z.1.v m.rcpts.length, z.2.1.v m.marks.length, z.2.2.v m.body.length], .bool true])
    (fun z => [sl Kstr z.1 m.rcpts, sl (Kint .i64) z.2.1 m.marks, sl Kstr z.2.2 m.body, qu q l s loose down]) := by
  have b1 := hm.rl; have b2 := hm.ml; have b3 := hm.bl
  refine Spec.exI fun z => ?_
  refine Spec.intro Tryz.func21 rfl rfl rfl fun F => ?_
  refine W.ex 1 rfl fun m1 => ?_
  refine W.pr 0 rfl fun hm1 => ?_
  refine W.nm (H' := mp kvI Kmsg z.1 m1 :: pt _ _ [_, _, _, _, _, _, _] :: _ :: F) rfl ?_
  have hg1 : mget m1 id = some m := by rw [mget_perm hm1.1 hm1.2]; exact hg
  have c128h := fun p1 p2 p3 => c128 (m := m) (p1 := p1) (p2 := p2) (p3 := p3) b1 b2 b3
  refine W.rseq ?_
  refine WL.putX rfl rfl rfl (OpX.alloc zr52) fun x4 => ?_
  refine WL.nm (H' := pt _ _ [_, _, _, _, _, _, _, _, _] :: _ :: pt _ _ [_, _, _, _, _, _, _] :: _ :: _) rfl ?_
  refine WL.p rfl rfl rfl (PV.as rfl) ?_
  refine WL.next [(5, _), (4, _), (0, _), (1, _)] ⟨rfl, rfl, rfl, rfl, trivial⟩ ?_
  refine W.seq ?_
  refine W.rseq ?_
  refine WL.p rfl rfl rfl (PV.mv rfl) ?_
  refine WL.p rfl rfl rfl (PV.eqV rfl rfl rfl (EqIs.p0 ul47)) ?_
  refine WL.next [(9, _), (5, _), (4, _), (0, _), (1, _)] ⟨rfl, rfl, rfl, rfl, rfl, trivial⟩ ?_
  refine W.cF rfl ?_
  refine W.skip ?_
  refine K.next [(5, _), (4, _), (0, _), (1, _)] ⟨rfl, rfl, rfl, rfl, trivial⟩ ?_
  refine W.rseq ?_
  refine WL.p rfl rfl rfl (PV.mv rfl) ?_
  refine WL.p rfl rfl rfl (PV.nck rfl) ?_
  refine WL.p rfl rfl rfl (PV.fa fo202_0 rfl rfl) ?_
  refine WL.p rfl rfl rfl (PV.fa fo200_0 rfl rfl) ?_
  refine WL.f rfl rfl rfl (FV.ld (LdD.sc 2 0 sc197 rfl rfl rfl rfl)) ?_
  refine WL.p rfl rfl rfl (PV.mv rfl) ?_
  refine WL.putX rfl rfl rfl (OpX.lkT 1 ul197 ki3 rfl rfl rfl (by assumption) _) fun x18 => ?_
  refine WL.nm (H' := _ :: _ :: _ :: pt _ _ [_, _, _, _, _, _, _, _, _] :: _ :: pt _ _ [_, _, _, _, _, _, _] :: _ :: _) rfl ?_
  refine WL.p rfl rfl rfl (PV.mv rfl) ?_
  refine WL.p rfl rfl rfl (PV.ext0 rfl) ?_
  refine WL.p rfl rfl rfl (PV.ext1 rfl) ?_
  refine WL.putX rfl rfl rfl (OpX.alloc zr52) fun x6 => ?_
  refine WL.nm (H' := pt _ _ [_, _, _, _, _, _, _, _, _] :: _ :: _ :: _ :: pt _ _ [_, _, _, _, _, _, _, _, _] :: _ :: pt _ _ [_, _, _, _, _, _, _] :: _ :: _) rfl ?_
  refine WL.done rfl rfl (OpD.st 0 0 sz52 rfl rfl rfl rfl rfl rfl (Kd.na _ _ _)) ?_
  refine WL.nm (H' := pt _ _ [_, _, _, _, _, _, _, _, _] :: _ :: _ :: _ :: pt _ _ [_, _, _, _, _, _, _, _, _] :: _ :: pt _ _ [_, _, _, _, _, _, _] :: _ :: _) rfl ?_
  refine WL.p rfl rfl rfl (PV.as rfl) ?_
  refine WL.next [(7, _), (6, _), (5, _), (4, _)] ⟨rfl, rfl, rfl, rfl, trivial⟩ ?_
  refine W.rseq ?_
  refine WL.f rfl rfl rfl (FV.ld (LdD.ag (us := [_, _, _, _, _, _, _, _, _]) 0 0 ag52 rfl rfl rfl rfl rfl)) ?_
  refine WL.putX rfl rfl rfl (OpX.call cb128 (c128h _ _ _) rfl (.cons (i := 1) rfl (.cons (i := 1) rfl (.cons (i := 1) rfl .nil)))) fun x22 => ?_
  refine WL.nm (H' := _ :: _ :: _ :: _ :: _ :: _ :: pt _ _ [_, _, _, _, _, _, _, _, _] :: pt _ _ [_, _, _, _, _, _, _, _, _] :: _ :: pt _ _ [_, _, _, _, _, _, _] :: _ :: _) rfl ?_
  refine WL.p rfl rfl rfl (PV.mv rfl) ?_
  refine WL.done rfl rfl (OpD.st 7 0 sz52 rfl rfl rfl rfl rfl rfl (NAs.mem (vs := [_, _, _, _, _, _, _, _, _]) ⟨NA.int _ _, NA.int _ _, NA.int _ _, NA.int _ _, NA.int _ _, NA.str _, NA.sl _ _ _, NA.sl _ _ _, NA.sl _ _ _, trivial⟩)) ?_
  refine WL.nm (H' := _ :: _ :: _ :: _ :: _ :: _ :: pt _ _ [_, _, _, _, _, _, _, _, _] :: pt _ _ [_, _, _, _, _, _, _, _, _] :: _ :: pt _ _ [_, _, _, _, _, _, _] :: _ :: _) rfl ?_
  refine WL.p rfl rfl rfl (PV.as rfl) ?_
  refine WL.next [(5, _), (4, _)] ⟨rfl, rfl, trivial⟩ ?_
  refine W.ret ?_
  rotate_left
  refine K.fin (vs := [_, _]) x22 ⟨LdD.ag (us := [_, _, _, _, _, _, _, _, _]) 7 0 ag52 rfl rfl rfl rfl rfl, rfl, trivial⟩ rfl ?_
  refine Ent.keep 0 rfl (sl_pers _ _ _) (Ent.keep 1 rfl (sl_pers _ _ _) (Ent.keep 2 rfl (sl_pers _ _ _) (Ent.fold (f := quF q l s loose down) z (Ent.take 9 rfl (Ent.fold m1 (Ent.pr hm1 (Ent.take 8 rfl (Ent.take 8 rfl ?_))))))))
  exact Ent.tail (Ent.tail (Ent.tail (Ent.tail (Ent.tail (Ent.tail (Ent.tail (Ent.tail (Ent.refl _))))))))
end Go.Sl
/-! The queue: Open. -/
namespace Go.Sl
open Go Go.Proofs
set_option maxRecDepth 20000
def qname : Bytes := [113, 117, 101, 117, 101]
def QS.zero : QS := ⟨[], [], 1, 2⟩
/-- What records come to (puts alone, so far). -/
def foldP (l : List (Int × Msg)) (s : QS) : QS := l.foldl (fun s x => s.put x.2 x.1) s
def recP (x : Int × Msg) : Bytes := [80] ++ encM x.1 x.2
theorem c38 {g : Nat} {D : DM} {ps : List (Int × Msg)} (hps : ∀ x, x ∈ ps → Can x.1 x.2) (hpl : ps.length ≤ 2 ^ 20) (hD : D.Ok) (hR : (D.remove (qname ++ dotnew)).1 = 0 ∨ (D.remove (qname ++ dotnew)).1 = 3) (hD1 : (D.remove (qname ++ dotnew)).2.Ok)
    (hE : ((D.remove (qname ++ dotnew)).2.read qname).2 = 0 ∨ ((D.remove (qname ++ dotnew)).2.read qname).2 = 3) (hB : ((D.remove (qname ++ dotnew)).2.read qname).1 = flat (ps.map recP)) (hN : (flat (ps.map recP)).length ≤ 2 ^ 50) :
    Spec P 15 [.pointer (some ⟨g, 0, none⟩)] [dsk g D] (fun z : Nat × Nat => .tuple #[.pointer (some ⟨z.1, 0, none⟩), .int .i64 0]) (fun z => [qu z.1 z.2 (foldP ps QS.zero) false false, lg z.2 g qname (ps.map recP) false, dsk g (D.remove (qname ++ dotnew)).2]) := by
  have hrl : ∀ x, x ∈ ps → (recP x).length ≤ 200001 := by
    intro x hx
    have := (hps x hx).len
    unfold recP; rw [List.length_append]; simp; omega
  have hrl2 : ∀ b, b ∈ ps.map recP → b.length ≤ 262144 := by
    intro b hb
    obtain ⟨x, hx, rfl⟩ := List.mem_map.1 hb
    have := hrl x hx; omega
  have c107h := c107 (g := g) (D := D) (nm := qname) (recs := ps.map recP) (by decide) (by decide) hD hR hD1 hE hB hrl2 (by rw [List.length_map]; omega) hN
  have c108h := fun l => c108 (l := l) (g := g) (nm := qname) (recs := ps.map recP) (down := false) (by rw [List.length_map]; omega) (fun b hb => by have := hrl2 b hb; omega)
  clear hR hD1 hE hB
  obtain ⟨D1, hD1'⟩ : ∃ e, e = (D.remove (qname ++ dotnew)).2 := ⟨_, rfl⟩
  rw [← hD1'] at c107h ⊢
  clear hD1'
  refine Spec.intro Tryz.func15 rfl rfl rfl fun F => ?_
  refine W.rseq ?_
  refine WL.p rfl rfl rfl (PV.as rfl) ?_
  refine WL.p rfl rfl rfl (PV.as rfl) ?_
  refine WL.next [(3, _), (2, _), (0, _)] ⟨rfl, rfl, rfl, trivial⟩ ?_
  refine W.rseq ?_
  refine WL.p rfl rfl rfl (PV.mv rfl) ?_
  refine WL.putX rfl rfl rfl (OpX.call cb107 (c107h) rfl (.cons (i := 0) rfl .nil)) fun x11 => ?_
  refine WL.nm (H' := _ :: _ :: _) rfl ?_
  refine WL.p rfl rfl rfl (PV.mv rfl) ?_
  refine WL.p rfl rfl rfl (PV.ext0 rfl) ?_
  refine WL.p rfl rfl rfl (PV.ext1 rfl) ?_
  refine WL.p rfl rfl rfl (PV.as rfl) ?_
  refine WL.p rfl rfl rfl (PV.as rfl) ?_
  refine WL.next [(5, _), (4, _), (3, _), (2, _)] ⟨rfl, rfl, rfl, rfl, trivial⟩ ?_
  refine W.seq ?_
  refine W.rseq ?_
  refine WL.p rfl rfl rfl (PV.mv rfl) ?_
  refine WL.p rfl rfl rfl (PV.neI rfl rfl) ?_
  refine WL.next [(15, _), (5, _), (4, _), (3, _), (2, _)] ⟨rfl, rfl, rfl, rfl, rfl, trivial⟩ ?_
  refine W.cF rfl ?_
  refine W.skip ?_
  refine K.next [(4, _), (3, _), (2, _)] ⟨rfl, rfl, rfl, trivial⟩ ?_
  refine W.rseq ?_
  refine WL.p rfl rfl rfl (PV.mv rfl) ?_
  refine WL.putX rfl rfl rfl (OpX.mkM (kv := kvI) (K := Kmsg)) fun x18 => ?_
  refine WL.nm (H' := _ :: _ :: _ :: _) rfl ?_
  refine WL.putX rfl rfl rfl (OpX.mkM (kv := kvI) (K := (Kint .i64))) fun x19 => ?_
  refine WL.nm (H' := _ :: _ :: _ :: _ :: _) rfl ?_
  refine WL.p rfl rfl rfl (PV.bld (cs := [_, _, _, _]) bt200 rfl rfl) ?_
  refine WL.p rfl rfl rfl (PV.bld (cs := [_, _, _, _, _, _, _]) bt202 rfl rfl) ?_
  refine WL.putX rfl rfl rfl (OpX.box rfl) fun x22 => ?_
  refine WL.nm (H' := pt _ _ [_, _, _, _, _, _, _] :: _ :: _ :: _ :: _ :: _) rfl ?_
  refine WL.p rfl rfl rfl (PV.as rfl) ?_
  refine WL.next [(6, _), (4, _), (3, _), (2, _)] ⟨rfl, rfl, rfl, rfl, trivial⟩ ?_
  refine W.seq ?_
  refine W.rseq ?_
  refine WL.p rfl rfl rfl (PV.mv rfl) ?_
  refine WL.putX rfl rfl rfl (OpX.call cb108 (c108h _) rfl (.cons (i := 3) rfl .nil)) fun x24 => ?_
  refine WL.nm (H' := _ :: _ :: pt _ _ [_, _, _, _, _, _, _] :: _ :: _ :: _ :: _) rfl ?_
  refine WL.p rfl rfl rfl (PV.lenL ul182 rfl rfl) ?_
  refine WL.p rfl rfl rfl (PV.mv rfl) ?_
  refine WL.next [(26, _), (25, _), (24, _), (6, _), (3, _), (2, _)] ⟨rfl, rfl, rfl, rfl, rfl, rfl, trivial⟩ ?_
  refine W.block ?_
  rotate_left
  obtain ⟨N, hNl⟩ : ∃ N, N = (ps.map recP).length := ⟨_, rfl⟩
  have hN2 : N = ps.length := by rw [hNl, List.length_map]
  refine W.loopP (X := Nat) (fun k => k ≤ N) (fun k => [(26, .int .i64 k), (25, .int .i64 (ps.map recP).length), (24, x24.v (ps.map recP).length), (6, .pointer (some ⟨x22, 0, none⟩)), (3, .int .i64 0), (2, .pointer none)])
    (fun k => pt x22 0 [.map (some x18), .map (some x19), .int .i64 (foldP (ps.take k) QS.zero).next, .int .i64 (foldP (ps.take k) QS.zero).aim, .pointer (some ⟨x11, 0, none⟩), .bool false, .bool false] :: mx Kmsg x18 (foldP (ps.take k) QS.zero).mail :: mx (Kint .i64) x19 (foldP (ps.take k) QS.zero).form :: sl (Ksl Kb) x24 (ps.map recP) :: lg x11 g qname (ps.map recP) false :: dsk g D1 :: F)
    (fun k => N - k) 0 (Nat.zero_le _) ⟨rfl, rfl, rfl, rfl, rfl, rfl, trivial⟩ ?_ fun k hk => ?_
  · refine Ent.take 2 rfl (Ent.fold [] (Ent.pr ⟨List.Perm.refl _, List.nodup_nil⟩ (Ent.take 3 rfl (Ent.fold [] (Ent.pr ⟨List.Perm.refl _, List.nodup_nil⟩ (Ent.take 2 rfl (Ent.keep 1 rfl (sl_pers _ _ _) (Ent.take 0 rfl (Ent.take 1 rfl ?_)))))))))
    exact Ent.tail (Ent.refl _)
  have hlm : (ps.map recP).length = N := hNl.symm
  by_cases hkN : k < N
  · have hkp : k < ps.length := by omega
    have eb : (ps.map recP)[k]'(by omega) = [80] ++ encM (ps[k]).1 (ps[k]).2 := by rw [List.getElem_map]; rfl
    have ef : foldP (ps.take (k + 1)) QS.zero = (foldP (ps.take k) QS.zero).put (ps[k]).2 (ps[k]).1 := by
      rw [List.take_succ_eq_append_getElem hkp]; unfold foldP; rw [List.foldl_append]; rfl
    have c122h := fun p => c122p (q := x22) (r1 := x18) (r2 := x19) (s := foldP (ps.take k) QS.zero) (c4 := .pointer (some ⟨x11, 0, none⟩)) (c5 := .bool false) (c6 := .bool false) (p := p) (hps _ (List.getElem_mem hkp))
    rw [← eb, ← ef] at c122h
    clear eb
    refine W.rseq ?_
    refine WL.p rfl rfl rfl (PV.lt rfl rfl) ?_
    refine WL.next [(27, _), (26, _), (25, _), (24, _), (6, _), (3, _), (2, _)] ⟨rfl, rfl, rfl, rfl, rfl, rfl, rfl, trivial⟩ ?_
    refine W.seq ?_
    refine W.condD rfl (fun h0 => ?_) (fun h0 => ?_)
    refine W.skip ?_
    refine K.next [(26, _), (25, _), (24, _), (6, _), (3, _), (2, _)] ⟨rfl, rfl, rfl, rfl, rfl, rfl, trivial⟩ ?_
    refine W.bseq ?_
    refine W.rseq ?_
    refine WL.fact (sl_fact 3 rfl) fun hs1 => ?_
    refine WL.p rfl rfl rfl (PV.ixN (by assumption) ul182 sz62 rfl rfl (by omega)) ?_
    refine WL.elt 3 (k) rfl (List.getElem?_eq_getElem (by first | omega | (simp; omega))) fun q2 => ?_
    refine WL.nm (H' := ro _ _ [_] :: _ :: pt _ _ [_, _, _, _, _, _, _] :: _ :: _ :: _ :: _ :: _ :: _) rfl ?_
    refine WL.f rfl rfl rfl (FV.ld (LdD.ro 0 0 sc62 rfl rfl rfl rfl)) ?_
    refine WL.p rfl rfl rfl (PV.as rfl) ?_
    refine WL.next [(8, _), (26, _), (25, _), (24, _), (6, _), (3, _), (2, _)] ⟨rfl, rfl, rfl, rfl, rfl, rfl, rfl, trivial⟩ ?_
    refine W.rseq ?_
    refine WL.p rfl rfl rfl (PV.mv rfl) ?_
    refine WL.p rfl rfl rfl (PV.nck rfl) ?_
    refine WL.p rfl rfl rfl (PV.fa fo202_0 rfl rfl) ?_
    refine WL.p rfl rfl rfl (PV.mv rfl) ?_
    refine WL.putX rfl rfl rfl (OpX.call cb122 (c122h _) rfl (.cons (i := 2) rfl (.cons (i := 2) rfl (.cons (i := 2) rfl (.cons (i := 1) rfl .nil))))) fun x34 => ?_
    refine WL.nm (H' := pt _ _ [_, _, _, _, _, _, _] :: _ :: _ :: _ :: ro _ _ [_] :: _ :: _ :: _ :: _) rfl ?_
    refine WL.p rfl rfl rfl (PV.not rfl) ?_
    refine WL.next [(35, _), (26, _), (25, _), (24, _), (6, _), (3, _), (2, _)] ⟨rfl, rfl, rfl, rfl, rfl, rfl, rfl, trivial⟩ ?_
    refine W.cF rfl ?_
    refine W.skip ?_
    refine K.out ?_
    refine K.next [(26, _), (25, _), (24, _), (6, _), (3, _), (2, _)] ⟨rfl, rfl, rfl, rfl, rfl, rfl, trivial⟩ ?_
    refine W.region ?_
    refine WL.p rfl rfl rfl (PV.add64 rfl rfl (by omega)) ?_
    refine WL.p rfl rfl rfl (PV.mv rfl) ?_
    refine WL.nil ?_
    rotate_left
    refine W.exit ?_
    refine K.exitT ?_
    refine K.exitT ?_
    refine K.exit ?_
    refine K.next [(6, _), (3, _), (2, _)] ⟨rfl, rfl, rfl, trivial⟩ ?_
    refine W.rseq ?_
    refine WL.p rfl rfl rfl (PV.mv rfl) ?_
    refine WL.p rfl rfl rfl (PV.as rfl) ?_
    refine WL.p rfl rfl rfl (PV.as rfl) ?_
    refine WL.next [(3, _), (2, _)] ⟨rfl, rfl, trivial⟩ ?_
    refine W.ret ?_
    rotate_left
    · refine K.againP (k + 1) (by omega) (by omega) ⟨rfl, rfl, rfl, rfl, rfl, rfl, trivial⟩ ?_
      refine Ent.take 0 rfl ?_
      refine Ent.take 0 rfl ?_
      refine Ent.take 0 rfl ?_
      refine Ent.keep 2 rfl (sl_pers _ _ _) ?_
      refine Ent.take 3 rfl ?_
      refine Ent.take 3 rfl ?_
      exact Ent.tail (Ent.tail (Ent.tail (Ent.refl _)))
    · exfalso; omega
  · refine W.rseq ?_
    refine WL.p rfl rfl rfl (PV.lt rfl rfl) ?_
    refine WL.next [(27, _), (26, _), (25, _), (24, _), (6, _), (3, _), (2, _)] ⟨rfl, rfl, rfl, rfl, rfl, rfl, rfl, trivial⟩ ?_
    refine W.seq ?_
    refine W.condD rfl (fun h0 => ?_) (fun h0 => ?_)
    refine W.skip ?_
    refine K.next [(26, _), (25, _), (24, _), (6, _), (3, _), (2, _)] ⟨rfl, rfl, rfl, rfl, rfl, rfl, trivial⟩ ?_
    refine W.bseq ?_
    refine W.rseq ?_
    refine WL.fact (sl_fact 3 rfl) fun hs1 => ?_
    refine WL.p rfl rfl rfl (PV.ixN (by assumption) ul182 sz62 rfl rfl (by omega)) ?_
    refine WL.elt 3 (k) rfl (List.getElem?_eq_getElem (by first | omega | (simp; omega))) fun q2 => ?_
    refine WL.nm (H' := ro _ _ [_] :: _ :: pt _ _ [_, _, _, _, _, _, _] :: _ :: _ :: _ :: _ :: _ :: _) rfl ?_
    refine WL.f rfl rfl rfl (FV.ld (LdD.ro 0 0 sc62 rfl rfl rfl rfl)) ?_
    refine WL.p rfl rfl rfl (PV.as rfl) ?_
    refine WL.next [(8, _), (26, _), (25, _), (24, _), (6, _), (3, _), (2, _)] ⟨rfl, rfl, rfl, rfl, rfl, rfl, rfl, trivial⟩ ?_
    refine W.rseq ?_
    refine WL.p rfl rfl rfl (PV.mv rfl) ?_
    refine WL.p rfl rfl rfl (PV.nck rfl) ?_
    refine WL.p rfl rfl rfl (PV.fa fo202_0 rfl rfl) ?_
    refine WL.p rfl rfl rfl (PV.mv rfl) ?_
    rotate_left
    refine W.exit ?_
    refine K.exitT ?_
    refine K.exitT ?_
    refine K.exit ?_
    refine K.next [(6, _), (3, _), (2, _)] ⟨rfl, rfl, rfl, trivial⟩ ?_
    refine W.rseq ?_
    refine WL.p rfl rfl rfl (PV.mv rfl) ?_
    refine WL.p rfl rfl rfl (PV.as rfl) ?_
    refine WL.p rfl rfl rfl (PV.as rfl) ?_
    refine WL.next [(3, _), (2, _)] ⟨rfl, rfl, trivial⟩ ?_
    refine W.ret ?_
    rotate_left
    · exfalso; omega
    · rw [show ps.take k = ps from List.take_of_length_le (by omega)]
      refine K.fin (vs := [_, _]) (x22, x11) ⟨rfl, rfl, trivial⟩ rfl (Ent.fold (f := quF x22 x11 (foldP ps QS.zero) false false) (x18, x19) ?_)
      refine Ent.take 0 rfl ?_
      refine Ent.take 0 rfl ?_
      refine Ent.take 0 rfl ?_
      refine Ent.take 1 rfl ?_
      refine Ent.take 1 rfl ?_
      exact Ent.tail (Ent.refl _)
end Go.Sl
/-! What a program that does nothing does not answer. -/
namespace Go.Sl
open Go Go.Proofs
set_option maxRecDepth 20000
theorem c45q {q l : Nat} {s : QS} {loose down : Bool} : Spec P 23 [.pointer (some ⟨q, 0, none⟩)] [qu q l s loose down] (fun _ : Unit => .int .i64 s.next) (fun _ => [qu q l s loose down]) := by
  refine Spec.exI fun z => ?_
  refine Spec.intro Tryz.func23 rfl rfl rfl fun F => ?_
  refine W.rseq ?_
  refine WL.p rfl rfl rfl (PV.as rfl) ?_
  refine WL.next [(2, _), (0, _)] ⟨rfl, rfl, trivial⟩ ?_
  refine W.seq ?_
  refine W.rseq ?_
  refine WL.p rfl rfl rfl (PV.mv rfl) ?_
  refine WL.p rfl rfl rfl (PV.eqV rfl rfl rfl (EqIs.p0 ul47)) ?_
  refine WL.next [(4, _), (2, _), (0, _)] ⟨rfl, rfl, rfl, trivial⟩ ?_
  refine W.cF rfl ?_
  refine W.skip ?_
  refine K.next [(2, _), (0, _)] ⟨rfl, rfl, trivial⟩ ?_
  refine W.rseq ?_
  refine WL.p rfl rfl rfl (PV.mv rfl) ?_
  refine WL.p rfl rfl rfl (PV.nck rfl) ?_
  refine WL.p rfl rfl rfl (PV.fa fo202_0 rfl rfl) ?_
  refine WL.p rfl rfl rfl (PV.fa fo200_2 rfl rfl) ?_
  refine WL.f rfl rfl rfl (FV.ld (LdD.sc 0 2 sc3 rfl rfl rfl rfl)) ?_
  refine WL.p rfl rfl rfl (PV.as rfl) ?_
  refine WL.next [(2, _)] ⟨rfl, trivial⟩ ?_
  refine W.ret ?_
  rotate_left
  refine K.fin (vs := [_]) () ⟨rfl, trivial⟩ rfl (Ent.fold (f := quF q l s loose down) z ?_)
  refine Ent.take 0 rfl ?_
  refine Ent.take 0 rfl ?_
  refine Ent.take 0 rfl ?_
  exact Ent.refl _
def ansM : Msg := ⟨1, 0, 5, 0, 5, [], [[97, 64, 98]], [], []⟩
def ansB : Bytes := putB QS.zero ansM
def ansD0 : DM := ⟨[], [], [], max 10000 0, -1, false⟩
def ansD1 : DM := ⟨[(qname, frame ansB)], [(qname, frame ansB)], [], max 10000 0, -1, false⟩
theorem ansM_new : newM QS.zero [] [[97, 64, 98]] [] 0 5 = ansM := rfl
theorem ansM_good : goodM ansM = true := by decide +kernel
theorem ansB_len : ansB.length = 47 := by decide +kernel
theorem ans_app : (⟨ansD0, qname, [], false⟩ : LM).append ansB = (0, ⟨ansD1, qname, [ansB], false⟩) := by
  have h1 := ansB_len
  have h2 := frame_len ansB
  have e1 : mayL false [ansB] = 0 := by unfold mayL; simp [h1]
  have e2 : ansD0.append qname (frame ansB) = (0, ⟨[(qname, frame ansB)], [], [⟨0, qname, [], frame ansB⟩], max 10000 0, -1, false⟩) := by
    unfold DM.append
    rw [if_neg (by decide), if_neg (by decide), if_neg (by simp [ansD0, total, h2, h1]; decide)]
    rfl
  have e3 : (⟨[(qname, frame ansB)], [], [⟨0, qname, [], frame ansB⟩], max 10000 0, -1, false⟩ : DM).sync = (0, ansD1) := rfl
  unfold LM.append
  simp only [e1, e2, e3]
  rfl
theorem ans_ok0 : ansD0.Ok := ⟨by decide, by decide, by decide⟩
theorem ans_ok1 : ansD1.Ok := ⟨by decide, by decide, by
  have h1 := ansB_len
  have h2 := frame_len ansB
  simp [ansD1, total, h2, h1]⟩
theorem ans_crash : ansD1.crash 0 (-1) = [(qname, frame ansB)] := rfl
theorem ans_oka : (ansD0.append qname (frame ansB)).2.Ok := by
  have h1 := ansB_len
  have h2 := frame_len ansB
  unfold DM.append
  rw [if_neg (by decide), if_neg (by decide), if_neg (by simp [ansD0, total, h2, h1]; decide)]
  exact ⟨by decide, by decide, by simp [DM.done, ansD0, burnF, doW, mset, mget, total, h2, h1]⟩
theorem ans_can : Can 2 ansM := ⟨rfl, goodM_fine ansM_good⟩
theorem c40 : Spec P 18 [] [] (fun _ : Unit => .bool true) (fun _ => []) := by
  have hb := ansB_len
  have hfb := frame_len ansB
  have c38h := fun g => c38 (g := g) (D := ansD0) (ps := []) (by simp) (by decide) ans_ok0 (.inr rfl) ans_ok0 (.inr rfl) rfl (by decide)
  have c38i := fun g => c38 (g := g) (D := ansD1) (ps := [(2, ansM)]) (by intro x hx; simp at hx; subst hx; exact ans_can) (by decide) ans_ok1 (.inr rfl) ans_ok1 (.inl rfl) (by show frame ansB = flat [ansB]; simp [flat]) (by show (flat [ansB]).length ≤ _; simp [flat, hfb, hb])
  have c36h := fun g => c36 (g := g) (D := ansD1) (keep := 0) (torn := -1) ans_ok1 (by simp [ansD1, total, lsum, hfb, hb])
  have c41h := fun q l g p1 p3 => c41 (q := q) (l := l) (g := g) (Q := ⟨QS.zero, false, ⟨ansD0, qname, [], false⟩⟩) (p1 := p1) (p3 := p3) (frm := []) (rcpts := [[97, 64, 98]]) (body := []) (gen := 0) (now := 5)
    (by show ansM.Ok; exact ans_can.fine.ok) (fun _ => ans_can) (fun _ => ⟨by show ((⟨ansD0, qname, [], false⟩ : LM).append ansB).1 ≠ 5; rw [ans_app]; decide, ans_ok0, ans_oka, by decide, by decide⟩)
  have hput : (⟨QS.zero, false, ⟨ansD0, qname, [], false⟩⟩ : QL).put [] [[97, 64, 98]] [] 0 5 = (1, 0, ⟨QS.zero.put ansM 2, false, ⟨ansD1, qname, [ansB], false⟩⟩) := by
    unfold QL.put
    rw [if_neg (by decide), if_neg (by decide)]
    show (if goodM ansM = false then _ else _) = _
    refine (if_neg (by rw [ansM_good]; decide)).trans ?_
    have e : (⟨ansD0, qname, [], false⟩ : LM).append (putB QS.zero ansM) = (0, ⟨ansD1, qname, [ansB], false⟩) := ans_app
    show (if ((⟨ansD0, qname, [], false⟩ : LM).append (putB QS.zero ansM)).1 = 0 then _ else _) = _
    rw [e]; rfl
  rw [hput] at c41h
  replace c41h : ∀ q l g p1, Spec P 19 [.pointer (some ⟨q, 0, none⟩), .agg #[str [], p1.v 1, .slice none 0 0], .int .i64 0, .int .i64 5] [qu q l QS.zero false false, lg l g qname [] false, dsk g ansD0, sl Kstr p1 [[97, 64, 98]], sl Kstr SP.nil []]
      (fun _ : Unit => .tuple #[.int .i64 1, .int .i64 0]) (fun _ => [qu q l (foldP [(2, ansM)] QS.zero) false false, lg l g qname [ansB] false, dsk g ansD1, sl Kstr p1 [[97, 64, 98]], sl Kstr SP.nil []]) := fun q l g p1 => c41h q l g p1 SP.nil
  have c43h := fun q l => c43 (q := q) (l := l) (s := foldP [(2, ansM)] QS.zero) (loose := false) (down := false) (id := 1) (m := ansM) rfl ans_can.fine.ok
  replace c38h : ∀ g, Spec P 15 [.pointer (some ⟨g, 0, none⟩)] [dsk g ansD0] (fun z : Nat × Nat => .tuple #[.pointer (some ⟨z.1, 0, none⟩), .int .i64 0]) (fun z => [qu z.1 z.2 QS.zero false false, lg z.2 g qname [] false, dsk g ansD0]) := c38h
  replace c38i : ∀ g, Spec P 15 [.pointer (some ⟨g, 0, none⟩)] [dsk g ansD1] (fun z : Nat × Nat => .tuple #[.pointer (some ⟨z.1, 0, none⟩), .int .i64 0]) (fun z => [qu z.1 z.2 (foldP [(2, ansM)] QS.zero) false false, lg z.2 g qname [ansB] false, dsk g ansD1]) := c38i
  have c45h := fun q l => c45q (q := q) (l := l) (s := foldP [(2, ansM)] QS.zero) (loose := false) (down := false)
  refine Spec.intro Tryz.func18 rfl rfl rfl fun F => ?_
  refine W.entH (Ent.ofNil (Ent.nil_sl Kstr)) ?_
  refine W.nm (H' := sl Kstr SP.nil [] :: F) rfl ?_
  refine W.rseq ?_
  refine WL.p rfl rfl rfl (PV.as rfl) ?_
  refine WL.next [(0, _)] ⟨rfl, trivial⟩ ?_
  refine W.rseq ?_
  refine WL.putX rfl rfl rfl (OpX.call cb29 (c29) rfl .nil) fun x10 => ?_
  refine WL.nm (H' := _ :: _ :: _) rfl ?_
  refine WL.p rfl rfl rfl (PV.as rfl) ?_
  refine WL.next [(1, _), (0, _)] ⟨rfl, rfl, trivial⟩ ?_
  refine W.rseq ?_
  refine WL.p rfl rfl rfl (PV.mv rfl) ?_
  refine WL.putX rfl rfl rfl (OpX.call cb38 (c38h _) rfl (.cons (i := 0) rfl .nil)) fun x13 => ?_
  refine WL.nm (H' := _ :: _ :: _ :: _ :: _) rfl ?_
  refine WL.p rfl rfl rfl (PV.mv rfl) ?_
  refine WL.p rfl rfl rfl (PV.ext0 rfl) ?_
  refine WL.p rfl rfl rfl (PV.ext1 rfl) ?_
  refine WL.p rfl rfl rfl (PV.as rfl) ?_
  refine WL.p rfl rfl rfl (PV.as rfl) ?_
  refine WL.next [(3, _), (2, _), (1, _), (0, _)] ⟨rfl, rfl, rfl, rfl, trivial⟩ ?_
  refine W.rseq ?_
  refine WL.p rfl rfl rfl (PV.mv rfl) ?_
  refine WL.putX rfl rfl rfl (OpX.rowS (K := Kstr) [_] [()] slt33 ⟨_, zr9, rfl⟩ rfl rfl rfl rfl rfl rfl (fun _ h => by first | (simp [innerL, Kb, Kint, Kstr, Kbool] at h; done) | (simp [innerL, Ksl, Kwr, Kmsg] at h; rcases h with h | h | h <;> subst h <;> simp [Sl.rem]) | (simp [innerL, Ksl, Kwr] at h; subst h; simp [Sl.rem]))) fun x18 => ?_
  refine WL.nm (H' := _ :: _ :: _ :: _ :: _ :: _ :: _) rfl ?_
  refine WL.p rfl rfl rfl (PV.bld (cs := [_, _, _]) bt46 rfl rfl) ?_
  refine WL.putX rfl rfl rfl (OpX.call cb41 (c41h _ _ _ _) rfl (.cons (i := 2) rfl (.cons (i := 2) rfl (.cons (i := 2) rfl (.cons (i := 0) rfl (.cons (i := 1) rfl .nil)))))) fun x20 => ?_
  refine WL.nm (H' := _ :: _ :: _ :: _ :: _ :: _ :: _) rfl ?_
  refine WL.p rfl rfl rfl (PV.mv rfl) ?_
  refine WL.p rfl rfl rfl (PV.ext0 rfl) ?_
  refine WL.p rfl rfl rfl (PV.ext1 rfl) ?_
  refine WL.p rfl rfl rfl (PV.as rfl) ?_
  refine WL.p rfl rfl rfl (PV.as rfl) ?_
  refine WL.next [(5, _), (4, _), (3, _), (1, _), (0, _)] ⟨rfl, rfl, rfl, rfl, rfl, trivial⟩ ?_
  refine W.rseq ?_
  refine WL.p rfl rfl rfl (PV.mv rfl) ?_
  refine WL.putX rfl rfl rfl (OpX.call cb36 (c36h _) rfl (.cons (i := 2) rfl .nil)) fun x24 => ?_
  refine WL.nm (H' := _ :: _ :: _ :: _ :: _ :: _ :: _) rfl ?_
  refine WL.next [(5, _), (4, _), (3, _), (1, _), (0, _)] ⟨rfl, rfl, rfl, rfl, rfl, trivial⟩ ?_
  refine W.rseq ?_
  refine WL.p rfl rfl rfl (PV.mv rfl) ?_
  refine WL.putX rfl rfl rfl (OpX.call cb38 (c38i _) rfl (.cons (i := 0) rfl .nil)) fun x27 => ?_
  refine WL.nm (H' := _ :: _ :: _ :: _ :: _ :: _ :: _ :: _ :: _) rfl ?_
  refine WL.p rfl rfl rfl (PV.mv rfl) ?_
  refine WL.p rfl rfl rfl (PV.ext0 rfl) ?_
  refine WL.p rfl rfl rfl (PV.ext1 rfl) ?_
  refine WL.p rfl rfl rfl (PV.as rfl) ?_
  refine WL.p rfl rfl rfl (PV.as rfl) ?_
  refine WL.next [(7, _), (6, _), (5, _), (4, _), (3, _), (0, _)] ⟨rfl, rfl, rfl, rfl, rfl, rfl, trivial⟩ ?_
  refine W.rseq ?_
  refine WL.p rfl rfl rfl (PV.mv rfl) ?_
  refine WL.putX rfl rfl rfl (OpX.call cb43 (c43h _ _) rfl (.cons (i := 0) rfl .nil)) fun x32 => ?_
  refine WL.nm (H' := _ :: _ :: _ :: _ :: _ :: _ :: _ :: _ :: _ :: _ :: _ :: _) rfl ?_
  refine WL.p rfl rfl rfl (PV.mv rfl) ?_
  refine WL.p rfl rfl rfl (PV.ext0 rfl) ?_
  refine WL.p rfl rfl rfl (PV.ext1 rfl) ?_
  refine WL.putX rfl rfl rfl (OpX.alloc zr52) fun x8 => ?_
  refine WL.nm (H' := pt _ _ [_, _, _, _, _, _, _, _, _] :: _ :: _ :: _ :: _ :: _ :: _ :: _ :: _ :: _ :: _ :: _ :: _) rfl ?_
  refine WL.done rfl rfl (OpD.st 0 0 sz52 rfl rfl rfl rfl rfl rfl (NAs.mem (vs := [_, _, _, _, _, _, _, _, _]) ⟨NA.int _ _, NA.int _ _, NA.int _ _, NA.int _ _, NA.int _ _, NA.str _, NA.sl _ _ _, NA.sl _ _ _, NA.sl _ _ _, trivial⟩)) ?_
  refine WL.nm (H' := pt _ _ [_, _, _, _, _, _, _, _, _] :: _ :: _ :: _ :: _ :: _ :: _ :: _ :: _ :: _ :: _ :: _ :: _) rfl ?_
  refine WL.p rfl rfl rfl (PV.as rfl) ?_
  refine WL.next [(9, _), (8, _), (7, _), (6, _), (5, _), (4, _), (3, _), (0, _)] ⟨rfl, rfl, rfl, rfl, rfl, rfl, rfl, rfl, trivial⟩ ?_
  refine W.rseq ?_
  refine WL.p rfl rfl rfl (PV.mv rfl) ?_
  refine WL.p rfl rfl rfl (PV.eqI rfl rfl) ?_
  refine WL.p rfl rfl rfl (PV.mv rfl) ?_
  refine WL.yes (dj := 37) rfl rfl rfl rfl rfl rfl (OpD.fv (PV.fv (PV.mv rfl))) ?_
  refine WL.yes (dj := 37) rfl rfl rfl rfl rfl rfl (OpD.fv (PV.fv (PV.eqI rfl rfl))) ?_
  refine WL.p rfl rfl rfl (PV.pickT rfl rfl rfl) ?_
  refine WL.p rfl rfl rfl (PV.mv rfl) ?_
  refine WL.yes (dj := 41) rfl rfl rfl rfl rfl rfl (OpD.fv (PV.fv (PV.mv rfl))) ?_
  refine WL.yes (dj := 41) rfl rfl rfl rfl rfl rfl (OpD.fv (PV.fv (PV.eqI rfl rfl))) ?_
  refine WL.p rfl rfl rfl (PV.pickT rfl rfl rfl) ?_
  refine WL.p rfl rfl rfl (PV.mv rfl) ?_
  refine WL.yes (dj := 45) rfl rfl rfl rfl rfl rfl (OpD.fv (PV.fv (PV.mv rfl))) ?_
  refine WL.yes (dj := 45) rfl rfl rfl rfl rfl rfl (OpD.fv (PV.fv (PV.eqI rfl rfl))) ?_
  refine WL.p rfl rfl rfl (PV.pickT rfl rfl rfl) ?_
  refine WL.p rfl rfl rfl (PV.mv rfl) ?_
  refine WL.yes (dj := 49) rfl rfl rfl rfl rfl rfl (OpD.fv (PV.fv (PV.mv rfl))) ?_
  refine WL.p rfl rfl rfl (PV.pickT rfl rfl rfl) ?_
  refine WL.p rfl rfl rfl (PV.mv rfl) ?_
  refine WL.yes (dj := 52) rfl rfl rfl rfl rfl rfl (OpD.fv (PV.fv (PV.fa fo52_2 rfl rfl))) ?_
  refine WL.yes (dj := 52) rfl rfl rfl rfl rfl rfl (OpD.fv (FV.ld (LdD.sc 0 2 sc3 rfl rfl rfl rfl))) ?_
  refine WL.yes (dj := 52) rfl rfl rfl rfl rfl rfl (OpD.fv (PV.fv (PV.eqI rfl rfl))) ?_
  refine WL.p rfl rfl rfl (PV.pickT rfl rfl rfl) ?_
  refine WL.p rfl rfl rfl (PV.mv rfl) ?_
  refine WL.yes (dj := 57) rfl rfl rfl rfl rfl rfl (OpD.fv (PV.fv (PV.mv rfl))) ?_
  refine WL.yesX (dj := 57) rfl rfl rfl rfl rfl rfl (OpX.call cb45 (c45h _ _) rfl (.cons (i := 4) rfl .nil)) fun x59 => ?_
  refine WL.nm (H' := _ :: pt _ _ [_, _, _, _, _, _, _, _, _] :: _ :: _ :: _ :: _ :: _ :: _ :: _ :: _ :: _ :: _ :: _) rfl ?_
  refine WL.yes (dj := 57) rfl rfl rfl rfl rfl rfl (OpD.fv (PV.fv (PV.eqI rfl rfl))) ?_
  refine WL.p rfl rfl rfl (PV.pickT rfl rfl rfl) ?_
  refine WL.p rfl rfl rfl (PV.as rfl) ?_
  refine WL.next [(0, _)] ⟨rfl, trivial⟩ ?_
  refine W.ret ?_
  rotate_left
  refine K.fin (vs := [_]) () ⟨rfl, trivial⟩ rfl ?_
  exact Ent.tail (Ent.tail (Ent.tail (Ent.tail (Ent.tail (Ent.tail (Ent.tail (Ent.tail (Ent.tail (Ent.tail (Ent.tail (Ent.tail (Ent.refl _))))))))))))
end Go.Sl
/-! What a queue that is not there answers. -/
namespace Go.Sl
open Go Go.Proofs
set_option maxRecDepth 20000
theorem c41n {a b c : Value} {g n : Int} : Spec P 19 [.pointer none, .agg #[a, b, c], .int .i64 g, .int .i64 n] [] (fun _ : Unit => .tuple #[.int .i64 0, .int .i64 1]) (fun _ => []) := by
  refine Spec.intro Tryz.func19 rfl rfl rfl fun F => ?_
  refine W.rseq ?_
  refine WL.putX rfl rfl rfl (OpX.box rfl) fun x5 => ?_
  refine WL.nm (H' := pt _ _ [_, _, _] :: _) rfl ?_
  refine WL.p rfl rfl rfl (PV.as rfl) ?_
  refine WL.p rfl rfl rfl (PV.as rfl) ?_
  refine WL.next [(9, _), (8, _), (5, _), (0, _), (2, _), (3, _)] ⟨rfl, rfl, rfl, rfl, rfl, rfl, trivial⟩ ?_
  refine W.seq ?_
  refine W.rseq ?_
  refine WL.p rfl rfl rfl (PV.mv rfl) ?_
  refine WL.putX rfl rfl rfl (OpX.call cb123 (c123n) rfl .nil) fun x14 => ?_
  refine WL.nm (H' := pt _ _ [_, _, _] :: _) rfl ?_
  refine WL.p rfl rfl rfl (PV.as rfl) ?_
  refine WL.next [(10, _), (9, _), (8, _), (5, _), (0, _), (2, _), (3, _)] ⟨rfl, rfl, rfl, rfl, rfl, rfl, rfl, trivial⟩ ?_
  refine W.rseq ?_
  refine WL.p rfl rfl rfl (PV.mv rfl) ?_
  refine WL.p rfl rfl rfl (PV.neI rfl rfl) ?_
  refine WL.next [(16, _), (10, _), (9, _), (8, _), (5, _), (0, _), (2, _), (3, _)] ⟨rfl, rfl, rfl, rfl, rfl, rfl, rfl, rfl, trivial⟩ ?_
  refine W.cT rfl ?_
  refine W.rseq ?_
  refine WL.p rfl rfl rfl (PV.mv rfl) ?_
  refine WL.p rfl rfl rfl (PV.as rfl) ?_
  refine WL.p rfl rfl rfl (PV.as rfl) ?_
  refine WL.next [(9, _), (8, _), (5, _), (0, _), (2, _), (3, _)] ⟨rfl, rfl, rfl, rfl, rfl, rfl, trivial⟩ ?_
  refine W.ret ?_
  refine K.retT ?_
  rotate_left
  refine K.fin (vs := [_, _]) () ⟨rfl, rfl, trivial⟩ rfl ?_
  exact Ent.tail (Ent.refl _)
theorem c42n {a : Int} {b : Value} {c d : Int} : Spec P 20 [.pointer none, .int .i64 a, b, .int .i64 c, .int .i64 d] [] (fun _ : Unit => .int .i64 1) (fun _ => []) := by
  refine Spec.intro Tryz.func20 rfl rfl rfl fun F => ?_
  refine W.rseq ?_
  refine WL.p rfl rfl rfl (PV.as rfl) ?_
  refine WL.next [(10, _), (0, _), (1, _), (2, _), (3, _), (4, _)] ⟨rfl, rfl, rfl, rfl, rfl, rfl, trivial⟩ ?_
  refine W.seq ?_
  refine W.rseq ?_
  refine WL.p rfl rfl rfl (PV.mv rfl) ?_
  refine WL.putX rfl rfl rfl (OpX.call cb123 (c123n) rfl .nil) fun x15 => ?_
  refine WL.nm (H' := _) rfl ?_
  refine WL.p rfl rfl rfl (PV.as rfl) ?_
  refine WL.next [(11, _), (10, _), (0, _), (1, _), (2, _), (3, _), (4, _)] ⟨rfl, rfl, rfl, rfl, rfl, rfl, rfl, trivial⟩ ?_
  refine W.rseq ?_
  refine WL.p rfl rfl rfl (PV.mv rfl) ?_
  refine WL.p rfl rfl rfl (PV.neI rfl rfl) ?_
  refine WL.next [(17, _), (11, _), (10, _), (0, _), (1, _), (2, _), (3, _), (4, _)] ⟨rfl, rfl, rfl, rfl, rfl, rfl, rfl, rfl, trivial⟩ ?_
  refine W.cT rfl ?_
  refine W.rseq ?_
  refine WL.p rfl rfl rfl (PV.mv rfl) ?_
  refine WL.p rfl rfl rfl (PV.as rfl) ?_
  refine WL.next [(10, _), (0, _), (1, _), (2, _), (3, _), (4, _)] ⟨rfl, rfl, rfl, rfl, rfl, rfl, trivial⟩ ?_
  refine W.ret ?_
  refine K.retT ?_
  rotate_left
  refine K.fin (vs := [_]) () ⟨rfl, trivial⟩ rfl ?_
  exact Ent.refl _
theorem c46n {a : Int} {b0 b1 b2 b3 b4 b5 b6 b7 b8 : Value} {c : Bool} : Spec P 24 [.pointer none, .int .i64 a, .agg #[b0, b1, b2, b3, b4, b5, b6, b7, b8], .bool c] [] (fun _ : Unit => .int .i64 1) (fun _ => []) := by
  refine Spec.intro Tryz.func24 rfl rfl rfl fun F => ?_
  refine W.rseq ?_
  refine WL.putX rfl rfl rfl (OpX.box rfl) fun x6 => ?_
  refine WL.nm (H' := pt _ _ [_, _, _, _, _, _, _, _, _] :: _) rfl ?_
  refine WL.p rfl rfl rfl (PV.as rfl) ?_
  refine WL.next [(8, _), (6, _), (0, _), (1, _), (3, _)] ⟨rfl, rfl, rfl, rfl, rfl, trivial⟩ ?_
  refine W.seq ?_
  refine W.rseq ?_
  refine WL.p rfl rfl rfl (PV.mv rfl) ?_
  refine WL.putX rfl rfl rfl (OpX.call cb123 (c123n) rfl .nil) fun x13 => ?_
  refine WL.nm (H' := pt _ _ [_, _, _, _, _, _, _, _, _] :: _) rfl ?_
  refine WL.p rfl rfl rfl (PV.as rfl) ?_
  refine WL.next [(9, _), (8, _), (6, _), (0, _), (1, _), (3, _)] ⟨rfl, rfl, rfl, rfl, rfl, rfl, trivial⟩ ?_
  refine W.rseq ?_
  refine WL.p rfl rfl rfl (PV.mv rfl) ?_
  refine WL.p rfl rfl rfl (PV.neI rfl rfl) ?_
  refine WL.next [(15, _), (9, _), (8, _), (6, _), (0, _), (1, _), (3, _)] ⟨rfl, rfl, rfl, rfl, rfl, rfl, rfl, trivial⟩ ?_
  refine W.cT rfl ?_
  refine W.rseq ?_
  refine WL.p rfl rfl rfl (PV.mv rfl) ?_
  refine WL.p rfl rfl rfl (PV.as rfl) ?_
  refine WL.next [(8, _), (6, _), (0, _), (1, _), (3, _)] ⟨rfl, rfl, rfl, rfl, rfl, trivial⟩ ?_
  refine W.ret ?_
  refine K.retT ?_
  rotate_left
  refine K.fin (vs := [_]) () ⟨rfl, trivial⟩ rfl ?_
  exact Ent.tail (Ent.refl _)
theorem c63n {a : Int} : Spec P 43 [.pointer none, .int .i64 a] [] (fun _ : Unit => .int .i64 1) (fun _ => []) := by
  refine Spec.intro Tryz.func43 rfl rfl rfl fun F => ?_
  refine W.rseq ?_
  refine WL.p rfl rfl rfl (PV.as rfl) ?_
  refine WL.next [(4, _), (0, _), (1, _)] ⟨rfl, rfl, rfl, trivial⟩ ?_
  refine W.seq ?_
  refine W.rseq ?_
  refine WL.p rfl rfl rfl (PV.mv rfl) ?_
  refine WL.putX rfl rfl rfl (OpX.call cb123 (c123n) rfl .nil) fun x7 => ?_
  refine WL.nm (H' := _) rfl ?_
  refine WL.p rfl rfl rfl (PV.as rfl) ?_
  refine WL.next [(5, _), (4, _), (0, _), (1, _)] ⟨rfl, rfl, rfl, rfl, trivial⟩ ?_
  refine W.block ?_
  refine W.rseq ?_
  refine WL.p rfl rfl rfl (PV.mv rfl) ?_
  refine WL.p rfl rfl rfl (PV.neI rfl rfl) ?_
  refine WL.p rfl rfl rfl (PV.as rfl) ?_
  refine WL.next [(8, _), (5, _), (4, _), (0, _), (1, _)] ⟨rfl, rfl, rfl, rfl, rfl, trivial⟩ ?_
  refine W.cT rfl ?_
  refine W.rseq ?_
  refine WL.p rfl rfl rfl (PV.mv rfl) ?_
  refine WL.p rfl rfl rfl (PV.as rfl) ?_
  refine WL.next [(4, _), (0, _), (1, _)] ⟨rfl, rfl, rfl, trivial⟩ ?_
  refine W.ret ?_
  refine K.retB ?_
  refine K.retT ?_
  rotate_left
  refine K.fin (vs := [_]) () ⟨rfl, trivial⟩ rfl ?_
  exact Ent.refl _
theorem c64n {a : Int} : Spec P 44 [.pointer none, .int .i64 a] [] (fun _ : Unit => .int .i64 1) (fun _ => []) := by
  refine Spec.intro Tryz.func44 rfl rfl rfl fun F => ?_
  refine W.rseq ?_
  refine WL.p rfl rfl rfl (PV.as rfl) ?_
  refine WL.next [(4, _), (0, _), (1, _)] ⟨rfl, rfl, rfl, trivial⟩ ?_
  refine W.seq ?_
  refine W.rseq ?_
  refine WL.p rfl rfl rfl (PV.mv rfl) ?_
  refine WL.putX rfl rfl rfl (OpX.call cb123 (c123n) rfl .nil) fun x9 => ?_
  refine WL.nm (H' := _) rfl ?_
  refine WL.p rfl rfl rfl (PV.as rfl) ?_
  refine WL.next [(5, _), (4, _), (0, _), (1, _)] ⟨rfl, rfl, rfl, rfl, trivial⟩ ?_
  refine W.rseq ?_
  refine WL.p rfl rfl rfl (PV.mv rfl) ?_
  refine WL.p rfl rfl rfl (PV.neI rfl rfl) ?_
  refine WL.next [(11, _), (5, _), (4, _), (0, _), (1, _)] ⟨rfl, rfl, rfl, rfl, rfl, trivial⟩ ?_
  refine W.cT rfl ?_
  refine W.rseq ?_
  refine WL.p rfl rfl rfl (PV.mv rfl) ?_
  refine WL.p rfl rfl rfl (PV.as rfl) ?_
  refine WL.next [(4, _), (0, _), (1, _)] ⟨rfl, rfl, rfl, trivial⟩ ?_
  refine W.ret ?_
  refine K.retT ?_
  rotate_left
  refine K.fin (vs := [_]) () ⟨rfl, trivial⟩ rfl ?_
  exact Ent.refl _
theorem c50n : Spec P 29 [.pointer none] [] (fun _ : Unit => .slice none 0 0) (fun _ => []) := by
  refine Spec.intro Tryz.func29 rfl rfl rfl fun F => ?_
  refine W.rseq ?_
  refine WL.p rfl rfl rfl (PV.as rfl) ?_
  refine WL.next [(2, _), (0, _)] ⟨rfl, rfl, trivial⟩ ?_
  refine W.seq ?_
  refine W.rseq ?_
  refine WL.p rfl rfl rfl (PV.mv rfl) ?_
  refine WL.p rfl rfl rfl (PV.eqV rfl rfl rfl (EqIs.p00 ul47)) ?_
  refine WL.next [(4, _), (2, _), (0, _)] ⟨rfl, rfl, rfl, trivial⟩ ?_
  refine W.cT rfl ?_
  refine W.rseq ?_
  refine WL.p rfl rfl rfl (PV.as rfl) ?_
  refine WL.next [(2, _), (0, _)] ⟨rfl, rfl, trivial⟩ ?_
  refine W.ret ?_
  refine K.retT ?_
  rotate_left
  refine K.fin (vs := [_]) () ⟨rfl, trivial⟩ rfl ?_
  exact Ent.refl _
theorem c55n : Spec P 34 [.pointer none] [] (fun _ : Unit => .int .i64 0) (fun _ => []) := by
  refine Spec.intro Tryz.func34 rfl rfl rfl fun F => ?_
  refine W.rseq ?_
  refine WL.p rfl rfl rfl (PV.as rfl) ?_
  refine WL.next [(2, _), (0, _)] ⟨rfl, rfl, trivial⟩ ?_
  refine W.seq ?_
  refine W.rseq ?_
  refine WL.p rfl rfl rfl (PV.mv rfl) ?_
  refine WL.p rfl rfl rfl (PV.eqV rfl rfl rfl (EqIs.p00 ul47)) ?_
  refine WL.next [(4, _), (2, _), (0, _)] ⟨rfl, rfl, rfl, trivial⟩ ?_
  refine W.cT rfl ?_
  refine W.rseq ?_
  refine WL.p rfl rfl rfl (PV.as rfl) ?_
  refine WL.next [(2, _), (0, _)] ⟨rfl, rfl, trivial⟩ ?_
  refine W.ret ?_
  refine K.retT ?_
  rotate_left
  refine K.fin (vs := [_]) () ⟨rfl, trivial⟩ rfl ?_
  exact Ent.refl _
theorem c54n {a : Int} : Spec P 33 [.pointer none, .int .i64 a] [] (fun _ : Unit => .int .i64 0) (fun _ => []) := by
  refine Spec.intro Tryz.func33 rfl rfl rfl fun F => ?_
  refine W.rseq ?_
  refine WL.p rfl rfl rfl (PV.as rfl) ?_
  refine WL.next [(4, _), (0, _), (1, _)] ⟨rfl, rfl, rfl, trivial⟩ ?_
  refine W.seq ?_
  refine W.rseq ?_
  refine WL.p rfl rfl rfl (PV.mv rfl) ?_
  refine WL.p rfl rfl rfl (PV.eqV rfl rfl rfl (EqIs.p00 ul47)) ?_
  refine WL.next [(6, _), (4, _), (0, _), (1, _)] ⟨rfl, rfl, rfl, rfl, trivial⟩ ?_
  refine W.cT rfl ?_
  refine W.rseq ?_
  refine WL.p rfl rfl rfl (PV.as rfl) ?_
  refine WL.next [(4, _), (0, _), (1, _)] ⟨rfl, rfl, rfl, trivial⟩ ?_
  refine W.ret ?_
  refine K.retT ?_
  rotate_left
  refine K.fin (vs := [_]) () ⟨rfl, trivial⟩ rfl ?_
  exact Ent.refl _
theorem c65n : Spec P 45 [.pointer none] [] (fun _ : Unit => .slice none 0 0) (fun _ => []) := by
  refine Spec.intro Tryz.func45 rfl rfl rfl fun F => ?_
  refine W.rseq ?_
  refine WL.p rfl rfl rfl (PV.as rfl) ?_
  refine WL.next [(2, _), (0, _)] ⟨rfl, rfl, trivial⟩ ?_
  refine W.seq ?_
  refine W.rseq ?_
  refine WL.p rfl rfl rfl (PV.mv rfl) ?_
  refine WL.p rfl rfl rfl (PV.eqV rfl rfl rfl (EqIs.p00 ul47)) ?_
  refine WL.next [(7, _), (2, _), (0, _)] ⟨rfl, rfl, rfl, trivial⟩ ?_
  refine W.cT rfl ?_
  refine W.rseq ?_
  refine WL.p rfl rfl rfl (PV.as rfl) ?_
  refine WL.next [(2, _), (0, _)] ⟨rfl, rfl, trivial⟩ ?_
  refine W.ret ?_
  refine K.retT ?_
  rotate_left
  refine K.fin (vs := [_]) () ⟨rfl, trivial⟩ rfl ?_
  exact Ent.refl _
theorem c107n : Spec P 48 [.pointer none, str [113, 117, 101, 117, 101]] [] (fun _ : Unit => .tuple #[.pointer none, .int .i64 1]) (fun _ => []) := by
  refine Spec.intro Tryz.func48 rfl rfl rfl fun F => ?_
  refine W.rseq ?_
  refine WL.p rfl rfl rfl (PV.as rfl) ?_
  refine WL.p rfl rfl rfl (PV.as rfl) ?_
  refine WL.next [(5, _), (4, _), (0, _), (1, _)] ⟨rfl, rfl, rfl, rfl, trivial⟩ ?_
  refine W.seq ?_
  refine W.rseq ?_
  refine WL.p rfl rfl rfl (PV.mv rfl) ?_
  refine WL.p rfl rfl rfl (PV.eqV rfl rfl rfl (EqIs.p00 ul24)) ?_
  refine WL.p rfl rfl rfl (PV.mv rfl) ?_
  refine WL.no (dj := 15) rfl rfl rfl rfl rfl ?_
  refine WL.no (dj := 15) rfl rfl rfl rfl rfl ?_
  refine WL.no (dj := 15) rfl rfl rfl rfl rfl ?_
  refine WL.p rfl rfl rfl (PV.pickT rfl rfl rfl) ?_
  refine WL.next [(19, _), (5, _), (4, _), (0, _), (1, _)] ⟨rfl, rfl, rfl, rfl, rfl, trivial⟩ ?_
  refine W.cT rfl ?_
  refine W.rseq ?_
  refine WL.p rfl rfl rfl (PV.as rfl) ?_
  refine WL.p rfl rfl rfl (PV.as rfl) ?_
  refine WL.next [(5, _), (4, _), (0, _), (1, _)] ⟨rfl, rfl, rfl, rfl, trivial⟩ ?_
  refine W.ret ?_
  refine K.retT ?_
  rotate_left
  refine K.fin (vs := [_, _]) () ⟨rfl, rfl, trivial⟩ rfl ?_
  exact Ent.refl _
theorem c38n : Spec P 15 [.pointer none] [] (fun _ : Unit => .tuple #[.pointer none, .int .i64 1]) (fun _ => []) := by
  refine Spec.intro Tryz.func15 rfl rfl rfl fun F => ?_
  refine W.rseq ?_
  refine WL.p rfl rfl rfl (PV.as rfl) ?_
  refine WL.p rfl rfl rfl (PV.as rfl) ?_
  refine WL.next [(3, _), (2, _), (0, _)] ⟨rfl, rfl, rfl, trivial⟩ ?_
  refine W.rseq ?_
  refine WL.p rfl rfl rfl (PV.mv rfl) ?_
  refine WL.putX rfl rfl rfl (OpX.call cb107 (c107n) rfl .nil) fun x11 => ?_
  refine WL.nm (H' := _) rfl ?_
  refine WL.p rfl rfl rfl (PV.mv rfl) ?_
  refine WL.p rfl rfl rfl (PV.ext0 rfl) ?_
  refine WL.p rfl rfl rfl (PV.ext1 rfl) ?_
  refine WL.p rfl rfl rfl (PV.as rfl) ?_
  refine WL.p rfl rfl rfl (PV.as rfl) ?_
  refine WL.next [(5, _), (4, _), (3, _), (2, _)] ⟨rfl, rfl, rfl, rfl, trivial⟩ ?_
  refine W.seq ?_
  refine W.rseq ?_
  refine WL.p rfl rfl rfl (PV.mv rfl) ?_
  refine WL.p rfl rfl rfl (PV.neI rfl rfl) ?_
  refine WL.next [(15, _), (5, _), (4, _), (3, _), (2, _)] ⟨rfl, rfl, rfl, rfl, rfl, trivial⟩ ?_
  refine W.cT rfl ?_
  refine W.rseq ?_
  refine WL.p rfl rfl rfl (PV.mv rfl) ?_
  refine WL.p rfl rfl rfl (PV.as rfl) ?_
  refine WL.p rfl rfl rfl (PV.as rfl) ?_
  refine WL.next [(3, _), (2, _), (4, _)] ⟨rfl, rfl, rfl, trivial⟩ ?_
  refine W.ret ?_
  refine K.retT ?_
  rotate_left
  refine K.fin (vs := [_, _]) () ⟨rfl, rfl, trivial⟩ rfl ?_
  exact Ent.refl _
theorem c13 {n : Int} {a b c b0 b1 b2 b3 b4 b5 b6 b7 b8 : Value} : Spec P 12 [.int .i64 n, .agg #[a, b, c], .agg #[b0, b1, b2, b3, b4, b5, b6, b7, b8]] [] (fun _ : Unit => .bool true) (fun _ => []) := by
  refine Spec.intro Tryz.func12 rfl rfl rfl fun F => ?_
  refine W.rseq ?_
  refine WL.putX rfl rfl rfl (OpX.box rfl) fun x4 => ?_
  refine WL.nm (H' := pt _ _ [_, _, _] :: _) rfl ?_
  refine WL.putX rfl rfl rfl (OpX.box rfl) fun x5 => ?_
  refine WL.nm (H' := pt _ _ [_, _, _, _, _, _, _, _, _] :: pt _ _ [_, _, _] :: _) rfl ?_
  refine WL.p rfl rfl rfl (PV.as rfl) ?_
  refine WL.next [(6, _), (5, _), (4, _), (0, _)] ⟨rfl, rfl, rfl, rfl, trivial⟩ ?_
  refine W.rseq ?_
  refine WL.p rfl rfl rfl (PV.as rfl) ?_
  refine WL.next [(7, _), (6, _), (5, _), (4, _), (0, _)] ⟨rfl, rfl, rfl, rfl, rfl, trivial⟩ ?_
  refine W.rseq ?_
  refine WL.p rfl rfl rfl (PV.mv rfl) ?_
  refine WL.f rfl rfl rfl (FV.ld (LdD.ag (us := [_, _, _]) 1 0 ag46 rfl rfl rfl rfl rfl)) ?_
  refine WL.p rfl rfl rfl (PV.mv rfl) ?_
  refine WL.p rfl rfl rfl (PV.mv rfl) ?_
  refine WL.putX rfl rfl rfl (OpX.call cb41 (c41n) rfl .nil) fun x19 => ?_
  refine WL.nm (H' := pt _ _ [_, _, _, _, _, _, _, _, _] :: pt _ _ [_, _, _] :: _) rfl ?_
  refine WL.p rfl rfl rfl (PV.mv rfl) ?_
  refine WL.p rfl rfl rfl (PV.ext0 rfl) ?_
  refine WL.p rfl rfl rfl (PV.ext1 rfl) ?_
  refine WL.p rfl rfl rfl (PV.as rfl) ?_
  refine WL.p rfl rfl rfl (PV.as rfl) ?_
  refine WL.next [(9, _), (8, _), (7, _), (6, _), (5, _), (0, _)] ⟨rfl, rfl, rfl, rfl, rfl, rfl, trivial⟩ ?_
  refine W.rseq ?_
  refine WL.p rfl rfl rfl (PV.mv rfl) ?_
  refine WL.p rfl rfl rfl (PV.mv rfl) ?_
  refine WL.putX rfl rfl rfl (OpX.call cb43 (c43n) rfl .nil) fun x25 => ?_
  refine WL.nm (H' := pt _ _ [_, _, _, _, _, _, _, _, _] :: pt _ _ [_, _, _] :: _) rfl ?_
  refine WL.p rfl rfl rfl (PV.mv rfl) ?_
  refine WL.p rfl rfl rfl (PV.ext0 rfl) ?_
  refine WL.p rfl rfl rfl (PV.ext1 rfl) ?_
  refine WL.putX rfl rfl rfl (OpX.alloc zr52) fun x10 => ?_
  refine WL.nm (H' := pt _ _ [_, _, _, _, _, _, _, _, _] :: pt _ _ [_, _, _, _, _, _, _, _, _] :: pt _ _ [_, _, _] :: _) rfl ?_
  refine WL.done rfl rfl (OpD.st 0 0 sz52 rfl rfl rfl rfl rfl rfl (NAs.mem (vs := [_, _, _, _, _, _, _, _, _]) ⟨NA.int _ _, NA.int _ _, NA.int _ _, NA.int _ _, NA.int _ _, NA.str _, NA.sl _ _ _, NA.sl _ _ _, NA.sl _ _ _, trivial⟩)) ?_
  refine WL.nm (H' := pt _ _ [_, _, _, _, _, _, _, _, _] :: pt _ _ [_, _, _, _, _, _, _, _, _] :: pt _ _ [_, _, _] :: _) rfl ?_
  refine WL.p rfl rfl rfl (PV.as rfl) ?_
  refine WL.next [(11, _), (9, _), (8, _), (7, _), (6, _), (5, _), (0, _)] ⟨rfl, rfl, rfl, rfl, rfl, rfl, rfl, trivial⟩ ?_
  refine W.rseq ?_
  refine WL.putX rfl rfl rfl (OpX.call cb38 (c38n) rfl .nil) fun x29 => ?_
  refine WL.nm (H' := pt _ _ [_, _, _, _, _, _, _, _, _] :: pt _ _ [_, _, _, _, _, _, _, _, _] :: pt _ _ [_, _, _] :: _) rfl ?_
  refine WL.p rfl rfl rfl (PV.mv rfl) ?_
  refine WL.p rfl rfl rfl (PV.ext0 rfl) ?_
  refine WL.p rfl rfl rfl (PV.ext1 rfl) ?_
  refine WL.p rfl rfl rfl (PV.as rfl) ?_
  refine WL.p rfl rfl rfl (PV.as rfl) ?_
  refine WL.next [(13, _), (11, _), (9, _), (8, _), (7, _), (6, _), (5, _), (0, _)] ⟨rfl, rfl, rfl, rfl, rfl, rfl, rfl, rfl, trivial⟩ ?_
  refine W.rseq ?_
  refine WL.putX rfl rfl rfl (OpX.call cb40 (c40) rfl .nil) fun x32 => ?_
  refine WL.nm (H' := pt _ _ [_, _, _, _, _, _, _, _, _] :: pt _ _ [_, _, _, _, _, _, _, _, _] :: pt _ _ [_, _, _] :: _) rfl ?_
  refine WL.p rfl rfl rfl (PV.mv rfl) ?_
  refine WL.yes (dj := 33) rfl rfl rfl rfl rfl rfl (OpD.fv (PV.fv (PV.mv rfl))) ?_
  refine WL.yes (dj := 33) rfl rfl rfl rfl rfl rfl (OpD.fv (PV.fv (PV.eqI rfl rfl))) ?_
  refine WL.p rfl rfl rfl (PV.pickT rfl rfl rfl) ?_
  refine WL.p rfl rfl rfl (PV.mv rfl) ?_
  refine WL.yes (dj := 37) rfl rfl rfl rfl rfl rfl (OpD.fv (PV.fv (PV.mv rfl))) ?_
  refine WL.yes (dj := 37) rfl rfl rfl rfl rfl rfl (OpD.fv (PV.fv (PV.eqI rfl rfl))) ?_
  refine WL.p rfl rfl rfl (PV.pickT rfl rfl rfl) ?_
  refine WL.p rfl rfl rfl (PV.mv rfl) ?_
  refine WL.yes (dj := 41) rfl rfl rfl rfl rfl rfl (OpD.fv (PV.fv (PV.mv rfl))) ?_
  refine WL.yes (dj := 41) rfl rfl rfl rfl rfl rfl (OpD.fv (PV.fv (PV.not rfl))) ?_
  refine WL.p rfl rfl rfl (PV.pickT rfl rfl rfl) ?_
  refine WL.p rfl rfl rfl (PV.mv rfl) ?_
  refine WL.yes (dj := 45) rfl rfl rfl rfl rfl rfl (OpD.fv (PV.fv (PV.mv rfl))) ?_
  refine WL.yes (dj := 45) rfl rfl rfl rfl rfl rfl (OpD.fv (PV.fv (PV.eqI rfl rfl))) ?_
  refine WL.p rfl rfl rfl (PV.pickT rfl rfl rfl) ?_
  refine WL.p rfl rfl rfl (PV.mv rfl) ?_
  refine WL.yes (dj := 49) rfl rfl rfl rfl rfl rfl (OpD.fv (PV.fv (PV.mv rfl))) ?_
  refine WL.yes (dj := 49) rfl rfl rfl rfl rfl rfl (OpD.fv (PV.fv (PV.mv rfl))) ?_
  refine WL.yes (dj := 49) rfl rfl rfl rfl rfl rfl (OpD.fv (PV.fv (PV.mv rfl))) ?_
  refine WL.yes (dj := 49) rfl rfl rfl rfl rfl rfl (OpD.fv (PV.fv (PV.mv rfl))) ?_
  refine WL.yesX (dj := 49) rfl rfl rfl rfl rfl rfl (OpX.call cb42 (c42n) rfl .nil) fun x54 => ?_
  refine WL.nm (H' := pt _ _ [_, _, _, _, _, _, _, _, _] :: pt _ _ [_, _, _, _, _, _, _, _, _] :: pt _ _ [_, _, _] :: _) rfl ?_
  refine WL.yes (dj := 49) rfl rfl rfl rfl rfl rfl (OpD.fv (PV.fv (PV.eqI rfl rfl))) ?_
  refine WL.p rfl rfl rfl (PV.pickT rfl rfl rfl) ?_
  refine WL.p rfl rfl rfl (PV.mv rfl) ?_
  refine WL.yes (dj := 57) rfl rfl rfl rfl rfl rfl (OpD.fv (PV.fv (PV.mv rfl))) ?_
  refine WL.yes (dj := 57) rfl rfl rfl rfl rfl rfl (OpD.fv (PV.fv (PV.mv rfl))) ?_
  refine WL.yes (dj := 57) rfl rfl rfl rfl rfl rfl (OpD.fv (FV.ld (LdD.ag (us := [_, _, _, _, _, _, _, _, _]) 1 0 ag52 rfl rfl rfl rfl rfl))) ?_
  refine WL.yesX (dj := 57) rfl rfl rfl rfl rfl rfl (OpX.call cb46 (c46n) rfl .nil) fun x61 => ?_
  refine WL.nm (H' := pt _ _ [_, _, _, _, _, _, _, _, _] :: pt _ _ [_, _, _, _, _, _, _, _, _] :: pt _ _ [_, _, _] :: _) rfl ?_
  refine WL.yes (dj := 57) rfl rfl rfl rfl rfl rfl (OpD.fv (PV.fv (PV.eqI rfl rfl))) ?_
  refine WL.p rfl rfl rfl (PV.pickT rfl rfl rfl) ?_
  refine WL.p rfl rfl rfl (PV.mv rfl) ?_
  refine WL.yes (dj := 64) rfl rfl rfl rfl rfl rfl (OpD.fv (PV.fv (PV.mv rfl))) ?_
  refine WL.yesX (dj := 64) rfl rfl rfl rfl rfl rfl (OpX.call cb63 (c63n) rfl .nil) fun x66 => ?_
  refine WL.nm (H' := pt _ _ [_, _, _, _, _, _, _, _, _] :: pt _ _ [_, _, _, _, _, _, _, _, _] :: pt _ _ [_, _, _] :: _) rfl ?_
  refine WL.yes (dj := 64) rfl rfl rfl rfl rfl rfl (OpD.fv (PV.fv (PV.eqI rfl rfl))) ?_
  refine WL.p rfl rfl rfl (PV.pickT rfl rfl rfl) ?_
  refine WL.p rfl rfl rfl (PV.mv rfl) ?_
  refine WL.yes (dj := 69) rfl rfl rfl rfl rfl rfl (OpD.fv (PV.fv (PV.mv rfl))) ?_
  refine WL.yes (dj := 69) rfl rfl rfl rfl rfl rfl (OpD.fv (PV.fv (PV.mv rfl))) ?_
  refine WL.yesX (dj := 69) rfl rfl rfl rfl rfl rfl (OpX.call cb64 (c64n) rfl .nil) fun x72 => ?_
  refine WL.nm (H' := pt _ _ [_, _, _, _, _, _, _, _, _] :: pt _ _ [_, _, _, _, _, _, _, _, _] :: pt _ _ [_, _, _] :: _) rfl ?_
  refine WL.yes (dj := 69) rfl rfl rfl rfl rfl rfl (OpD.fv (PV.fv (PV.eqI rfl rfl))) ?_
  refine WL.p rfl rfl rfl (PV.pickT rfl rfl rfl) ?_
  refine WL.p rfl rfl rfl (PV.mv rfl) ?_
  refine WL.yes (dj := 75) rfl rfl rfl rfl rfl rfl (OpD.fv (PV.fv (PV.mv rfl))) ?_
  refine WL.yesX (dj := 75) rfl rfl rfl rfl rfl rfl (OpX.call cb50 (c50n) rfl .nil) fun x77 => ?_
  refine WL.nm (H' := pt _ _ [_, _, _, _, _, _, _, _, _] :: pt _ _ [_, _, _, _, _, _, _, _, _] :: pt _ _ [_, _, _] :: _) rfl ?_
  refine WL.yes (dj := 75) rfl rfl rfl rfl rfl rfl (OpD.fv (PV.fv (PV.lenL ul32 rfl rfl))) ?_
  refine WL.yes (dj := 75) rfl rfl rfl rfl rfl rfl (OpD.fv (PV.fv (PV.mv rfl))) ?_
  refine WL.yesX (dj := 75) rfl rfl rfl rfl rfl rfl (OpX.call cb45 (c45n) rfl .nil) fun x80 => ?_
  refine WL.nm (H' := pt _ _ [_, _, _, _, _, _, _, _, _] :: pt _ _ [_, _, _, _, _, _, _, _, _] :: pt _ _ [_, _, _] :: _) rfl ?_
  refine WL.yes (dj := 75) rfl rfl rfl rfl rfl rfl (OpD.fv (PV.fv (PV.add64 rfl rfl (by omega)))) ?_
  refine WL.yes (dj := 75) rfl rfl rfl rfl rfl rfl (OpD.fv (PV.fv (PV.mv rfl))) ?_
  refine WL.yesX (dj := 75) rfl rfl rfl rfl rfl rfl (OpX.call cb55 (c55n) rfl .nil) fun x83 => ?_
  refine WL.nm (H' := pt _ _ [_, _, _, _, _, _, _, _, _] :: pt _ _ [_, _, _, _, _, _, _, _, _] :: pt _ _ [_, _, _] :: _) rfl ?_
  refine WL.yes (dj := 75) rfl rfl rfl rfl rfl rfl (OpD.fv (PV.fv (PV.add64 rfl rfl (by omega)))) ?_
  refine WL.yes (dj := 75) rfl rfl rfl rfl rfl rfl (OpD.fv (PV.fv (PV.mv rfl))) ?_
  refine WL.yes (dj := 75) rfl rfl rfl rfl rfl rfl (OpD.fv (PV.fv (PV.mv rfl))) ?_
  refine WL.yesX (dj := 75) rfl rfl rfl rfl rfl rfl (OpX.call cb54 (c54n) rfl .nil) fun x87 => ?_
  refine WL.nm (H' := pt _ _ [_, _, _, _, _, _, _, _, _] :: pt _ _ [_, _, _, _, _, _, _, _, _] :: pt _ _ [_, _, _] :: _) rfl ?_
  refine WL.yes (dj := 75) rfl rfl rfl rfl rfl rfl (OpD.fv (PV.fv (PV.add64 rfl rfl (by omega)))) ?_
  refine WL.yes (dj := 75) rfl rfl rfl rfl rfl rfl (OpD.fv (PV.fv (PV.mv rfl))) ?_
  refine WL.yesX (dj := 75) rfl rfl rfl rfl rfl rfl (OpX.call cb65 (c65n) rfl .nil) fun x90 => ?_
  refine WL.nm (H' := pt _ _ [_, _, _, _, _, _, _, _, _] :: pt _ _ [_, _, _, _, _, _, _, _, _] :: pt _ _ [_, _, _] :: _) rfl ?_
  refine WL.yes (dj := 75) rfl rfl rfl rfl rfl rfl (OpD.fv (PV.fv (PV.lenL ul32 rfl rfl))) ?_
  refine WL.yes (dj := 75) rfl rfl rfl rfl rfl rfl (OpD.fv (PV.fv (PV.add64 rfl rfl (by omega)))) ?_
  refine WL.yes (dj := 75) rfl rfl rfl rfl rfl rfl (OpD.fv (PV.fv (PV.eqI rfl rfl))) ?_
  refine WL.p rfl rfl rfl (PV.pickT rfl rfl rfl) ?_
  refine WL.p rfl rfl rfl (PV.as rfl) ?_
  refine WL.next [(6, _)] ⟨rfl, trivial⟩ ?_
  refine W.ret ?_
  rotate_left
  refine K.fin (vs := [_]) () ⟨rfl, trivial⟩ rfl ?_
  exact Ent.tail (Ent.tail (Ent.tail (Ent.refl _)))
end Go.Sl
