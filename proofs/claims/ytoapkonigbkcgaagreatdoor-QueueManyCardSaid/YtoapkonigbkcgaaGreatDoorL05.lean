/- A library for the proof (part 5): Ad0 Ct0 Ps Sp0 Ad1 Dt0 Sl21. -/
import Derived.Test.YtoapkonigbkcgaaGreatDoorL04
set_option linter.unusedVariables false
set_option linter.unusedSimpArgs false
set_option linter.unusedSectionVars false
/-! Mailboxes: bytes and labels. -/
namespace Go.Sl
open Go Go.Proofs
set_option maxRecDepth 20000
def letB (c : UInt8) : Bool := (97 ≤ c.toNat && c.toNat ≤ 122) || (65 ≤ c.toNat && c.toNat ≤ 90) || (48 ≤ c.toNat && c.toNat ≤ 57)
theorem c290 {c : UInt8} : Spec P 211 [.int .u8 c.toNat] [] (fun _ : Unit => .bool (letB c)) (fun _ => []) := by
  refine Spec.intro Tryz.func211 rfl rfl rfl fun F => ?_
  refine W.rseq ?_
  refine WL.p rfl rfl rfl (PV.as rfl) ?_
  refine WL.next [(2, _), (0, _)] ⟨rfl, rfl, trivial⟩ ?_
  refine W.rseq ?_
  refine WL.p rfl rfl rfl (PV.mv rfl) ?_
  refine WL.p rfl rfl rfl (PV.ge rfl rfl) ?_
  refine WL.p rfl rfl rfl (PV.mv rfl) ?_
  refine WL.splitD (t := 5) rfl (fun h0 => ?_) (fun h0 => ?_)
  refine WL.yes (dj := 5) rfl rfl rfl (decide_eq_true (by assumption)) rfl rfl (OpD.fv (PV.fv (PV.mv rfl))) ?_
  refine WL.yes (dj := 5) rfl rfl rfl (decide_eq_true (by assumption)) rfl rfl (OpD.fv (PV.fv (PV.le rfl rfl))) ?_
  refine WL.p rfl rfl rfl (PV.pickT rfl (decide_eq_true (by assumption)) rfl) ?_
  refine WL.p rfl rfl rfl (PV.mv rfl) ?_
  refine WL.splitD (t := 9) rfl (fun h1 => ?_) (fun h1 => ?_)
  refine WL.no (dj := 9) rfl rfl rfl (decide_eq_true (by assumption)) rfl ?_
  refine WL.no (dj := 9) rfl rfl rfl (decide_eq_true (by assumption)) rfl ?_
  refine WL.no (dj := 9) rfl rfl rfl (decide_eq_true (by assumption)) rfl ?_
  refine WL.noU (dj := 12) rfl rfl rfl rfl ?_
  refine WL.noU (dj := 12) rfl rfl rfl rfl ?_
  refine WL.no (dj := 9) rfl rfl rfl (decide_eq_true (by assumption)) rfl ?_
  refine WL.p rfl rfl rfl (PV.pickT rfl (decide_eq_true (by assumption)) rfl) ?_
  refine WL.p rfl rfl rfl (PV.mv rfl) ?_
  refine WL.no (dj := 17) rfl rfl rfl rfl rfl ?_
  refine WL.no (dj := 17) rfl rfl rfl rfl rfl ?_
  refine WL.no (dj := 17) rfl rfl rfl rfl rfl ?_
  refine WL.noU (dj := 20) rfl rfl rfl rfl ?_
  refine WL.noU (dj := 20) rfl rfl rfl rfl ?_
  refine WL.no (dj := 17) rfl rfl rfl rfl rfl ?_
  refine WL.p rfl rfl rfl (PV.pickT rfl rfl rfl) ?_
  refine WL.p rfl rfl rfl (PV.as rfl) ?_
  refine WL.next [(2, _)] ⟨rfl, trivial⟩ ?_
  refine W.ret ?_
  rotate_left
  refine WL.yes (dj := 9) rfl rfl rfl (decide_eq_false (by assumption)) rfl rfl (OpD.fv (PV.fv (PV.mv rfl))) ?_
  refine WL.yes (dj := 9) rfl rfl rfl (decide_eq_false (by assumption)) rfl rfl (OpD.fv (PV.fv (PV.ge rfl rfl))) ?_
  refine WL.yes (dj := 9) rfl rfl rfl (decide_eq_false (by assumption)) rfl rfl (OpD.fv (PV.fv (PV.mv rfl))) ?_
  refine WL.splitD (t := 12) rfl (fun h2 => ?_) (fun h2 => ?_)
  refine WL.yes (dj := 12) rfl rfl rfl (decide_eq_true (by assumption)) rfl rfl (OpD.fv (PV.fv (PV.mv rfl))) ?_
  refine WL.yes (dj := 12) rfl rfl rfl (decide_eq_true (by assumption)) rfl rfl (OpD.fv (PV.fv (PV.le rfl rfl))) ?_
  refine WL.yes (dj := 9) rfl rfl rfl (decide_eq_false (by assumption)) rfl rfl (OpD.fv (PV.fv (PV.pickT rfl (decide_eq_true (by assumption)) rfl))) ?_
  refine WL.p rfl rfl rfl (PV.pickF rfl (decide_eq_false (by assumption)) rfl) ?_
  refine WL.p rfl rfl rfl (PV.mv rfl) ?_
  refine WL.splitD (t := 17) rfl (fun h3 => ?_) (fun h3 => ?_)
  refine WL.no (dj := 17) rfl rfl rfl (decide_eq_true (by assumption)) rfl ?_
  refine WL.no (dj := 17) rfl rfl rfl (decide_eq_true (by assumption)) rfl ?_
  refine WL.no (dj := 17) rfl rfl rfl (decide_eq_true (by assumption)) rfl ?_
  refine WL.noU (dj := 20) rfl rfl rfl rfl ?_
  refine WL.noU (dj := 20) rfl rfl rfl rfl ?_
  refine WL.no (dj := 17) rfl rfl rfl (decide_eq_true (by assumption)) rfl ?_
  refine WL.p rfl rfl rfl (PV.pickT rfl (decide_eq_true (by assumption)) rfl) ?_
  refine WL.p rfl rfl rfl (PV.as rfl) ?_
  refine WL.next [(2, _)] ⟨rfl, trivial⟩ ?_
  refine W.ret ?_
  rotate_left
  refine WL.yes (dj := 17) rfl rfl rfl (decide_eq_false (by assumption)) rfl rfl (OpD.fv (PV.fv (PV.mv rfl))) ?_
  refine WL.yes (dj := 17) rfl rfl rfl (decide_eq_false (by assumption)) rfl rfl (OpD.fv (PV.fv (PV.ge rfl rfl))) ?_
  refine WL.yes (dj := 17) rfl rfl rfl (decide_eq_false (by assumption)) rfl rfl (OpD.fv (PV.fv (PV.mv rfl))) ?_
  refine WL.splitD (t := 20) rfl (fun h4 => ?_) (fun h4 => ?_)
  refine WL.yes (dj := 20) rfl rfl rfl (decide_eq_true (by assumption)) rfl rfl (OpD.fv (PV.fv (PV.mv rfl))) ?_
  refine WL.yes (dj := 20) rfl rfl rfl (decide_eq_true (by assumption)) rfl rfl (OpD.fv (PV.fv (PV.le rfl rfl))) ?_
  refine WL.yes (dj := 17) rfl rfl rfl (decide_eq_false (by assumption)) rfl rfl (OpD.fv (PV.fv (PV.pickT rfl (decide_eq_true (by assumption)) rfl))) ?_
  refine WL.p rfl rfl rfl (PV.pickF rfl (decide_eq_false (by assumption)) rfl) ?_
  refine WL.p rfl rfl rfl (PV.as rfl) ?_
  refine WL.next [(2, _)] ⟨rfl, trivial⟩ ?_
  refine W.ret ?_
  rotate_left
  refine WL.no (dj := 20) rfl rfl rfl (decide_eq_false (by assumption)) rfl ?_
  refine WL.no (dj := 20) rfl rfl rfl (decide_eq_false (by assumption)) rfl ?_
  refine WL.yes (dj := 17) rfl rfl rfl (decide_eq_false (by assumption)) rfl rfl (OpD.fv (PV.fv (PV.pickF rfl (decide_eq_false (by assumption)) rfl))) ?_
  refine WL.p rfl rfl rfl (PV.pickF rfl (decide_eq_false (by assumption)) rfl) ?_
  refine WL.p rfl rfl rfl (PV.as rfl) ?_
  refine WL.next [(2, _)] ⟨rfl, trivial⟩ ?_
  refine W.ret ?_
  rotate_left
  refine WL.no (dj := 12) rfl rfl rfl (decide_eq_false (by assumption)) rfl ?_
  refine WL.no (dj := 12) rfl rfl rfl (decide_eq_false (by assumption)) rfl ?_
  refine WL.yes (dj := 9) rfl rfl rfl (decide_eq_false (by assumption)) rfl rfl (OpD.fv (PV.fv (PV.pickF rfl (decide_eq_false (by assumption)) rfl))) ?_
  refine WL.p rfl rfl rfl (PV.pickF rfl (decide_eq_false (by assumption)) rfl) ?_
  refine WL.p rfl rfl rfl (PV.mv rfl) ?_
  refine WL.yes (dj := 17) rfl rfl rfl rfl rfl rfl (OpD.fv (PV.fv (PV.mv rfl))) ?_
  refine WL.yes (dj := 17) rfl rfl rfl rfl rfl rfl (OpD.fv (PV.fv (PV.ge rfl rfl))) ?_
  refine WL.yes (dj := 17) rfl rfl rfl rfl rfl rfl (OpD.fv (PV.fv (PV.mv rfl))) ?_
  refine WL.splitD (t := 20) rfl (fun h5 => ?_) (fun h5 => ?_)
  refine WL.yes (dj := 20) rfl rfl rfl (decide_eq_true (by assumption)) rfl rfl (OpD.fv (PV.fv (PV.mv rfl))) ?_
  refine WL.yes (dj := 20) rfl rfl rfl (decide_eq_true (by assumption)) rfl rfl (OpD.fv (PV.fv (PV.le rfl rfl))) ?_
  refine WL.yes (dj := 17) rfl rfl rfl rfl rfl rfl (OpD.fv (PV.fv (PV.pickT rfl (decide_eq_true (by assumption)) rfl))) ?_
  refine WL.p rfl rfl rfl (PV.pickF rfl rfl rfl) ?_
  refine WL.p rfl rfl rfl (PV.as rfl) ?_
  refine WL.next [(2, _)] ⟨rfl, trivial⟩ ?_
  refine W.ret ?_
  rotate_left
  refine WL.no (dj := 20) rfl rfl rfl (decide_eq_false (by assumption)) rfl ?_
  refine WL.no (dj := 20) rfl rfl rfl (decide_eq_false (by assumption)) rfl ?_
  refine WL.yes (dj := 17) rfl rfl rfl rfl rfl rfl (OpD.fv (PV.fv (PV.pickF rfl (decide_eq_false (by assumption)) rfl))) ?_
  refine WL.p rfl rfl rfl (PV.pickF rfl rfl rfl) ?_
  refine WL.p rfl rfl rfl (PV.as rfl) ?_
  refine WL.next [(2, _)] ⟨rfl, trivial⟩ ?_
  refine W.ret ?_
  rotate_left
  refine WL.no (dj := 5) rfl rfl rfl (decide_eq_false (by assumption)) rfl ?_
  refine WL.no (dj := 5) rfl rfl rfl (decide_eq_false (by assumption)) rfl ?_
  refine WL.p rfl rfl rfl (PV.pickF rfl (decide_eq_false (by assumption)) rfl) ?_
  refine WL.p rfl rfl rfl (PV.mv rfl) ?_
  refine WL.yes (dj := 9) rfl rfl rfl rfl rfl rfl (OpD.fv (PV.fv (PV.mv rfl))) ?_
  refine WL.yes (dj := 9) rfl rfl rfl rfl rfl rfl (OpD.fv (PV.fv (PV.ge rfl rfl))) ?_
  refine WL.yes (dj := 9) rfl rfl rfl rfl rfl rfl (OpD.fv (PV.fv (PV.mv rfl))) ?_
  refine WL.splitD (t := 12) rfl (fun h6 => ?_) (fun h6 => ?_)
  refine WL.yes (dj := 12) rfl rfl rfl (decide_eq_true (by assumption)) rfl rfl (OpD.fv (PV.fv (PV.mv rfl))) ?_
  refine WL.yes (dj := 12) rfl rfl rfl (decide_eq_true (by assumption)) rfl rfl (OpD.fv (PV.fv (PV.le rfl rfl))) ?_
  refine WL.yes (dj := 9) rfl rfl rfl rfl rfl rfl (OpD.fv (PV.fv (PV.pickT rfl (decide_eq_true (by assumption)) rfl))) ?_
  refine WL.p rfl rfl rfl (PV.pickF rfl rfl rfl) ?_
  refine WL.p rfl rfl rfl (PV.mv rfl) ?_
  refine WL.splitD (t := 17) rfl (fun h7 => ?_) (fun h7 => ?_)
  refine WL.no (dj := 17) rfl rfl rfl (decide_eq_true (by assumption)) rfl ?_
  refine WL.no (dj := 17) rfl rfl rfl (decide_eq_true (by assumption)) rfl ?_
  refine WL.no (dj := 17) rfl rfl rfl (decide_eq_true (by assumption)) rfl ?_
  refine WL.noU (dj := 20) rfl rfl rfl rfl ?_
  refine WL.noU (dj := 20) rfl rfl rfl rfl ?_
  refine WL.no (dj := 17) rfl rfl rfl (decide_eq_true (by assumption)) rfl ?_
  refine WL.p rfl rfl rfl (PV.pickT rfl (decide_eq_true (by assumption)) rfl) ?_
  refine WL.p rfl rfl rfl (PV.as rfl) ?_
  refine WL.next [(2, _)] ⟨rfl, trivial⟩ ?_
  refine W.ret ?_
  rotate_left
  refine WL.yes (dj := 17) rfl rfl rfl (decide_eq_false (by assumption)) rfl rfl (OpD.fv (PV.fv (PV.mv rfl))) ?_
  refine WL.yes (dj := 17) rfl rfl rfl (decide_eq_false (by assumption)) rfl rfl (OpD.fv (PV.fv (PV.ge rfl rfl))) ?_
  refine WL.yes (dj := 17) rfl rfl rfl (decide_eq_false (by assumption)) rfl rfl (OpD.fv (PV.fv (PV.mv rfl))) ?_
  refine WL.splitD (t := 20) rfl (fun h8 => ?_) (fun h8 => ?_)
  refine WL.yes (dj := 20) rfl rfl rfl (decide_eq_true (by assumption)) rfl rfl (OpD.fv (PV.fv (PV.mv rfl))) ?_
  refine WL.yes (dj := 20) rfl rfl rfl (decide_eq_true (by assumption)) rfl rfl (OpD.fv (PV.fv (PV.le rfl rfl))) ?_
  refine WL.yes (dj := 17) rfl rfl rfl (decide_eq_false (by assumption)) rfl rfl (OpD.fv (PV.fv (PV.pickT rfl (decide_eq_true (by assumption)) rfl))) ?_
  refine WL.p rfl rfl rfl (PV.pickF rfl (decide_eq_false (by assumption)) rfl) ?_
  refine WL.p rfl rfl rfl (PV.as rfl) ?_
  refine WL.next [(2, _)] ⟨rfl, trivial⟩ ?_
  refine W.ret ?_
  rotate_left
  refine WL.no (dj := 20) rfl rfl rfl (decide_eq_false (by assumption)) rfl ?_
  refine WL.no (dj := 20) rfl rfl rfl (decide_eq_false (by assumption)) rfl ?_
  refine WL.yes (dj := 17) rfl rfl rfl (decide_eq_false (by assumption)) rfl rfl (OpD.fv (PV.fv (PV.pickF rfl (decide_eq_false (by assumption)) rfl))) ?_
  refine WL.p rfl rfl rfl (PV.pickF rfl (decide_eq_false (by assumption)) rfl) ?_
  refine WL.p rfl rfl rfl (PV.as rfl) ?_
  refine WL.next [(2, _)] ⟨rfl, trivial⟩ ?_
  refine W.ret ?_
  rotate_left
  refine WL.no (dj := 12) rfl rfl rfl (decide_eq_false (by assumption)) rfl ?_
  refine WL.no (dj := 12) rfl rfl rfl (decide_eq_false (by assumption)) rfl ?_
  refine WL.yes (dj := 9) rfl rfl rfl rfl rfl rfl (OpD.fv (PV.fv (PV.pickF rfl (decide_eq_false (by assumption)) rfl))) ?_
  refine WL.p rfl rfl rfl (PV.pickF rfl rfl rfl) ?_
  refine WL.p rfl rfl rfl (PV.mv rfl) ?_
  refine WL.yes (dj := 17) rfl rfl rfl rfl rfl rfl (OpD.fv (PV.fv (PV.mv rfl))) ?_
  refine WL.yes (dj := 17) rfl rfl rfl rfl rfl rfl (OpD.fv (PV.fv (PV.ge rfl rfl))) ?_
  refine WL.yes (dj := 17) rfl rfl rfl rfl rfl rfl (OpD.fv (PV.fv (PV.mv rfl))) ?_
  refine WL.splitD (t := 20) rfl (fun h9 => ?_) (fun h9 => ?_)
  refine WL.yes (dj := 20) rfl rfl rfl (decide_eq_true (by assumption)) rfl rfl (OpD.fv (PV.fv (PV.mv rfl))) ?_
  refine WL.yes (dj := 20) rfl rfl rfl (decide_eq_true (by assumption)) rfl rfl (OpD.fv (PV.fv (PV.le rfl rfl))) ?_
  refine WL.yes (dj := 17) rfl rfl rfl rfl rfl rfl (OpD.fv (PV.fv (PV.pickT rfl (decide_eq_true (by assumption)) rfl))) ?_
  refine WL.p rfl rfl rfl (PV.pickF rfl rfl rfl) ?_
  refine WL.p rfl rfl rfl (PV.as rfl) ?_
  refine WL.next [(2, _)] ⟨rfl, trivial⟩ ?_
  refine W.ret ?_
  rotate_left
  refine WL.no (dj := 20) rfl rfl rfl (decide_eq_false (by assumption)) rfl ?_
  refine WL.no (dj := 20) rfl rfl rfl (decide_eq_false (by assumption)) rfl ?_
  refine WL.yes (dj := 17) rfl rfl rfl rfl rfl rfl (OpD.fv (PV.fv (PV.pickF rfl (decide_eq_false (by assumption)) rfl))) ?_
  refine WL.p rfl rfl rfl (PV.pickF rfl rfl rfl) ?_
  refine WL.p rfl rfl rfl (PV.as rfl) ?_
  refine WL.next [(2, _)] ⟨rfl, trivial⟩ ?_
  refine W.ret ?_
  rotate_left
  all_goals
    refine K.fin (vs := [_]) () ⟨rfl, trivial⟩ ?_ (Ent.refl _)
    show Value.bool _ = Value.bool _
    congr 1
    unfold letB
    rw [Bool.eq_iff_iff]
    simp only [decide_eq_true_eq, Bool.or_eq_true, Bool.and_eq_true]
    try simp only [true_iff, Bool.false_eq_true, false_iff]
    omega
theorem c323 {s : Bytes} {c : UInt8} : Spec P 140 [str s, .int .u8 c.toNat] [] (fun _ : Unit => .int .i64 (idxB s c)) (fun _ => []) := by
  refine Spec.intro Tryz.func140 rfl rfl rfl fun F => ?_
  refine W.rseq ?_
  refine WL.p rfl rfl rfl (PV.as rfl) ?_
  refine WL.next [(4, _), (0, _), (1, _)] ⟨rfl, rfl, rfl, trivial⟩ ?_
  refine W.rseq ?_
  refine WL.p rfl rfl rfl (PV.mv rfl) ?_
  refine WL.p rfl rfl rfl (PV.mv rfl) ?_
  refine WL.p rfl rfl rfl (PV.idxB xt399 rfl) ?_
  refine WL.p rfl rfl rfl (PV.as rfl) ?_
  refine WL.next [(4, _)] ⟨rfl, trivial⟩ ?_
  refine W.ret ?_
  rotate_left
  exact K.fin (vs := [_]) () ⟨rfl, trivial⟩ rfl (Ent.refl _)
theorem c251 {s : Bytes} {c : UInt8} : Spec P 116 [str s, .int .u8 c.toNat] [] (fun _ : Unit => .int .i64 (idxB s c)) (fun _ => []) := by
  refine Spec.intro Tryz.func116 rfl rfl rfl fun F => ?_
  refine W.rseq ?_
  refine WL.p rfl rfl rfl (PV.as rfl) ?_
  refine WL.next [(4, _), (0, _), (1, _)] ⟨rfl, rfl, rfl, trivial⟩ ?_
  refine W.rseq ?_
  refine WL.p rfl rfl rfl (PV.mv rfl) ?_
  refine WL.p rfl rfl rfl (PV.mv rfl) ?_
  refine WL.putX rfl rfl rfl (OpX.call cb323 (c323) rfl .nil) fun x7 => ?_
  refine WL.nm (H' := _) rfl ?_
  refine WL.p rfl rfl rfl (PV.as rfl) ?_
  refine WL.next [(4, _)] ⟨rfl, trivial⟩ ?_
  refine W.ret ?_
  rotate_left
  exact K.fin (vs := [_]) () ⟨rfl, trivial⟩ rfl (Ent.refl _)
def atomS : Bytes := [33, 35, 36, 37, 38, 39, 42, 43, 45, 47, 61, 63, 94, 95, 96, 123, 124, 125, 126]
def atomB (c : UInt8) : Bool := letB c || decide (0 ≤ idxB atomS c)
theorem c468 {c : UInt8} : Spec P 197 [.int .u8 c.toNat] [] (fun _ : Unit => .bool (atomB c)) (fun _ => []) := by
  refine Spec.intro Tryz.func197 rfl rfl rfl fun F => ?_
  refine W.rseq ?_
  refine WL.p rfl rfl rfl (PV.as rfl) ?_
  refine WL.next [(2, _), (0, _)] ⟨rfl, rfl, trivial⟩ ?_
  refine W.rseq ?_
  refine WL.p rfl rfl rfl (PV.mv rfl) ?_
  refine WL.putX rfl rfl rfl (OpX.call cb290 (c290) rfl .nil) fun x4 => ?_
  refine WL.nm (H' := _) rfl ?_
  refine WL.p rfl rfl rfl (PV.mv rfl) ?_
  refine WL.split (t := 5) rfl (fun h0 => ?_) (fun h0 => ?_)
  refine WL.no (dj := 5) rfl rfl rfl (by assumption) rfl ?_
  refine WL.no (dj := 5) rfl rfl rfl (by assumption) rfl ?_
  refine WL.no (dj := 5) rfl rfl rfl (by assumption) rfl ?_
  refine WL.p rfl rfl rfl (PV.pickT rfl (by assumption) rfl) ?_
  refine WL.p rfl rfl rfl (PV.as rfl) ?_
  refine WL.next [(2, _)] ⟨rfl, trivial⟩ ?_
  refine W.ret ?_
  rotate_left
  refine WL.yes (dj := 5) rfl rfl rfl (by assumption) rfl rfl (OpD.fv (PV.fv (PV.mv rfl))) ?_
  refine WL.yesX (dj := 5) rfl rfl rfl (by assumption) rfl rfl (OpX.call cb251 (c251) rfl .nil) fun x7 => ?_
  refine WL.nm (H' := _) rfl ?_
  refine WL.yes (dj := 5) rfl rfl rfl (by assumption) rfl rfl (OpD.fv (PV.fv (PV.ge rfl rfl))) ?_
  refine WL.p rfl rfl rfl (PV.pickF rfl (by assumption) rfl) ?_
  refine WL.p rfl rfl rfl (PV.as rfl) ?_
  refine WL.next [(2, _)] ⟨rfl, trivial⟩ ?_
  refine W.ret ?_
  rotate_left
  all_goals
    refine K.fin (vs := [_]) () ⟨rfl, trivial⟩ ?_ (Ent.refl _)
    show Value.bool _ = Value.bool _
    congr 1
    unfold atomB
    simp_all [atomS] <;> try rfl
theorem c289 {c : UInt8} : Spec P 213 [.int .u8 c.toNat] [] (fun _ : Unit => .bool (letB c || decide (c.toNat = 45))) (fun _ => []) := by
  refine Spec.intro Tryz.func213 rfl rfl rfl fun F => ?_
  refine W.rseq ?_
  refine WL.p rfl rfl rfl (PV.as rfl) ?_
  refine WL.next [(2, _), (0, _)] ⟨rfl, rfl, trivial⟩ ?_
  refine W.rseq ?_
  refine WL.p rfl rfl rfl (PV.mv rfl) ?_
  refine WL.putX rfl rfl rfl (OpX.call cb290 (c290) rfl .nil) fun x4 => ?_
  refine WL.nm (H' := _) rfl ?_
  refine WL.p rfl rfl rfl (PV.mv rfl) ?_
  refine WL.split (t := 5) rfl (fun h0 => ?_) (fun h0 => ?_)
  refine WL.no (dj := 5) rfl rfl rfl (by assumption) rfl ?_
  refine WL.no (dj := 5) rfl rfl rfl (by assumption) rfl ?_
  refine WL.p rfl rfl rfl (PV.pickT rfl (by assumption) rfl) ?_
  refine WL.p rfl rfl rfl (PV.as rfl) ?_
  refine WL.next [(2, _)] ⟨rfl, trivial⟩ ?_
  refine W.ret ?_
  rotate_left
  refine WL.yes (dj := 5) rfl rfl rfl (by assumption) rfl rfl (OpD.fv (PV.fv (PV.mv rfl))) ?_
  refine WL.yes (dj := 5) rfl rfl rfl (by assumption) rfl rfl (OpD.fv (PV.fv (PV.eqI rfl rfl))) ?_
  refine WL.p rfl rfl rfl (PV.pickF rfl (by assumption) rfl) ?_
  refine WL.p rfl rfl rfl (PV.as rfl) ?_
  refine WL.next [(2, _)] ⟨rfl, trivial⟩ ?_
  refine W.ret ?_
  rotate_left
  all_goals
    refine K.fin (vs := [_]) () ⟨rfl, trivial⟩ ?_ (Ent.refl _)
    show Value.bool _ = Value.bool _
    congr 1
    rw [Bool.eq_iff_iff]
    simp only [decide_eq_true_eq, Bool.or_eq_true, h0]
    try simp only [true_iff, Bool.false_eq_true, false_iff, true_or, false_or]
    try omega
/-- all: there are bytes, and each may be. -/
theorem c291 {s : Bytes} {f : Nat} (pred : UInt8 → Bool) (hl : s.length < 2 ^ 62) (hcb : Cb P f) (hf : ∀ c : UInt8, Spec P f ((#[] : Array Value).toList ++ [.int .u8 c.toNat] ++ (#[] : Array Value).toList) [] (fun _ : Unit => .bool (pred c)) (fun _ => [])) :
    Spec P 196 [str s, .func (.func f) #[] #[]] [] (fun _ : Unit => .bool (s.all pred && s != [])) (fun _ => []) := by
  refine Spec.intro Tryz.func196 rfl rfl rfl fun F => ?_
  refine W.rseq ?_
  refine WL.p rfl rfl rfl (PV.as rfl) ?_
  refine WL.next [(4, _), (0, _), (1, _)] ⟨rfl, rfl, rfl, trivial⟩ ?_
  refine W.seq ?_
  refine W.rseq ?_
  refine WL.p rfl rfl rfl (PV.mv rfl) ?_
  refine WL.p rfl rfl rfl (PV.lenS ul9 rfl rfl) ?_
  refine WL.p rfl rfl rfl (PV.mv rfl) ?_
  refine WL.next [(8, _), (7, _), (4, _), (0, _), (1, _)] ⟨rfl, rfl, rfl, rfl, rfl, trivial⟩ ?_
  refine W.block ?_
  rotate_left
  refine W.loopP (X := Nat) (fun k => k ≤ s.length ∧ (s.take k).all pred = true) (fun k => [(8, .int .i64 k), (7, .int .i64 s.length), (4, .bool false), (0, str s), (1, .func (.func f) #[] #[])]) (fun _ => F) (fun k => s.length - k) 0 (by simp) ⟨rfl, rfl, rfl, rfl, rfl, trivial⟩ (Ent.refl _) fun k hI => ?_
  have hk := hI.1; have ha := hI.2; clear hI
  refine W.rseq ?_
  refine WL.p rfl rfl rfl (PV.lt rfl rfl) ?_
  refine WL.next [(9, _), (8, _), (7, _), (4, _), (0, _), (1, _)] ⟨rfl, rfl, rfl, rfl, rfl, rfl, trivial⟩ ?_
  refine W.seq ?_
  refine W.condD rfl (fun h0 => ?_) (fun h0 => ?_)
  refine W.skip ?_
  refine K.next [(8, _), (7, _), (4, _), (0, _), (1, _)] ⟨rfl, rfl, rfl, rfl, rfl, trivial⟩ ?_
  refine W.bseq ?_
  refine W.rseq ?_
  refine WL.p rfl rfl rfl (PV.mv rfl) ?_
  refine WL.p rfl rfl rfl (PV.as rfl) ?_
  refine WL.next [(5, _), (8, _), (7, _), (4, _), (0, _), (1, _)] ⟨rfl, rfl, rfl, rfl, rfl, rfl, trivial⟩ ?_
  refine W.rseq ?_
  refine WL.p rfl rfl rfl (PV.mv rfl) ?_
  refine WL.p rfl rfl rfl (PV.mv rfl) ?_
  refine WL.p rfl rfl rfl (PV.mv rfl) ?_
  refine WL.p rfl rfl rfl (PV.atN ul9 rfl rfl (by omega)) ?_
  refine WL.putX rfl rfl rfl (OpX.callV hcb rfl (hf _) rfl .nil) fun x15 => ?_
  refine WL.nm (H' := _) rfl ?_
  refine WL.p rfl rfl rfl (PV.not rfl) ?_
  refine WL.next [(16, _), (8, _), (7, _), (4, _), (0, _), (1, _)] ⟨rfl, rfl, rfl, rfl, rfl, rfl, trivial⟩ ?_
  refine W.cond rfl (fun h1 => ?_) (fun h1 => ?_)
  refine W.rseq ?_
  refine WL.p rfl rfl rfl (PV.as rfl) ?_
  refine WL.next [(4, _), (8, _), (7, _), (0, _), (1, _)] ⟨rfl, rfl, rfl, rfl, rfl, trivial⟩ ?_
  refine W.ret ?_
  refine K.retB ?_
  refine K.retT ?_
  refine K.retT ?_
  refine K.retB ?_
  refine K.retT ?_
  rotate_left
  refine W.skip ?_
  refine K.out ?_
  refine K.next [(8, _), (7, _), (4, _), (0, _), (1, _)] ⟨rfl, rfl, rfl, rfl, rfl, trivial⟩ ?_
  refine W.region ?_
  refine WL.p rfl rfl rfl (PV.add64 rfl rfl (by omega)) ?_
  refine WL.p rfl rfl rfl (PV.mv rfl) ?_
  refine WL.nil ?_
  rotate_left
  refine W.exit ?_
  refine K.exitT ?_
  refine K.exitT ?_
  refine K.exit ?_
  refine K.next [(4, _), (0, _)] ⟨rfl, rfl, trivial⟩ ?_
  refine W.rseq ?_
  refine WL.p rfl rfl rfl (PV.mv rfl) ?_
  refine WL.p rfl rfl rfl (PV.neS rfl rfl) ?_
  refine WL.p rfl rfl rfl (PV.as rfl) ?_
  refine WL.next [(4, _)] ⟨rfl, trivial⟩ ?_
  refine W.ret ?_
  rotate_left
  · refine K.fin (vs := [_]) () ⟨rfl, trivial⟩ ?_ (Ent.refl _)
    show Value.bool _ = Value.bool _
    rw [all_false_at (p := pred) (s := s) (k := k) (by omega) (by simpa using h1)]; rfl
  · exact K.againP (k + 1) ⟨by omega, take_all_succ (by omega) ha (by simpa using h1)⟩ (by omega) ⟨rfl, rfl, rfl, rfl, rfl, trivial⟩ (Ent.refl _)
  · refine K.fin (vs := [_]) () ⟨rfl, trivial⟩ ?_ (Ent.refl _)
    show Value.bool _ = Value.bool _
    rw [all_of_take (by omega) ha, Bool.true_and]
    congr 1
    rw [Bool.eq_iff_iff]; simp
theorem c291n {s : Bytes} (hl : s.length < 2 ^ 62) : Spec P 196 [str s, .func (.func 197) #[] #[]] [] (fun _ : Unit => .bool (s.all atomB && s != [])) (fun _ => []) := c291 atomB hl cb468 (fun _ => c468)
def labC (c : UInt8) : Bool := letB c || decide (c.toNat = 45)
theorem c291a {s : Bytes} (hl : s.length < 2 ^ 62) : Spec P 196 [str s, .func (.func 213) #[] #[]] [] (fun _ : Unit => .bool (s.all labC && s != [])) (fun _ => []) := c291 labC hl cb289 (fun _ => c289)
theorem c467 {s : Bytes} (hl : s.length < 2 ^ 62) : Spec P 195 [str s] [] (fun _ : Unit => .bool (!(s.all atomB && s != []))) (fun _ => []) := by
  refine Spec.intro Tryz.func195 rfl rfl rfl fun F => ?_
  refine W.rseq ?_
  refine WL.p rfl rfl rfl (PV.as rfl) ?_
  refine WL.next [(2, _), (0, _)] ⟨rfl, rfl, trivial⟩ ?_
  refine W.rseq ?_
  refine WL.p rfl rfl rfl (PV.mv rfl) ?_
  refine WL.putX rfl rfl rfl (OpX.call cb291 (c291n (by first | omega | (simp only [List.length_append, List.length_cons, List.length_nil, List.length_take]; omega) | assumption)) rfl .nil) fun x4 => ?_
  refine WL.nm (H' := _) rfl ?_
  refine WL.p rfl rfl rfl (PV.not rfl) ?_
  refine WL.p rfl rfl rfl (PV.as rfl) ?_
  refine WL.next [(2, _)] ⟨rfl, trivial⟩ ?_
  refine W.ret ?_
  rotate_left
  exact K.fin (vs := [_]) () ⟨rfl, trivial⟩ rfl (Ent.refl _)
def labB (s : Bytes) : Bool := decide (s.length ≤ 63) && (s.all labC && s != []) && s.head? != some 45 && s.getLast? != some 45
theorem u8_ne {a b : UInt8} : ((a.toNat : Int) = (b.toNat : Int)) ↔ a = b := by
  constructor
  · intro h; exact UInt8.toNat_inj.1 (by omega)
  · intro h; rw [h]
theorem head_at0 {s : Bytes} (h : 0 < s.length) : s.head? = some s[0] := by cases s with | nil => simp at h | cons a l => rfl
theorem c231 {s : Bytes} (hl : s.length < 2 ^ 62) : Spec P 200 [str s] [] (fun _ : Unit => .bool (labB s)) (fun _ => []) := by
  by_cases hz : 0 < s.length
  · have hh := head_at0 hz
    have hg : s.getLast? = some (s[s.length - 1]) := by rw [List.getLast?_eq_getElem?]; exact List.getElem?_eq_getElem (by omega)
    refine Spec.intro Tryz.func200 rfl rfl rfl fun F => ?_
    refine W.rseq ?_
    refine WL.p rfl rfl rfl (PV.as rfl) ?_
    refine WL.next [(2, _), (0, _)] ⟨rfl, rfl, trivial⟩ ?_
    refine W.rseq ?_
    refine WL.p rfl rfl rfl (PV.as rfl) ?_
    refine WL.next [(3, _), (2, _), (0, _)] ⟨rfl, rfl, rfl, trivial⟩ ?_
    refine W.rseq ?_
    refine WL.p rfl rfl rfl (PV.mv rfl) ?_
    refine WL.p rfl rfl rfl (PV.lenS ul9 rfl rfl) ?_
    refine WL.p rfl rfl rfl (PV.le rfl rfl) ?_
    refine WL.p rfl rfl rfl (PV.mv rfl) ?_
    refine WL.splitD (t := 7) rfl (fun h0 => ?_) (fun h0 => ?_)
    refine WL.yes (dj := 7) rfl rfl rfl (decide_eq_true (by assumption)) rfl rfl (OpD.fv (PV.fv (PV.mv rfl))) ?_
    refine WL.yes (dj := 7) rfl rfl rfl (decide_eq_true (by assumption)) rfl rfl (OpD.fv (PV.fv (PV.mv rfl))) ?_
    refine WL.yesX (dj := 7) rfl rfl rfl (decide_eq_true (by assumption)) rfl rfl (OpX.call cb291 (c291a (by first | omega | (simp only [List.length_append, List.length_cons, List.length_nil, List.length_take]; omega) | assumption)) rfl .nil) fun x10 => ?_
    refine WL.nm (H' := _) rfl ?_
    refine WL.p rfl rfl rfl (PV.pickT rfl (decide_eq_true (by assumption)) rfl) ?_
    refine WL.p rfl rfl rfl (PV.mv rfl) ?_
    refine WL.split (t := 12) rfl (fun h1 => ?_) (fun h1 => ?_)
    refine WL.yes (dj := 12) rfl rfl rfl (by assumption) rfl rfl (OpD.fv (PV.fv (PV.mv rfl))) ?_
    refine WL.yes (dj := 12) rfl rfl rfl (by assumption) rfl rfl (OpD.fv (PV.fv (PV.atN ul9 rfl rfl (by omega)))) ?_
    refine WL.yes (dj := 12) rfl rfl rfl (by assumption) rfl rfl (OpD.fv (PV.fv (PV.neI rfl rfl))) ?_
    refine WL.p rfl rfl rfl (PV.pickT rfl (by assumption) rfl) ?_
    refine WL.p rfl rfl rfl (PV.mv rfl) ?_
    refine WL.splitD (t := 17) rfl (fun h2 => ?_) (fun h2 => ?_)
    refine WL.yes (dj := 17) rfl rfl rfl (decide_eq_true (by assumption)) rfl rfl (OpD.fv (PV.fv (PV.mv rfl))) ?_
    refine WL.yes (dj := 17) rfl rfl rfl (decide_eq_true (by assumption)) rfl rfl (OpD.fv (PV.fv (PV.mv rfl))) ?_
    refine WL.yes (dj := 17) rfl rfl rfl (decide_eq_true (by assumption)) rfl rfl (OpD.fv (PV.fv (PV.lenS ul9 rfl rfl))) ?_
    refine WL.yes (dj := 17) rfl rfl rfl (decide_eq_true (by assumption)) rfl rfl (OpD.fv (PV.fv (PV.sub64 rfl rfl (by omega)))) ?_
    refine WL.yes (dj := 17) rfl rfl rfl (decide_eq_true (by assumption)) rfl rfl (OpD.fv (PV.fv (PV.atS ul9 rfl rfl (by omega)))) ?_
    refine WL.yes (dj := 17) rfl rfl rfl (decide_eq_true (by assumption)) rfl rfl (OpD.fv (PV.fv (PV.neI rfl rfl))) ?_
    refine WL.p rfl rfl rfl (PV.pickT rfl (decide_eq_true (by assumption)) rfl) ?_
    refine WL.p rfl rfl rfl (PV.as rfl) ?_
    refine WL.next [(2, _)] ⟨rfl, trivial⟩ ?_
    refine W.ret ?_
    rotate_left
    refine WL.no (dj := 17) rfl rfl rfl (decide_eq_false (by assumption)) rfl ?_
    refine WL.no (dj := 17) rfl rfl rfl (decide_eq_false (by assumption)) rfl ?_
    refine WL.no (dj := 17) rfl rfl rfl (decide_eq_false (by assumption)) rfl ?_
    refine WL.no (dj := 17) rfl rfl rfl (decide_eq_false (by assumption)) rfl ?_
    refine WL.no (dj := 17) rfl rfl rfl (decide_eq_false (by assumption)) rfl ?_
    refine WL.no (dj := 17) rfl rfl rfl (decide_eq_false (by assumption)) rfl ?_
    refine WL.p rfl rfl rfl (PV.pickF rfl (decide_eq_false (by assumption)) rfl) ?_
    refine WL.p rfl rfl rfl (PV.as rfl) ?_
    refine WL.next [(2, _)] ⟨rfl, trivial⟩ ?_
    refine W.ret ?_
    rotate_left
    refine WL.no (dj := 12) rfl rfl rfl (by assumption) rfl ?_
    refine WL.no (dj := 12) rfl rfl rfl (by assumption) rfl ?_
    refine WL.no (dj := 12) rfl rfl rfl (by assumption) rfl ?_
    refine WL.p rfl rfl rfl (PV.pickF rfl (by assumption) rfl) ?_
    refine WL.p rfl rfl rfl (PV.mv rfl) ?_
    refine WL.no (dj := 17) rfl rfl rfl rfl rfl ?_
    refine WL.no (dj := 17) rfl rfl rfl rfl rfl ?_
    refine WL.no (dj := 17) rfl rfl rfl rfl rfl ?_
    refine WL.no (dj := 17) rfl rfl rfl rfl rfl ?_
    refine WL.no (dj := 17) rfl rfl rfl rfl rfl ?_
    refine WL.no (dj := 17) rfl rfl rfl rfl rfl ?_
    refine WL.p rfl rfl rfl (PV.pickF rfl rfl rfl) ?_
    refine WL.p rfl rfl rfl (PV.as rfl) ?_
    refine WL.next [(2, _)] ⟨rfl, trivial⟩ ?_
    refine W.ret ?_
    rotate_left
    refine WL.no (dj := 7) rfl rfl rfl (decide_eq_false (by assumption)) rfl ?_
    refine WL.no (dj := 7) rfl rfl rfl (decide_eq_false (by assumption)) rfl ?_
    refine WL.no (dj := 7) rfl rfl rfl (decide_eq_false (by assumption)) rfl ?_
    refine WL.p rfl rfl rfl (PV.pickF rfl (decide_eq_false (by assumption)) rfl) ?_
    refine WL.p rfl rfl rfl (PV.mv rfl) ?_
    refine WL.no (dj := 12) rfl rfl rfl rfl rfl ?_
    refine WL.no (dj := 12) rfl rfl rfl rfl rfl ?_
    refine WL.no (dj := 12) rfl rfl rfl rfl rfl ?_
    refine WL.p rfl rfl rfl (PV.pickF rfl rfl rfl) ?_
    refine WL.p rfl rfl rfl (PV.mv rfl) ?_
    refine WL.no (dj := 17) rfl rfl rfl rfl rfl ?_
    refine WL.no (dj := 17) rfl rfl rfl rfl rfl ?_
    refine WL.no (dj := 17) rfl rfl rfl rfl rfl ?_
    refine WL.no (dj := 17) rfl rfl rfl rfl rfl ?_
    refine WL.no (dj := 17) rfl rfl rfl rfl rfl ?_
    refine WL.no (dj := 17) rfl rfl rfl rfl rfl ?_
    refine WL.p rfl rfl rfl (PV.pickF rfl rfl rfl) ?_
    refine WL.p rfl rfl rfl (PV.as rfl) ?_
    refine WL.next [(2, _)] ⟨rfl, trivial⟩ ?_
    refine W.ret ?_
    rotate_left
    · have h0' : s.length ≤ 63 := by omega
      have e2 : s.getD ((s.length : Int) - 1).toNat 0 = s[s.length - 1] := by
        rw [show ((s.length : Int) - 1).toNat = s.length - 1 by omega]; simp [List.getD, List.getElem?_eq_getElem (show s.length - 1 < s.length by omega)]
      have h2' : s[0] ≠ 45 := fun h => h2 (by rw [h]; rfl)
      refine K.fin (vs := [_]) () ⟨rfl, trivial⟩ ?_ (Ent.refl _)
      show Value.bool _ = Value.bool _
      congr 1
      unfold labB
      rw [h1, hh, hg, e2, Bool.eq_iff_iff]
      have e3 := u8_ne (a := s[s.length - 1]) (b := 45)
      have e4 : (((45 : UInt8).toNat : Nat) : Int) = 45 := rfl
      rw [e4] at e3
      simp [h0', h2', e3]
    · have h2' : s[0] = 45 := u8_ne.1 (by simpa using h2)
      refine K.fin (vs := [_]) () ⟨rfl, trivial⟩ ?_ (Ent.refl _)
      show Value.bool _ = Value.bool _
      unfold labB
      rw [hh, h2']; simp
    · refine K.fin (vs := [_]) () ⟨rfl, trivial⟩ ?_ (Ent.refl _)
      show Value.bool _ = Value.bool _
      unfold labB
      rw [h1]; simp
    · refine K.fin (vs := [_]) () ⟨rfl, trivial⟩ ?_ (Ent.refl _)
      show Value.bool _ = Value.bool _
      unfold labB
      have h0' : ¬ s.length ≤ 63 := by omega
      simp [h0']
  · have hz' : s = [] := List.length_eq_zero_iff.1 (by omega)
    subst hz'
    refine Spec.intro Tryz.func200 rfl rfl rfl fun F => ?_
    refine W.rseq ?_
    refine WL.p rfl rfl rfl (PV.as rfl) ?_
    refine WL.next [(2, _), (0, _)] ⟨rfl, rfl, trivial⟩ ?_
    refine W.rseq ?_
    refine WL.p rfl rfl rfl (PV.as rfl) ?_
    refine WL.next [(3, _), (2, _), (0, _)] ⟨rfl, rfl, rfl, trivial⟩ ?_
    refine W.rseq ?_
    refine WL.p rfl rfl rfl (PV.mv rfl) ?_
    refine WL.p rfl rfl rfl (PV.lenS ul9 rfl rfl) ?_
    refine WL.p rfl rfl rfl (PV.le rfl rfl) ?_
    refine WL.p rfl rfl rfl (PV.mv rfl) ?_
    refine WL.yes (dj := 7) rfl rfl rfl rfl rfl rfl (OpD.fv (PV.fv (PV.mv rfl))) ?_
    refine WL.yes (dj := 7) rfl rfl rfl rfl rfl rfl (OpD.fv (PV.fv (PV.mv rfl))) ?_
    refine WL.yesX (dj := 7) rfl rfl rfl rfl rfl rfl (OpX.call cb291 (c291a (by first | omega | (simp only [List.length_append, List.length_cons, List.length_nil, List.length_take]; omega) | assumption)) rfl .nil) fun x10 => ?_
    refine WL.nm (H' := _) rfl ?_
    refine WL.p rfl rfl rfl (PV.pickT rfl rfl rfl) ?_
    refine WL.p rfl rfl rfl (PV.mv rfl) ?_
    refine WL.no (dj := 12) rfl rfl rfl rfl rfl ?_
    refine WL.no (dj := 12) rfl rfl rfl rfl rfl ?_
    refine WL.no (dj := 12) rfl rfl rfl rfl rfl ?_
    refine WL.p rfl rfl rfl (PV.pickF rfl rfl rfl) ?_
    refine WL.p rfl rfl rfl (PV.mv rfl) ?_
    refine WL.no (dj := 17) rfl rfl rfl rfl rfl ?_
    refine WL.no (dj := 17) rfl rfl rfl rfl rfl ?_
    refine WL.no (dj := 17) rfl rfl rfl rfl rfl ?_
    refine WL.no (dj := 17) rfl rfl rfl rfl rfl ?_
    refine WL.no (dj := 17) rfl rfl rfl rfl rfl ?_
    refine WL.no (dj := 17) rfl rfl rfl rfl rfl ?_
    refine WL.p rfl rfl rfl (PV.pickF rfl rfl rfl) ?_
    refine WL.p rfl rfl rfl (PV.as rfl) ?_
    refine WL.next [(2, _)] ⟨rfl, trivial⟩ ?_
    refine W.ret ?_
    rotate_left
    all_goals exact K.fin (vs := [_]) () ⟨rfl, trivial⟩ rfl (Ent.refl _)
theorem c230 {s : Bytes} (hl : s.length < 2 ^ 62) : Spec P 199 [str s] [] (fun _ : Unit => .bool (!(labB s))) (fun _ => []) := by
  refine Spec.intro Tryz.func199 rfl rfl rfl fun F => ?_
  refine W.rseq ?_
  refine WL.p rfl rfl rfl (PV.as rfl) ?_
  refine WL.next [(2, _), (0, _)] ⟨rfl, rfl, trivial⟩ ?_
  refine W.rseq ?_
  refine WL.p rfl rfl rfl (PV.mv rfl) ?_
  refine WL.putX rfl rfl rfl (OpX.call cb231 (c231 (by first | omega | (simp only [List.length_append, List.length_cons, List.length_nil, List.length_take]; omega) | assumption)) rfl .nil) fun x4 => ?_
  refine WL.nm (H' := _) rfl ?_
  refine WL.p rfl rfl rfl (PV.not rfl) ?_
  refine WL.p rfl rfl rfl (PV.as rfl) ?_
  refine WL.next [(2, _)] ⟨rfl, trivial⟩ ?_
  refine W.ret ?_
  rotate_left
  exact K.fin (vs := [_]) () ⟨rfl, trivial⟩ rfl (Ent.refl _)
end Go.Sl
/-! ContainsFunc, of texts and of numbers. -/
namespace Go.Sl
open Go Go.Proofs
set_option maxRecDepth 20000
theorem c270 {p : SP} {xs : List Bytes} {f : Nat} {c1 c2 : Array Value} (pred : Bytes → Bool) (hl : xs.length ≤ 2 ^ 40) (hcb : Cb P f) (hb : ∀ b, b ∈ xs → b.length < 2 ^ 62) (hf : ∀ b, b.length < 2 ^ 62 → Spec P f (c1.toList ++ [str b] ++ c2.toList) [] (fun _ : Unit => .bool (pred b)) (fun _ => [])) :
    Spec P 115 [p.v xs.length, .func (.func f) c1 c2] [sl Kstr p xs] (fun _ : Unit => .int .i64 (findI pred xs)) (fun _ => [sl Kstr p xs]) := by
  refine Spec.intro Tryz.func115 rfl rfl rfl fun F => ?_
  refine W.fact (sl_fact 0 rfl) fun hp => ?_
  refine W.rseq ?_
  refine WL.p rfl rfl rfl (PV.as rfl) ?_
  refine WL.next [(4, _), (0, _), (1, _)] ⟨rfl, rfl, rfl, trivial⟩ ?_
  refine W.seq ?_
  refine W.rseq ?_
  refine WL.p rfl rfl rfl (PV.mv rfl) ?_
  refine WL.p rfl rfl rfl (PV.lenL ul33 rfl rfl) ?_
  refine WL.p rfl rfl rfl (PV.mv rfl) ?_
  refine WL.next [(8, _), (7, _), (4, _), (0, _), (1, _)] ⟨rfl, rfl, rfl, rfl, rfl, trivial⟩ ?_
  refine W.block ?_
  rotate_left
  refine W.loopP (X := Nat) (fun k => k ≤ xs.length ∧ ∀ x, x ∈ xs.take k → pred x = false) (fun k => [(8, .int .i64 k), (7, .int .i64 xs.length), (4, .int .i64 0), (0, p.v xs.length), (1, .func (.func f) c1 c2)])
    (fun _ => sl Kstr p xs :: F) (fun k => xs.length - k) 0 ⟨Nat.zero_le _, by simp⟩ ⟨rfl, rfl, rfl, rfl, rfl, trivial⟩ (Ent.refl _) fun k hI => ?_
  have hk := hI.1; have ha := hI.2; clear hI
  refine W.rseq ?_
  refine WL.p rfl rfl rfl (PV.lt rfl rfl) ?_
  refine WL.next [(9, _), (8, _), (7, _), (4, _), (0, _), (1, _)] ⟨rfl, rfl, rfl, rfl, rfl, rfl, trivial⟩ ?_
  refine W.seq ?_
  refine W.condD rfl (fun h0 => ?_) (fun h0 => ?_)
  refine W.skip ?_
  refine K.next [(8, _), (7, _), (4, _), (0, _), (1, _)] ⟨rfl, rfl, rfl, rfl, rfl, trivial⟩ ?_
  refine W.bseq ?_
  refine W.rseq ?_
  refine WL.p rfl rfl rfl (PV.mv rfl) ?_
  refine WL.p rfl rfl rfl (PV.as rfl) ?_
  refine WL.next [(5, _), (8, _), (7, _), (4, _), (0, _), (1, _)] ⟨rfl, rfl, rfl, rfl, rfl, rfl, trivial⟩ ?_
  refine W.rseq ?_
  refine WL.p rfl rfl rfl (PV.mv rfl) ?_
  refine WL.p rfl rfl rfl (PV.mv rfl) ?_
  refine WL.p rfl rfl rfl (PV.mv rfl) ?_
  refine WL.p rfl rfl rfl (PV.ixN (by assumption) ul33 sz9 rfl rfl (by omega)) ?_
  refine WL.f rfl rfl rfl (FV.ld (LdD.sl1S 0 sc9 rfl rfl rfl (by omega))) ?_
  refine WL.putX rfl rfl rfl (OpX.callV hcb rfl (hf _ (hb _ (List.getElem_mem (by omega)))) rfl .nil) fun x16 => ?_
  refine WL.nm (H' := _ :: _) rfl ?_
  refine WL.next [(16, _), (5, _), (8, _), (7, _), (4, _), (0, _), (1, _)] ⟨rfl, rfl, rfl, rfl, rfl, rfl, rfl, trivial⟩ ?_
  refine W.cond rfl (fun h1 => ?_) (fun h1 => ?_)
  refine W.rseq ?_
  refine WL.p rfl rfl rfl (PV.mv rfl) ?_
  refine WL.p rfl rfl rfl (PV.as rfl) ?_
  refine WL.next [(4, _), (8, _), (7, _), (0, _), (1, _)] ⟨rfl, rfl, rfl, rfl, rfl, trivial⟩ ?_
  refine W.ret ?_
  refine K.retB ?_
  refine K.retT ?_
  refine K.retT ?_
  refine K.retB ?_
  refine K.retT ?_
  rotate_left
  refine W.skip ?_
  refine K.out ?_
  refine K.next [(8, _), (7, _), (4, _), (0, _), (1, _)] ⟨rfl, rfl, rfl, rfl, rfl, trivial⟩ ?_
  refine W.region ?_
  refine WL.p rfl rfl rfl (PV.add64 rfl rfl (by omega)) ?_
  refine WL.p rfl rfl rfl (PV.mv rfl) ?_
  refine WL.nil ?_
  rotate_left
  refine W.exit ?_
  refine K.exitT ?_
  refine K.exitT ?_
  refine K.exit ?_
  refine K.next [(4, _)] ⟨rfl, trivial⟩ ?_
  refine W.rseq ?_
  refine WL.p rfl rfl rfl (PV.as rfl) ?_
  refine WL.next [(4, _)] ⟨rfl, trivial⟩ ?_
  refine W.ret ?_
  rotate_left
  · refine K.fin (vs := [_]) () ⟨rfl, trivial⟩ ?_ ?_
    · show Value.int _ _ = Value.int _ _
      rw [findI_at (by omega) h1 ha]
    · refine Ent.keep 0 rfl (sl_pers _ _ _) ?_
      exact Ent.tail (Ent.refl _)
  · refine K.againP (k + 1) ⟨by omega, take_false (by omega) h1 ha⟩ (by omega) ⟨rfl, rfl, rfl, rfl, rfl, trivial⟩ ?_
    refine Ent.keep 0 rfl (sl_pers _ _ _) ?_
    exact Ent.tail (Ent.refl _)
  · refine K.fin (vs := [_]) () ⟨rfl, trivial⟩ ?_ ?_
    · show Value.int _ _ = Value.int _ _
      rw [findI_none (by rw [List.take_of_length_le (by omega)] at ha; exact ha)]
    · refine Ent.keep 0 rfl (sl_pers _ _ _) ?_
      exact Ent.tail (Ent.refl _)
theorem c201 {p : SP} {xs : List Bytes} {f : Nat} {c1 c2 : Array Value} (pred : Bytes → Bool) (hl : xs.length ≤ 2 ^ 40) (hcb : Cb P f) (hb : ∀ b, b ∈ xs → b.length < 2 ^ 62) (hf : ∀ b, b.length < 2 ^ 62 → Spec P f (c1.toList ++ [str b] ++ c2.toList) [] (fun _ : Unit => .bool (pred b)) (fun _ => [])) :
    Spec P 86 [p.v xs.length, .func (.func f) c1 c2] [sl Kstr p xs] (fun _ : Unit => .bool (xs.any pred)) (fun _ => [sl Kstr p xs]) := by
  refine Spec.intro Tryz.func86 rfl rfl rfl fun F => ?_
  refine W.rseq ?_
  refine WL.p rfl rfl rfl (PV.as rfl) ?_
  refine WL.next [(4, _), (0, _), (1, _)] ⟨rfl, rfl, rfl, trivial⟩ ?_
  refine W.rseq ?_
  refine WL.p rfl rfl rfl (PV.mv rfl) ?_
  refine WL.p rfl rfl rfl (PV.mv rfl) ?_
  refine WL.putX rfl rfl rfl (OpX.call cb270 (c270 _ (by first | omega | (simp only [List.length_append, List.length_cons, List.length_nil, List.length_take]; omega) | assumption) (by first | omega | (simp only [List.length_append, List.length_cons, List.length_nil, List.length_take]; omega) | assumption) (by first | omega | (simp only [List.length_append, List.length_cons, List.length_nil, List.length_take]; omega) | assumption) (by first | omega | (simp only [List.length_append, List.length_cons, List.length_nil, List.length_take]; omega) | assumption)) rfl (.cons (i := 0) rfl .nil)) fun x7 => ?_
  refine WL.nm (H' := _ :: _) rfl ?_
  refine WL.p rfl rfl rfl (PV.ge rfl rfl) ?_
  refine WL.p rfl rfl rfl (PV.as rfl) ?_
  refine WL.next [(4, _)] ⟨rfl, trivial⟩ ?_
  refine W.ret ?_
  rotate_left
  refine K.fin (vs := [_]) () ⟨rfl, trivial⟩ ?_ ?_
  · show Value.bool _ = Value.bool _
    rw [← findI_any]
  · refine Ent.keep 0 rfl (sl_pers _ _ _) ?_
    exact Ent.tail (Ent.refl _)
theorem c270' {p : SP} {xs : List Bytes} {f : Nat} {c1 c2 : Array Value} (pred : Bytes → Bool) (Φ : Bytes → Prop) (hl : xs.length ≤ 2 ^ 40) (hcb : Cb P f) (hb : ∀ b, b ∈ xs → Φ b) (hf : ∀ b, Φ b → Spec P f (c1.toList ++ [str b] ++ c2.toList) [] (fun _ : Unit => .bool (pred b)) (fun _ => [])) :
    Spec P 115 [p.v xs.length, .func (.func f) c1 c2] [sl Kstr p xs] (fun _ : Unit => .int .i64 (findI pred xs)) (fun _ => [sl Kstr p xs]) := by
  refine Spec.intro Tryz.func115 rfl rfl rfl fun F => ?_
  refine W.fact (sl_fact 0 rfl) fun hp => ?_
  refine W.rseq ?_
  refine WL.p rfl rfl rfl (PV.as rfl) ?_
  refine WL.next [(4, _), (0, _), (1, _)] ⟨rfl, rfl, rfl, trivial⟩ ?_
  refine W.seq ?_
  refine W.rseq ?_
  refine WL.p rfl rfl rfl (PV.mv rfl) ?_
  refine WL.p rfl rfl rfl (PV.lenL ul33 rfl rfl) ?_
  refine WL.p rfl rfl rfl (PV.mv rfl) ?_
  refine WL.next [(8, _), (7, _), (4, _), (0, _), (1, _)] ⟨rfl, rfl, rfl, rfl, rfl, trivial⟩ ?_
  refine W.block ?_
  rotate_left
  refine W.loopP (X := Nat) (fun k => k ≤ xs.length ∧ ∀ x, x ∈ xs.take k → pred x = false) (fun k => [(8, .int .i64 k), (7, .int .i64 xs.length), (4, .int .i64 0), (0, p.v xs.length), (1, .func (.func f) c1 c2)])
    (fun _ => sl Kstr p xs :: F) (fun k => xs.length - k) 0 ⟨Nat.zero_le _, by simp⟩ ⟨rfl, rfl, rfl, rfl, rfl, trivial⟩ (Ent.refl _) fun k hI => ?_
  have hk := hI.1; have ha := hI.2; clear hI
  refine W.rseq ?_
  refine WL.p rfl rfl rfl (PV.lt rfl rfl) ?_
  refine WL.next [(9, _), (8, _), (7, _), (4, _), (0, _), (1, _)] ⟨rfl, rfl, rfl, rfl, rfl, rfl, trivial⟩ ?_
  refine W.seq ?_
  refine W.condD rfl (fun h0 => ?_) (fun h0 => ?_)
  refine W.skip ?_
  refine K.next [(8, _), (7, _), (4, _), (0, _), (1, _)] ⟨rfl, rfl, rfl, rfl, rfl, trivial⟩ ?_
  refine W.bseq ?_
  refine W.rseq ?_
  refine WL.p rfl rfl rfl (PV.mv rfl) ?_
  refine WL.p rfl rfl rfl (PV.as rfl) ?_
  refine WL.next [(5, _), (8, _), (7, _), (4, _), (0, _), (1, _)] ⟨rfl, rfl, rfl, rfl, rfl, rfl, trivial⟩ ?_
  refine W.rseq ?_
  refine WL.p rfl rfl rfl (PV.mv rfl) ?_
  refine WL.p rfl rfl rfl (PV.mv rfl) ?_
  refine WL.p rfl rfl rfl (PV.mv rfl) ?_
  refine WL.p rfl rfl rfl (PV.ixN (by assumption) ul33 sz9 rfl rfl (by omega)) ?_
  refine WL.f rfl rfl rfl (FV.ld (LdD.sl1S 0 sc9 rfl rfl rfl (by omega))) ?_
  refine WL.putX rfl rfl rfl (OpX.callV hcb rfl (hf _ (hb _ (List.getElem_mem (by omega)))) rfl .nil) fun x16 => ?_
  refine WL.nm (H' := _ :: _) rfl ?_
  refine WL.next [(16, _), (5, _), (8, _), (7, _), (4, _), (0, _), (1, _)] ⟨rfl, rfl, rfl, rfl, rfl, rfl, rfl, trivial⟩ ?_
  refine W.cond rfl (fun h1 => ?_) (fun h1 => ?_)
  refine W.rseq ?_
  refine WL.p rfl rfl rfl (PV.mv rfl) ?_
  refine WL.p rfl rfl rfl (PV.as rfl) ?_
  refine WL.next [(4, _), (8, _), (7, _), (0, _), (1, _)] ⟨rfl, rfl, rfl, rfl, rfl, trivial⟩ ?_
  refine W.ret ?_
  refine K.retB ?_
  refine K.retT ?_
  refine K.retT ?_
  refine K.retB ?_
  refine K.retT ?_
  rotate_left
  refine W.skip ?_
  refine K.out ?_
  refine K.next [(8, _), (7, _), (4, _), (0, _), (1, _)] ⟨rfl, rfl, rfl, rfl, rfl, trivial⟩ ?_
  refine W.region ?_
  refine WL.p rfl rfl rfl (PV.add64 rfl rfl (by omega)) ?_
  refine WL.p rfl rfl rfl (PV.mv rfl) ?_
  refine WL.nil ?_
  rotate_left
  refine W.exit ?_
  refine K.exitT ?_
  refine K.exitT ?_
  refine K.exit ?_
  refine K.next [(4, _)] ⟨rfl, trivial⟩ ?_
  refine W.rseq ?_
  refine WL.p rfl rfl rfl (PV.as rfl) ?_
  refine WL.next [(4, _)] ⟨rfl, trivial⟩ ?_
  refine W.ret ?_
  rotate_left
  · refine K.fin (vs := [_]) () ⟨rfl, trivial⟩ ?_ ?_
    · show Value.int _ _ = Value.int _ _
      rw [findI_at (by omega) h1 ha]
    · refine Ent.keep 0 rfl (sl_pers _ _ _) ?_
      exact Ent.tail (Ent.refl _)
  · refine K.againP (k + 1) ⟨by omega, take_false (by omega) h1 ha⟩ (by omega) ⟨rfl, rfl, rfl, rfl, rfl, trivial⟩ ?_
    refine Ent.keep 0 rfl (sl_pers _ _ _) ?_
    exact Ent.tail (Ent.refl _)
  · refine K.fin (vs := [_]) () ⟨rfl, trivial⟩ ?_ ?_
    · show Value.int _ _ = Value.int _ _
      rw [findI_none (by rw [List.take_of_length_le (by omega)] at ha; exact ha)]
    · refine Ent.keep 0 rfl (sl_pers _ _ _) ?_
      exact Ent.tail (Ent.refl _)
theorem c201' {p : SP} {xs : List Bytes} {f : Nat} {c1 c2 : Array Value} (pred : Bytes → Bool) (Φ : Bytes → Prop) (hl : xs.length ≤ 2 ^ 40) (hcb : Cb P f) (hb : ∀ b, b ∈ xs → Φ b) (hf : ∀ b, Φ b → Spec P f (c1.toList ++ [str b] ++ c2.toList) [] (fun _ : Unit => .bool (pred b)) (fun _ => [])) :
    Spec P 86 [p.v xs.length, .func (.func f) c1 c2] [sl Kstr p xs] (fun _ : Unit => .bool (xs.any pred)) (fun _ => [sl Kstr p xs]) := by
  refine Spec.intro Tryz.func86 rfl rfl rfl fun F => ?_
  have c270h := c270' pred Φ hl hcb hb hf (p := p)
  refine W.rseq ?_
  refine WL.p rfl rfl rfl (PV.as rfl) ?_
  refine WL.next [(4, _), (0, _), (1, _)] ⟨rfl, rfl, rfl, trivial⟩ ?_
  refine W.rseq ?_
  refine WL.p rfl rfl rfl (PV.mv rfl) ?_
  refine WL.p rfl rfl rfl (PV.mv rfl) ?_
  refine WL.putX rfl rfl rfl (OpX.call cb270 (c270h) rfl (.cons (i := 0) rfl .nil)) fun x7 => ?_
  refine WL.nm (H' := _ :: _) rfl ?_
  refine WL.p rfl rfl rfl (PV.ge rfl rfl) ?_
  refine WL.p rfl rfl rfl (PV.as rfl) ?_
  refine WL.next [(4, _)] ⟨rfl, trivial⟩ ?_
  refine W.ret ?_
  rotate_left
  refine K.fin (vs := [_]) () ⟨rfl, trivial⟩ ?_ ?_
  · show Value.bool _ = Value.bool _
    rw [← findI_any]
  · refine Ent.keep 0 rfl (sl_pers _ _ _) ?_
    exact Ent.tail (Ent.refl _)
theorem c268 {p : SP} {xs : List Int} {f : Nat} {c1 c2 : Array Value} (pred : Int → Bool) (hl : xs.length ≤ 2 ^ 40) (hcb : Cb P f) (hf : ∀ b, Spec P f (c1.toList ++ [.int .i64 b] ++ c2.toList) [] (fun _ : Unit => .bool (pred b)) (fun _ => [])) :
    Spec P 113 [p.v xs.length, .func (.func f) c1 c2] [sl (Kint .i64) p xs] (fun _ : Unit => .int .i64 (findI pred xs)) (fun _ => [sl (Kint .i64) p xs]) := by
  refine Spec.intro Tryz.func113 rfl rfl rfl fun F => ?_
  refine W.fact (sl_fact 0 rfl) fun hp => ?_
  refine W.rseq ?_
  refine WL.p rfl rfl rfl (PV.as rfl) ?_
  refine WL.next [(4, _), (0, _), (1, _)] ⟨rfl, rfl, rfl, trivial⟩ ?_
  refine W.seq ?_
  refine W.rseq ?_
  refine WL.p rfl rfl rfl (PV.mv rfl) ?_
  refine WL.p rfl rfl rfl (PV.lenL ul32 rfl rfl) ?_
  refine WL.p rfl rfl rfl (PV.mv rfl) ?_
  refine WL.next [(8, _), (7, _), (4, _), (0, _), (1, _)] ⟨rfl, rfl, rfl, rfl, rfl, trivial⟩ ?_
  refine W.block ?_
  rotate_left
  refine W.loopP (X := Nat) (fun k => k ≤ xs.length ∧ ∀ x, x ∈ xs.take k → pred x = false) (fun k => [(8, .int .i64 k), (7, .int .i64 xs.length), (4, .int .i64 0), (0, p.v xs.length), (1, .func (.func f) c1 c2)])
    (fun _ => sl (Kint .i64) p xs :: F) (fun k => xs.length - k) 0 ⟨Nat.zero_le _, by simp⟩ ⟨rfl, rfl, rfl, rfl, rfl, trivial⟩ (Ent.refl _) fun k hI => ?_
  have hk := hI.1; have ha := hI.2; clear hI
  refine W.rseq ?_
  refine WL.p rfl rfl rfl (PV.lt rfl rfl) ?_
  refine WL.next [(9, _), (8, _), (7, _), (4, _), (0, _), (1, _)] ⟨rfl, rfl, rfl, rfl, rfl, rfl, trivial⟩ ?_
  refine W.seq ?_
  refine W.condD rfl (fun h0 => ?_) (fun h0 => ?_)
  refine W.skip ?_
  refine K.next [(8, _), (7, _), (4, _), (0, _), (1, _)] ⟨rfl, rfl, rfl, rfl, rfl, trivial⟩ ?_
  refine W.bseq ?_
  refine W.rseq ?_
  refine WL.p rfl rfl rfl (PV.mv rfl) ?_
  refine WL.p rfl rfl rfl (PV.as rfl) ?_
  refine WL.next [(5, _), (8, _), (7, _), (4, _), (0, _), (1, _)] ⟨rfl, rfl, rfl, rfl, rfl, rfl, trivial⟩ ?_
  refine W.rseq ?_
  refine WL.p rfl rfl rfl (PV.mv rfl) ?_
  refine WL.p rfl rfl rfl (PV.mv rfl) ?_
  refine WL.p rfl rfl rfl (PV.mv rfl) ?_
  refine WL.p rfl rfl rfl (PV.ixN (by assumption) ul32 sz3 rfl rfl (by omega)) ?_
  refine WL.f rfl rfl rfl (FV.ld (LdD.sl1I 0 sc3 rfl rfl rfl (by omega))) ?_
  refine WL.putX rfl rfl rfl (OpX.callV hcb rfl (hf _) rfl .nil) fun x16 => ?_
  refine WL.nm (H' := _ :: _) rfl ?_
  refine WL.next [(16, _), (5, _), (8, _), (7, _), (4, _), (0, _), (1, _)] ⟨rfl, rfl, rfl, rfl, rfl, rfl, rfl, trivial⟩ ?_
  refine W.cond rfl (fun h1 => ?_) (fun h1 => ?_)
  refine W.rseq ?_
  refine WL.p rfl rfl rfl (PV.mv rfl) ?_
  refine WL.p rfl rfl rfl (PV.as rfl) ?_
  refine WL.next [(4, _), (8, _), (7, _), (0, _), (1, _)] ⟨rfl, rfl, rfl, rfl, rfl, trivial⟩ ?_
  refine W.ret ?_
  refine K.retB ?_
  refine K.retT ?_
  refine K.retT ?_
  refine K.retB ?_
  refine K.retT ?_
  rotate_left
  refine W.skip ?_
  refine K.out ?_
  refine K.next [(8, _), (7, _), (4, _), (0, _), (1, _)] ⟨rfl, rfl, rfl, rfl, rfl, trivial⟩ ?_
  refine W.region ?_
  refine WL.p rfl rfl rfl (PV.add64 rfl rfl (by omega)) ?_
  refine WL.p rfl rfl rfl (PV.mv rfl) ?_
  refine WL.nil ?_
  rotate_left
  refine W.exit ?_
  refine K.exitT ?_
  refine K.exitT ?_
  refine K.exit ?_
  refine K.next [(4, _)] ⟨rfl, trivial⟩ ?_
  refine W.rseq ?_
  refine WL.p rfl rfl rfl (PV.as rfl) ?_
  refine WL.next [(4, _)] ⟨rfl, trivial⟩ ?_
  refine W.ret ?_
  rotate_left
  · refine K.fin (vs := [_]) () ⟨rfl, trivial⟩ ?_ ?_
    · show Value.int _ _ = Value.int _ _
      rw [findI_at (by omega) h1 ha]
    · refine Ent.keep 0 rfl (sl_pers _ _ _) ?_
      exact Ent.tail (Ent.refl _)
  · refine K.againP (k + 1) ⟨by omega, take_false (by omega) h1 ha⟩ (by omega) ⟨rfl, rfl, rfl, rfl, rfl, trivial⟩ ?_
    refine Ent.keep 0 rfl (sl_pers _ _ _) ?_
    exact Ent.tail (Ent.refl _)
  · refine K.fin (vs := [_]) () ⟨rfl, trivial⟩ ?_ ?_
    · show Value.int _ _ = Value.int _ _
      rw [findI_none (by rw [List.take_of_length_le (by omega)] at ha; exact ha)]
    · refine Ent.keep 0 rfl (sl_pers _ _ _) ?_
      exact Ent.tail (Ent.refl _)
theorem c197 {p : SP} {xs : List Int} {f : Nat} {c1 c2 : Array Value} (pred : Int → Bool) (hl : xs.length ≤ 2 ^ 40) (hcb : Cb P f) (hf : ∀ b, Spec P f (c1.toList ++ [.int .i64 b] ++ c2.toList) [] (fun _ : Unit => .bool (pred b)) (fun _ => [])) :
    Spec P 82 [p.v xs.length, .func (.func f) c1 c2] [sl (Kint .i64) p xs] (fun _ : Unit => .bool (xs.any pred)) (fun _ => [sl (Kint .i64) p xs]) := by
  refine Spec.intro Tryz.func82 rfl rfl rfl fun F => ?_
  refine W.rseq ?_
  refine WL.p rfl rfl rfl (PV.as rfl) ?_
  refine WL.next [(4, _), (0, _), (1, _)] ⟨rfl, rfl, rfl, trivial⟩ ?_
  refine W.rseq ?_
  refine WL.p rfl rfl rfl (PV.mv rfl) ?_
  refine WL.p rfl rfl rfl (PV.mv rfl) ?_
  refine WL.putX rfl rfl rfl (OpX.call cb268 (c268 _ (by first | omega | (simp only [List.length_append, List.length_cons, List.length_nil, List.length_take]; omega) | assumption) (by first | omega | (simp only [List.length_append, List.length_cons, List.length_nil, List.length_take]; omega) | assumption) (by first | omega | (simp only [List.length_append, List.length_cons, List.length_nil, List.length_take]; omega) | assumption)) rfl (.cons (i := 0) rfl .nil)) fun x7 => ?_
  refine WL.nm (H' := _ :: _) rfl ?_
  refine WL.p rfl rfl rfl (PV.ge rfl rfl) ?_
  refine WL.p rfl rfl rfl (PV.as rfl) ?_
  refine WL.next [(4, _)] ⟨rfl, trivial⟩ ?_
  refine W.ret ?_
  rotate_left
  refine K.fin (vs := [_]) () ⟨rfl, trivial⟩ ?_ ?_
  · show Value.bool _ = Value.bool _
    rw [← findI_any]
  · refine Ent.keep 0 rfl (sl_pers _ _ _) ?_
    exact Ent.tail (Ent.refl _)
end Go.Sl
/-! Texts that are cut at a byte. -/
namespace Go.Sl
open Go
def splitB (c : UInt8) : Bytes → List Bytes
  | [] => [[]]
  | b :: s => if b = c then [] :: splitB c s else match splitB c s with
    | p :: ps => (b :: p) :: ps
    | [] => [[b]]
theorem splitB_ne (c : UInt8) : ∀ s, splitB c s ≠ []
  | [] => by simp [splitB]
  | b :: s => by
    unfold splitB
    split
    · simp
    · split <;> simp
theorem idxB_nil (c : UInt8) : idxB [] c = -1 := rfl
theorem idxB_cons (b : UInt8) (s : Bytes) (c : UInt8) : idxB (b :: s) c = if b = c then 0 else if idxB s c < 0 then -1 else idxB s c + 1 := by
  unfold idxB
  rw [List.findIdx?_cons]
  by_cases h : b = c
  · simp [h]
  · have h' : (b == c) = false := by simpa using h
    simp only [h', h, if_false, Bool.false_eq_true]
    cases h2 : s.findIdx? (· == c) with
    | none => simp
    | some k => 
      simp only [Option.map_some]
      rw [if_neg (by omega)]; simp
theorem idxB_ge (s : Bytes) (c : UInt8) : -1 ≤ idxB s c := by
  unfold idxB; split <;> omega
theorem idxB_lt (s : Bytes) (c : UInt8) : idxB s c < s.length := by
  induction s with
  | nil => rw [idxB_nil]; simp
  | cons b s ih =>
    rw [idxB_cons]
    split
    · simp
    · split <;> (simp <;> omega)
theorem idxB_neg {c : UInt8} : ∀ {s : Bytes}, idxB s c < 0 → s.count c = 0 ∧ splitB c s = [s]
  | [], _ => ⟨rfl, rfl⟩
  | b :: s, h => by
    rw [idxB_cons] at h
    split at h
    · omega
    · next hb =>
      have h2 : idxB s c < 0 := by
        by_cases h3 : idxB s c < 0
        · exact h3
        · rw [if_neg h3] at h; omega
      obtain ⟨h4, h5⟩ := idxB_neg h2
      refine ⟨by rw [List.count_cons, h4]; simp [hb], ?_⟩
      unfold splitB
      rw [if_neg hb, h5]
theorem idxB_pos {c : UInt8} : ∀ {s : Bytes} {m : Nat}, idxB s c = m → m < s.length ∧ s.count c = (s.drop (m + 1)).count c + 1 ∧ splitB c s = s.take m :: splitB c (s.drop (m + 1)) ∧ s[m]? = some c ∧ (s.take m).count c = 0
  | [], m, h => by rw [idxB_nil] at h; omega
  | b :: s, m, h => by
    rw [idxB_cons] at h
    split at h
    · next hb =>
      have hm : m = 0 := by omega
      subst hm
      refine ⟨by simp, ?_, ?_, by simp [hb], by simp⟩
      · simp [hb]
      · show splitB c (b :: s) = _
        rw [splitB, if_pos hb]; simp
    · next hb =>
      by_cases h3 : idxB s c < 0
      · rw [if_pos h3] at h; omega
      · rw [if_neg h3] at h
        have hge := idxB_ge s c
        obtain ⟨k, rfl⟩ : ∃ k, m = k + 1 := ⟨m - 1, by omega⟩
        obtain ⟨h4, h5, h6, h7, h8⟩ := idxB_pos (c := c) (s := s) (m := k) (by omega)
        refine ⟨by simp; omega, ?_, ?_, by simpa using h7, ?_⟩
        · rw [List.count_cons, h5]; simp [hb]
        · rw [splitB, if_neg hb, h6]; simp
        · rw [List.take_succ_cons, List.count_cons, h8]; simp [hb]
theorem splitB_len (c : UInt8) : ∀ (s : Bytes), (splitB c s).length = s.count c + 1
  | [] => rfl
  | b :: s => by
    have ih := splitB_len c s
    unfold splitB
    split
    · next hb => rw [List.length_cons, ih, List.count_cons]; simp [hb]
    · next hb =>
      have hne := splitB_ne c s
      revert ih hne
      cases splitB c s with
      | nil => intro _ h; exact absurd rfl h
      | cons p ps => intro ih _; simp only [List.length_cons] at ih ⊢; rw [ih, List.count_cons]; simp [hb]
theorem splitB_mem (c : UInt8) : ∀ (s : Bytes) (p : Bytes), p ∈ splitB c s → p.length ≤ s.length
  | [], p, h => by simp [splitB] at h; subst h; simp
  | b :: s, p, h => by
    unfold splitB at h
    split at h
    · rcases List.mem_cons.1 h with rfl | h
      · simp
      · have := splitB_mem c s p h; simp; omega
    · have ih := splitB_mem c s
      revert ih h
      cases splitB c s with
      | nil => intro h _; simp at h; subst h; simp
      | cons q qs =>
        intro h ih
        simp only at h
        rcases List.mem_cons.1 h with rfl | h
        · have := ih q (by simp); simp; omega
        · have := ih p (by simp [h]); simp; omega
theorem set_rep {done : List Bytes} {N : Nat} (h : 0 < N) (x : Bytes) : (done ++ List.replicate N ([] : Bytes)).set done.length x = (done ++ [x]) ++ List.replicate (N - 1) [] := by
  obtain ⟨n, rfl⟩ : ∃ n, N = n + 1 := ⟨N - 1, by omega⟩
  rw [List.set_append_right _ _ (Nat.le_refl _), Nat.sub_self, List.replicate_succ, List.set_cons_zero]; simp
theorem splitB_zero {c : UInt8} {s : Bytes} (h : s.count c = 0) : splitB c s = [s] := by
  by_cases h1 : idxB s c < 0
  · exact (idxB_neg h1).2
  · have h2 := idxB_pos (c := c) (s := s) (m := (idxB s c).toNat) (by omega)
    omega
end Go.Sl
/-! Texts that are cut at a byte. -/
namespace Go.Sl
open Go Go.Proofs
set_option maxRecDepth 20000
theorem c306 {s : Bytes} {c : UInt8} : Spec P 210 [str s, str [c]] [] (fun _ : Unit => .int .i64 (idxB s c)) (fun _ => []) := by
  refine Spec.intro Tryz.func210 rfl rfl rfl fun F => ?_
  refine W.rseq ?_
  refine WL.p rfl rfl rfl (PV.as rfl) ?_
  refine WL.next [(4, _), (0, _), (1, _)] ⟨rfl, rfl, rfl, trivial⟩ ?_
  refine W.rseq ?_
  refine WL.p rfl rfl rfl (PV.mv rfl) ?_
  refine WL.p rfl rfl rfl (PV.lenS ul9 rfl rfl) ?_
  refine WL.p rfl rfl rfl (PV.as rfl) ?_
  refine WL.next [(5, _), (4, _), (0, _), (1, _)] ⟨rfl, rfl, rfl, rfl, trivial⟩ ?_
  refine W.bseq ?_
  refine W.rseq ?_
  refine WL.p rfl rfl rfl (PV.mv rfl) ?_
  refine WL.p rfl rfl rfl (PV.eqI rfl rfl) ?_
  refine WL.p rfl rfl rfl (PV.mv rfl) ?_
  refine WL.yes (dj := 19) rfl rfl rfl rfl rfl rfl (OpD.fv (PV.fv (PV.mv rfl))) ?_
  refine WL.yes (dj := 19) rfl rfl rfl rfl rfl rfl (OpD.fv (PV.fv (PV.mv rfl))) ?_
  refine WL.yes (dj := 19) rfl rfl rfl rfl rfl rfl (OpD.fv (PV.fv (PV.eqS rfl rfl))) ?_
  refine WL.p rfl rfl rfl (PV.pickF rfl rfl rfl) ?_
  refine WL.p rfl rfl rfl (PV.as rfl) ?_
  refine WL.next [(16, _), (5, _), (4, _), (0, _), (1, _)] ⟨rfl, rfl, rfl, rfl, rfl, trivial⟩ ?_
  refine W.condD rfl (fun h0 => ?_) (fun h0 => ?_)
  refine W.rseq ?_
  refine WL.p rfl rfl rfl (PV.as rfl) ?_
  refine WL.next [(4, _), (5, _), (0, _), (1, _)] ⟨rfl, rfl, rfl, rfl, trivial⟩ ?_
  refine W.ret ?_
  refine K.retB ?_
  refine K.retT ?_
  rotate_left
  refine W.rseq ?_
  refine WL.p rfl rfl rfl (PV.mv rfl) ?_
  refine WL.p rfl rfl rfl (PV.eqI rfl rfl) ?_
  refine WL.p rfl rfl rfl (PV.as rfl) ?_
  refine WL.next [(24, _), (5, _), (4, _), (0, _), (1, _)] ⟨rfl, rfl, rfl, rfl, rfl, trivial⟩ ?_
  refine W.condD rfl (fun h1 => ?_) (fun h1 => ?_)
  refine W.rseq ?_
  refine WL.p rfl rfl rfl (PV.mv rfl) ?_
  refine WL.p rfl rfl rfl (PV.mv rfl) ?_
  refine WL.p rfl rfl rfl (PV.atN (j := 0) ul9 rfl rfl (by omega)) ?_
  refine WL.putX rfl rfl rfl (OpX.call cb323 (c323) rfl .nil) fun x30 => ?_
  refine WL.nm (H' := _) rfl ?_
  refine WL.p rfl rfl rfl (PV.as rfl) ?_
  refine WL.next [(4, _), (5, _), (0, _), (1, _)] ⟨rfl, rfl, rfl, rfl, trivial⟩ ?_
  refine W.ret ?_
  refine K.retB ?_
  refine K.retT ?_
  rotate_left
  refine W.rseq ?_
  refine WL.p rfl rfl rfl (PV.mv rfl) ?_
  refine WL.p rfl rfl rfl (PV.mv rfl) ?_
  refine WL.p rfl rfl rfl (PV.lenS ul9 rfl rfl) ?_
  refine WL.p rfl rfl rfl (PV.ge rfl rfl) ?_
  refine WL.p rfl rfl rfl (PV.as rfl) ?_
  refine WL.next [(31, _), (5, _), (4, _), (0, _), (1, _)] ⟨rfl, rfl, rfl, rfl, rfl, trivial⟩ ?_
  refine W.condD rfl (fun h2 => ?_) (fun h2 => ?_)
  refine W.rseq ?_
  refine WL.p rfl rfl rfl (PV.as rfl) ?_
  refine WL.next [(4, _), (5, _), (0, _), (1, _)] ⟨rfl, rfl, rfl, rfl, trivial⟩ ?_
  refine W.ret ?_
  refine K.retB ?_
  refine K.retT ?_
  rotate_left
  refine W.rseq ?_
  refine WL.p rfl rfl rfl (PV.mv rfl) ?_
  rotate_left
  · refine K.fin (vs := [_]) () ⟨rfl, trivial⟩ ?_ (Ent.refl _)
    rw [← h0, idxB_cons, if_pos rfl]; rfl
  · exact K.fin (vs := [_]) () ⟨rfl, trivial⟩ rfl (Ent.refl _)
  · exact absurd rfl h1
  · exact absurd rfl h1
theorem c361 {s : Bytes} {c : UInt8} : Spec P 228 [str s, str [c]] [] (fun _ : Unit => .int .i64 (idxB s c)) (fun _ => []) := by
  refine Spec.intro Tryz.func228 rfl rfl rfl fun F => ?_
  refine W.rseq ?_
  refine WL.p rfl rfl rfl (PV.as rfl) ?_
  refine WL.next [(4, _), (0, _), (1, _)] ⟨rfl, rfl, rfl, trivial⟩ ?_
  refine W.rseq ?_
  refine WL.p rfl rfl rfl (PV.mv rfl) ?_
  refine WL.p rfl rfl rfl (PV.mv rfl) ?_
  refine WL.putX rfl rfl rfl (OpX.call cb306 (c306) rfl .nil) fun x7 => ?_
  refine WL.nm (H' := _) rfl ?_
  refine WL.p rfl rfl rfl (PV.as rfl) ?_
  refine WL.next [(4, _)] ⟨rfl, trivial⟩ ?_
  refine W.ret ?_
  rotate_left
  exact K.fin (vs := [_]) () ⟨rfl, trivial⟩ rfl (Ent.refl _)
theorem c360 {s : Bytes} {c : UInt8} : Spec P 227 [str s, str [c]] [] (fun _ : Unit => .int .i64 (s.count c)) (fun _ => []) := by
  refine Spec.intro Tryz.func227 rfl rfl rfl fun F => ?_
  refine W.rseq ?_
  refine WL.p rfl rfl rfl (PV.as rfl) ?_
  refine WL.next [(4, _), (0, _), (1, _)] ⟨rfl, rfl, rfl, trivial⟩ ?_
  refine W.seq ?_
  refine W.rseq ?_
  refine WL.p rfl rfl rfl (PV.mv rfl) ?_
  refine WL.p rfl rfl rfl (PV.lenS ul9 rfl rfl) ?_
  refine WL.p rfl rfl rfl (PV.eqI rfl rfl) ?_
  refine WL.next [(9, _), (4, _), (0, _), (1, _)] ⟨rfl, rfl, rfl, rfl, trivial⟩ ?_
  refine W.condD rfl (fun h0 => ?_) (fun h0 => ?_)
  refine W.rseq ?_
  refine WL.p rfl rfl rfl (PV.mv rfl) ?_
  rotate_left
  refine W.skip ?_
  refine K.next [(4, _), (0, _), (1, _)] ⟨rfl, rfl, rfl, trivial⟩ ?_
  refine W.seq ?_
  refine W.rseq ?_
  refine WL.p rfl rfl rfl (PV.mv rfl) ?_
  refine WL.p rfl rfl rfl (PV.lenS ul9 rfl rfl) ?_
  refine WL.p rfl rfl rfl (PV.eqI rfl rfl) ?_
  refine WL.next [(15, _), (4, _), (0, _), (1, _)] ⟨rfl, rfl, rfl, rfl, trivial⟩ ?_
  refine W.condD rfl (fun h1 => ?_) (fun h1 => ?_)
  refine W.rseq ?_
  refine WL.p rfl rfl rfl (PV.mv rfl) ?_
  refine WL.p rfl rfl rfl (PV.mv rfl) ?_
  refine WL.p rfl rfl rfl (PV.atN (j := 0) ul9 rfl rfl (by omega)) ?_
  refine WL.p rfl rfl rfl (PV.cntB xt422 rfl) ?_
  refine WL.p rfl rfl rfl (PV.as rfl) ?_
  refine WL.next [(4, _), (0, _), (1, _)] ⟨rfl, rfl, rfl, trivial⟩ ?_
  refine W.ret ?_
  refine K.retT ?_
  rotate_left
  refine W.skip ?_
  refine K.next [(4, _), (0, _), (1, _)] ⟨rfl, rfl, rfl, trivial⟩ ?_
  refine W.rseq ?_
  refine WL.p rfl rfl rfl (PV.as rfl) ?_
  refine WL.next [(5, _), (4, _), (0, _), (1, _)] ⟨rfl, rfl, rfl, rfl, trivial⟩ ?_
  refine W.block ?_
  rotate_left
  · exact absurd h0 (by simp)
  · exact K.fin (vs := [_]) () ⟨rfl, trivial⟩ rfl (Ent.refl _)
  · exact absurd rfl h1
theorem c292 {s : Bytes} {c : UInt8} (hs : s.length ≤ 2 ^ 40) : Spec P 212 [str s, str [c], .int .i64 0, .int .i64 (-1)] [] (fun q : SP => q.v (splitB c s).length) (fun q => [sl Kstr q (splitB c s)]) := by
  have hcl : s.count c ≤ s.length := List.count_le_length
  refine Spec.intro Tryz.func212 rfl rfl rfl fun F => ?_
  refine W.rseq ?_
  refine WL.p rfl rfl rfl (PV.as rfl) ?_
  refine WL.next [(8, _), (0, _), (1, _), (2, _), (3, _)] ⟨rfl, rfl, rfl, rfl, rfl, trivial⟩ ?_
  refine W.seq ?_
  refine W.rseq ?_
  refine WL.p rfl rfl rfl (PV.mv rfl) ?_
  refine WL.p rfl rfl rfl (PV.eqI rfl rfl) ?_
  refine WL.next [(13, _), (8, _), (0, _), (1, _), (2, _), (3, _)] ⟨rfl, rfl, rfl, rfl, rfl, rfl, trivial⟩ ?_
  refine W.cF rfl ?_
  refine W.skip ?_
  refine K.next [(8, _), (0, _), (1, _), (2, _), (3, _)] ⟨rfl, rfl, rfl, rfl, rfl, trivial⟩ ?_
  refine W.seq ?_
  refine W.rseq ?_
  refine WL.p rfl rfl rfl (PV.mv rfl) ?_
  refine WL.p rfl rfl rfl (PV.eqS rfl rfl) ?_
  refine WL.next [(15, _), (8, _), (0, _), (1, _), (2, _), (3, _)] ⟨rfl, rfl, rfl, rfl, rfl, rfl, trivial⟩ ?_
  refine W.condD rfl (fun h0 => ?_) (fun h0 => ?_)
  refine W.rseq ?_
  refine WL.p rfl rfl rfl (PV.mv rfl) ?_
  refine WL.p rfl rfl rfl (PV.mv rfl) ?_
  rotate_left
  refine W.skip ?_
  refine K.next [(8, _), (0, _), (1, _), (2, _), (3, _)] ⟨rfl, rfl, rfl, rfl, rfl, trivial⟩ ?_
  refine W.seq ?_
  refine W.rseq ?_
  refine WL.p rfl rfl rfl (PV.mv rfl) ?_
  refine WL.p rfl rfl rfl (PV.lt rfl rfl) ?_
  refine WL.next [(20, _), (8, _), (0, _), (1, _), (2, _), (3, _)] ⟨rfl, rfl, rfl, rfl, rfl, rfl, trivial⟩ ?_
  refine W.cT rfl ?_
  refine W.region ?_
  refine WL.p rfl rfl rfl (PV.mv rfl) ?_
  refine WL.p rfl rfl rfl (PV.mv rfl) ?_
  refine WL.putX rfl rfl rfl (OpX.call cb360 (c360) rfl .nil) fun x23 => ?_
  refine WL.nm (H' := _) rfl ?_
  refine WL.p rfl rfl rfl (PV.add64 rfl rfl (by omega)) ?_
  refine WL.p rfl rfl rfl (PV.as rfl) ?_
  refine WL.next [(3, _), (8, _), (0, _), (1, _), (2, _)] ⟨rfl, rfl, rfl, rfl, rfl, trivial⟩ ?_
  refine W.rseq ?_
  refine WL.p rfl rfl rfl (PV.mv rfl) ?_
  refine WL.p rfl rfl rfl (PV.mv rfl) ?_
  refine WL.p rfl rfl rfl (PV.lenS ul9 rfl rfl) ?_
  refine WL.p rfl rfl rfl (PV.add64 rfl rfl (by omega)) ?_
  refine WL.p rfl rfl rfl (PV.min2 rfl rfl) ?_
  refine WL.p rfl rfl rfl (PV.as rfl) ?_
  refine WL.next [(3, _), (8, _), (0, _), (1, _), (2, _)] ⟨rfl, rfl, rfl, rfl, rfl, trivial⟩ ?_
  refine W.rseq ?_
  refine WL.p rfl rfl rfl (PV.mv rfl) ?_
  rotate_left
  · exact absurd h0 (by simp)
  · rw [show min ((s.count c : Int) + 1) ((s.length : Int) + 1) = ((s.count c + 1 : Nat) : Int) by omega]
    refine WL.putX rfl rfl rfl (OpX.mks (K := Kstr) (z0 := ([] : List UInt8)) (q0 := ()) slt33 zr9 rfl rfl rfl (by omega) (by omega) (by omega)) fun x31 => ?_
    refine WL.nm (H' := _ :: _) rfl ?_
    refine WL.p rfl rfl rfl (PV.as rfl) ?_
    refine WL.next [(9, _), (3, _), (8, _), (0, _), (1, _), (2, _)] ⟨rfl, rfl, rfl, rfl, rfl, rfl, trivial⟩ ?_
    refine W.rseq ?_
    refine WL.p rfl rfl rfl (PV.mv rfl) ?_
    refine WL.p rfl rfl rfl (PV.sub64 rfl rfl (by omega)) ?_
    refine WL.p rfl rfl rfl (PV.as rfl) ?_
    refine WL.next [(3, _), (9, _), (8, _), (0, _), (1, _), (2, _)] ⟨rfl, rfl, rfl, rfl, rfl, rfl, trivial⟩ ?_
    refine W.rseq ?_
    refine WL.p rfl rfl rfl (PV.as rfl) ?_
    refine WL.next [(10, _), (3, _), (9, _), (8, _), (0, _), (1, _), (2, _)] ⟨rfl, rfl, rfl, rfl, rfl, rfl, rfl, trivial⟩ ?_
    refine W.bseq ?_
    rotate_left
    refine W.loopP2 (fun (done : List Bytes) (rest : Bytes) => splitB c s = done ++ splitB c rest ∧ done.length + rest.count c = s.count c ∧ rest.length ≤ s.length)
      (fun done rest => [(10, .int .i64 done.length), (9, x31.v (s.count c + 1)), (3, .int .i64 (s.count c : Int)), (2, .int .i64 0), (1, str [c]), (0, str rest)])
      (fun done rest => own Kstr x31 (done ++ List.replicate (s.count c + 1 - done.length) []) :: F) (fun done _ => s.count c - done.length) [] s ⟨rfl, by simp, Nat.le_refl _⟩
      ⟨rfl, rfl, by rw [show (s.count c : Int) = ((s.count c + 1 : Nat) : Int) - 1 by omega]; rfl, rfl, rfl, rfl, trivial⟩ ?_ fun done rest hI => ?_
    · refine Ent.take 0 rfl ?_
      exact Ent.refl _
    · obtain ⟨i1, i2, i3⟩ := hI
      have hge := idxB_ge rest c
      have hlt := idxB_lt rest c
      have hl1 : ([c] : Bytes).length = 1 := rfl
      have hol : (done ++ List.replicate (s.count c + 1 - done.length) ([] : Bytes)).length = s.count c + 1 := by simp; omega
      refine W.fact (own_fact 0 rfl) fun hp => ?_
      rw [hol] at hp
      refine W.seq ?_
      refine W.rseq ?_
      refine WL.p rfl rfl rfl (PV.mv rfl) ?_
      refine WL.p rfl rfl rfl (PV.mv rfl) ?_
      refine WL.p rfl rfl rfl (PV.lt rfl rfl) ?_
      refine WL.next [(36, _), (10, _), (9, _), (3, _), (2, _), (1, _), (0, _)] ⟨rfl, rfl, rfl, rfl, rfl, rfl, rfl, trivial⟩ ?_
      refine W.condD rfl (fun h0 => ?_) (fun h0 => ?_)
      refine W.skip ?_
      refine K.next [(10, _), (9, _), (3, _), (2, _), (1, _), (0, _)] ⟨rfl, rfl, rfl, rfl, rfl, rfl, trivial⟩ ?_
      refine W.block ?_
      refine W.rseq ?_
      refine WL.p rfl rfl rfl (PV.mv rfl) ?_
      refine WL.p rfl rfl rfl (PV.mv rfl) ?_
      refine WL.putX rfl rfl rfl (OpX.call cb361 (c361) rfl .nil) fun x39 => ?_
      refine WL.nm (H' := _ :: _) rfl ?_
      refine WL.p rfl rfl rfl (PV.as rfl) ?_
      refine WL.next [(11, _), (10, _), (9, _), (3, _), (2, _), (1, _), (0, _)] ⟨rfl, rfl, rfl, rfl, rfl, rfl, rfl, trivial⟩ ?_
      refine W.seq ?_
      refine W.rseq ?_
      refine WL.p rfl rfl rfl (PV.mv rfl) ?_
      refine WL.p rfl rfl rfl (PV.lt rfl rfl) ?_
      refine WL.next [(41, _), (11, _), (10, _), (9, _), (3, _), (2, _), (1, _), (0, _)] ⟨rfl, rfl, rfl, rfl, rfl, rfl, rfl, rfl, trivial⟩ ?_
      refine W.condD rfl (fun h1 => ?_) (fun h1 => ?_)
      refine W.exit ?_
      refine K.exitT ?_
      refine K.exitB rfl ?_
      refine K.exitT ?_
      refine K.exit ?_
      refine K.next [(10, _), (9, _), (0, _)] ⟨rfl, rfl, rfl, trivial⟩ ?_
      refine W.rseq ?_
      refine WL.p rfl rfl rfl (PV.mv rfl) ?_
      refine WL.p rfl rfl rfl (PV.mv rfl) ?_
      refine WL.p rfl rfl rfl (PV.mv rfl) ?_
      refine WL.p rfl rfl rfl (PV.ixN (by assumption) ul33 sz9 rfl rfl (by omega)) ?_
      refine WL.done rfl rfl (OpD.stO (q := ()) 0 (done.length) sz9 rfl rfl (by first | rfl | omega) (by omega) rfl (fun _ h => by first | (simp [innerL, Kb, Kint, Kstr, Kbool] at h; done) | (simp [innerL, Ksl, Kwr, Kmsg] at h; rcases h with h | h | h <;> subst h <;> simp [Sl.rem]) | (simp [innerL, Ksl, Kwr] at h; subst h; simp [Sl.rem]))) ?_
      refine WL.nm (H' := _ :: _) rfl ?_
      refine WL.next [(10, _), (9, _)] ⟨rfl, rfl, trivial⟩ ?_
      refine W.rseq ?_
      refine WL.p rfl rfl rfl (PV.mv rfl) ?_
      refine WL.p rfl rfl rfl (PV.mv rfl) ?_
      refine WL.p rfl rfl rfl (PV.add64 rfl rfl (by omega)) ?_
      refine WL.p rfl rfl rfl (PV.cutL ul33 sz9 rfl rfl rfl (by omega) (by omega) (by omega)) ?_
      refine WL.p rfl rfl rfl (PV.as rfl) ?_
      refine WL.next [(8, _)] ⟨rfl, trivial⟩ ?_
      refine W.ret ?_
      rotate_left
      refine W.skip ?_
      refine K.next [(11, _), (10, _), (9, _), (3, _), (2, _), (1, _), (0, _)] ⟨rfl, rfl, rfl, rfl, rfl, rfl, rfl, trivial⟩ ?_
      refine W.rseq ?_
      refine WL.p rfl rfl rfl (PV.mv rfl) ?_
      refine WL.p rfl rfl rfl (PV.mv rfl) ?_
      refine WL.p rfl rfl rfl (PV.mv rfl) ?_
      refine WL.p rfl rfl rfl (PV.mv rfl) ?_
      refine WL.p rfl rfl rfl (PV.mv rfl) ?_
      refine WL.p rfl rfl rfl (PV.add64 rfl rfl (by omega)) ?_
      refine WL.p rfl rfl rfl (PV.cutS ul9 rfl rfl rfl (by omega) (by omega) (by omega)) ?_
      refine WL.p rfl rfl rfl (PV.ixN (by assumption) ul33 sz9 rfl rfl (by omega)) ?_
      refine WL.done rfl rfl (OpD.stO (q := ()) 0 (done.length) sz9 rfl rfl (by first | rfl | omega) (by omega) rfl (fun _ h => by first | (simp [innerL, Kb, Kint, Kstr, Kbool] at h; done) | (simp [innerL, Ksl, Kwr, Kmsg] at h; rcases h with h | h | h <;> subst h <;> simp [Sl.rem]) | (simp [innerL, Ksl, Kwr] at h; subst h; simp [Sl.rem]))) ?_
      refine WL.nm (H' := _ :: _) rfl ?_
      refine WL.next [(11, _), (10, _), (9, _), (3, _), (2, _), (1, _), (0, _)] ⟨rfl, rfl, rfl, rfl, rfl, rfl, rfl, trivial⟩ ?_
      refine W.rseq ?_
      refine WL.p rfl rfl rfl (PV.mv rfl) ?_
      refine WL.p rfl rfl rfl (PV.mv rfl) ?_
      refine WL.p rfl rfl rfl (PV.mv rfl) ?_
      refine WL.p rfl rfl rfl (PV.lenS ul9 rfl rfl) ?_
      refine WL.p rfl rfl rfl (PV.add64 rfl rfl (by omega)) ?_
      refine WL.p rfl rfl rfl (PV.cutS ul9 rfl rfl rfl (by omega) (by omega) (by omega)) ?_
      refine WL.p rfl rfl rfl (PV.as rfl) ?_
      refine WL.next [(0, _), (10, _), (9, _), (3, _), (2, _), (1, _)] ⟨rfl, rfl, rfl, rfl, rfl, rfl, trivial⟩ ?_
      refine W.region ?_
      refine WL.p rfl rfl rfl (PV.mv rfl) ?_
      refine WL.p rfl rfl rfl (PV.add64 rfl rfl (by omega)) ?_
      refine WL.p rfl rfl rfl (PV.as rfl) ?_
      refine WL.nil ?_
      refine K.out ?_
      rotate_left
      refine W.exit ?_
      refine K.exitT ?_
      refine K.exitT ?_
      refine K.exit ?_
      refine K.next [(10, _), (9, _), (0, _)] ⟨rfl, rfl, rfl, trivial⟩ ?_
      refine W.rseq ?_
      refine WL.p rfl rfl rfl (PV.mv rfl) ?_
      refine WL.p rfl rfl rfl (PV.mv rfl) ?_
      refine WL.p rfl rfl rfl (PV.mv rfl) ?_
      refine WL.p rfl rfl rfl (PV.ixN (by assumption) ul33 sz9 rfl rfl (by omega)) ?_
      refine WL.done rfl rfl (OpD.stO (q := ()) 0 (done.length) sz9 rfl rfl (by first | rfl | omega) (by omega) rfl (fun _ h => by first | (simp [innerL, Kb, Kint, Kstr, Kbool] at h; done) | (simp [innerL, Ksl, Kwr, Kmsg] at h; rcases h with h | h | h <;> subst h <;> simp [Sl.rem]) | (simp [innerL, Ksl, Kwr] at h; subst h; simp [Sl.rem]))) ?_
      refine WL.nm (H' := _ :: _) rfl ?_
      refine WL.next [(10, _), (9, _)] ⟨rfl, rfl, trivial⟩ ?_
      refine W.rseq ?_
      refine WL.p rfl rfl rfl (PV.mv rfl) ?_
      refine WL.p rfl rfl rfl (PV.mv rfl) ?_
      refine WL.p rfl rfl rfl (PV.add64 rfl rfl (by omega)) ?_
      refine WL.p rfl rfl rfl (PV.cutL ul33 sz9 rfl rfl rfl (by omega) (by omega) (by omega)) ?_
      refine WL.p rfl rfl rfl (PV.as rfl) ?_
      refine WL.next [(8, _)] ⟨rfl, trivial⟩ ?_
      refine W.ret ?_
      rotate_left
      · exfalso
        have := (idxB_neg h1).1
        omega
      · obtain ⟨m, hm⟩ : ∃ m : Nat, idxB rest c = m := ⟨(idxB rest c).toNat, by omega⟩
        obtain ⟨j1, j2, j3, j4, j5⟩ := idxB_pos hm
        rw [hm] at *
        rw [set_rep (by omega)]
        have e1 : List.drop (Int.toNat 0) (List.take ((m : Int) + 0).toNat rest) = rest.take m := by
          rw [show ((m : Int) + 0).toNat = m by omega]; rfl
        have e2 : List.drop ((m : Int) + ([c] : Bytes).length).toNat (List.take (rest.length : Int).toNat rest) = rest.drop (m + 1) := by
          rw [hl1, show ((m : Int) + (1 : Nat)).toNat = m + 1 by omega, List.take_of_length_le (by omega)]
        rw [e1, e2]
        have e3 : (done ++ [rest.take m]).length = done.length + 1 := by simp
        have e4 : s.count c + 1 - done.length - 1 = s.count c + 1 - (done ++ [rest.take m]).length := by rw [e3]; omega
        rw [e4]
        refine K.againP (done ++ [rest.take m], rest.drop (m + 1)) (show splitB c s = (done ++ [rest.take m]) ++ splitB c (rest.drop (m + 1)) ∧ (done ++ [rest.take m]).length + (rest.drop (m + 1)).count c = s.count c ∧ (rest.drop (m + 1)).length ≤ s.length from ⟨by rw [i1, j3]; simp, by rw [e3]; omega, by rw [List.length_drop]; omega⟩) (show s.count c - (done ++ [rest.take m]).length < s.count c - done.length by rw [e3]; omega)
          ⟨by rw [e3]; rfl, rfl, rfl, rfl, rfl, rfl, trivial⟩ (Ent.refl _)
      · have j1 : rest.count c = 0 := by omega
        have j2 : done.length = s.count c := by omega
        rw [set_rep (by omega), show s.count c + 1 - done.length - 1 = 0 by omega, List.replicate_zero, List.append_nil]
        have j3 : done ++ [rest] = splitB c s := by rw [i1, splitB_zero j1]
        have j4 := splitB_len c s
        rw [j3]
        refine K.fin (vs := [_]) (x31.cut 1 (Int.toNat 0) x31.c) ⟨rfl, trivial⟩ ?_ ?_
        · rw [show ((done.length : Int) + 1).toNat - Int.toNat 0 = (splitB c s).length by rw [j4]; omega]; rfl
        · refine Ent.app (.cons (i := 0) rfl .nil) (Ent.sealed _ _ _) ?_
          refine Ent.app (.cons (i := 0) rfl .nil) (Ent.cut Kstr x31 (splitB c s) 0 x31.c (splitB c s).length (Nat.le_refl _) (by omega)) ?_
          rw [List.drop_zero, List.take_length]
          exact Ent.take 0 rfl (Ent.tail (Ent.refl _))
theorem c232 {s : Bytes} {c : UInt8} (hs : s.length ≤ 2 ^ 40) : Spec P 198 [str s, str [c]] [] (fun q : SP => q.v (splitB c s).length) (fun q => [sl Kstr q (splitB c s)]) := by
  refine Spec.intro Tryz.func198 rfl rfl rfl fun F => ?_
  refine W.rseq ?_
  refine WL.p rfl rfl rfl (PV.as rfl) ?_
  refine WL.next [(4, _), (0, _), (1, _)] ⟨rfl, rfl, rfl, trivial⟩ ?_
  refine W.rseq ?_
  refine WL.p rfl rfl rfl (PV.mv rfl) ?_
  refine WL.p rfl rfl rfl (PV.mv rfl) ?_
  refine WL.putX rfl rfl rfl (OpX.call cb292 (c292 (by first | omega | (simp only [List.length_append, List.length_cons, List.length_nil, List.length_take]; omega) | assumption)) rfl .nil) fun x7 => ?_
  refine WL.nm (H' := _ :: _) rfl ?_
  refine WL.p rfl rfl rfl (PV.as rfl) ?_
  refine WL.next [(4, _)] ⟨rfl, trivial⟩ ?_
  refine W.ret ?_
  rotate_left
  refine K.fin (vs := [_]) x7 ⟨rfl, trivial⟩ rfl ?_
  refine Ent.keep 0 rfl (sl_pers _ _ _) ?_
  exact Ent.tail (Ent.refl _)
/-- Cut at the first one. -/
def cutB (s : Bytes) (c : UInt8) : Bytes × Bytes × Bool := if 0 ≤ idxB s c then (s.take (idxB s c).toNat, s.drop ((idxB s c).toNat + 1), true) else (s, [], false)
theorem c235 {s : Bytes} {c : UInt8} (hs : s.length ≤ 2 ^ 60) : Spec P 194 [str s, str [c]] [] (fun _ : Unit => .tuple #[str (cutB s c).1, str (cutB s c).2.1, .bool (cutB s c).2.2]) (fun _ => []) := by
  have hlt := idxB_lt s c
  have hge := idxB_ge s c
  have hl1 : ([c] : Bytes).length = 1 := rfl
  refine Spec.intro Tryz.func194 rfl rfl rfl fun F => ?_
  refine W.rseq ?_
  refine WL.p rfl rfl rfl (PV.as rfl) ?_
  refine WL.p rfl rfl rfl (PV.as rfl) ?_
  refine WL.p rfl rfl rfl (PV.as rfl) ?_
  refine WL.next [(6, _), (5, _), (4, _), (0, _), (1, _)] ⟨rfl, rfl, rfl, rfl, rfl, trivial⟩ ?_
  refine W.seq ?_
  refine W.rseq ?_
  refine WL.p rfl rfl rfl (PV.mv rfl) ?_
  refine WL.p rfl rfl rfl (PV.mv rfl) ?_
  refine WL.putX rfl rfl rfl (OpX.call cb306 (c306) rfl .nil) fun x10 => ?_
  refine WL.nm (H' := _) rfl ?_
  refine WL.p rfl rfl rfl (PV.as rfl) ?_
  refine WL.next [(7, _), (6, _), (5, _), (4, _), (0, _), (1, _)] ⟨rfl, rfl, rfl, rfl, rfl, rfl, trivial⟩ ?_
  refine W.rseq ?_
  refine WL.p rfl rfl rfl (PV.mv rfl) ?_
  refine WL.p rfl rfl rfl (PV.ge rfl rfl) ?_
  refine WL.next [(12, _), (7, _), (6, _), (5, _), (4, _), (0, _), (1, _)] ⟨rfl, rfl, rfl, rfl, rfl, rfl, rfl, trivial⟩ ?_
  refine W.condD rfl (fun h0 => ?_) (fun h0 => ?_)
  refine W.env [(12, _), (7, _), (0, _), (1, _)] ⟨rfl, rfl, rfl, rfl, trivial⟩ ?_
  refine W.dseq [0, 1, 2, 3, 4, 5, 6, 7, 8, 9, 10, 11] mixedOrders rfl rfl fun hR => ?_
  refine DP.p rfl rfl rfl rfl rfl (PV.mv rfl) ?_
  refine DP.p rfl rfl rfl rfl rfl (PV.mv rfl) ?_
  refine DP.p rfl rfl rfl rfl rfl (PV.cutS ul9 rfl rfl rfl (by omega) (by omega) (by omega)) ?_
  refine DP.p rfl rfl rfl rfl rfl (PV.mv rfl) ?_
  refine DP.p rfl rfl rfl rfl rfl (PV.mv rfl) ?_
  refine DP.p rfl rfl rfl rfl rfl (PV.mv rfl) ?_
  refine DP.p rfl rfl rfl rfl rfl (PV.lenS ul9 rfl rfl) ?_
  refine DP.p rfl rfl rfl rfl rfl (PV.add64 rfl rfl (by omega)) ?_
  refine DP.p rfl rfl rfl rfl rfl (PV.cutS ul9 rfl rfl rfl (by omega) (by omega) (by omega)) ?_
  refine DP.p rfl rfl rfl rfl rfl (PV.as rfl) ?_
  refine DP.p rfl rfl rfl rfl rfl (PV.as rfl) ?_
  refine DP.p rfl rfl rfl rfl rfl (PV.as rfl) ?_
  refine DP.fin hR ?_
  clear hR
  refine K.next [(6, _), (5, _), (4, _), (0, _)] ⟨rfl, rfl, rfl, rfl, trivial⟩ ?_
  refine W.ret ?_
  refine K.retT ?_
  rotate_left
  refine W.skip ?_
  refine K.next [(6, _), (5, _), (4, _), (0, _)] ⟨rfl, rfl, rfl, rfl, trivial⟩ ?_
  refine W.rseq ?_
  refine WL.p rfl rfl rfl (PV.mv rfl) ?_
  refine WL.p rfl rfl rfl (PV.as rfl) ?_
  refine WL.p rfl rfl rfl (PV.as rfl) ?_
  refine WL.p rfl rfl rfl (PV.as rfl) ?_
  refine WL.next [(6, _), (5, _), (4, _)] ⟨rfl, rfl, rfl, trivial⟩ ?_
  refine W.ret ?_
  rotate_left
  · have e1 : List.drop (Int.toNat 0) (List.take (idxB s c).toNat s) = s.take (idxB s c).toNat := rfl
    have e2 : List.drop (idxB s c + ([c] : Bytes).length).toNat (List.take (s.length : Int).toNat s) = s.drop ((idxB s c).toNat + 1) := by
      rw [hl1, show (idxB s c + (1 : Nat)).toNat = (idxB s c).toNat + 1 by omega, List.take_of_length_le (by omega)]
    rw [e1, e2]
    refine K.fin (vs := [_, _, _]) () ⟨rfl, rfl, rfl, trivial⟩ ?_ (Ent.refl _)
    unfold cutB; rw [if_pos h0]; rfl
  · refine K.fin (vs := [_, _, _]) () ⟨rfl, rfl, rfl, trivial⟩ ?_ (Ent.refl _)
    unfold cutB; rw [if_neg h0]; rfl
theorem c164 {s : Bytes} {c : UInt8} (hs : s.length ≤ 2 ^ 60) : Spec P 173 [str s, str [c]] [] (fun _ : Unit => .tuple #[str (cutB s c).1, str (cutB s c).2.1, .bool (cutB s c).2.2]) (fun _ => []) := by
  refine Spec.intro Tryz.func173 rfl rfl rfl fun F => ?_
  refine W.rseq ?_
  refine WL.p rfl rfl rfl (PV.as rfl) ?_
  refine WL.p rfl rfl rfl (PV.as rfl) ?_
  refine WL.p rfl rfl rfl (PV.as rfl) ?_
  refine WL.next [(6, _), (5, _), (4, _), (0, _), (1, _)] ⟨rfl, rfl, rfl, rfl, rfl, trivial⟩ ?_
  refine W.rseq ?_
  refine WL.p rfl rfl rfl (PV.mv rfl) ?_
  refine WL.p rfl rfl rfl (PV.mv rfl) ?_
  refine WL.putX rfl rfl rfl (OpX.call cb235 (c235 (by first | omega | (simp only [List.length_append, List.length_cons, List.length_nil, List.length_take]; omega) | assumption)) rfl .nil) fun x9 => ?_
  refine WL.nm (H' := _) rfl ?_
  refine WL.p rfl rfl rfl (PV.ext0 rfl) ?_
  refine WL.p rfl rfl rfl (PV.ext1 rfl) ?_
  refine WL.p rfl rfl rfl (PV.ext2 rfl) ?_
  refine WL.p rfl rfl rfl (PV.as rfl) ?_
  refine WL.p rfl rfl rfl (PV.as rfl) ?_
  refine WL.p rfl rfl rfl (PV.as rfl) ?_
  refine WL.next [(6, _), (5, _), (4, _)] ⟨rfl, rfl, rfl, trivial⟩ ?_
  refine W.ret ?_
  rotate_left
  exact K.fin (vs := [_, _, _]) () ⟨rfl, rfl, rfl, trivial⟩ rfl (Ent.refl _)
end Go.Sl
/-! Mailboxes. -/
namespace Go.Sl
open Go Go.Proofs
set_option maxRecDepth 20000
def badLoc (s : Bytes) : Bool := !(s.all atomB && s != [])
def localB (s : Bytes) : Bool := decide (s.length ≤ 64) && !((splitB 46 s).any badLoc)
def domB (s : Bytes) : Bool := decide (s.length ≤ 255) && !((splitB 46 s).any fun a => !(labB a))
theorem c201n {p : SP} {xs : List Bytes} (hl : xs.length ≤ 2 ^ 40) (hb : ∀ b, b ∈ xs → b.length < 2 ^ 62) :
    Spec P 86 [p.v xs.length, .func (.func 195) #[] #[]] [sl Kstr p xs] (fun _ : Unit => .bool (xs.any badLoc)) (fun _ => [sl Kstr p xs]) := c201 badLoc hl cb467 hb (fun _ h => c467 h)
theorem c201a {p : SP} {xs : List Bytes} (hl : xs.length ≤ 2 ^ 40) (hb : ∀ b, b ∈ xs → b.length < 2 ^ 62) :
    Spec P 86 [p.v xs.length, .func (.func 199) #[] #[]] [sl Kstr p xs] (fun _ : Unit => .bool (xs.any fun a => !(labB a))) (fun _ => [sl Kstr p xs]) := c201 (fun a => !(labB a)) hl cb230 hb (fun _ h => c230 h)
theorem split_ok {s : Bytes} (hs : s.length ≤ 2 ^ 38) : (splitB 46 s).length ≤ 2 ^ 40 ∧ ∀ b, b ∈ splitB 46 s → b.length < 2 ^ 62 := by
  have h1 : s.count 46 ≤ s.length := List.count_le_length
  refine ⟨by rw [splitB_len]; omega, fun b hb => ?_⟩
  have := splitB_mem 46 s b hb
  omega
theorem c412 {s : Bytes} (hs : s.length ≤ 2 ^ 38) : Spec P 174 [str s] [] (fun _ : Unit => .bool (localB s)) (fun _ => []) := by
  obtain ⟨hl, hb⟩ := split_ok hs
  refine Spec.intro Tryz.func174 rfl rfl rfl fun F => ?_
  refine W.rseq ?_
  refine WL.p rfl rfl rfl (PV.as rfl) ?_
  refine WL.next [(2, _), (0, _)] ⟨rfl, rfl, trivial⟩ ?_
  refine W.rseq ?_
  refine WL.p rfl rfl rfl (PV.as rfl) ?_
  refine WL.next [(3, _), (2, _), (0, _)] ⟨rfl, rfl, rfl, trivial⟩ ?_
  refine W.rseq ?_
  refine WL.p rfl rfl rfl (PV.mv rfl) ?_
  refine WL.p rfl rfl rfl (PV.lenS ul9 rfl rfl) ?_
  refine WL.p rfl rfl rfl (PV.le rfl rfl) ?_
  refine WL.p rfl rfl rfl (PV.mv rfl) ?_
  refine WL.splitD (t := 7) rfl (fun h0 => ?_) (fun h0 => ?_)
  refine WL.yes (dj := 7) rfl rfl rfl (decide_eq_true (by assumption)) rfl rfl (OpD.fv (PV.fv (PV.mv rfl))) ?_
  refine WL.yesX (dj := 7) rfl rfl rfl (decide_eq_true (by assumption)) rfl rfl (OpX.call cb232 (c232 (by first | omega | (simp only [List.length_append, List.length_cons, List.length_nil, List.length_take]; omega) | assumption)) rfl .nil) fun x9 => ?_
  refine WL.nm (H' := _ :: _) rfl ?_
  refine WL.yes (dj := 7) rfl rfl rfl (decide_eq_true (by assumption)) rfl rfl (OpD.fv (PV.fv (PV.mv rfl))) ?_
  refine WL.yesX (dj := 7) rfl rfl rfl (decide_eq_true (by assumption)) rfl rfl (OpX.call cb201 (c201n (by first | omega | (simp only [List.length_append, List.length_cons, List.length_nil, List.length_take]; omega) | assumption) (by first | omega | (simp only [List.length_append, List.length_cons, List.length_nil, List.length_take]; omega) | assumption)) rfl (.cons (i := 0) rfl .nil)) fun x11 => ?_
  refine WL.nm (H' := _ :: _) rfl ?_
  refine WL.yes (dj := 7) rfl rfl rfl (decide_eq_true (by assumption)) rfl rfl (OpD.fv (PV.fv (PV.not rfl))) ?_
  refine WL.p rfl rfl rfl (PV.pickT rfl (decide_eq_true (by assumption)) rfl) ?_
  refine WL.p rfl rfl rfl (PV.as rfl) ?_
  refine WL.next [(2, _)] ⟨rfl, trivial⟩ ?_
  refine W.ret ?_
  rotate_left
  refine WL.no (dj := 7) rfl rfl rfl (decide_eq_false (by assumption)) rfl ?_
  refine WL.no (dj := 7) rfl rfl rfl (decide_eq_false (by assumption)) rfl ?_
  refine WL.no (dj := 7) rfl rfl rfl (decide_eq_false (by assumption)) rfl ?_
  refine WL.no (dj := 7) rfl rfl rfl (decide_eq_false (by assumption)) rfl ?_
  refine WL.no (dj := 7) rfl rfl rfl (decide_eq_false (by assumption)) rfl ?_
  refine WL.p rfl rfl rfl (PV.pickF rfl (decide_eq_false (by assumption)) rfl) ?_
  refine WL.p rfl rfl rfl (PV.as rfl) ?_
  refine WL.next [(2, _)] ⟨rfl, trivial⟩ ?_
  refine W.ret ?_
  rotate_left
  · refine K.fin (vs := [_]) () ⟨rfl, trivial⟩ ?_ ?_
    · show Value.bool _ = Value.bool _
      unfold localB
      rw [decide_eq_true (show s.length ≤ 64 by omega)]; rfl
    · exact Ent.tail (Ent.refl _)
  · refine K.fin (vs := [_]) () ⟨rfl, trivial⟩ ?_ ?_
    · show Value.bool _ = Value.bool _
      unfold localB
      rw [decide_eq_false (show ¬ s.length ≤ 64 by omega)]; rfl
    · exact Ent.refl _
theorem c160 {s : Bytes} (hs : s.length ≤ 2 ^ 38) : Spec P 175 [str s] [] (fun _ : Unit => .bool (domB s)) (fun _ => []) := by
  obtain ⟨hl, hb⟩ := split_ok hs
  refine Spec.intro Tryz.func175 rfl rfl rfl fun F => ?_
  refine W.rseq ?_
  refine WL.p rfl rfl rfl (PV.as rfl) ?_
  refine WL.next [(2, _), (0, _)] ⟨rfl, rfl, trivial⟩ ?_
  refine W.rseq ?_
  refine WL.p rfl rfl rfl (PV.as rfl) ?_
  refine WL.next [(3, _), (2, _), (0, _)] ⟨rfl, rfl, rfl, trivial⟩ ?_
  refine W.rseq ?_
  refine WL.p rfl rfl rfl (PV.mv rfl) ?_
  refine WL.p rfl rfl rfl (PV.lenS ul9 rfl rfl) ?_
  refine WL.p rfl rfl rfl (PV.le rfl rfl) ?_
  refine WL.p rfl rfl rfl (PV.mv rfl) ?_
  refine WL.splitD (t := 7) rfl (fun h0 => ?_) (fun h0 => ?_)
  refine WL.yes (dj := 7) rfl rfl rfl (decide_eq_true (by assumption)) rfl rfl (OpD.fv (PV.fv (PV.mv rfl))) ?_
  refine WL.yesX (dj := 7) rfl rfl rfl (decide_eq_true (by assumption)) rfl rfl (OpX.call cb232 (c232 (by first | omega | (simp only [List.length_append, List.length_cons, List.length_nil, List.length_take]; omega) | assumption)) rfl .nil) fun x9 => ?_
  refine WL.nm (H' := _ :: _) rfl ?_
  refine WL.yes (dj := 7) rfl rfl rfl (decide_eq_true (by assumption)) rfl rfl (OpD.fv (PV.fv (PV.mv rfl))) ?_
  refine WL.yesX (dj := 7) rfl rfl rfl (decide_eq_true (by assumption)) rfl rfl (OpX.call cb201 (c201a (by first | omega | (simp only [List.length_append, List.length_cons, List.length_nil, List.length_take]; omega) | assumption) (by first | omega | (simp only [List.length_append, List.length_cons, List.length_nil, List.length_take]; omega) | assumption)) rfl (.cons (i := 0) rfl .nil)) fun x11 => ?_
  refine WL.nm (H' := _ :: _) rfl ?_
  refine WL.yes (dj := 7) rfl rfl rfl (decide_eq_true (by assumption)) rfl rfl (OpD.fv (PV.fv (PV.not rfl))) ?_
  refine WL.p rfl rfl rfl (PV.pickT rfl (decide_eq_true (by assumption)) rfl) ?_
  refine WL.p rfl rfl rfl (PV.as rfl) ?_
  refine WL.next [(2, _)] ⟨rfl, trivial⟩ ?_
  refine W.ret ?_
  rotate_left
  refine WL.no (dj := 7) rfl rfl rfl (decide_eq_false (by assumption)) rfl ?_
  refine WL.no (dj := 7) rfl rfl rfl (decide_eq_false (by assumption)) rfl ?_
  refine WL.no (dj := 7) rfl rfl rfl (decide_eq_false (by assumption)) rfl ?_
  refine WL.no (dj := 7) rfl rfl rfl (decide_eq_false (by assumption)) rfl ?_
  refine WL.no (dj := 7) rfl rfl rfl (decide_eq_false (by assumption)) rfl ?_
  refine WL.p rfl rfl rfl (PV.pickF rfl (decide_eq_false (by assumption)) rfl) ?_
  refine WL.p rfl rfl rfl (PV.as rfl) ?_
  refine WL.next [(2, _)] ⟨rfl, trivial⟩ ?_
  refine W.ret ?_
  rotate_left
  · refine K.fin (vs := [_]) () ⟨rfl, trivial⟩ ?_ ?_
    · show Value.bool _ = Value.bool _
      unfold domB
      rw [decide_eq_true (show s.length ≤ 255 by omega)]; rfl
    · exact Ent.tail (Ent.refl _)
  · refine K.fin (vs := [_]) () ⟨rfl, trivial⟩ ?_ ?_
    · show Value.bool _ = Value.bool _
      unfold domB
      rw [decide_eq_false (show ¬ s.length ≤ 255 by omega)]; rfl
    · exact Ent.refl _
def lowC (c : UInt8) : UInt8 := if 65 ≤ c.toNat ∧ c.toNat ≤ 90 then b8 (IntKind.u8.wrap (c.toNat + 97) - 65) else c
def lowB (s : Bytes) : Bytes := s.map lowC
theorem c337 {s : Bytes} (hs : s.length ≤ 2 ^ 38) : Spec P 139 [str s] [] (fun _ : Unit => str (lowB s)) (fun _ => []) := by
  refine Spec.intro Tryz.func139 rfl rfl rfl fun F => ?_
  refine W.rseq ?_
  refine WL.p rfl rfl rfl (PV.as rfl) ?_
  refine WL.next [(2, _), (0, _)] ⟨rfl, rfl, trivial⟩ ?_
  refine W.rseq ?_
  refine WL.p rfl rfl rfl (PV.mv rfl) ?_
  refine WL.putX rfl rfl rfl (OpX.s2b ul9 ul62 ul5 rfl) fun x7 => ?_
  refine WL.nm (H' := _ :: _) rfl ?_
  refine WL.p rfl rfl rfl (PV.as rfl) ?_
  refine WL.next [(3, _), (2, _)] ⟨rfl, rfl, trivial⟩ ?_
  refine W.seq ?_
  refine W.rseq ?_
  refine WL.p rfl rfl rfl (PV.mv rfl) ?_
  refine WL.p rfl rfl rfl (PV.lenL ul62 rfl rfl) ?_
  refine WL.p rfl rfl rfl (PV.mv rfl) ?_
  refine WL.next [(10, _), (9, _), (8, _), (3, _), (2, _)] ⟨rfl, rfl, rfl, rfl, rfl, trivial⟩ ?_
  refine W.block ?_
  rotate_left
  refine W.loopP (X := Nat) (fun k => k ≤ s.length) (fun k => [(10, .int .i64 k), (9, .int .i64 s.length), (8, x7.v s.length), (3, x7.v s.length)])
    (fun k => own Kb x7 (lowB (s.take k) ++ s.drop k) :: F) (fun k => s.length - k) 0 (Nat.zero_le _) ⟨rfl, rfl, rfl, rfl, trivial⟩ ?_ fun k hk => ?_
  · refine Ent.take 0 rfl ?_
    exact Ent.refl _
  have hol : (lowB (s.take k) ++ s.drop k).length = s.length := by unfold lowB; rw [List.length_append, List.length_map, List.length_take, List.length_drop]; omega
  refine W.fact (own_fact 0 rfl) fun hp => ?_
  rw [hol] at hp
  have hget : ∀ h : k < s.length, (lowB (s.take k) ++ s.drop k)[k]'(by omega) = s[k] := by
    intro h
    have h1 : (lowB (s.take k)).length = k := by unfold lowB; rw [List.length_map, List.length_take]; omega
    rw [List.getElem_append_right (by omega)]; simp [h1]
  have hset : ∀ (h : k < s.length) (c : UInt8), c = lowC s[k] → (lowB (s.take k) ++ s.drop k).set k c = lowB (s.take (k + 1)) ++ s.drop (k + 1) := by
    intro h c hc
    have h1 : (lowB (s.take k)).length = k := by unfold lowB; rw [List.length_map, List.length_take]; omega
    rw [List.set_append_right _ _ (by omega), h1, Nat.sub_self, List.drop_eq_getElem_cons h, List.set_cons_zero, hc, List.take_succ_eq_append_getElem h]
    unfold lowB; rw [List.map_append, List.append_assoc]; rfl
  have hsame : ∀ (h : k < s.length), s[k] = lowC s[k] → lowB (s.take k) ++ s.drop k = lowB (s.take (k + 1)) ++ s.drop (k + 1) := by
    intro h hc
    rw [← hset h _ hc]
    rw [← hget h, List.set_getElem_self]
  refine W.rseq ?_
  refine WL.p rfl rfl rfl (PV.lt rfl rfl) ?_
  refine WL.next [(11, _), (10, _), (9, _), (8, _), (3, _)] ⟨rfl, rfl, rfl, rfl, rfl, trivial⟩ ?_
  refine W.seq ?_
  refine W.condD rfl (fun h0 => ?_) (fun h0 => ?_)
  refine W.skip ?_
  refine K.next [(10, _), (9, _), (8, _), (3, _)] ⟨rfl, rfl, rfl, rfl, trivial⟩ ?_
  refine W.bseq ?_
  refine W.rseq ?_
  refine WL.p rfl rfl rfl (PV.mv rfl) ?_
  refine WL.p rfl rfl rfl (PV.ixN (by assumption) ul62 sz5 rfl rfl (by omega)) ?_
  refine WL.f rfl rfl rfl (FV.ld (LdD.own1B 0 sc5 rfl rfl rfl (by omega))) ?_
  refine WL.p rfl rfl rfl (PV.as rfl) ?_
  refine WL.p rfl rfl rfl (PV.as rfl) ?_
  refine WL.next [(5, _), (4, _), (10, _), (9, _), (8, _), (3, _)] ⟨rfl, rfl, rfl, rfl, rfl, rfl, trivial⟩ ?_
  refine W.rseq ?_
  refine WL.p rfl rfl rfl (PV.mv rfl) ?_
  refine WL.p rfl rfl rfl (PV.ge rfl rfl) ?_
  refine WL.p rfl rfl rfl (PV.mv rfl) ?_
  refine WL.splitD (t := 17) rfl (fun h1 => ?_) (fun h1 => ?_)
  refine WL.yes (dj := 17) rfl rfl rfl (decide_eq_true (by assumption)) rfl rfl (OpD.fv (PV.fv (PV.mv rfl))) ?_
  refine WL.yes (dj := 17) rfl rfl rfl (decide_eq_true (by assumption)) rfl rfl (OpD.fv (PV.fv (PV.le rfl rfl))) ?_
  refine WL.p rfl rfl rfl (PV.pickT rfl (decide_eq_true (by assumption)) rfl) ?_
  refine WL.next [(20, _), (5, _), (4, _), (10, _), (9, _), (8, _), (3, _)] ⟨rfl, rfl, rfl, rfl, rfl, rfl, rfl, trivial⟩ ?_
  refine W.condD rfl (fun h2 => ?_) (fun h2 => ?_)
  refine W.region ?_
  refine WL.p rfl rfl rfl (PV.mv rfl) ?_
  refine WL.p rfl rfl rfl (PV.mv rfl) ?_
  refine WL.p rfl rfl rfl (PV.mv rfl) ?_
  refine WL.p rfl rfl rfl (PV.add rfl rfl) ?_
  refine WL.p rfl rfl rfl (PV.sub rfl rfl) ?_
  refine WL.p rfl rfl rfl (PV.ixN (by assumption) ul62 sz5 rfl rfl (by omega)) ?_
  rotate_left
  refine W.skip ?_
  refine K.out ?_
  refine K.next [(10, _), (9, _), (8, _), (3, _)] ⟨rfl, rfl, rfl, rfl, trivial⟩ ?_
  refine W.region ?_
  refine WL.p rfl rfl rfl (PV.add64 rfl rfl (by omega)) ?_
  refine WL.p rfl rfl rfl (PV.mv rfl) ?_
  refine WL.nil ?_
  rotate_left
  refine WL.no (dj := 17) rfl rfl rfl (decide_eq_false (by assumption)) rfl ?_
  refine WL.no (dj := 17) rfl rfl rfl (decide_eq_false (by assumption)) rfl ?_
  refine WL.p rfl rfl rfl (PV.pickF rfl (decide_eq_false (by assumption)) rfl) ?_
  refine WL.next [(20, _), (5, _), (4, _), (10, _), (9, _), (8, _), (3, _)] ⟨rfl, rfl, rfl, rfl, rfl, rfl, rfl, trivial⟩ ?_
  refine W.cF rfl ?_
  refine W.skip ?_
  refine K.out ?_
  refine K.next [(10, _), (9, _), (8, _), (3, _)] ⟨rfl, rfl, rfl, rfl, trivial⟩ ?_
  refine W.region ?_
  refine WL.p rfl rfl rfl (PV.add64 rfl rfl (by omega)) ?_
  refine WL.p rfl rfl rfl (PV.mv rfl) ?_
  refine WL.nil ?_
  rotate_left
  refine W.exit ?_
  refine K.exitT ?_
  refine K.exitT ?_
  refine K.exit ?_
  refine K.next [(3, _)] ⟨rfl, trivial⟩ ?_
  refine W.rseq ?_
  refine WL.p rfl rfl rfl (PV.mv rfl) ?_
  rotate_left
  · rw [hget (by omega)] at *
    rw [wrap8 (IntKind.u8.wrap _ - 65)]
    refine WL.done rfl rfl (OpD.stO (q := ()) 0 (k) sz5 rfl rfl (by first | rfl | omega) (by omega) rfl (fun _ h => by first | (simp [innerL, Kb, Kint, Kstr, Kbool] at h; done) | (simp [innerL, Ksl, Kwr, Kmsg] at h; rcases h with h | h | h <;> subst h <;> simp [Sl.rem]) | (simp [innerL, Ksl, Kwr] at h; subst h; simp [Sl.rem]))) ?_
    refine WL.nm (H' := _ :: _) rfl ?_
    refine WL.nil ?_
    refine K.out ?_
    refine K.next [(10, _), (9, _), (8, _), (3, _)] ⟨rfl, rfl, rfl, rfl, trivial⟩ ?_
    refine W.region ?_
    refine WL.p rfl rfl rfl (PV.add64 rfl rfl (by omega)) ?_
    refine WL.p rfl rfl rfl (PV.mv rfl) ?_
    refine WL.nil ?_
    rotate_left
    rw [hset (by omega) _ (by unfold lowC; rw [if_pos (by omega)])]
    refine K.againP (k + 1) (by omega) (by omega) ⟨rfl, rfl, rfl, rfl, trivial⟩ ?_
    refine Ent.take 0 rfl ?_
    exact Ent.refl _
  · rw [hget (by omega)] at h1 h2
    rw [hsame (by omega) (by unfold lowC; rw [if_neg (by omega)])]
    refine K.againP (k + 1) (by omega) (by omega) ⟨rfl, rfl, rfl, rfl, trivial⟩ ?_
    refine Ent.take 0 rfl ?_
    exact Ent.refl _
  · rw [hget (by omega)] at h1
    rw [hsame (by omega) (by unfold lowC; rw [if_neg (by omega)])]
    refine K.againP (k + 1) (by omega) (by omega) ⟨rfl, rfl, rfl, rfl, trivial⟩ ?_
    refine Ent.take 0 rfl ?_
    exact Ent.refl _
  · have e : lowB (s.take k) ++ s.drop k = lowB s := by rw [List.take_of_length_le (by omega), List.drop_eq_nil_of_le (by omega), List.append_nil]
    have el : (lowB s).length = s.length := by unfold lowB; rw [List.length_map]
    rw [e, ← el]
    refine WL.entA (.cons (i := 0) rfl .nil) (Ent.sealed Kb x7 (lowB s)) ?_
    refine WL.nm (H' := sl _ _ _ :: _ :: _) rfl ?_
    refine WL.f rfl rfl rfl (FV.b2s 0 ul62 ul9 ul5 rfl rfl) ?_
    refine WL.p rfl rfl rfl (PV.as rfl) ?_
    refine WL.next [(2, _)] ⟨rfl, trivial⟩ ?_
    refine W.ret ?_
    rotate_left
    refine K.fin (vs := [_]) () ⟨rfl, trivial⟩ rfl ?_
    exact Ent.tail (Ent.tail (Ent.refl _))
def splitM (s : Bytes) : Bytes × Bytes × Bool := if (cutB s 64).2.2 && (localB (cutB s 64).1 && domB (cutB s 64).2.1) then ((cutB s 64).1, (cutB s 64).2.1, true) else ([], [], false)
theorem cutB_len (s : Bytes) (c : UInt8) : (cutB s c).1.length ≤ s.length ∧ (cutB s c).2.1.length ≤ s.length := by
  unfold cutB; split <;> simp <;> omega
theorem c336 {s : Bytes} (hs : s.length ≤ 2 ^ 38) : Spec P 138 [str s] [] (fun _ : Unit => .tuple #[str (splitM s).1, str (splitM s).2.1, .bool (splitM s).2.2]) (fun _ => []) := by
  obtain ⟨g1, g2⟩ := cutB_len s 64
  refine Spec.intro Tryz.func138 rfl rfl rfl fun F => ?_
  refine W.rseq ?_
  refine WL.p rfl rfl rfl (PV.as rfl) ?_
  refine WL.p rfl rfl rfl (PV.as rfl) ?_
  refine WL.p rfl rfl rfl (PV.as rfl) ?_
  refine WL.next [(4, _), (3, _), (2, _), (0, _)] ⟨rfl, rfl, rfl, rfl, trivial⟩ ?_
  refine W.rseq ?_
  refine WL.p rfl rfl rfl (PV.mv rfl) ?_
  refine WL.putX rfl rfl rfl (OpX.call cb164 (c164 (by first | omega | (simp only [List.length_append, List.length_cons, List.length_nil, List.length_take]; omega) | assumption)) rfl .nil) fun x7 => ?_
  refine WL.nm (H' := _) rfl ?_
  refine WL.p rfl rfl rfl (PV.mv rfl) ?_
  refine WL.p rfl rfl rfl (PV.ext0 rfl) ?_
  refine WL.p rfl rfl rfl (PV.ext1 rfl) ?_
  refine WL.p rfl rfl rfl (PV.ext2 rfl) ?_
  refine WL.p rfl rfl rfl (PV.as rfl) ?_
  refine WL.p rfl rfl rfl (PV.as rfl) ?_
  refine WL.p rfl rfl rfl (PV.as rfl) ?_
  refine WL.next [(4, _), (3, _), (2, _)] ⟨rfl, rfl, rfl, trivial⟩ ?_
  refine W.seq ?_
  refine W.rseq ?_
  refine WL.p rfl rfl rfl (PV.mv rfl) ?_
  refine WL.p rfl rfl rfl (PV.not rfl) ?_
  refine WL.p rfl rfl rfl (PV.mv rfl) ?_
  refine WL.split (t := 13) rfl (fun h0 => ?_) (fun h0 => ?_)
  refine WL.no (dj := 13) rfl rfl rfl (by assumption) rfl ?_
  refine WL.no (dj := 13) rfl rfl rfl (by assumption) rfl ?_
  refine WL.no (dj := 13) rfl rfl rfl (by assumption) rfl ?_
  refine WL.p rfl rfl rfl (PV.pickT rfl (by assumption) rfl) ?_
  refine WL.p rfl rfl rfl (PV.mv rfl) ?_
  refine WL.no (dj := 18) rfl rfl rfl rfl rfl ?_
  refine WL.no (dj := 18) rfl rfl rfl rfl rfl ?_
  refine WL.no (dj := 18) rfl rfl rfl rfl rfl ?_
  refine WL.p rfl rfl rfl (PV.pickT rfl rfl rfl) ?_
  refine WL.next [(22, _), (4, _), (3, _), (2, _)] ⟨rfl, rfl, rfl, rfl, trivial⟩ ?_
  refine W.cT rfl ?_
  refine W.rseq ?_
  refine WL.p rfl rfl rfl (PV.as rfl) ?_
  refine WL.p rfl rfl rfl (PV.as rfl) ?_
  refine WL.p rfl rfl rfl (PV.as rfl) ?_
  refine WL.next [(4, _), (3, _), (2, _)] ⟨rfl, rfl, rfl, trivial⟩ ?_
  refine W.ret ?_
  refine K.retT ?_
  rotate_left
  refine WL.yes (dj := 13) rfl rfl rfl (by assumption) rfl rfl (OpD.fv (PV.fv (PV.mv rfl))) ?_
  refine WL.yesX (dj := 13) rfl rfl rfl (by assumption) rfl rfl (OpX.call cb412 (c412 (by first | omega | (simp only [List.length_append, List.length_cons, List.length_nil, List.length_take]; omega) | assumption)) rfl .nil) fun x15 => ?_
  refine WL.nm (H' := _) rfl ?_
  refine WL.yes (dj := 13) rfl rfl rfl (by assumption) rfl rfl (OpD.fv (PV.fv (PV.not rfl))) ?_
  refine WL.p rfl rfl rfl (PV.pickF rfl (by assumption) rfl) ?_
  refine WL.p rfl rfl rfl (PV.mv rfl) ?_
  refine WL.split (t := 18) rfl (fun h1 => ?_) (fun h1 => ?_)
  refine WL.no (dj := 18) rfl rfl rfl (by assumption) rfl ?_
  refine WL.no (dj := 18) rfl rfl rfl (by assumption) rfl ?_
  refine WL.no (dj := 18) rfl rfl rfl (by assumption) rfl ?_
  refine WL.p rfl rfl rfl (PV.pickT rfl (by assumption) rfl) ?_
  refine WL.next [(22, _), (4, _), (3, _), (2, _)] ⟨rfl, rfl, rfl, rfl, trivial⟩ ?_
  refine W.cT rfl ?_
  refine W.rseq ?_
  refine WL.p rfl rfl rfl (PV.as rfl) ?_
  refine WL.p rfl rfl rfl (PV.as rfl) ?_
  refine WL.p rfl rfl rfl (PV.as rfl) ?_
  refine WL.next [(4, _), (3, _), (2, _)] ⟨rfl, rfl, rfl, trivial⟩ ?_
  refine W.ret ?_
  refine K.retT ?_
  rotate_left
  refine WL.yes (dj := 18) rfl rfl rfl (by assumption) rfl rfl (OpD.fv (PV.fv (PV.mv rfl))) ?_
  refine WL.yesX (dj := 18) rfl rfl rfl (by assumption) rfl rfl (OpX.call cb160 (c160 (by first | omega | (simp only [List.length_append, List.length_cons, List.length_nil, List.length_take]; omega) | assumption)) rfl .nil) fun x20 => ?_
  refine WL.nm (H' := _) rfl ?_
  refine WL.yes (dj := 18) rfl rfl rfl (by assumption) rfl rfl (OpD.fv (PV.fv (PV.not rfl))) ?_
  refine WL.p rfl rfl rfl (PV.pickF rfl (by assumption) rfl) ?_
  refine WL.next [(22, _), (4, _), (3, _), (2, _)] ⟨rfl, rfl, rfl, rfl, trivial⟩ ?_
  refine W.cond rfl (fun h2 => ?_) (fun h2 => ?_)
  refine W.rseq ?_
  refine WL.p rfl rfl rfl (PV.as rfl) ?_
  refine WL.p rfl rfl rfl (PV.as rfl) ?_
  refine WL.p rfl rfl rfl (PV.as rfl) ?_
  refine WL.next [(4, _), (3, _), (2, _)] ⟨rfl, rfl, rfl, trivial⟩ ?_
  refine W.ret ?_
  refine K.retT ?_
  rotate_left
  refine W.skip ?_
  refine K.next [(4, _), (3, _), (2, _)] ⟨rfl, rfl, rfl, trivial⟩ ?_
  refine W.rseq ?_
  refine WL.p rfl rfl rfl (PV.mv rfl) ?_
  refine WL.p rfl rfl rfl (PV.mv rfl) ?_
  refine WL.p rfl rfl rfl (PV.as rfl) ?_
  refine WL.p rfl rfl rfl (PV.as rfl) ?_
  refine WL.p rfl rfl rfl (PV.as rfl) ?_
  refine WL.next [(4, _), (3, _), (2, _)] ⟨rfl, rfl, rfl, trivial⟩ ?_
  refine W.ret ?_
  rotate_left
  · refine K.fin (vs := [_, _, _]) () ⟨rfl, rfl, rfl, trivial⟩ ?_ (Ent.refl _)
    have e : splitM s = ([], [], false) := by unfold splitM; simp at h0; simp [h0]
    rw [e]; rfl
  · refine K.fin (vs := [_, _, _]) () ⟨rfl, rfl, rfl, trivial⟩ ?_ (Ent.refl _)
    have e : splitM s = ([], [], false) := by unfold splitM; simp at h1; simp [h1]
    rw [e]; rfl
  · refine K.fin (vs := [_, _, _]) () ⟨rfl, rfl, rfl, trivial⟩ ?_ (Ent.refl _)
    have e : splitM s = ([], [], false) := by unfold splitM; simp at h2; simp [h2]
    rw [e]; rfl
  · refine K.fin (vs := [_, _, _]) () ⟨rfl, rfl, rfl, trivial⟩ ?_ (Ent.refl _)
    have e : splitM s = ((cutB s 64).1, (cutB s 64).2.1, true) := by unfold splitM; simp at h0 h1 h2; simp [h0, h1, h2]
    rw [e]; rfl
def canonM (s : Bytes) : Bytes × Bool := if (splitM s).2.2 then ((splitM s).1 ++ [64] ++ lowB (splitM s).2.1, true) else ([], false)
theorem splitM_len (s : Bytes) : (splitM s).1.length ≤ s.length ∧ (splitM s).2.1.length ≤ s.length := by
  have := cutB_len s 64
  unfold splitM; split <;> simp [this]
theorem c269 {s : Bytes} (hs : s.length ≤ 2 ^ 37) : Spec P 114 [str s] [] (fun _ : Unit => .tuple #[str (canonM s).1, .bool (canonM s).2]) (fun _ => []) := by
  obtain ⟨g1, g2⟩ := splitM_len s
  have g3 : (lowB (splitM s).2.1).length = (splitM s).2.1.length := by unfold lowB; rw [List.length_map]
  refine Spec.intro Tryz.func114 rfl rfl rfl fun F => ?_
  refine W.rseq ?_
  refine WL.p rfl rfl rfl (PV.as rfl) ?_
  refine WL.p rfl rfl rfl (PV.as rfl) ?_
  refine WL.next [(3, _), (2, _), (0, _)] ⟨rfl, rfl, rfl, trivial⟩ ?_
  refine W.rseq ?_
  refine WL.p rfl rfl rfl (PV.mv rfl) ?_
  refine WL.putX rfl rfl rfl (OpX.call cb336 (c336 (by first | omega | (simp only [List.length_append, List.length_cons, List.length_nil, List.length_take]; omega) | assumption)) rfl .nil) fun x9 => ?_
  refine WL.nm (H' := _) rfl ?_
  refine WL.p rfl rfl rfl (PV.mv rfl) ?_
  refine WL.p rfl rfl rfl (PV.ext0 rfl) ?_
  refine WL.p rfl rfl rfl (PV.ext1 rfl) ?_
  refine WL.p rfl rfl rfl (PV.ext2 rfl) ?_
  refine WL.p rfl rfl rfl (PV.as rfl) ?_
  refine WL.p rfl rfl rfl (PV.as rfl) ?_
  refine WL.p rfl rfl rfl (PV.as rfl) ?_
  refine WL.next [(6, _), (5, _), (4, _), (3, _), (2, _)] ⟨rfl, rfl, rfl, rfl, rfl, trivial⟩ ?_
  refine W.seq ?_
  refine W.rseq ?_
  refine WL.p rfl rfl rfl (PV.mv rfl) ?_
  refine WL.p rfl rfl rfl (PV.not rfl) ?_
  refine WL.next [(14, _), (5, _), (4, _), (3, _), (2, _)] ⟨rfl, rfl, rfl, rfl, rfl, trivial⟩ ?_
  refine W.cond rfl (fun h0 => ?_) (fun h0 => ?_)
  refine W.rseq ?_
  refine WL.p rfl rfl rfl (PV.as rfl) ?_
  refine WL.p rfl rfl rfl (PV.as rfl) ?_
  refine WL.next [(3, _), (2, _), (5, _), (4, _)] ⟨rfl, rfl, rfl, rfl, trivial⟩ ?_
  refine W.ret ?_
  refine K.retT ?_
  rotate_left
  refine W.skip ?_
  refine K.next [(5, _), (4, _), (3, _), (2, _)] ⟨rfl, rfl, rfl, rfl, trivial⟩ ?_
  refine W.rseq ?_
  refine WL.p rfl rfl rfl (PV.mv rfl) ?_
  refine WL.p rfl rfl rfl (PV.cat rfl rfl (by first | assumption | (simp only [List.length_append, List.length_cons, List.length_nil]; omega))) ?_
  refine WL.p rfl rfl rfl (PV.mv rfl) ?_
  refine WL.putX rfl rfl rfl (OpX.call cb337 (c337 (by first | omega | (simp only [List.length_append, List.length_cons, List.length_nil, List.length_take]; omega) | assumption)) rfl .nil) fun x18 => ?_
  refine WL.nm (H' := _) rfl ?_
  refine WL.p rfl rfl rfl (PV.cat rfl rfl (by first | assumption | (simp only [List.length_append, List.length_cons, List.length_nil]; omega))) ?_
  refine WL.p rfl rfl rfl (PV.as rfl) ?_
  refine WL.p rfl rfl rfl (PV.as rfl) ?_
  refine WL.next [(3, _), (2, _)] ⟨rfl, rfl, trivial⟩ ?_
  refine W.ret ?_
  rotate_left
  · refine K.fin (vs := [_, _]) () ⟨rfl, rfl, trivial⟩ ?_ (Ent.refl _)
    have e : canonM s = ([], false) := by unfold canonM; simp at h0; simp [h0]
    rw [e]; rfl
  · refine K.fin (vs := [_, _]) () ⟨rfl, rfl, trivial⟩ ?_ (Ent.refl _)
    have e : canonM s = ((splitM s).1 ++ [64] ++ lowB (splitM s).2.1, true) := by unfold canonM; simp at h0; simp [h0]
    rw [e]; rfl
def mboxB (s : Bytes) : Bool := (canonM s).2 && decide ((canonM s).1 = s)
theorem c200 {s : Bytes} (hs : s.length ≤ 2 ^ 37) : Spec P 85 [str s] [] (fun _ : Unit => .bool (mboxB s)) (fun _ => []) := by
  refine Spec.intro Tryz.func85 rfl rfl rfl fun F => ?_
  refine W.rseq ?_
  refine WL.p rfl rfl rfl (PV.as rfl) ?_
  refine WL.next [(2, _), (0, _)] ⟨rfl, rfl, trivial⟩ ?_
  refine W.rseq ?_
  refine WL.p rfl rfl rfl (PV.mv rfl) ?_
  refine WL.putX rfl rfl rfl (OpX.call cb269 (c269 (by first | omega | (simp only [List.length_append, List.length_cons, List.length_nil, List.length_take]; omega) | assumption)) rfl .nil) fun x7 => ?_
  refine WL.nm (H' := _) rfl ?_
  refine WL.p rfl rfl rfl (PV.mv rfl) ?_
  refine WL.p rfl rfl rfl (PV.ext0 rfl) ?_
  refine WL.p rfl rfl rfl (PV.ext1 rfl) ?_
  refine WL.p rfl rfl rfl (PV.as rfl) ?_
  refine WL.p rfl rfl rfl (PV.as rfl) ?_
  refine WL.next [(4, _), (3, _), (2, _), (0, _)] ⟨rfl, rfl, rfl, rfl, trivial⟩ ?_
  refine W.rseq ?_
  refine WL.p rfl rfl rfl (PV.mv rfl) ?_
  refine WL.p rfl rfl rfl (PV.mv rfl) ?_
  refine WL.split (t := 11) rfl (fun h0 => ?_) (fun h0 => ?_)
  refine WL.yes (dj := 11) rfl rfl rfl (by assumption) rfl rfl (OpD.fv (PV.fv (PV.mv rfl))) ?_
  refine WL.yes (dj := 11) rfl rfl rfl (by assumption) rfl rfl (OpD.fv (PV.fv (PV.mv rfl))) ?_
  refine WL.yes (dj := 11) rfl rfl rfl (by assumption) rfl rfl (OpD.fv (PV.fv (PV.eqS rfl rfl))) ?_
  refine WL.p rfl rfl rfl (PV.pickT rfl (by assumption) rfl) ?_
  refine WL.p rfl rfl rfl (PV.as rfl) ?_
  refine WL.next [(2, _)] ⟨rfl, trivial⟩ ?_
  refine W.ret ?_
  rotate_left
  refine WL.no (dj := 11) rfl rfl rfl (by assumption) rfl ?_
  refine WL.no (dj := 11) rfl rfl rfl (by assumption) rfl ?_
  refine WL.no (dj := 11) rfl rfl rfl (by assumption) rfl ?_
  refine WL.p rfl rfl rfl (PV.pickF rfl (by assumption) rfl) ?_
  refine WL.p rfl rfl rfl (PV.as rfl) ?_
  refine WL.next [(2, _)] ⟨rfl, trivial⟩ ?_
  refine W.ret ?_
  rotate_left
  · refine K.fin (vs := [_]) () ⟨rfl, trivial⟩ ?_ (Ent.refl _)
    show Value.bool _ = Value.bool _
    unfold mboxB; rw [h0]; rfl
  · refine K.fin (vs := [_]) () ⟨rfl, trivial⟩ ?_ (Ent.refl _)
    show Value.bool _ = Value.bool _
    unfold mboxB; rw [h0]; rfl
def timeB (n : Int) : Bool := decide (0 ≤ n) && decide (n ≤ 1099511627776)
theorem c199 {n : Int} : Spec P 84 [.int .i64 n] [] (fun _ : Unit => .bool (timeB n)) (fun _ => []) := by
  refine Spec.intro Tryz.func84 rfl rfl rfl fun F => ?_
  refine W.rseq ?_
  refine WL.p rfl rfl rfl (PV.as rfl) ?_
  refine WL.next [(2, _), (0, _)] ⟨rfl, rfl, trivial⟩ ?_
  refine W.rseq ?_
  refine WL.p rfl rfl rfl (PV.mv rfl) ?_
  refine WL.p rfl rfl rfl (PV.ge rfl rfl) ?_
  refine WL.p rfl rfl rfl (PV.mv rfl) ?_
  refine WL.splitD (t := 5) rfl (fun h0 => ?_) (fun h0 => ?_)
  refine WL.yes (dj := 5) rfl rfl rfl (decide_eq_true (by assumption)) rfl rfl (OpD.fv (PV.fv (PV.mv rfl))) ?_
  refine WL.yes (dj := 5) rfl rfl rfl (decide_eq_true (by assumption)) rfl rfl (OpD.fv (PV.fv (PV.le rfl rfl))) ?_
  refine WL.p rfl rfl rfl (PV.pickT rfl (decide_eq_true (by assumption)) rfl) ?_
  refine WL.p rfl rfl rfl (PV.as rfl) ?_
  refine WL.next [(2, _)] ⟨rfl, trivial⟩ ?_
  refine W.ret ?_
  rotate_left
  refine WL.no (dj := 5) rfl rfl rfl (decide_eq_false (by assumption)) rfl ?_
  refine WL.no (dj := 5) rfl rfl rfl (decide_eq_false (by assumption)) rfl ?_
  refine WL.p rfl rfl rfl (PV.pickF rfl (decide_eq_false (by assumption)) rfl) ?_
  refine WL.p rfl rfl rfl (PV.as rfl) ?_
  refine WL.next [(2, _)] ⟨rfl, trivial⟩ ?_
  refine W.ret ?_
  rotate_left
  · refine K.fin (vs := [_]) () ⟨rfl, trivial⟩ ?_ (Ent.refl _)
    show Value.bool _ = Value.bool _
    unfold timeB; rw [decide_eq_true h0]; rfl
  · refine K.fin (vs := [_]) () ⟨rfl, trivial⟩ ?_ (Ent.refl _)
    show Value.bool _ = Value.bool _
    unfold timeB; rw [decide_eq_false h0]; rfl
theorem c198 {n : Int} : Spec P 83 [.int .i64 n] [] (fun _ : Unit => .bool (!(timeB n))) (fun _ => []) := by
  refine Spec.intro Tryz.func83 rfl rfl rfl fun F => ?_
  refine W.rseq ?_
  refine WL.p rfl rfl rfl (PV.as rfl) ?_
  refine WL.next [(2, _), (0, _)] ⟨rfl, rfl, trivial⟩ ?_
  refine W.rseq ?_
  refine WL.p rfl rfl rfl (PV.mv rfl) ?_
  refine WL.putX rfl rfl rfl (OpX.call cb199 (c199) rfl .nil) fun x4 => ?_
  refine WL.nm (H' := _) rfl ?_
  refine WL.p rfl rfl rfl (PV.not rfl) ?_
  refine WL.p rfl rfl rfl (PV.as rfl) ?_
  refine WL.next [(2, _)] ⟨rfl, trivial⟩ ?_
  refine W.ret ?_
  rotate_left
  exact K.fin (vs := [_]) () ⟨rfl, trivial⟩ rfl (Ent.refl _)
def oddB (n : Int) : Bool := decide (n < 0) || decide (2 < n)
theorem c196 {n : Int} : Spec P 81 [.int .i64 n] [] (fun _ : Unit => .bool (oddB n)) (fun _ => []) := by
  refine Spec.intro Tryz.func81 rfl rfl rfl fun F => ?_
  refine W.rseq ?_
  refine WL.p rfl rfl rfl (PV.as rfl) ?_
  refine WL.next [(2, _), (0, _)] ⟨rfl, rfl, trivial⟩ ?_
  refine W.rseq ?_
  refine WL.p rfl rfl rfl (PV.mv rfl) ?_
  refine WL.p rfl rfl rfl (PV.lt rfl rfl) ?_
  refine WL.p rfl rfl rfl (PV.mv rfl) ?_
  refine WL.splitD (t := 5) rfl (fun h0 => ?_) (fun h0 => ?_)
  refine WL.no (dj := 5) rfl rfl rfl (decide_eq_true (by assumption)) rfl ?_
  refine WL.no (dj := 5) rfl rfl rfl (decide_eq_true (by assumption)) rfl ?_
  refine WL.p rfl rfl rfl (PV.pickT rfl (decide_eq_true (by assumption)) rfl) ?_
  refine WL.p rfl rfl rfl (PV.as rfl) ?_
  refine WL.next [(2, _)] ⟨rfl, trivial⟩ ?_
  refine W.ret ?_
  rotate_left
  refine WL.yes (dj := 5) rfl rfl rfl (decide_eq_false (by assumption)) rfl rfl (OpD.fv (PV.fv (PV.mv rfl))) ?_
  refine WL.yes (dj := 5) rfl rfl rfl (decide_eq_false (by assumption)) rfl rfl (OpD.fv (PV.fv (PV.gt rfl rfl))) ?_
  refine WL.p rfl rfl rfl (PV.pickF rfl (decide_eq_false (by assumption)) rfl) ?_
  refine WL.p rfl rfl rfl (PV.as rfl) ?_
  refine WL.next [(2, _)] ⟨rfl, trivial⟩ ?_
  refine W.ret ?_
  rotate_left
  · refine K.fin (vs := [_]) () ⟨rfl, trivial⟩ ?_ (Ent.refl _)
    show Value.bool _ = Value.bool _
    unfold oddB; rw [decide_eq_true h0]; rfl
  · refine K.fin (vs := [_]) () ⟨rfl, trivial⟩ ?_ (Ent.refl _)
    show Value.bool _ = Value.bool _
    unfold oddB; rw [decide_eq_false h0]; rfl
theorem c202 {s : Bytes} (hs : s.length ≤ 2 ^ 37) : Spec P 87 [str s] [] (fun _ : Unit => .bool (!(mboxB s))) (fun _ => []) := by
  refine Spec.intro Tryz.func87 rfl rfl rfl fun F => ?_
  refine W.rseq ?_
  refine WL.p rfl rfl rfl (PV.as rfl) ?_
  refine WL.next [(2, _), (0, _)] ⟨rfl, rfl, trivial⟩ ?_
  refine W.rseq ?_
  refine WL.p rfl rfl rfl (PV.mv rfl) ?_
  refine WL.putX rfl rfl rfl (OpX.call cb200 (c200 (by first | omega | (simp only [List.length_append, List.length_cons, List.length_nil, List.length_take]; omega) | assumption)) rfl .nil) fun x4 => ?_
  refine WL.nm (H' := _) rfl ?_
  refine WL.p rfl rfl rfl (PV.not rfl) ?_
  refine WL.p rfl rfl rfl (PV.as rfl) ?_
  refine WL.next [(2, _)] ⟨rfl, trivial⟩ ?_
  refine W.ret ?_
  rotate_left
  exact K.fin (vs := [_]) () ⟨rfl, trivial⟩ rfl (Ent.refl _)
end Go.Sl
/-! Bodies. -/
namespace Go.Sl
open Go Go.Proofs
set_option maxRecDepth 20000
def sizeL (l : List Bytes) : Nat := (l.map fun s => s.length + 2).sum
theorem sizeL_succ {l : List Bytes} {k : Nat} (h : k < l.length) : sizeL (l.take (k + 1)) = sizeL (l.take k) + (l[k].length + 2) := by
  unfold sizeL; rw [List.take_succ_eq_append_getElem h, List.map_append, List.sum_append]; simp
theorem sizeL_le {l : List Bytes} {k : Nat} : sizeL (l.take k) ≤ sizeL l := by
  conv => rhs; rw [← List.take_append_drop k l]
  unfold sizeL; rw [List.map_append, List.sum_append]; omega
theorem c271 {p : SP} {l : List Bytes} (hl : l.length ≤ 2 ^ 40) (hs : sizeL l ≤ 2 ^ 60) : Spec P 117 [p.v l.length] [sl Kstr p l] (fun _ : Unit => .int .i64 (sizeL l)) (fun _ => [sl Kstr p l]) := by
  refine Spec.intro Tryz.func117 rfl rfl rfl fun F => ?_
  refine W.fact (sl_fact 0 rfl) fun hp => ?_
  refine W.rseq ?_
  refine WL.p rfl rfl rfl (PV.as rfl) ?_
  refine WL.next [(2, _), (0, _)] ⟨rfl, rfl, trivial⟩ ?_
  refine W.rseq ?_
  refine WL.p rfl rfl rfl (PV.as rfl) ?_
  refine WL.next [(3, _), (2, _), (0, _)] ⟨rfl, rfl, rfl, trivial⟩ ?_
  refine W.seq ?_
  refine W.rseq ?_
  refine WL.p rfl rfl rfl (PV.mv rfl) ?_
  refine WL.p rfl rfl rfl (PV.lenL ul33 rfl rfl) ?_
  refine WL.p rfl rfl rfl (PV.mv rfl) ?_
  refine WL.next [(8, _), (7, _), (6, _), (3, _), (2, _)] ⟨rfl, rfl, rfl, rfl, rfl, trivial⟩ ?_
  refine W.block ?_
  rotate_left
  refine W.loopP (X := Nat) (fun k => k ≤ l.length) (fun k => [(8, .int .i64 k), (7, .int .i64 l.length), (6, p.v l.length), (3, .int .i64 (sizeL (l.take k)))])
    (fun _ => sl Kstr p l :: F) (fun k => l.length - k) 0 (Nat.zero_le _) ⟨rfl, rfl, rfl, rfl, trivial⟩ (Ent.refl _) fun k hk => ?_
  have h1 := sizeL_le (l := l) (k := k + 1)
  by_cases hkl : k < l.length
  · have h2 : sizeL (l.take k) + (l[k].length + 2) ≤ 2 ^ 60 := by rw [sizeL_succ hkl] at h1; omega
    refine W.rseq ?_
    refine WL.p rfl rfl rfl (PV.lt rfl rfl) ?_
    refine WL.next [(9, _), (8, _), (7, _), (6, _), (3, _)] ⟨rfl, rfl, rfl, rfl, rfl, trivial⟩ ?_
    refine W.seq ?_
    refine W.condD rfl (fun h0 => ?_) (fun h0 => ?_)
    refine W.skip ?_
    refine K.next [(8, _), (7, _), (6, _), (3, _)] ⟨rfl, rfl, rfl, rfl, trivial⟩ ?_
    refine W.bseq ?_
    refine W.rseq ?_
    refine WL.p rfl rfl rfl (PV.ixN (by assumption) ul33 sz9 rfl rfl (by omega)) ?_
    refine WL.f rfl rfl rfl (FV.ld (LdD.sl1S 0 sc9 rfl rfl rfl (by omega))) ?_
    refine WL.p rfl rfl rfl (PV.as rfl) ?_
    refine WL.next [(5, _), (8, _), (7, _), (6, _), (3, _)] ⟨rfl, rfl, rfl, rfl, rfl, trivial⟩ ?_
    refine W.region ?_
    refine WL.p rfl rfl rfl (PV.mv rfl) ?_
    refine WL.p rfl rfl rfl (PV.mv rfl) ?_
    refine WL.p rfl rfl rfl (PV.lenS ul9 rfl rfl) ?_
    refine WL.p rfl rfl rfl (PV.add64 rfl rfl (by omega)) ?_
    refine WL.p rfl rfl rfl (PV.add64 rfl rfl (by omega)) ?_
    refine WL.p rfl rfl rfl (PV.as rfl) ?_
    refine WL.nil ?_
    refine K.out ?_
    refine K.next [(3, _), (8, _), (7, _), (6, _)] ⟨rfl, rfl, rfl, rfl, trivial⟩ ?_
    refine W.region ?_
    refine WL.p rfl rfl rfl (PV.add64 rfl rfl (by omega)) ?_
    refine WL.p rfl rfl rfl (PV.mv rfl) ?_
    refine WL.nil ?_
    rotate_left
    refine W.exit ?_
    refine K.exitT ?_
    refine K.exitT ?_
    refine K.exit ?_
    refine K.next [(3, _)] ⟨rfl, trivial⟩ ?_
    refine W.rseq ?_
    refine WL.p rfl rfl rfl (PV.mv rfl) ?_
    refine WL.p rfl rfl rfl (PV.as rfl) ?_
    refine WL.next [(2, _)] ⟨rfl, trivial⟩ ?_
    refine W.ret ?_
    rotate_left
    · have e : ((sizeL (l.take (k + 1)) : Nat) : Int) = (sizeL (l.take k) : Int) + ((l[k].length : Int) + 2) := by rw [sizeL_succ hkl]; omega
      refine K.againP (k + 1) (by omega) (by omega) ⟨rfl, rfl, rfl, by rw [e]; rfl, trivial⟩ ?_
      refine Ent.keep 0 rfl (sl_pers _ _ _) ?_
      exact Ent.tail (Ent.refl _)
    · exfalso; omega
  · refine W.rseq ?_
    refine WL.p rfl rfl rfl (PV.lt rfl rfl) ?_
    refine WL.next [(9, _), (8, _), (7, _), (6, _), (3, _)] ⟨rfl, rfl, rfl, rfl, rfl, trivial⟩ ?_
    refine W.seq ?_
    refine W.condD rfl (fun h0 => ?_) (fun h0 => ?_)
    refine W.skip ?_
    refine K.next [(8, _), (7, _), (6, _), (3, _)] ⟨rfl, rfl, rfl, rfl, trivial⟩ ?_
    refine W.bseq ?_
    refine W.rseq ?_
    refine WL.p rfl rfl rfl (PV.ixN (by assumption) ul33 sz9 rfl rfl (by omega)) ?_
    refine WL.f rfl rfl rfl (FV.ld (LdD.sl1S 0 sc9 rfl rfl rfl (by omega))) ?_
    refine WL.p rfl rfl rfl (PV.as rfl) ?_
    refine WL.next [(5, _), (8, _), (7, _), (6, _), (3, _)] ⟨rfl, rfl, rfl, rfl, rfl, trivial⟩ ?_
    refine W.region ?_
    refine WL.p rfl rfl rfl (PV.mv rfl) ?_
    refine WL.p rfl rfl rfl (PV.mv rfl) ?_
    refine WL.p rfl rfl rfl (PV.lenS ul9 rfl rfl) ?_
    refine WL.p rfl rfl rfl (PV.add64 rfl rfl (by omega)) ?_
    refine WL.p rfl rfl rfl (PV.add64 rfl rfl (by omega)) ?_
    refine WL.p rfl rfl rfl (PV.as rfl) ?_
    refine WL.nil ?_
    refine K.out ?_
    refine K.next [(3, _), (8, _), (7, _), (6, _)] ⟨rfl, rfl, rfl, rfl, trivial⟩ ?_
    refine W.region ?_
    refine WL.p rfl rfl rfl (PV.add64 rfl rfl (by omega)) ?_
    refine WL.p rfl rfl rfl (PV.mv rfl) ?_
    refine WL.nil ?_
    rotate_left
    refine W.exit ?_
    refine K.exitT ?_
    refine K.exitT ?_
    refine K.exit ?_
    refine K.next [(3, _)] ⟨rfl, trivial⟩ ?_
    refine W.rseq ?_
    refine WL.p rfl rfl rfl (PV.mv rfl) ?_
    refine WL.p rfl rfl rfl (PV.as rfl) ?_
    refine WL.next [(2, _)] ⟨rfl, trivial⟩ ?_
    refine W.ret ?_
    rotate_left
    · exfalso; omega
    rw [List.take_of_length_le (by omega)]
    refine K.fin (vs := [_]) () ⟨rfl, trivial⟩ rfl ?_
    refine Ent.keep 0 rfl (sl_pers _ _ _) ?_
    exact Ent.tail (Ent.refl _)
theorem c251n {s : Bytes} : Spec P 116 [str s, .int .u8 0] [] (fun _ : Unit => .int .i64 (idxB s 0)) (fun _ => []) := c251 (c := 0)
theorem c251a {s : Bytes} : Spec P 116 [str s, .int .u8 10] [] (fun _ : Unit => .int .i64 (idxB s 10)) (fun _ => []) := c251 (c := 10)
theorem c251b {s : Bytes} : Spec P 116 [str s, .int .u8 13] [] (fun _ : Unit => .int .i64 (idxB s 13)) (fun _ => []) := c251 (c := 13)
def badB (s : Bytes) : Bool := decide (0 ≤ idxB s 0) || decide (0 ≤ idxB s 10) || decide (0 ≤ idxB s 13) || decide (997 < s.length)
def goodL (l : List Bytes) : Bool := !(l.any badB) && decide (sizeL l ≤ 65536)
theorem c203 {p : SP} {l : List Bytes} (hl : l.length ≤ 2 ^ 40) (hs : sizeL l ≤ 2 ^ 60) : Spec P 88 [p.v l.length] [sl Kstr p l] (fun _ : Unit => .bool (goodL l)) (fun _ => [sl Kstr p l]) := by
  refine Spec.intro Tryz.func88 rfl rfl rfl fun F => ?_
  refine W.fact (sl_fact 0 rfl) fun hp => ?_
  refine W.rseq ?_
  refine WL.p rfl rfl rfl (PV.as rfl) ?_
  refine WL.next [(2, _), (0, _)] ⟨rfl, rfl, trivial⟩ ?_
  refine W.seq ?_
  refine W.rseq ?_
  refine WL.p rfl rfl rfl (PV.mv rfl) ?_
  refine WL.p rfl rfl rfl (PV.lenL ul33 rfl rfl) ?_
  refine WL.p rfl rfl rfl (PV.mv rfl) ?_
  refine WL.next [(7, _), (6, _), (5, _), (2, _), (0, _)] ⟨rfl, rfl, rfl, rfl, rfl, trivial⟩ ?_
  refine W.block ?_
  rotate_left
  refine W.loopP (X := Nat) (fun k => k ≤ l.length ∧ ∀ x, x ∈ l.take k → badB x = false) (fun k => [(7, .int .i64 k), (6, .int .i64 l.length), (5, p.v l.length), (2, .bool false), (0, p.v l.length)])
    (fun _ => sl Kstr p l :: F) (fun k => l.length - k) 0 ⟨Nat.zero_le _, by simp⟩ ⟨rfl, rfl, rfl, rfl, rfl, trivial⟩ (Ent.refl _) fun k hI => ?_
  have hk := hI.1; have ha := hI.2; clear hI
  have bad : ∀ {h : k < l.length}, badB l[k] = true → goodL l = false := by
    intro h hb
    unfold goodL
    rw [List.any_eq_true.2 ⟨l[k], List.getElem_mem h, hb⟩]; rfl
  refine W.rseq ?_
  refine WL.p rfl rfl rfl (PV.lt rfl rfl) ?_
  refine WL.next [(8, _), (7, _), (6, _), (5, _), (2, _), (0, _)] ⟨rfl, rfl, rfl, rfl, rfl, rfl, trivial⟩ ?_
  refine W.seq ?_
  refine W.condD rfl (fun h0 => ?_) (fun h0 => ?_)
  refine W.skip ?_
  refine K.next [(7, _), (6, _), (5, _), (2, _), (0, _)] ⟨rfl, rfl, rfl, rfl, rfl, trivial⟩ ?_
  refine W.bseq ?_
  refine W.rseq ?_
  refine WL.p rfl rfl rfl (PV.ixN (by assumption) ul33 sz9 rfl rfl (by omega)) ?_
  refine WL.f rfl rfl rfl (FV.ld (LdD.sl1S 0 sc9 rfl rfl rfl (by omega))) ?_
  refine WL.p rfl rfl rfl (PV.as rfl) ?_
  refine WL.next [(4, _), (7, _), (6, _), (5, _), (2, _), (0, _)] ⟨rfl, rfl, rfl, rfl, rfl, rfl, trivial⟩ ?_
  refine W.rseq ?_
  refine WL.p rfl rfl rfl (PV.mv rfl) ?_
  refine WL.putX rfl rfl rfl (OpX.call cb251 (c251n) rfl .nil) fun x12 => ?_
  refine WL.nm (H' := _ :: _) rfl ?_
  refine WL.p rfl rfl rfl (PV.ge rfl rfl) ?_
  refine WL.p rfl rfl rfl (PV.mv rfl) ?_
  refine WL.splitD (t := 14) rfl (fun h1 => ?_) (fun h1 => ?_)
  refine WL.no (dj := 14) rfl rfl rfl (decide_eq_true (by assumption)) rfl ?_
  refine WL.no (dj := 14) rfl rfl rfl (decide_eq_true (by assumption)) rfl ?_
  refine WL.no (dj := 14) rfl rfl rfl (decide_eq_true (by assumption)) rfl ?_
  refine WL.p rfl rfl rfl (PV.pickT rfl (decide_eq_true (by assumption)) rfl) ?_
  refine WL.p rfl rfl rfl (PV.mv rfl) ?_
  refine WL.no (dj := 19) rfl rfl rfl rfl rfl ?_
  refine WL.no (dj := 19) rfl rfl rfl rfl rfl ?_
  refine WL.no (dj := 19) rfl rfl rfl rfl rfl ?_
  refine WL.p rfl rfl rfl (PV.pickT rfl rfl rfl) ?_
  refine WL.p rfl rfl rfl (PV.mv rfl) ?_
  refine WL.no (dj := 24) rfl rfl rfl rfl rfl ?_
  refine WL.no (dj := 24) rfl rfl rfl rfl rfl ?_
  refine WL.no (dj := 24) rfl rfl rfl rfl rfl ?_
  refine WL.p rfl rfl rfl (PV.pickT rfl rfl rfl) ?_
  refine WL.next [(28, _), (7, _), (6, _), (5, _), (2, _), (0, _)] ⟨rfl, rfl, rfl, rfl, rfl, rfl, trivial⟩ ?_
  refine W.cT rfl ?_
  refine W.rseq ?_
  refine WL.p rfl rfl rfl (PV.as rfl) ?_
  refine WL.next [(2, _), (7, _), (6, _), (5, _), (0, _)] ⟨rfl, rfl, rfl, rfl, rfl, trivial⟩ ?_
  refine W.ret ?_
  refine K.retB ?_
  refine K.retT ?_
  refine K.retT ?_
  refine K.retB ?_
  refine K.retT ?_
  rotate_left
  refine WL.yes (dj := 14) rfl rfl rfl (decide_eq_false (by assumption)) rfl rfl (OpD.fv (PV.fv (PV.mv rfl))) ?_
  refine WL.yesX (dj := 14) rfl rfl rfl (decide_eq_false (by assumption)) rfl rfl (OpX.call cb251 (c251a) rfl .nil) fun x16 => ?_
  refine WL.nm (H' := _ :: _) rfl ?_
  refine WL.yes (dj := 14) rfl rfl rfl (decide_eq_false (by assumption)) rfl rfl (OpD.fv (PV.fv (PV.ge rfl rfl))) ?_
  refine WL.p rfl rfl rfl (PV.pickF rfl (decide_eq_false (by assumption)) rfl) ?_
  refine WL.p rfl rfl rfl (PV.mv rfl) ?_
  refine WL.splitD (t := 19) rfl (fun h2 => ?_) (fun h2 => ?_)
  refine WL.no (dj := 19) rfl rfl rfl (decide_eq_true (by assumption)) rfl ?_
  refine WL.no (dj := 19) rfl rfl rfl (decide_eq_true (by assumption)) rfl ?_
  refine WL.no (dj := 19) rfl rfl rfl (decide_eq_true (by assumption)) rfl ?_
  refine WL.p rfl rfl rfl (PV.pickT rfl (decide_eq_true (by assumption)) rfl) ?_
  refine WL.p rfl rfl rfl (PV.mv rfl) ?_
  refine WL.no (dj := 24) rfl rfl rfl rfl rfl ?_
  refine WL.no (dj := 24) rfl rfl rfl rfl rfl ?_
  refine WL.no (dj := 24) rfl rfl rfl rfl rfl ?_
  refine WL.p rfl rfl rfl (PV.pickT rfl rfl rfl) ?_
  refine WL.next [(28, _), (7, _), (6, _), (5, _), (2, _), (0, _)] ⟨rfl, rfl, rfl, rfl, rfl, rfl, trivial⟩ ?_
  refine W.cT rfl ?_
  refine W.rseq ?_
  refine WL.p rfl rfl rfl (PV.as rfl) ?_
  refine WL.next [(2, _), (7, _), (6, _), (5, _), (0, _)] ⟨rfl, rfl, rfl, rfl, rfl, trivial⟩ ?_
  refine W.ret ?_
  refine K.retB ?_
  refine K.retT ?_
  refine K.retT ?_
  refine K.retB ?_
  refine K.retT ?_
  rotate_left
  refine WL.yes (dj := 19) rfl rfl rfl (decide_eq_false (by assumption)) rfl rfl (OpD.fv (PV.fv (PV.mv rfl))) ?_
  refine WL.yesX (dj := 19) rfl rfl rfl (decide_eq_false (by assumption)) rfl rfl (OpX.call cb251 (c251b) rfl .nil) fun x21 => ?_
  refine WL.nm (H' := _ :: _) rfl ?_
  refine WL.yes (dj := 19) rfl rfl rfl (decide_eq_false (by assumption)) rfl rfl (OpD.fv (PV.fv (PV.ge rfl rfl))) ?_
  refine WL.p rfl rfl rfl (PV.pickF rfl (decide_eq_false (by assumption)) rfl) ?_
  refine WL.p rfl rfl rfl (PV.mv rfl) ?_
  refine WL.splitD (t := 24) rfl (fun h3 => ?_) (fun h3 => ?_)
  refine WL.no (dj := 24) rfl rfl rfl (decide_eq_true (by assumption)) rfl ?_
  refine WL.no (dj := 24) rfl rfl rfl (decide_eq_true (by assumption)) rfl ?_
  refine WL.no (dj := 24) rfl rfl rfl (decide_eq_true (by assumption)) rfl ?_
  refine WL.p rfl rfl rfl (PV.pickT rfl (decide_eq_true (by assumption)) rfl) ?_
  refine WL.next [(28, _), (7, _), (6, _), (5, _), (2, _), (0, _)] ⟨rfl, rfl, rfl, rfl, rfl, rfl, trivial⟩ ?_
  refine W.cT rfl ?_
  refine W.rseq ?_
  refine WL.p rfl rfl rfl (PV.as rfl) ?_
  refine WL.next [(2, _), (7, _), (6, _), (5, _), (0, _)] ⟨rfl, rfl, rfl, rfl, rfl, trivial⟩ ?_
  refine W.ret ?_
  refine K.retB ?_
  refine K.retT ?_
  refine K.retT ?_
  refine K.retB ?_
  refine K.retT ?_
  rotate_left
  refine WL.yes (dj := 24) rfl rfl rfl (decide_eq_false (by assumption)) rfl rfl (OpD.fv (PV.fv (PV.mv rfl))) ?_
  refine WL.yes (dj := 24) rfl rfl rfl (decide_eq_false (by assumption)) rfl rfl (OpD.fv (PV.fv (PV.lenS ul9 rfl rfl))) ?_
  refine WL.yes (dj := 24) rfl rfl rfl (decide_eq_false (by assumption)) rfl rfl (OpD.fv (PV.fv (PV.gt rfl rfl))) ?_
  refine WL.p rfl rfl rfl (PV.pickF rfl (decide_eq_false (by assumption)) rfl) ?_
  refine WL.next [(28, _), (7, _), (6, _), (5, _), (2, _), (0, _)] ⟨rfl, rfl, rfl, rfl, rfl, rfl, trivial⟩ ?_
  refine W.condD rfl (fun h4 => ?_) (fun h4 => ?_)
  refine W.rseq ?_
  refine WL.p rfl rfl rfl (PV.as rfl) ?_
  refine WL.next [(2, _), (7, _), (6, _), (5, _), (0, _)] ⟨rfl, rfl, rfl, rfl, rfl, trivial⟩ ?_
  refine W.ret ?_
  refine K.retB ?_
  refine K.retT ?_
  refine K.retT ?_
  refine K.retB ?_
  refine K.retT ?_
  rotate_left
  refine W.skip ?_
  refine K.out ?_
  refine K.next [(7, _), (6, _), (5, _), (2, _), (0, _)] ⟨rfl, rfl, rfl, rfl, rfl, trivial⟩ ?_
  refine W.region ?_
  refine WL.p rfl rfl rfl (PV.add64 rfl rfl (by omega)) ?_
  refine WL.p rfl rfl rfl (PV.mv rfl) ?_
  refine WL.nil ?_
  rotate_left
  refine W.exit ?_
  refine K.exitT ?_
  refine K.exitT ?_
  refine K.exit ?_
  refine K.next [(2, _), (0, _)] ⟨rfl, rfl, trivial⟩ ?_
  refine W.rseq ?_
  refine WL.p rfl rfl rfl (PV.mv rfl) ?_
  refine WL.putX rfl rfl rfl (OpX.call cb271 (c271 (by first | omega | (simp only [List.length_append, List.length_cons, List.length_nil, List.length_take]; omega) | assumption) (by first | omega | (simp only [List.length_append, List.length_cons, List.length_nil, List.length_take]; omega) | assumption)) rfl (.cons (i := 0) rfl .nil)) fun x31 => ?_
  refine WL.nm (H' := _ :: _) rfl ?_
  refine WL.p rfl rfl rfl (PV.le rfl rfl) ?_
  refine WL.p rfl rfl rfl (PV.as rfl) ?_
  refine WL.next [(2, _)] ⟨rfl, trivial⟩ ?_
  refine W.ret ?_
  rotate_left
  · refine K.fin (vs := [_]) () ⟨rfl, trivial⟩ ?_ ?_
    · show Value.bool _ = Value.bool _
      rw [bad (h := by omega) (by unfold badB; simp [h1])]
    · refine Ent.keep 0 rfl (sl_pers _ _ _) ?_
      exact Ent.tail (Ent.refl _)
  · refine K.fin (vs := [_]) () ⟨rfl, trivial⟩ ?_ ?_
    · show Value.bool _ = Value.bool _
      rw [bad (h := by omega) (by unfold badB; simp [h2])]
    · refine Ent.keep 0 rfl (sl_pers _ _ _) ?_
      exact Ent.tail (Ent.refl _)
  · refine K.fin (vs := [_]) () ⟨rfl, trivial⟩ ?_ ?_
    · show Value.bool _ = Value.bool _
      rw [bad (h := by omega) (by unfold badB; simp [h3])]
    · refine Ent.keep 0 rfl (sl_pers _ _ _) ?_
      exact Ent.tail (Ent.refl _)
  · refine K.fin (vs := [_]) () ⟨rfl, trivial⟩ ?_ ?_
    · show Value.bool _ = Value.bool _
      rw [bad (h := by omega) (by unfold badB; rw [decide_eq_true (show 997 < l[k].length by omega)]; simp)]
    · refine Ent.keep 0 rfl (sl_pers _ _ _) ?_
      exact Ent.tail (Ent.refl _)
  · refine K.againP (k + 1) ⟨by omega, take_false (by omega) (by unfold badB; rw [decide_eq_false (show ¬ 997 < l[k].length by omega)]; simp [h1, h2, h3]) ha⟩ (by omega) ⟨rfl, rfl, rfl, rfl, rfl, trivial⟩ ?_
    refine Ent.keep 0 rfl (sl_pers _ _ _) ?_
    exact Ent.tail (Ent.refl _)
  · rw [List.take_of_length_le (by omega)] at ha
    refine K.fin (vs := [_]) () ⟨rfl, trivial⟩ ?_ ?_
    · show Value.bool _ = Value.bool _
      unfold goodL
      rw [List.any_eq_false.2 (fun x hx => by simp [ha x hx])]
      congr 1
      rw [Bool.eq_iff_iff]; simp; omega
    · refine Ent.keep 0 rfl (sl_pers _ _ _) ?_
      exact Ent.tail (Ent.refl _)
end Go.Sl
/-! Slices of arrays; messages. -/
namespace Go.Sl
open Go
section
variable {P : Program} {ρ : Env} {H : List Res} {d : Option Tmp} {ty : TypeId} {pos : String} {af : Array Edge} {g : Option (Nat × Bool)} {x y : Operand} {v : Value}
/-- a[:] of an array behind a pointer. -/
theorem PV.sliceA {t e b n s : Nat} (ht : P.underlying t = some (.array n e)) (hs : Sz P e s) (hx : ev ρ x = some (.pointer (some ⟨b, 0, none⟩))) :
    PV P ⟨d, .slice t x none none none, ty, pos, af, g⟩ ρ ((⟨some (b, 0), n⟩ : SP).v n) := fun m a w ha => by
  obtain ⟨inf, h3, h4⟩ := hs
  have he : execOp a.eval ⟨d, .slice t x none none none, ty, pos, af, g⟩ = (Instr.sliceAt t (.pointer (some ⟨b, 0, none⟩)) none none none >>= fun x => pure (Next.value x)) := by
    simp only [execOp, ha.ev hx, Option.map_none]
  rw [he]
  refine run_v ?_
  unfold Instr.sliceAt
  rw [run_bind (run_underlying ht w)]
  simp [Instr.sliceBounds, Instr.sureAddr, run_underlying ht, run_sizeOf h3, SP.v, SP.addr]
  intro h0; simp [Addr.add]
/-- a[k] of an array, of one cell each. -/
theorem PV.ixA {t e n k : Nat} {kk : IntKind} {cs : List Value} (ht : P.underlying t = some (.array n e)) (he : Sc1 P e) (hs : Sz P e 1) (hx : ev ρ x = some (.agg cs.toArray)) (hy : ev ρ y = some (.int kk (k : Int))) (hk : k < n) (hv : cs[k]? = some v) :
    PV P ⟨d, .index t x y, ty, pos, af, g⟩ ρ v := fun m a w ha => by
  obtain ⟨inf, h3, h4⟩ := hs
  have e0 : execOp a.eval ⟨d, .index t x y, ty, pos, af, g⟩ = (Instr.index t (.agg cs.toArray) (.int kk (k : Int)) >>= fun x => pure (Next.value x)) := by
    simp only [execOp, ha.ev hx, ha.ev hy]
  rw [e0]
  refine run_v ?_
  unfold Instr.index
  simp only [asIntOf, pure_bind]
  rw [run_bind (run_underlying ht w)]
  simp only
  rw [if_pos (by omega), run_bind (run_sizeOf h3), h4]
  unfold Go.part
  rw [run_bind (run_isAgg_sc he)]
  simp [hv]
theorem WL.mclone {κ α : Type} {kv : κ → Value} {K : Kd α} {f : FuncId} {aas : Array Operand} {ts : Array TypeId} {t : TypeId} {r n dd : Nat} {m : List (κ × α)} {ops : Array Oper} {Q : Exit → Act → World → Prop} {l : List Oper} (i : Nat) (hX : Xt P f Extern.MapsClone.clone) (ha : evs ρ aas.toList = some [.iface t (.map (some r))])
    (hi : H[i]? = some (mp kv K r m)) (hn : Nat.blt dd n = true) (k : ∀ r' : Nat, WL P n ops Q l ((dd, .iface t (.map (some r'))) :: ρ) (mp kv K r' m :: H)) : WL P n ops Q (⟨some dd, .call ⟨.value (.func f), aas, ts⟩, ty, pos, af, none⟩ :: l) ρ H := by
  have h : OpX P ⟨some dd, .call ⟨.value (.func f), aas, ts⟩, ty, pos, af, none⟩ ρ H (fun r' : Nat => .iface t (.map (some r'))) (fun r' => mp kv K r' m :: H) := OpX.mclone i hX ha hi
  exact WL.putX rfl rfl hn h k
end
/-- A message. -/
structure Msg where
  id : Int
  gen : Int
  born : Int
  tries : Int
  due : Int
  frm : Bytes
  rcpts : List Bytes
  marks : List Int
  body : List Bytes
deriving DecidableEq
def Kmsg : Kd Msg where
  π := SP × SP × SP
  sz := 9
  val m p := .agg #[.int .i64 m.id, .int .i64 m.gen, .int .i64 m.born, .int .i64 m.tries, .int .i64 m.due, str m.frm, p.1.v m.rcpts.length, p.2.1.v m.marks.length, p.2.2.v m.body.length]
  inner m p := [sl Kstr p.1 m.rcpts, sl (Kint .i64) p.2.1 m.marks, sl Kstr p.2.2 m.body]
  len _ _ := rfl
  pers m p r h := by
    simp only [List.mem_cons, List.not_mem_nil, or_false] at h
    rcases h with h | h | h <;> subst h <;> exact sl_pers _ _ _
  na m p u h := NAs.mem (vs := [_, _, _, _, _, _, _, _, _]) ⟨NA.int _ _, NA.int _ _, NA.int _ _, NA.int _ _, NA.int _ _, NA.str _, NA.sl _ _ _, NA.sl _ _ _, NA.sl _ _ _, trivial⟩ u h
theorem Ent.nil_msg : Ent [] (Kmsg.inner ⟨0, 0, 0, 0, 0, [], [], [], []⟩ (SP.nil, SP.nil, SP.nil)) :=
  Ent.add (Ent.nil_sl Kstr) (Ent.take 0 rfl (Ent.add (Ent.nil_sl (Kint .i64)) (Ent.take 0 rfl (Ent.nil_sl Kstr))))
end Go.Sl
