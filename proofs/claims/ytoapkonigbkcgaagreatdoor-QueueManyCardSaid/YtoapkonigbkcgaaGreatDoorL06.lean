/- A library for the proof (part 6): Gd0 Bw0 Br0 Br1 Br2 Be0 Pg. -/
import Derived.Test.YtoapkonigbkcgaaGreatDoorL05
set_option linter.unusedVariables false
set_option linter.unusedSimpArgs false
set_option linter.unusedSectionVars false
/-! Good messages. -/
namespace Go.Sl
open Go Go.Proofs
set_option maxRecDepth 20000
theorem c197n {p : SP} {xs : List Int} (hl : xs.length ≤ 2 ^ 40) :
    Spec P 82 [p.v xs.length, .func (.func 83) #[] #[]] [sl (Kint .i64) p xs] (fun _ : Unit => .bool (xs.any fun n => !(timeB n))) (fun _ => [sl (Kint .i64) p xs]) := c197 (fun n => !(timeB n)) hl cb198 (fun _ => c198)
theorem c197a {p : SP} {xs : List Int} (hl : xs.length ≤ 2 ^ 40) :
    Spec P 82 [p.v xs.length, .func (.func 81) #[] #[]] [sl (Kint .i64) p xs] (fun _ : Unit => .bool (xs.any oddB)) (fun _ => [sl (Kint .i64) p xs]) := c197 oddB hl cb196 (fun _ => c196)
theorem c201b {p : SP} {xs : List Bytes} (hl : xs.length ≤ 2 ^ 40) (hb : ∀ b, b ∈ xs → b.length ≤ 2 ^ 37) :
    Spec P 86 [p.v xs.length, .func (.func 87) #[] #[]] [sl Kstr p xs] (fun _ : Unit => .bool (xs.any fun a => !(mboxB a))) (fun _ => [sl Kstr p xs]) :=
  c201' (fun a => !(mboxB a)) (fun b => b.length ≤ 2 ^ 37) hl cb202 hb fun b h => c202 h
/-- It is not too large for us. -/
structure Msg.Ok (m : Msg) : Prop where
  frm : m.frm.length ≤ 2 ^ 37
  rl : m.rcpts.length ≤ 2 ^ 40
  rb : ∀ b, b ∈ m.rcpts → b.length ≤ 2 ^ 37
  ml : m.marks.length ≤ 2 ^ 40
  bl : m.body.length ≤ 2 ^ 40
  bs : sizeL m.body ≤ 2 ^ 60
def goodM (m : Msg) : Bool :=
  !([m.id, m.gen, m.born, m.tries, m.due].any fun n => !(timeB n)) && (decide (m.frm = []) || mboxB m.frm) && decide (1 ≤ m.rcpts.length) && decide (m.rcpts.length ≤ 20) && !(m.rcpts.any fun a => !(mboxB a)) &&
    decide (m.marks.length ≤ 50) && !(m.marks.any oddB) && goodL m.body
theorem c124 {m : Msg} {p1 p2 p3 : SP} (hm : m.Ok) : Spec P 52 [.agg #[.int .i64 m.id, .int .i64 m.gen, .int .i64 m.born, .int .i64 m.tries, .int .i64 m.due, str m.frm, p1.v m.rcpts.length, p2.v m.marks.length, p3.v m.body.length]] [sl Kstr p1 m.rcpts, sl (Kint .i64) p2 m.marks, sl Kstr p3 m.body]
    (fun _ : Unit => .bool (goodM m)) (fun _ => [sl Kstr p1 m.rcpts, sl (Kint .i64) p2 m.marks, sl Kstr p3 m.body]) := by
  have g1 := hm.frm; have g2 := hm.rl; have g3 := hm.rb; have g4 := hm.ml; have g5 := hm.bl; have g6 := hm.bs
  refine Spec.intro Tryz.func52 rfl rfl rfl fun F => ?_
  refine W.rseq ?_
  refine WL.putX rfl rfl rfl (OpX.box rfl) fun x1 => ?_
  refine WL.nm (H' := pt _ _ [_, _, _, _, _, _, _, _, _] :: _ :: _ :: _ :: _) rfl ?_
  refine WL.p rfl rfl rfl (PV.as rfl) ?_
  refine WL.next [(2, _), (1, _)] ⟨rfl, rfl, trivial⟩ ?_
  refine W.rseq ?_
  refine WL.p rfl rfl rfl (PV.fa fo52_0 rfl rfl) ?_
  refine WL.f rfl rfl rfl (FV.ld (LdD.sc 0 0 sc3 rfl rfl rfl rfl)) ?_
  refine WL.p rfl rfl rfl (PV.fa fo52_1 rfl rfl) ?_
  refine WL.f rfl rfl rfl (FV.ld (LdD.sc 0 1 sc3 rfl rfl rfl rfl)) ?_
  refine WL.p rfl rfl rfl (PV.fa fo52_2 rfl rfl) ?_
  refine WL.f rfl rfl rfl (FV.ld (LdD.sc 0 2 sc3 rfl rfl rfl rfl)) ?_
  refine WL.p rfl rfl rfl (PV.fa fo52_3 rfl rfl) ?_
  refine WL.f rfl rfl rfl (FV.ld (LdD.sc 0 3 sc3 rfl rfl rfl rfl)) ?_
  refine WL.p rfl rfl rfl (PV.fa fo52_4 rfl rfl) ?_
  refine WL.f rfl rfl rfl (FV.ld (LdD.sc 0 4 sc3 rfl rfl rfl rfl)) ?_
  refine WL.p rfl rfl rfl (PV.bldA (cs := _) ba295 rfl rfl) ?_
  refine WL.putX rfl rfl rfl (OpX.alloc zr295) fun x3 => ?_
  refine WL.nm (H' := pt _ _ [_, _, _, _, _] :: pt _ _ [_, _, _, _, _, _, _, _, _] :: _ :: _ :: _ :: _) rfl ?_
  refine WL.done rfl rfl (OpD.st 0 0 sz295 rfl rfl rfl rfl rfl rfl (NAs.mem (vs := [_, _, _, _, _]) ⟨NA.int _ _, NA.int _ _, NA.int _ _, NA.int _ _, NA.int _ _, trivial⟩)) ?_
  refine WL.nm (H' := pt _ _ [_, _, _, _, _] :: pt _ _ [_, _, _, _, _, _, _, _, _] :: _ :: _ :: _ :: _) rfl ?_
  refine WL.next [(3, _), (2, _), (1, _)] ⟨rfl, rfl, rfl, trivial⟩ ?_
  refine W.rseq ?_
  refine WL.p rfl rfl rfl (PV.as rfl) ?_
  refine WL.next [(4, _), (3, _), (2, _), (1, _)] ⟨rfl, rfl, rfl, rfl, trivial⟩ ?_
  refine W.rseq ?_
  refine WL.p rfl rfl rfl (PV.sliceA ua295 sz3 rfl) ?_
  rotate_left
  refine WL.entA (.cons (i := 0) rfl .nil) ((Ent.row (Kint .i64) x3 [m.id, m.gen, m.born, m.tries, m.due] [(), (), (), (), ()] _ rfl rfl).trans (Ent.sealed _ _ _)) ?_
  refine WL.nm (H' := sl (Kint .i64) ⟨some (x3, 0), 5⟩ [m.id, m.gen, m.born, m.tries, m.due] :: tl 1 ⟨some (x3, 0), 5⟩ 5 :: pt x1 0 [_, _, _, _, _, _, _, _, _] :: sl _ _ _ :: sl _ _ _ :: sl _ _ _ :: F) rfl ?_
  have g7 : [m.id, m.gen, m.born, m.tries, m.due].length ≤ 2 ^ 40 := by simp
  refine WL.putX rfl rfl rfl (OpX.call cb197 (c197n (by first | omega | (simp only [List.length_append, List.length_cons, List.length_nil, List.length_take]; omega) | assumption)) rfl (.cons (i := 0) rfl .nil)) fun x17 => ?_
  refine WL.nm (H' := _ :: _ :: pt _ _ [_, _, _, _, _, _, _, _, _] :: _ :: _ :: _ :: _) rfl ?_
  refine WL.p rfl rfl rfl (PV.not rfl) ?_
  refine WL.p rfl rfl rfl (PV.mv rfl) ?_
  refine WL.split (t := 19) rfl (fun h0 => ?_) (fun h0 => ?_)
  refine WL.yes (dj := 19) rfl rfl rfl (by assumption) rfl rfl (OpD.fv (PV.fv (PV.fa fo52_5 rfl rfl))) ?_
  refine WL.yes (dj := 19) rfl rfl rfl (by assumption) rfl rfl (OpD.fv (FV.ld (LdD.sc 2 5 sc9 rfl rfl rfl rfl))) ?_
  refine WL.yes (dj := 19) rfl rfl rfl (by assumption) rfl rfl (OpD.fv (PV.fv (PV.eqS rfl rfl))) ?_
  refine WL.yes (dj := 19) rfl rfl rfl (by assumption) rfl rfl (OpD.fv (PV.fv (PV.mv rfl))) ?_
  refine WL.splitD (t := 23) rfl (fun h1 => ?_) (fun h1 => ?_)
  refine WL.no (dj := 23) rfl rfl rfl (decide_eq_true (by assumption)) rfl ?_
  refine WL.no (dj := 23) rfl rfl rfl (decide_eq_true (by assumption)) rfl ?_
  refine WL.no (dj := 23) rfl rfl rfl (decide_eq_true (by assumption)) rfl ?_
  refine WL.yes (dj := 19) rfl rfl rfl (by assumption) rfl rfl (OpD.fv (PV.fv (PV.pickT rfl (decide_eq_true (by assumption)) rfl))) ?_
  refine WL.p rfl rfl rfl (PV.pickT rfl (by assumption) rfl) ?_
  refine WL.p rfl rfl rfl (PV.mv rfl) ?_
  refine WL.yes (dj := 29) rfl rfl rfl rfl rfl rfl (OpD.fv (PV.fv (PV.fa fo52_6 rfl rfl))) ?_
  refine WL.yes (dj := 29) rfl rfl rfl rfl rfl rfl (OpD.fv (FV.ld (LdD.sc 2 6 sc33 rfl rfl rfl rfl))) ?_
  refine WL.yes (dj := 29) rfl rfl rfl rfl rfl rfl (OpD.fv (PV.fv (PV.lenL ul33 rfl rfl))) ?_
  refine WL.yes (dj := 29) rfl rfl rfl rfl rfl rfl (OpD.fv (PV.fv (PV.ge rfl rfl))) ?_
  refine WL.p rfl rfl rfl (PV.pickT rfl rfl rfl) ?_
  refine WL.p rfl rfl rfl (PV.mv rfl) ?_
  refine WL.splitD (t := 35) rfl (fun h2 => ?_) (fun h2 => ?_)
  refine WL.yes (dj := 35) rfl rfl rfl (decide_eq_true (by assumption)) rfl rfl (OpD.fv (PV.fv (PV.fa fo52_6 rfl rfl))) ?_
  refine WL.yes (dj := 35) rfl rfl rfl (decide_eq_true (by assumption)) rfl rfl (OpD.fv (FV.ld (LdD.sc 2 6 sc33 rfl rfl rfl rfl))) ?_
  refine WL.yes (dj := 35) rfl rfl rfl (decide_eq_true (by assumption)) rfl rfl (OpD.fv (PV.fv (PV.lenL ul33 rfl rfl))) ?_
  refine WL.yes (dj := 35) rfl rfl rfl (decide_eq_true (by assumption)) rfl rfl (OpD.fv (PV.fv (PV.le rfl rfl))) ?_
  refine WL.p rfl rfl rfl (PV.pickT rfl (decide_eq_true (by assumption)) rfl) ?_
  refine WL.p rfl rfl rfl (PV.mv rfl) ?_
  refine WL.splitD (t := 41) rfl (fun h3 => ?_) (fun h3 => ?_)
  refine WL.yes (dj := 41) rfl rfl rfl (decide_eq_true (by assumption)) rfl rfl (OpD.fv (PV.fv (PV.fa fo52_6 rfl rfl))) ?_
  refine WL.yes (dj := 41) rfl rfl rfl (decide_eq_true (by assumption)) rfl rfl (OpD.fv (FV.ld (LdD.sc 2 6 sc33 rfl rfl rfl rfl))) ?_
  refine WL.yesX (dj := 41) rfl rfl rfl (decide_eq_true (by assumption)) rfl rfl (OpX.call cb201 (c201b (by first | omega | (simp only [List.length_append, List.length_cons, List.length_nil, List.length_take]; omega) | assumption) (by first | omega | (simp only [List.length_append, List.length_cons, List.length_nil, List.length_take]; omega) | assumption)) rfl (.cons (i := 3) rfl .nil)) fun x44 => ?_
  refine WL.nm (H' := _ :: _ :: _ :: pt _ _ [_, _, _, _, _, _, _, _, _] :: _ :: _ :: _) rfl ?_
  refine WL.yes (dj := 41) rfl rfl rfl (decide_eq_true (by assumption)) rfl rfl (OpD.fv (PV.fv (PV.not rfl))) ?_
  refine WL.p rfl rfl rfl (PV.pickT rfl (decide_eq_true (by assumption)) rfl) ?_
  refine WL.p rfl rfl rfl (PV.mv rfl) ?_
  refine WL.split (t := 47) rfl (fun h4 => ?_) (fun h4 => ?_)
  refine WL.yes (dj := 47) rfl rfl rfl (by assumption) rfl rfl (OpD.fv (PV.fv (PV.fa fo52_7 rfl rfl))) ?_
  refine WL.yes (dj := 47) rfl rfl rfl (by assumption) rfl rfl (OpD.fv (FV.ld (LdD.sc 3 7 sc32 rfl rfl rfl rfl))) ?_
  refine WL.yes (dj := 47) rfl rfl rfl (by assumption) rfl rfl (OpD.fv (PV.fv (PV.lenL ul32 rfl rfl))) ?_
  refine WL.yes (dj := 47) rfl rfl rfl (by assumption) rfl rfl (OpD.fv (PV.fv (PV.le rfl rfl))) ?_
  refine WL.p rfl rfl rfl (PV.pickT rfl (by assumption) rfl) ?_
  refine WL.p rfl rfl rfl (PV.mv rfl) ?_
  refine WL.splitD (t := 53) rfl (fun h5 => ?_) (fun h5 => ?_)
  refine WL.yes (dj := 53) rfl rfl rfl (decide_eq_true (by assumption)) rfl rfl (OpD.fv (PV.fv (PV.fa fo52_7 rfl rfl))) ?_
  refine WL.yes (dj := 53) rfl rfl rfl (decide_eq_true (by assumption)) rfl rfl (OpD.fv (FV.ld (LdD.sc 3 7 sc32 rfl rfl rfl rfl))) ?_
  refine WL.yes (dj := 53) rfl rfl rfl (decide_eq_true (by assumption)) rfl rfl (OpD.fv (PV.fv (PV.mv rfl))) ?_
  refine WL.yesX (dj := 53) rfl rfl rfl (decide_eq_true (by assumption)) rfl rfl (OpX.call cb197 (c197a (by first | omega | (simp only [List.length_append, List.length_cons, List.length_nil, List.length_take]; omega) | assumption)) rfl (.cons (i := 4) rfl .nil)) fun x57 => ?_
  refine WL.nm (H' := _ :: _ :: _ :: _ :: pt _ _ [_, _, _, _, _, _, _, _, _] :: _ :: _) rfl ?_
  refine WL.yes (dj := 53) rfl rfl rfl (decide_eq_true (by assumption)) rfl rfl (OpD.fv (PV.fv (PV.not rfl))) ?_
  refine WL.p rfl rfl rfl (PV.pickT rfl (decide_eq_true (by assumption)) rfl) ?_
  refine WL.p rfl rfl rfl (PV.mv rfl) ?_
  refine WL.split (t := 60) rfl (fun h6 => ?_) (fun h6 => ?_)
  refine WL.yes (dj := 60) rfl rfl rfl (by assumption) rfl rfl (OpD.fv (PV.fv (PV.fa fo52_8 rfl rfl))) ?_
  refine WL.yes (dj := 60) rfl rfl rfl (by assumption) rfl rfl (OpD.fv (FV.ld (LdD.sc 4 8 sc33 rfl rfl rfl rfl))) ?_
  refine WL.yesX (dj := 60) rfl rfl rfl (by assumption) rfl rfl (OpX.call cb203 (c203 (by first | omega | (simp only [List.length_append, List.length_cons, List.length_nil, List.length_take]; omega) | assumption) (by first | omega | (simp only [List.length_append, List.length_cons, List.length_nil, List.length_take]; omega) | assumption)) rfl (.cons (i := 5) rfl .nil)) fun x63 => ?_
  refine WL.nm (H' := _ :: _ :: _ :: _ :: _ :: pt _ _ [_, _, _, _, _, _, _, _, _] :: _) rfl ?_
  refine WL.p rfl rfl rfl (PV.pickT rfl (by assumption) rfl) ?_
  refine WL.p rfl rfl rfl (PV.as rfl) ?_
  refine WL.next [(2, _)] ⟨rfl, trivial⟩ ?_
  refine W.ret ?_
  rotate_left
  refine WL.no (dj := 60) rfl rfl rfl (by assumption) rfl ?_
  refine WL.no (dj := 60) rfl rfl rfl (by assumption) rfl ?_
  refine WL.no (dj := 60) rfl rfl rfl (by assumption) rfl ?_
  refine WL.p rfl rfl rfl (PV.pickF rfl (by assumption) rfl) ?_
  refine WL.p rfl rfl rfl (PV.as rfl) ?_
  refine WL.next [(2, _)] ⟨rfl, trivial⟩ ?_
  refine W.ret ?_
  rotate_left
  refine WL.no (dj := 53) rfl rfl rfl (decide_eq_false (by assumption)) rfl ?_
  refine WL.no (dj := 53) rfl rfl rfl (decide_eq_false (by assumption)) rfl ?_
  refine WL.no (dj := 53) rfl rfl rfl (decide_eq_false (by assumption)) rfl ?_
  refine WL.no (dj := 53) rfl rfl rfl (decide_eq_false (by assumption)) rfl ?_
  refine WL.no (dj := 53) rfl rfl rfl (decide_eq_false (by assumption)) rfl ?_
  refine WL.p rfl rfl rfl (PV.pickF rfl (decide_eq_false (by assumption)) rfl) ?_
  refine WL.p rfl rfl rfl (PV.mv rfl) ?_
  refine WL.no (dj := 60) rfl rfl rfl rfl rfl ?_
  refine WL.no (dj := 60) rfl rfl rfl rfl rfl ?_
  refine WL.no (dj := 60) rfl rfl rfl rfl rfl ?_
  refine WL.p rfl rfl rfl (PV.pickF rfl rfl rfl) ?_
  refine WL.p rfl rfl rfl (PV.as rfl) ?_
  refine WL.next [(2, _)] ⟨rfl, trivial⟩ ?_
  refine W.ret ?_
  rotate_left
  refine WL.no (dj := 47) rfl rfl rfl (by assumption) rfl ?_
  refine WL.no (dj := 47) rfl rfl rfl (by assumption) rfl ?_
  refine WL.no (dj := 47) rfl rfl rfl (by assumption) rfl ?_
  refine WL.no (dj := 47) rfl rfl rfl (by assumption) rfl ?_
  refine WL.p rfl rfl rfl (PV.pickF rfl (by assumption) rfl) ?_
  refine WL.p rfl rfl rfl (PV.mv rfl) ?_
  refine WL.no (dj := 53) rfl rfl rfl rfl rfl ?_
  refine WL.no (dj := 53) rfl rfl rfl rfl rfl ?_
  refine WL.no (dj := 53) rfl rfl rfl rfl rfl ?_
  refine WL.no (dj := 53) rfl rfl rfl rfl rfl ?_
  refine WL.no (dj := 53) rfl rfl rfl rfl rfl ?_
  refine WL.p rfl rfl rfl (PV.pickF rfl rfl rfl) ?_
  refine WL.p rfl rfl rfl (PV.mv rfl) ?_
  refine WL.no (dj := 60) rfl rfl rfl rfl rfl ?_
  refine WL.no (dj := 60) rfl rfl rfl rfl rfl ?_
  refine WL.no (dj := 60) rfl rfl rfl rfl rfl ?_
  refine WL.p rfl rfl rfl (PV.pickF rfl rfl rfl) ?_
  refine WL.p rfl rfl rfl (PV.as rfl) ?_
  refine WL.next [(2, _)] ⟨rfl, trivial⟩ ?_
  refine W.ret ?_
  rotate_left
  refine WL.no (dj := 41) rfl rfl rfl (decide_eq_false (by assumption)) rfl ?_
  refine WL.no (dj := 41) rfl rfl rfl (decide_eq_false (by assumption)) rfl ?_
  refine WL.no (dj := 41) rfl rfl rfl (decide_eq_false (by assumption)) rfl ?_
  refine WL.no (dj := 41) rfl rfl rfl (decide_eq_false (by assumption)) rfl ?_
  refine WL.p rfl rfl rfl (PV.pickF rfl (decide_eq_false (by assumption)) rfl) ?_
  refine WL.p rfl rfl rfl (PV.mv rfl) ?_
  refine WL.no (dj := 47) rfl rfl rfl rfl rfl ?_
  refine WL.no (dj := 47) rfl rfl rfl rfl rfl ?_
  refine WL.no (dj := 47) rfl rfl rfl rfl rfl ?_
  refine WL.no (dj := 47) rfl rfl rfl rfl rfl ?_
  refine WL.p rfl rfl rfl (PV.pickF rfl rfl rfl) ?_
  refine WL.p rfl rfl rfl (PV.mv rfl) ?_
  refine WL.no (dj := 53) rfl rfl rfl rfl rfl ?_
  refine WL.no (dj := 53) rfl rfl rfl rfl rfl ?_
  refine WL.no (dj := 53) rfl rfl rfl rfl rfl ?_
  refine WL.no (dj := 53) rfl rfl rfl rfl rfl ?_
  refine WL.no (dj := 53) rfl rfl rfl rfl rfl ?_
  refine WL.p rfl rfl rfl (PV.pickF rfl rfl rfl) ?_
  refine WL.p rfl rfl rfl (PV.mv rfl) ?_
  refine WL.no (dj := 60) rfl rfl rfl rfl rfl ?_
  refine WL.no (dj := 60) rfl rfl rfl rfl rfl ?_
  refine WL.no (dj := 60) rfl rfl rfl rfl rfl ?_
  refine WL.p rfl rfl rfl (PV.pickF rfl rfl rfl) ?_
  refine WL.p rfl rfl rfl (PV.as rfl) ?_
  refine WL.next [(2, _)] ⟨rfl, trivial⟩ ?_
  refine W.ret ?_
  rotate_left
  refine WL.no (dj := 35) rfl rfl rfl (decide_eq_false (by assumption)) rfl ?_
  refine WL.no (dj := 35) rfl rfl rfl (decide_eq_false (by assumption)) rfl ?_
  refine WL.no (dj := 35) rfl rfl rfl (decide_eq_false (by assumption)) rfl ?_
  refine WL.no (dj := 35) rfl rfl rfl (decide_eq_false (by assumption)) rfl ?_
  refine WL.p rfl rfl rfl (PV.pickF rfl (decide_eq_false (by assumption)) rfl) ?_
  refine WL.p rfl rfl rfl (PV.mv rfl) ?_
  refine WL.no (dj := 41) rfl rfl rfl rfl rfl ?_
  refine WL.no (dj := 41) rfl rfl rfl rfl rfl ?_
  refine WL.no (dj := 41) rfl rfl rfl rfl rfl ?_
  refine WL.no (dj := 41) rfl rfl rfl rfl rfl ?_
  refine WL.p rfl rfl rfl (PV.pickF rfl rfl rfl) ?_
  refine WL.p rfl rfl rfl (PV.mv rfl) ?_
  refine WL.no (dj := 47) rfl rfl rfl rfl rfl ?_
  refine WL.no (dj := 47) rfl rfl rfl rfl rfl ?_
  refine WL.no (dj := 47) rfl rfl rfl rfl rfl ?_
  refine WL.no (dj := 47) rfl rfl rfl rfl rfl ?_
  refine WL.p rfl rfl rfl (PV.pickF rfl rfl rfl) ?_
  refine WL.p rfl rfl rfl (PV.mv rfl) ?_
  refine WL.no (dj := 53) rfl rfl rfl rfl rfl ?_
  refine WL.no (dj := 53) rfl rfl rfl rfl rfl ?_
  refine WL.no (dj := 53) rfl rfl rfl rfl rfl ?_
  refine WL.no (dj := 53) rfl rfl rfl rfl rfl ?_
  refine WL.no (dj := 53) rfl rfl rfl rfl rfl ?_
  refine WL.p rfl rfl rfl (PV.pickF rfl rfl rfl) ?_
  refine WL.p rfl rfl rfl (PV.mv rfl) ?_
  refine WL.no (dj := 60) rfl rfl rfl rfl rfl ?_
  refine WL.no (dj := 60) rfl rfl rfl rfl rfl ?_
  refine WL.no (dj := 60) rfl rfl rfl rfl rfl ?_
  refine WL.p rfl rfl rfl (PV.pickF rfl rfl rfl) ?_
  refine WL.p rfl rfl rfl (PV.as rfl) ?_
  refine WL.next [(2, _)] ⟨rfl, trivial⟩ ?_
  refine W.ret ?_
  rotate_left
  refine WL.yes (dj := 23) rfl rfl rfl (decide_eq_false (by assumption)) rfl rfl (OpD.fv (PV.fv (PV.fa fo52_5 rfl rfl))) ?_
  refine WL.yes (dj := 23) rfl rfl rfl (decide_eq_false (by assumption)) rfl rfl (OpD.fv (FV.ld (LdD.sc 2 5 sc9 rfl rfl rfl rfl))) ?_
  refine WL.yesX (dj := 23) rfl rfl rfl (decide_eq_false (by assumption)) rfl rfl (OpX.call cb200 (c200 (by first | omega | (simp only [List.length_append, List.length_cons, List.length_nil, List.length_take]; omega) | assumption)) rfl .nil) fun x26 => ?_
  refine WL.nm (H' := _ :: _ :: pt _ _ [_, _, _, _, _, _, _, _, _] :: _ :: _ :: _ :: _) rfl ?_
  refine WL.yes (dj := 19) rfl rfl rfl (by assumption) rfl rfl (OpD.fv (PV.fv (PV.pickF rfl (decide_eq_false (by assumption)) rfl))) ?_
  refine WL.p rfl rfl rfl (PV.pickT rfl (by assumption) rfl) ?_
  refine WL.p rfl rfl rfl (PV.mv rfl) ?_
  refine WL.split (t := 29) rfl (fun h7 => ?_) (fun h7 => ?_)
  refine WL.yes (dj := 29) rfl rfl rfl (by assumption) rfl rfl (OpD.fv (PV.fv (PV.fa fo52_6 rfl rfl))) ?_
  refine WL.yes (dj := 29) rfl rfl rfl (by assumption) rfl rfl (OpD.fv (FV.ld (LdD.sc 2 6 sc33 rfl rfl rfl rfl))) ?_
  refine WL.yes (dj := 29) rfl rfl rfl (by assumption) rfl rfl (OpD.fv (PV.fv (PV.lenL ul33 rfl rfl))) ?_
  refine WL.yes (dj := 29) rfl rfl rfl (by assumption) rfl rfl (OpD.fv (PV.fv (PV.ge rfl rfl))) ?_
  refine WL.p rfl rfl rfl (PV.pickT rfl (by assumption) rfl) ?_
  refine WL.p rfl rfl rfl (PV.mv rfl) ?_
  refine WL.splitD (t := 35) rfl (fun h8 => ?_) (fun h8 => ?_)
  refine WL.yes (dj := 35) rfl rfl rfl (decide_eq_true (by assumption)) rfl rfl (OpD.fv (PV.fv (PV.fa fo52_6 rfl rfl))) ?_
  refine WL.yes (dj := 35) rfl rfl rfl (decide_eq_true (by assumption)) rfl rfl (OpD.fv (FV.ld (LdD.sc 2 6 sc33 rfl rfl rfl rfl))) ?_
  refine WL.yes (dj := 35) rfl rfl rfl (decide_eq_true (by assumption)) rfl rfl (OpD.fv (PV.fv (PV.lenL ul33 rfl rfl))) ?_
  refine WL.yes (dj := 35) rfl rfl rfl (decide_eq_true (by assumption)) rfl rfl (OpD.fv (PV.fv (PV.le rfl rfl))) ?_
  refine WL.p rfl rfl rfl (PV.pickT rfl (decide_eq_true (by assumption)) rfl) ?_
  refine WL.p rfl rfl rfl (PV.mv rfl) ?_
  refine WL.splitD (t := 41) rfl (fun h9 => ?_) (fun h9 => ?_)
  refine WL.yes (dj := 41) rfl rfl rfl (decide_eq_true (by assumption)) rfl rfl (OpD.fv (PV.fv (PV.fa fo52_6 rfl rfl))) ?_
  refine WL.yes (dj := 41) rfl rfl rfl (decide_eq_true (by assumption)) rfl rfl (OpD.fv (FV.ld (LdD.sc 2 6 sc33 rfl rfl rfl rfl))) ?_
  refine WL.yesX (dj := 41) rfl rfl rfl (decide_eq_true (by assumption)) rfl rfl (OpX.call cb201 (c201b (by first | omega | (simp only [List.length_append, List.length_cons, List.length_nil, List.length_take]; omega) | assumption) (by first | omega | (simp only [List.length_append, List.length_cons, List.length_nil, List.length_take]; omega) | assumption)) rfl (.cons (i := 3) rfl .nil)) fun x44 => ?_
  refine WL.nm (H' := _ :: _ :: _ :: pt _ _ [_, _, _, _, _, _, _, _, _] :: _ :: _ :: _) rfl ?_
  refine WL.yes (dj := 41) rfl rfl rfl (decide_eq_true (by assumption)) rfl rfl (OpD.fv (PV.fv (PV.not rfl))) ?_
  refine WL.p rfl rfl rfl (PV.pickT rfl (decide_eq_true (by assumption)) rfl) ?_
  refine WL.p rfl rfl rfl (PV.mv rfl) ?_
  refine WL.split (t := 47) rfl (fun h10 => ?_) (fun h10 => ?_)
  refine WL.yes (dj := 47) rfl rfl rfl (by assumption) rfl rfl (OpD.fv (PV.fv (PV.fa fo52_7 rfl rfl))) ?_
  refine WL.yes (dj := 47) rfl rfl rfl (by assumption) rfl rfl (OpD.fv (FV.ld (LdD.sc 3 7 sc32 rfl rfl rfl rfl))) ?_
  refine WL.yes (dj := 47) rfl rfl rfl (by assumption) rfl rfl (OpD.fv (PV.fv (PV.lenL ul32 rfl rfl))) ?_
  refine WL.yes (dj := 47) rfl rfl rfl (by assumption) rfl rfl (OpD.fv (PV.fv (PV.le rfl rfl))) ?_
  refine WL.p rfl rfl rfl (PV.pickT rfl (by assumption) rfl) ?_
  refine WL.p rfl rfl rfl (PV.mv rfl) ?_
  refine WL.splitD (t := 53) rfl (fun h11 => ?_) (fun h11 => ?_)
  refine WL.yes (dj := 53) rfl rfl rfl (decide_eq_true (by assumption)) rfl rfl (OpD.fv (PV.fv (PV.fa fo52_7 rfl rfl))) ?_
  refine WL.yes (dj := 53) rfl rfl rfl (decide_eq_true (by assumption)) rfl rfl (OpD.fv (FV.ld (LdD.sc 3 7 sc32 rfl rfl rfl rfl))) ?_
  refine WL.yes (dj := 53) rfl rfl rfl (decide_eq_true (by assumption)) rfl rfl (OpD.fv (PV.fv (PV.mv rfl))) ?_
  refine WL.yesX (dj := 53) rfl rfl rfl (decide_eq_true (by assumption)) rfl rfl (OpX.call cb197 (c197a (by first | omega | (simp only [List.length_append, List.length_cons, List.length_nil, List.length_take]; omega) | assumption)) rfl (.cons (i := 4) rfl .nil)) fun x57 => ?_
  refine WL.nm (H' := _ :: _ :: _ :: _ :: pt _ _ [_, _, _, _, _, _, _, _, _] :: _ :: _) rfl ?_
  refine WL.yes (dj := 53) rfl rfl rfl (decide_eq_true (by assumption)) rfl rfl (OpD.fv (PV.fv (PV.not rfl))) ?_
  refine WL.p rfl rfl rfl (PV.pickT rfl (decide_eq_true (by assumption)) rfl) ?_
  refine WL.p rfl rfl rfl (PV.mv rfl) ?_
  refine WL.split (t := 60) rfl (fun h12 => ?_) (fun h12 => ?_)
  refine WL.yes (dj := 60) rfl rfl rfl (by assumption) rfl rfl (OpD.fv (PV.fv (PV.fa fo52_8 rfl rfl))) ?_
  refine WL.yes (dj := 60) rfl rfl rfl (by assumption) rfl rfl (OpD.fv (FV.ld (LdD.sc 4 8 sc33 rfl rfl rfl rfl))) ?_
  refine WL.yesX (dj := 60) rfl rfl rfl (by assumption) rfl rfl (OpX.call cb203 (c203 (by first | omega | (simp only [List.length_append, List.length_cons, List.length_nil, List.length_take]; omega) | assumption) (by first | omega | (simp only [List.length_append, List.length_cons, List.length_nil, List.length_take]; omega) | assumption)) rfl (.cons (i := 5) rfl .nil)) fun x63 => ?_
  refine WL.nm (H' := _ :: _ :: _ :: _ :: _ :: pt _ _ [_, _, _, _, _, _, _, _, _] :: _) rfl ?_
  refine WL.p rfl rfl rfl (PV.pickT rfl (by assumption) rfl) ?_
  refine WL.p rfl rfl rfl (PV.as rfl) ?_
  refine WL.next [(2, _)] ⟨rfl, trivial⟩ ?_
  refine W.ret ?_
  rotate_left
  refine WL.no (dj := 60) rfl rfl rfl (by assumption) rfl ?_
  refine WL.no (dj := 60) rfl rfl rfl (by assumption) rfl ?_
  refine WL.no (dj := 60) rfl rfl rfl (by assumption) rfl ?_
  refine WL.p rfl rfl rfl (PV.pickF rfl (by assumption) rfl) ?_
  refine WL.p rfl rfl rfl (PV.as rfl) ?_
  refine WL.next [(2, _)] ⟨rfl, trivial⟩ ?_
  refine W.ret ?_
  rotate_left
  refine WL.no (dj := 53) rfl rfl rfl (decide_eq_false (by assumption)) rfl ?_
  refine WL.no (dj := 53) rfl rfl rfl (decide_eq_false (by assumption)) rfl ?_
  refine WL.no (dj := 53) rfl rfl rfl (decide_eq_false (by assumption)) rfl ?_
  refine WL.no (dj := 53) rfl rfl rfl (decide_eq_false (by assumption)) rfl ?_
  refine WL.no (dj := 53) rfl rfl rfl (decide_eq_false (by assumption)) rfl ?_
  refine WL.p rfl rfl rfl (PV.pickF rfl (decide_eq_false (by assumption)) rfl) ?_
  refine WL.p rfl rfl rfl (PV.mv rfl) ?_
  refine WL.no (dj := 60) rfl rfl rfl rfl rfl ?_
  refine WL.no (dj := 60) rfl rfl rfl rfl rfl ?_
  refine WL.no (dj := 60) rfl rfl rfl rfl rfl ?_
  refine WL.p rfl rfl rfl (PV.pickF rfl rfl rfl) ?_
  refine WL.p rfl rfl rfl (PV.as rfl) ?_
  refine WL.next [(2, _)] ⟨rfl, trivial⟩ ?_
  refine W.ret ?_
  rotate_left
  refine WL.no (dj := 47) rfl rfl rfl (by assumption) rfl ?_
  refine WL.no (dj := 47) rfl rfl rfl (by assumption) rfl ?_
  refine WL.no (dj := 47) rfl rfl rfl (by assumption) rfl ?_
  refine WL.no (dj := 47) rfl rfl rfl (by assumption) rfl ?_
  refine WL.p rfl rfl rfl (PV.pickF rfl (by assumption) rfl) ?_
  refine WL.p rfl rfl rfl (PV.mv rfl) ?_
  refine WL.no (dj := 53) rfl rfl rfl rfl rfl ?_
  refine WL.no (dj := 53) rfl rfl rfl rfl rfl ?_
  refine WL.no (dj := 53) rfl rfl rfl rfl rfl ?_
  refine WL.no (dj := 53) rfl rfl rfl rfl rfl ?_
  refine WL.no (dj := 53) rfl rfl rfl rfl rfl ?_
  refine WL.p rfl rfl rfl (PV.pickF rfl rfl rfl) ?_
  refine WL.p rfl rfl rfl (PV.mv rfl) ?_
  refine WL.no (dj := 60) rfl rfl rfl rfl rfl ?_
  refine WL.no (dj := 60) rfl rfl rfl rfl rfl ?_
  refine WL.no (dj := 60) rfl rfl rfl rfl rfl ?_
  refine WL.p rfl rfl rfl (PV.pickF rfl rfl rfl) ?_
  refine WL.p rfl rfl rfl (PV.as rfl) ?_
  refine WL.next [(2, _)] ⟨rfl, trivial⟩ ?_
  refine W.ret ?_
  rotate_left
  refine WL.no (dj := 41) rfl rfl rfl (decide_eq_false (by assumption)) rfl ?_
  refine WL.no (dj := 41) rfl rfl rfl (decide_eq_false (by assumption)) rfl ?_
  refine WL.no (dj := 41) rfl rfl rfl (decide_eq_false (by assumption)) rfl ?_
  refine WL.no (dj := 41) rfl rfl rfl (decide_eq_false (by assumption)) rfl ?_
  refine WL.p rfl rfl rfl (PV.pickF rfl (decide_eq_false (by assumption)) rfl) ?_
  refine WL.p rfl rfl rfl (PV.mv rfl) ?_
  refine WL.no (dj := 47) rfl rfl rfl rfl rfl ?_
  refine WL.no (dj := 47) rfl rfl rfl rfl rfl ?_
  refine WL.no (dj := 47) rfl rfl rfl rfl rfl ?_
  refine WL.no (dj := 47) rfl rfl rfl rfl rfl ?_
  refine WL.p rfl rfl rfl (PV.pickF rfl rfl rfl) ?_
  refine WL.p rfl rfl rfl (PV.mv rfl) ?_
  refine WL.no (dj := 53) rfl rfl rfl rfl rfl ?_
  refine WL.no (dj := 53) rfl rfl rfl rfl rfl ?_
  refine WL.no (dj := 53) rfl rfl rfl rfl rfl ?_
  refine WL.no (dj := 53) rfl rfl rfl rfl rfl ?_
  refine WL.no (dj := 53) rfl rfl rfl rfl rfl ?_
  refine WL.p rfl rfl rfl (PV.pickF rfl rfl rfl) ?_
  refine WL.p rfl rfl rfl (PV.mv rfl) ?_
  refine WL.no (dj := 60) rfl rfl rfl rfl rfl ?_
  refine WL.no (dj := 60) rfl rfl rfl rfl rfl ?_
  refine WL.no (dj := 60) rfl rfl rfl rfl rfl ?_
  refine WL.p rfl rfl rfl (PV.pickF rfl rfl rfl) ?_
  refine WL.p rfl rfl rfl (PV.as rfl) ?_
  refine WL.next [(2, _)] ⟨rfl, trivial⟩ ?_
  refine W.ret ?_
  rotate_left
  refine WL.no (dj := 35) rfl rfl rfl (decide_eq_false (by assumption)) rfl ?_
  refine WL.no (dj := 35) rfl rfl rfl (decide_eq_false (by assumption)) rfl ?_
  refine WL.no (dj := 35) rfl rfl rfl (decide_eq_false (by assumption)) rfl ?_
  refine WL.no (dj := 35) rfl rfl rfl (decide_eq_false (by assumption)) rfl ?_
  refine WL.p rfl rfl rfl (PV.pickF rfl (decide_eq_false (by assumption)) rfl) ?_
  refine WL.p rfl rfl rfl (PV.mv rfl) ?_
  refine WL.no (dj := 41) rfl rfl rfl rfl rfl ?_
  refine WL.no (dj := 41) rfl rfl rfl rfl rfl ?_
  refine WL.no (dj := 41) rfl rfl rfl rfl rfl ?_
  refine WL.no (dj := 41) rfl rfl rfl rfl rfl ?_
  refine WL.p rfl rfl rfl (PV.pickF rfl rfl rfl) ?_
  refine WL.p rfl rfl rfl (PV.mv rfl) ?_
  refine WL.no (dj := 47) rfl rfl rfl rfl rfl ?_
  refine WL.no (dj := 47) rfl rfl rfl rfl rfl ?_
  refine WL.no (dj := 47) rfl rfl rfl rfl rfl ?_
  refine WL.no (dj := 47) rfl rfl rfl rfl rfl ?_
  refine WL.p rfl rfl rfl (PV.pickF rfl rfl rfl) ?_
  refine WL.p rfl rfl rfl (PV.mv rfl) ?_
  refine WL.no (dj := 53) rfl rfl rfl rfl rfl ?_
  refine WL.no (dj := 53) rfl rfl rfl rfl rfl ?_
  refine WL.no (dj := 53) rfl rfl rfl rfl rfl ?_
  refine WL.no (dj := 53) rfl rfl rfl rfl rfl ?_
  refine WL.no (dj := 53) rfl rfl rfl rfl rfl ?_
  refine WL.p rfl rfl rfl (PV.pickF rfl rfl rfl) ?_
  refine WL.p rfl rfl rfl (PV.mv rfl) ?_
  refine WL.no (dj := 60) rfl rfl rfl rfl rfl ?_
  refine WL.no (dj := 60) rfl rfl rfl rfl rfl ?_
  refine WL.no (dj := 60) rfl rfl rfl rfl rfl ?_
  refine WL.p rfl rfl rfl (PV.pickF rfl rfl rfl) ?_
  refine WL.p rfl rfl rfl (PV.as rfl) ?_
  refine WL.next [(2, _)] ⟨rfl, trivial⟩ ?_
  refine W.ret ?_
  rotate_left
  refine WL.no (dj := 29) rfl rfl rfl (by assumption) rfl ?_
  refine WL.no (dj := 29) rfl rfl rfl (by assumption) rfl ?_
  refine WL.no (dj := 29) rfl rfl rfl (by assumption) rfl ?_
  refine WL.no (dj := 29) rfl rfl rfl (by assumption) rfl ?_
  refine WL.p rfl rfl rfl (PV.pickF rfl (by assumption) rfl) ?_
  refine WL.p rfl rfl rfl (PV.mv rfl) ?_
  refine WL.no (dj := 35) rfl rfl rfl rfl rfl ?_
  refine WL.no (dj := 35) rfl rfl rfl rfl rfl ?_
  refine WL.no (dj := 35) rfl rfl rfl rfl rfl ?_
  refine WL.no (dj := 35) rfl rfl rfl rfl rfl ?_
  refine WL.p rfl rfl rfl (PV.pickF rfl rfl rfl) ?_
  refine WL.p rfl rfl rfl (PV.mv rfl) ?_
  refine WL.no (dj := 41) rfl rfl rfl rfl rfl ?_
  refine WL.no (dj := 41) rfl rfl rfl rfl rfl ?_
  refine WL.no (dj := 41) rfl rfl rfl rfl rfl ?_
  refine WL.no (dj := 41) rfl rfl rfl rfl rfl ?_
  refine WL.p rfl rfl rfl (PV.pickF rfl rfl rfl) ?_
  refine WL.p rfl rfl rfl (PV.mv rfl) ?_
  refine WL.no (dj := 47) rfl rfl rfl rfl rfl ?_
  refine WL.no (dj := 47) rfl rfl rfl rfl rfl ?_
  refine WL.no (dj := 47) rfl rfl rfl rfl rfl ?_
  refine WL.no (dj := 47) rfl rfl rfl rfl rfl ?_
  refine WL.p rfl rfl rfl (PV.pickF rfl rfl rfl) ?_
  refine WL.p rfl rfl rfl (PV.mv rfl) ?_
  refine WL.no (dj := 53) rfl rfl rfl rfl rfl ?_
  refine WL.no (dj := 53) rfl rfl rfl rfl rfl ?_
  refine WL.no (dj := 53) rfl rfl rfl rfl rfl ?_
  refine WL.no (dj := 53) rfl rfl rfl rfl rfl ?_
  refine WL.no (dj := 53) rfl rfl rfl rfl rfl ?_
  refine WL.p rfl rfl rfl (PV.pickF rfl rfl rfl) ?_
  refine WL.p rfl rfl rfl (PV.mv rfl) ?_
  refine WL.no (dj := 60) rfl rfl rfl rfl rfl ?_
  refine WL.no (dj := 60) rfl rfl rfl rfl rfl ?_
  refine WL.no (dj := 60) rfl rfl rfl rfl rfl ?_
  refine WL.p rfl rfl rfl (PV.pickF rfl rfl rfl) ?_
  refine WL.p rfl rfl rfl (PV.as rfl) ?_
  refine WL.next [(2, _)] ⟨rfl, trivial⟩ ?_
  refine W.ret ?_
  rotate_left
  refine WL.no (dj := 19) rfl rfl rfl (by assumption) rfl ?_
  refine WL.no (dj := 19) rfl rfl rfl (by assumption) rfl ?_
  refine WL.no (dj := 19) rfl rfl rfl (by assumption) rfl ?_
  refine WL.no (dj := 19) rfl rfl rfl (by assumption) rfl ?_
  refine WL.noU (dj := 23) rfl rfl rfl rfl ?_
  refine WL.noU (dj := 23) rfl rfl rfl rfl ?_
  refine WL.noU (dj := 23) rfl rfl rfl rfl ?_
  refine WL.no (dj := 19) rfl rfl rfl (by assumption) rfl ?_
  refine WL.p rfl rfl rfl (PV.pickF rfl (by assumption) rfl) ?_
  refine WL.p rfl rfl rfl (PV.mv rfl) ?_
  refine WL.no (dj := 29) rfl rfl rfl rfl rfl ?_
  refine WL.no (dj := 29) rfl rfl rfl rfl rfl ?_
  refine WL.no (dj := 29) rfl rfl rfl rfl rfl ?_
  refine WL.no (dj := 29) rfl rfl rfl rfl rfl ?_
  refine WL.p rfl rfl rfl (PV.pickF rfl rfl rfl) ?_
  refine WL.p rfl rfl rfl (PV.mv rfl) ?_
  refine WL.no (dj := 35) rfl rfl rfl rfl rfl ?_
  refine WL.no (dj := 35) rfl rfl rfl rfl rfl ?_
  refine WL.no (dj := 35) rfl rfl rfl rfl rfl ?_
  refine WL.no (dj := 35) rfl rfl rfl rfl rfl ?_
  refine WL.p rfl rfl rfl (PV.pickF rfl rfl rfl) ?_
  refine WL.p rfl rfl rfl (PV.mv rfl) ?_
  refine WL.no (dj := 41) rfl rfl rfl rfl rfl ?_
  refine WL.no (dj := 41) rfl rfl rfl rfl rfl ?_
  refine WL.no (dj := 41) rfl rfl rfl rfl rfl ?_
  refine WL.no (dj := 41) rfl rfl rfl rfl rfl ?_
  refine WL.p rfl rfl rfl (PV.pickF rfl rfl rfl) ?_
  refine WL.p rfl rfl rfl (PV.mv rfl) ?_
  refine WL.no (dj := 47) rfl rfl rfl rfl rfl ?_
  refine WL.no (dj := 47) rfl rfl rfl rfl rfl ?_
  refine WL.no (dj := 47) rfl rfl rfl rfl rfl ?_
  refine WL.no (dj := 47) rfl rfl rfl rfl rfl ?_
  refine WL.p rfl rfl rfl (PV.pickF rfl rfl rfl) ?_
  refine WL.p rfl rfl rfl (PV.mv rfl) ?_
  refine WL.no (dj := 53) rfl rfl rfl rfl rfl ?_
  refine WL.no (dj := 53) rfl rfl rfl rfl rfl ?_
  refine WL.no (dj := 53) rfl rfl rfl rfl rfl ?_
  refine WL.no (dj := 53) rfl rfl rfl rfl rfl ?_
  refine WL.no (dj := 53) rfl rfl rfl rfl rfl ?_
  refine WL.p rfl rfl rfl (PV.pickF rfl rfl rfl) ?_
  refine WL.p rfl rfl rfl (PV.mv rfl) ?_
  refine WL.no (dj := 60) rfl rfl rfl rfl rfl ?_
  refine WL.no (dj := 60) rfl rfl rfl rfl rfl ?_
  refine WL.no (dj := 60) rfl rfl rfl rfl rfl ?_
  refine WL.p rfl rfl rfl (PV.pickF rfl rfl rfl) ?_
  refine WL.p rfl rfl rfl (PV.as rfl) ?_
  refine WL.next [(2, _)] ⟨rfl, trivial⟩ ?_
  refine W.ret ?_
  rotate_left
  all_goals
    refine K.fin (vs := [_]) () ⟨rfl, trivial⟩ ?_ ?_
    rotate_left
    (first | refine Ent.keep 0 rfl (sl_pers _ _ _) ?_ | refine Ent.keep 1 rfl (sl_pers _ _ _) ?_ | refine Ent.keep 2 rfl (sl_pers _ _ _) ?_ | refine Ent.keep 3 rfl (sl_pers _ _ _) ?_ | refine Ent.keep 4 rfl (sl_pers _ _ _) ?_ | refine Ent.keep 5 rfl (sl_pers _ _ _) ?_ | refine Ent.keep 6 rfl (sl_pers _ _ _) ?_ | refine Ent.keep 7 rfl (sl_pers _ _ _) ?_)
    (first | refine Ent.keep 0 rfl (sl_pers _ _ _) ?_ | refine Ent.keep 1 rfl (sl_pers _ _ _) ?_ | refine Ent.keep 2 rfl (sl_pers _ _ _) ?_ | refine Ent.keep 3 rfl (sl_pers _ _ _) ?_ | refine Ent.keep 4 rfl (sl_pers _ _ _) ?_ | refine Ent.keep 5 rfl (sl_pers _ _ _) ?_ | refine Ent.keep 6 rfl (sl_pers _ _ _) ?_ | refine Ent.keep 7 rfl (sl_pers _ _ _) ?_)
    (first | refine Ent.keep 0 rfl (sl_pers _ _ _) ?_ | refine Ent.keep 1 rfl (sl_pers _ _ _) ?_ | refine Ent.keep 2 rfl (sl_pers _ _ _) ?_ | refine Ent.keep 3 rfl (sl_pers _ _ _) ?_ | refine Ent.keep 4 rfl (sl_pers _ _ _) ?_ | refine Ent.keep 5 rfl (sl_pers _ _ _) ?_ | refine Ent.keep 6 rfl (sl_pers _ _ _) ?_ | refine Ent.keep 7 rfl (sl_pers _ _ _) ?_)
    (first | exact Ent.tail (Ent.refl _) | exact Ent.tail (Ent.tail (Ent.refl _)) | exact Ent.tail (Ent.tail (Ent.tail (Ent.refl _))) | exact Ent.tail (Ent.tail (Ent.tail (Ent.tail (Ent.refl _)))) | exact Ent.tail (Ent.tail (Ent.tail (Ent.tail (Ent.tail (Ent.refl _))))) | exact Ent.tail (Ent.tail (Ent.tail (Ent.tail (Ent.tail (Ent.tail (Ent.refl _)))))) | exact Ent.tail (Ent.tail (Ent.tail (Ent.tail (Ent.tail (Ent.tail (Ent.tail (Ent.refl _))))))) | exact Ent.tail (Ent.tail (Ent.tail (Ent.tail (Ent.tail (Ent.tail (Ent.tail (Ent.tail (Ent.refl _)))))))))
  all_goals
    show Value.bool _ = Value.bool _
    congr 1
    clear hm g1 g2 g3 g4 g5 g6 g7
    have k1 : ((1 : Int) ≤ m.rcpts.length) = (1 ≤ m.rcpts.length) := by apply propext; omega
    have k2 : ((m.rcpts.length : Int) ≤ 20) = (m.rcpts.length ≤ 20) := by apply propext; omega
    have k3 : ((m.marks.length : Int) ≤ 50) = (m.marks.length ≤ 50) := by apply propext; omega
    try simp only [k1] at *
    try simp only [k2] at *
    try simp only [k3] at *
    clear k1 k2 k3
    unfold goodM
    generalize ([m.id, m.gen, m.born, m.tries, m.due].any fun n => !timeB n) = G at *
    simp [*]
end Go.Sl
/-! A writer of bytes. -/
namespace Go.Sl
open Go Go.Proofs
set_option maxRecDepth 20000
def wrF (w : Nat) (acc : Bytes) (q : SP) : List Res := [pt w 0 [q.v acc.length], sl Kb q acc, tl 1 q acc.length]
def wr (w : Nat) (acc : Bytes) : Res := ex SP (wrF w acc)
theorem c340 {w : Nat} {acc : Bytes} {n : Int} {m : Nat} (hm : m ≤ 8) (ha : acc.length ≤ 2 ^ 45) : Spec P 148 [.pointer (some ⟨w, 0, none⟩), .int .i64 n, .int .i64 m] [wr w acc] (fun _ : Unit => .tuple #[]) (fun _ => [wr w (acc ++ numB n m)]) := by
  refine Spec.exI fun q0 => ?_
  refine Spec.intro Tryz.func148 rfl rfl rfl fun F => ?_
  have hnl := numB_len n m
  refine W.rseq ?_
  refine WL.p rfl rfl rfl (PV.mv rfl) ?_
  refine WL.p rfl rfl rfl (PV.sub64 rfl rfl (by omega)) ?_
  refine WL.p rfl rfl rfl (PV.as rfl) ?_
  refine WL.next [(6, _), (0, _), (1, _)] ⟨rfl, rfl, rfl, trivial⟩ ?_
  refine W.block ?_
  rotate_left
  refine W.loopP2 (fun (k : Nat) (_ : SP) => k ≤ m) (fun k _ => [(6, .int .i64 ((m : Int) - 1 - k)), (1, .int .i64 n), (0, .pointer (some ⟨w, 0, none⟩))])
    (fun k q => pt w 0 [q.v (acc ++ (numB n m).take k).length] :: sl Kb q (acc ++ (numB n m).take k) :: tl 1 q (acc ++ (numB n m).take k).length :: F) (fun k _ => m - k) 0 q0 (Nat.zero_le _)
    ⟨by rw [show (m : Int) - 1 - (0 : Nat) = m - 1 by omega]; rfl, rfl, rfl, trivial⟩ ?_ fun k q hk => ?_
  · rw [show acc ++ (numB n m).take ((0 : Nat), q0).1 = acc by simp]; exact Ent.refl _
  have hkl : (acc ++ (numB n m).take k).length = acc.length + k := by rw [List.length_append, List.length_take]; omega
  by_cases hkm : k < m
  · have e : (numB n m).take (k + 1) = (numB n m).take k ++ [b8 (n.fdiv (2 ^ min (8 * ((m : Int) - 1 - k)).toNat IntKind.i64.bits))] := by
      rw [numB_take_succ n hkm, show (8 * ((m : Int) - 1 - k)).toNat = 8 * (m - 1 - k) by omega]; rfl
    refine W.seq ?_
    refine W.rseq ?_
    refine WL.p rfl rfl rfl (PV.mv rfl) ?_
    refine WL.p rfl rfl rfl (PV.ge rfl rfl) ?_
    refine WL.next [(10, _), (6, _), (1, _), (0, _)] ⟨rfl, rfl, rfl, rfl, trivial⟩ ?_
    refine W.condD rfl (fun h0 => ?_) (fun h0 => ?_)
    refine W.skip ?_
    refine K.next [(6, _), (1, _), (0, _)] ⟨rfl, rfl, rfl, trivial⟩ ?_
    refine W.bseq ?_
    refine W.draw [0, 1, 2, 3, 4, 5, 6, 7, 8, 9, 10, 11, 12, 13, 14] mixedOrders rfl rfl fun hR => ?_
    refine DP.p rfl rfl rfl rfl rfl (PV.mv rfl) ?_
    refine DP.p rfl rfl rfl rfl rfl (PV.mv rfl) ?_
    refine DP.p rfl rfl rfl rfl rfl (PV.nck rfl) ?_
    refine DP.p rfl rfl rfl rfl rfl (PV.fa fo382_0 rfl rfl) ?_
    refine DP.f rfl rfl rfl rfl rfl (FV.ld (LdD.sc 0 0 sc62 rfl rfl rfl rfl)) ?_
    refine DP.p rfl rfl rfl rfl rfl (PV.mv rfl) ?_
    refine DP.p rfl rfl rfl rfl rfl (PV.mv rfl) ?_
    refine DP.p rfl rfl rfl rfl rfl (PV.mul64 rfl rfl (by omega)) ?_
    refine DP.p rfl rfl rfl rfl rfl (PV.shr rfl rfl (by omega)) ?_
    refine DP.p rfl rfl rfl rfl rfl (PV.cv8 ul5 us3 rfl) ?_
    refine DP.e hR [(4, _)] rfl rfl rfl rfl rfl (OpX.rowS (K := Kb) [_] [()] slt62 ⟨_, zr5, rfl⟩ rfl rfl rfl rfl rfl rfl (fun _ h => by first | (simp [innerL, Kb, Kint, Kstr, Kbool] at h; done) | (simp [innerL, Ksl, Kwr, Kmsg] at h; rcases h with h | h | h <;> subst h <;> simp [Sl.rem]) | (simp [innerL, Ksl, Kwr] at h; subst h; simp [Sl.rem]))) rfl (fun _ => (KeepL.keep rfl (FloatAt.of rfl (by first | exact FV.ld (LdD.sc 0 0 sc62 rfl rfl rfl rfl) | exact FV.ld (LdD.ag (us := _) 0 0 ag62 rfl rfl rfl rfl rfl) | exact FV.ld (LdD.sc 1 0 sc62 rfl rfl rfl rfl) | exact FV.ld (LdD.ag (us := _) 1 0 ag62 rfl rfl rfl rfl rfl) | exact FV.ld (LdD.sc 2 0 sc62 rfl rfl rfl rfl) | exact FV.ld (LdD.ag (us := _) 2 0 ag62 rfl rfl rfl rfl rfl) | exact FV.ld (LdD.sc 3 0 sc62 rfl rfl rfl rfl) | exact FV.ld (LdD.ag (us := _) 3 0 ag62 rfl rfl rfl rfl rfl) | exact FV.ld (LdD.sc 4 0 sc62 rfl rfl rfl rfl) | exact FV.ld (LdD.ag (us := _) 4 0 ag62 rfl rfl rfl rfl rfl))) KeepL.nil)) fun x23 => ?_
    refine DP.nm (H' := _ :: _ :: pt _ _ [_] :: _ :: _ :: _) rfl ?_
    refine DP.e hR [] rfl rfl rfl rfl rfl (OpX.app 4 3 slt62 ni62 rfl rfl rfl rfl (SrcV.atSl 0 rfl) (by first | omega | (simp only [List.length_append, List.length_cons, List.length_nil, List.length_take]; omega) | assumption) (by first | omega | (simp only [List.length_append, List.length_cons, List.length_nil, List.length_take]; omega) | assumption)) rfl (fun _ => (KeepL.drop rfl KeepL.nil)) fun x24 => ?_
    refine DP.nm (H' := _ :: _ :: _ :: _ :: pt _ _ [_] :: _ :: _) rfl ?_
    refine DP.p rfl rfl rfl rfl rfl (PV.nck rfl) ?_
    refine DP.p rfl rfl rfl rfl rfl (PV.fa fo382_0 rfl rfl) ?_
    refine DP.e0 hR [] rfl rfl rfl (OpD.st 4 0 sz62 rfl rfl rfl rfl rfl rfl (NA.one (NA.sl _ _ _))) rfl (fun _ => KeepL.nil) fun _ => ?_
    refine DP.nm (H' := _ :: _ :: _ :: _ :: pt _ _ [_] :: _ :: _) rfl ?_
    refine DP.fin hR ?_
    clear hR
    refine K.out ?_
    refine K.next [(6, _), (1, _), (0, _)] ⟨rfl, rfl, rfl, trivial⟩ ?_
    refine W.region ?_
    refine WL.p rfl rfl rfl (PV.mv rfl) ?_
    refine WL.p rfl rfl rfl (PV.sub64 rfl rfl (by omega)) ?_
    refine WL.p rfl rfl rfl (PV.as rfl) ?_
    refine WL.nil ?_
    rotate_left
    refine W.exit ?_
    refine K.exitT ?_
    refine K.exitT ?_
    refine K.exit ?_
    rotate_left
    · rw [List.append_assoc, ← e]
      refine K.againP (k + 1, x24) (show k + 1 ≤ m by omega) (show m - (k + 1) < m - k by omega) ⟨by rw [show (m : Int) - 1 - ((k + 1 : Nat) : Int) = m - 1 - k - 1 by omega]; rfl, rfl, rfl, trivial⟩ ?_
      refine Ent.take 4 rfl ?_
      refine Ent.keep 0 rfl (sl_pers _ _ _) ?_
      refine Ent.take 1 rfl ?_
      exact Ent.tail (Ent.tail (Ent.tail (Ent.tail (Ent.refl _))))
    · exfalso; omega
  · refine W.seq ?_
    refine W.rseq ?_
    refine WL.p rfl rfl rfl (PV.mv rfl) ?_
    refine WL.p rfl rfl rfl (PV.ge rfl rfl) ?_
    refine WL.next [(10, _), (6, _), (1, _), (0, _)] ⟨rfl, rfl, rfl, rfl, trivial⟩ ?_
    refine W.condD rfl (fun h0 => ?_) (fun h0 => ?_)
    refine W.skip ?_
    refine K.next [(6, _), (1, _), (0, _)] ⟨rfl, rfl, rfl, trivial⟩ ?_
    refine W.bseq ?_
    refine W.draw [0, 1, 2, 3, 4, 5, 6, 7, 8, 9, 10, 11, 12, 13, 14] mixedOrders rfl rfl fun hR => ?_
    refine DP.p rfl rfl rfl rfl rfl (PV.mv rfl) ?_
    refine DP.p rfl rfl rfl rfl rfl (PV.mv rfl) ?_
    refine DP.p rfl rfl rfl rfl rfl (PV.nck rfl) ?_
    refine DP.p rfl rfl rfl rfl rfl (PV.fa fo382_0 rfl rfl) ?_
    refine DP.f rfl rfl rfl rfl rfl (FV.ld (LdD.sc 0 0 sc62 rfl rfl rfl rfl)) ?_
    refine DP.p rfl rfl rfl rfl rfl (PV.mv rfl) ?_
    refine DP.p rfl rfl rfl rfl rfl (PV.mv rfl) ?_
    refine DP.p rfl rfl rfl rfl rfl (PV.mul64 rfl rfl (by omega)) ?_
    refine DP.p rfl rfl rfl rfl rfl (PV.shr rfl rfl (by omega)) ?_
    refine DP.p rfl rfl rfl rfl rfl (PV.cv8 ul5 us3 rfl) ?_
    refine DP.e hR [(4, _)] rfl rfl rfl rfl rfl (OpX.rowS (K := Kb) [_] [()] slt62 ⟨_, zr5, rfl⟩ rfl rfl rfl rfl rfl rfl (fun _ h => by first | (simp [innerL, Kb, Kint, Kstr, Kbool] at h; done) | (simp [innerL, Ksl, Kwr, Kmsg] at h; rcases h with h | h | h <;> subst h <;> simp [Sl.rem]) | (simp [innerL, Ksl, Kwr] at h; subst h; simp [Sl.rem]))) rfl (fun _ => (KeepL.keep rfl (FloatAt.of rfl (by first | exact FV.ld (LdD.sc 0 0 sc62 rfl rfl rfl rfl) | exact FV.ld (LdD.ag (us := _) 0 0 ag62 rfl rfl rfl rfl rfl) | exact FV.ld (LdD.sc 1 0 sc62 rfl rfl rfl rfl) | exact FV.ld (LdD.ag (us := _) 1 0 ag62 rfl rfl rfl rfl rfl) | exact FV.ld (LdD.sc 2 0 sc62 rfl rfl rfl rfl) | exact FV.ld (LdD.ag (us := _) 2 0 ag62 rfl rfl rfl rfl rfl) | exact FV.ld (LdD.sc 3 0 sc62 rfl rfl rfl rfl) | exact FV.ld (LdD.ag (us := _) 3 0 ag62 rfl rfl rfl rfl rfl) | exact FV.ld (LdD.sc 4 0 sc62 rfl rfl rfl rfl) | exact FV.ld (LdD.ag (us := _) 4 0 ag62 rfl rfl rfl rfl rfl))) KeepL.nil)) fun x23 => ?_
    refine DP.nm (H' := _ :: _ :: pt _ _ [_] :: _ :: _ :: _) rfl ?_
    refine DP.e hR [] rfl rfl rfl rfl rfl (OpX.app 4 3 slt62 ni62 rfl rfl rfl rfl (SrcV.atSl 0 rfl) (by first | omega | (simp only [List.length_append, List.length_cons, List.length_nil, List.length_take]; omega) | assumption) (by first | omega | (simp only [List.length_append, List.length_cons, List.length_nil, List.length_take]; omega) | assumption)) rfl (fun _ => (KeepL.drop rfl KeepL.nil)) fun x24 => ?_
    refine DP.nm (H' := _ :: _ :: _ :: _ :: pt _ _ [_] :: _ :: _) rfl ?_
    refine DP.p rfl rfl rfl rfl rfl (PV.nck rfl) ?_
    refine DP.p rfl rfl rfl rfl rfl (PV.fa fo382_0 rfl rfl) ?_
    refine DP.e0 hR [] rfl rfl rfl (OpD.st 4 0 sz62 rfl rfl rfl rfl rfl rfl (NA.one (NA.sl _ _ _))) rfl (fun _ => KeepL.nil) fun _ => ?_
    refine DP.nm (H' := _ :: _ :: _ :: _ :: pt _ _ [_] :: _ :: _) rfl ?_
    refine DP.fin hR ?_
    clear hR
    refine K.out ?_
    refine K.next [(6, _), (1, _), (0, _)] ⟨rfl, rfl, rfl, trivial⟩ ?_
    refine W.region ?_
    refine WL.p rfl rfl rfl (PV.mv rfl) ?_
    refine WL.p rfl rfl rfl (PV.sub64 rfl rfl (by omega)) ?_
    refine WL.p rfl rfl rfl (PV.as rfl) ?_
    refine WL.nil ?_
    rotate_left
    refine W.exit ?_
    refine K.exitT ?_
    refine K.exitT ?_
    refine K.exit ?_
    rotate_left
    · exfalso; omega
    · rw [show (numB n m).take k = numB n m from List.take_of_length_le (by omega)]
      refine K.finN (vs := []) () trivial rfl (Ent.fold (f := wrF w _) q ?_)
      refine Ent.take 0 rfl ?_
      refine Ent.keep 0 rfl (sl_pers _ _ _) ?_
      refine Ent.take 1 rfl ?_
      exact Ent.tail (Ent.refl _)
theorem c341 {w : Nat} {acc s : Bytes} (ha : acc.length ≤ 2 ^ 44) (hs : s.length ≤ 2 ^ 44) : Spec P 149 [.pointer (some ⟨w, 0, none⟩), str s] [wr w acc] (fun _ : Unit => .tuple #[]) (fun _ => [wr w (acc ++ (numB s.length 2 ++ s))]) := by
  refine Spec.intro Tryz.func149 rfl rfl rfl fun F => ?_
  refine W.rseq ?_
  refine WL.p rfl rfl rfl (PV.mv rfl) ?_
  refine WL.p rfl rfl rfl (PV.mv rfl) ?_
  refine WL.p rfl rfl rfl (PV.lenS ul9 rfl rfl) ?_
  refine WL.putX rfl rfl rfl (OpX.call cb340 (c340 (by first | omega | (simp only [List.length_append, List.length_cons, List.length_nil, List.length_take]; omega) | assumption) (by first | omega | (simp only [List.length_append, List.length_cons, List.length_nil, List.length_take]; omega) | assumption)) rfl (.cons (i := 0) rfl .nil)) fun x7 => ?_
  refine WL.nm (H' := _ :: _) rfl ?_
  refine WL.next [(0, _), (1, _)] ⟨rfl, rfl, trivial⟩ ?_
  refine W.region ?_
  refine WL.p rfl rfl rfl (PV.mv rfl) ?_
  refine WL.p rfl rfl rfl (PV.mv rfl) ?_
  refine WL.p rfl rfl rfl (PV.nck rfl) ?_
  refine WL.p rfl rfl rfl (PV.fa fo382_0 rfl rfl) ?_
  rotate_left
  refine WL.ex 0 rfl fun q => ?_
  refine WL.nm (H' := pt _ _ [_] :: sl _ _ _ :: tl _ _ _ :: F) rfl ?_
  have hl2 : (numB (s.length : Int) 2).length = 2 := numB_len _ _
  refine WL.f rfl rfl rfl (FV.ld (LdD.sc 0 0 sc62 rfl rfl rfl rfl)) ?_
  refine WL.p rfl rfl rfl (PV.mv rfl) ?_
  refine WL.putX rfl rfl rfl (OpX.app (ys := _) 2 1 slt62 ni9 rfl rfl rfl rfl SrcV.ofStr (by first | omega | (simp only [List.length_append, List.length_cons, List.length_nil, List.length_take]; omega) | assumption) (by first | omega | (simp only [List.length_append, List.length_cons, List.length_nil, List.length_take]; omega) | assumption)) fun x14 => ?_
  refine WL.nm (H' := _ :: _ :: pt _ _ [_] :: _ :: _) rfl ?_
  refine WL.p rfl rfl rfl (PV.nck rfl) ?_
  refine WL.p rfl rfl rfl (PV.fa fo382_0 rfl rfl) ?_
  refine WL.done rfl rfl (OpD.st 2 0 sz62 rfl rfl rfl rfl rfl rfl (NA.one (NA.sl _ _ _))) ?_
  refine WL.nm (H' := _ :: _ :: pt _ _ [_] :: _ :: _) rfl ?_
  refine WL.nil ?_
  rotate_left
  rw [List.append_assoc]
  refine K.finN (vs := []) () trivial rfl (Ent.fold (f := wrF w _) x14 ?_)
  refine Ent.take 2 rfl ?_
  refine Ent.keep 0 rfl (sl_pers _ _ _) ?_
  refine Ent.take 1 rfl ?_
  exact Ent.tail (Ent.tail (Ent.refl _))
end Go.Sl
/-! A reader of bytes, where all goes well. -/
namespace Go.Sl
open Go Go.Proofs
set_option maxRecDepth 20000
def rdF (r : Nat) (b : Bytes) (q : SP) : List Res := [pt r 0 [q.v b.length, .bool false], sl Kb q b]
def rdr (r : Nat) (b : Bytes) : Res := ex SP (rdF r b)
theorem part_at {a b : Bytes} : part (a ++ b) 0 (a.length : Int) = a := by unfold part; simp
theorem part_to {a b : Bytes} {n : Nat} (h : n = a.length) : part (a ++ b) (n : Int) ((a ++ b).length : Int) = b := by
  subst h; unfold part; rw [Int.toNat_natCast, Int.toNat_natCast, List.drop_left, List.length_append]; exact List.take_of_length_le (by omega)
theorem c466 {r n : Nat} {a b : Bytes} (hn : a.length = n) (hl : (a ++ b).length ≤ 2 ^ 50) : Spec P 193 [.pointer (some ⟨r, 0, none⟩), .int .i64 n] [rdr r (a ++ b)] (fun q : SP => q.v a.length) (fun q => [sl Kb q a, rdr r b]) := by
  subst hn
  have hal : (a ++ b).length = a.length + b.length := List.length_append
  refine Spec.exI fun q0 => ?_
  refine Spec.intro Tryz.func193 rfl rfl rfl fun F => ?_
  refine W.rseq ?_
  refine WL.p rfl rfl rfl (PV.as rfl) ?_
  refine WL.next [(4, _), (0, _), (1, _)] ⟨rfl, rfl, rfl, trivial⟩ ?_
  refine W.seq ?_
  refine W.rseq ?_
  refine WL.p rfl rfl rfl (PV.mv rfl) ?_
  refine WL.p rfl rfl rfl (PV.nck rfl) ?_
  refine WL.p rfl rfl rfl (PV.fa fo430_1 rfl rfl) ?_
  refine WL.f rfl rfl rfl (FV.ld (LdD.sc 0 1 sc4 rfl rfl rfl rfl)) ?_
  refine WL.p rfl rfl rfl (PV.mv rfl) ?_
  refine WL.yes (dj := 10) rfl rfl rfl rfl rfl rfl (OpD.fv (PV.fv (PV.mv rfl))) ?_
  refine WL.yes (dj := 10) rfl rfl rfl rfl rfl rfl (OpD.fv (PV.fv (PV.mv rfl))) ?_
  refine WL.yes (dj := 10) rfl rfl rfl rfl rfl rfl (OpD.fv (PV.fv (PV.nck rfl))) ?_
  refine WL.yes (dj := 10) rfl rfl rfl rfl rfl rfl (OpD.fv (PV.fv (PV.fa fo430_0 rfl rfl))) ?_
  refine WL.yes (dj := 10) rfl rfl rfl rfl rfl rfl (OpD.fv (FV.ld (LdD.sc 0 0 sc62 rfl rfl rfl rfl))) ?_
  refine WL.yes (dj := 10) rfl rfl rfl rfl rfl rfl (OpD.fv (PV.fv (PV.lenL ul62 rfl rfl))) ?_
  refine WL.yes (dj := 10) rfl rfl rfl rfl rfl rfl (OpD.fv (PV.fv (PV.gt rfl rfl))) ?_
  refine WL.p rfl rfl rfl (PV.pickF rfl rfl rfl) ?_
  refine WL.next [(18, _), (4, _), (0, _), (1, _)] ⟨rfl, rfl, rfl, rfl, trivial⟩ ?_
  refine W.condD rfl (fun h0 => ?_) (fun h0 => ?_)
  refine W.rseq ?_
  refine WL.p rfl rfl rfl (PV.mv rfl) ?_
  refine WL.p rfl rfl rfl (PV.nck rfl) ?_
  refine WL.p rfl rfl rfl (PV.fa fo430_1 rfl rfl) ?_
  refine WL.done rfl rfl (OpD.st 0 1 sz4 rfl rfl rfl rfl rfl rfl (NA.one (NA.bool _))) ?_
  refine WL.nm (H' := pt _ _ [_, _] :: _ :: _) rfl ?_
  refine WL.next [(4, _), (0, _), (1, _)] ⟨rfl, rfl, rfl, trivial⟩ ?_
  refine W.rseq ?_
  refine WL.p rfl rfl rfl (PV.as rfl) ?_
  refine WL.next [(4, _), (0, _), (1, _)] ⟨rfl, rfl, rfl, trivial⟩ ?_
  refine W.ret ?_
  refine K.retT ?_
  rotate_left
  refine W.skip ?_
  refine K.next [(4, _), (0, _), (1, _)] ⟨rfl, rfl, rfl, trivial⟩ ?_
  refine W.rseq ?_
  refine WL.p rfl rfl rfl (PV.mv rfl) ?_
  refine WL.p rfl rfl rfl (PV.nck rfl) ?_
  refine WL.p rfl rfl rfl (PV.fa fo430_0 rfl rfl) ?_
  refine WL.f rfl rfl rfl (FV.ld (LdD.sc 0 0 sc62 rfl rfl rfl rfl)) ?_
  refine WL.p rfl rfl rfl (PV.mv rfl) ?_
  refine WL.p rfl rfl rfl (PV.mv rfl) ?_
  refine WL.fact (sl_fact 1 rfl) fun hs1 => ?_
  refine WL.putX rfl rfl rfl (OpX.cutS3 1 ul62 sz5 rfl rfl rfl rfl rfl (by first | omega | (simp only [List.length_append, List.length_cons, List.length_nil, List.length_take, List.length_drop, Sl.part]; omega)) (by first | omega | (simp only [List.length_append, List.length_cons, List.length_nil, List.length_take, List.length_drop, Sl.part]; omega)) (by first | omega | (simp only [List.length_append, List.length_cons, List.length_nil, List.length_take, List.length_drop, Sl.part]; omega)) (by first | omega | (simp only [List.length_append, List.length_cons, List.length_nil, List.length_take, List.length_drop, Sl.part]; omega))) fun x28 => ?_
  refine WL.nm (H' := _ :: pt _ _ [_, _] :: _ :: _) rfl ?_
  refine WL.p rfl rfl rfl (PV.as rfl) ?_
  refine WL.next [(5, _), (4, _), (0, _), (1, _)] ⟨rfl, rfl, rfl, rfl, trivial⟩ ?_
  refine W.rseq ?_
  refine WL.p rfl rfl rfl (PV.mv rfl) ?_
  refine WL.p rfl rfl rfl (PV.mv rfl) ?_
  refine WL.p rfl rfl rfl (PV.nck rfl) ?_
  refine WL.p rfl rfl rfl (PV.fa fo430_0 rfl rfl) ?_
  refine WL.f rfl rfl rfl (FV.ld (LdD.sc 1 0 sc62 rfl rfl rfl rfl)) ?_
  refine WL.p rfl rfl rfl (PV.mv rfl) ?_
  refine WL.putX rfl rfl rfl (OpX.cutS 2 ul62 sz5 rfl rfl rfl rfl (by first | omega | (simp only [List.length_append, List.length_cons, List.length_nil, List.length_take, List.length_drop, Sl.part]; omega)) (by first | omega | (simp only [List.length_append, List.length_cons, List.length_nil, List.length_take, List.length_drop, Sl.part]; omega)) (by first | omega | (simp only [List.length_append, List.length_cons, List.length_nil, List.length_take, List.length_drop, Sl.part]; omega))) fun x35 => ?_
  refine WL.nm (H' := _ :: _ :: pt _ _ [_, _] :: _ :: _) rfl ?_
  refine WL.p rfl rfl rfl (PV.nck rfl) ?_
  refine WL.p rfl rfl rfl (PV.fa fo430_0 rfl rfl) ?_
  refine WL.done rfl rfl (OpD.st 2 0 sz62 rfl rfl rfl rfl rfl rfl (NA.one (NA.sl _ _ _))) ?_
  refine WL.nm (H' := _ :: _ :: pt _ _ [_, _] :: _ :: _) rfl ?_
  refine WL.next [(5, _), (4, _)] ⟨rfl, rfl, trivial⟩ ?_
  refine W.rseq ?_
  refine WL.p rfl rfl rfl (PV.mv rfl) ?_
  refine WL.p rfl rfl rfl (PV.as rfl) ?_
  refine WL.next [(4, _)] ⟨rfl, trivial⟩ ?_
  refine W.ret ?_
  rotate_left
  · exfalso; omega
  · rw [part_at, part_to rfl]
    refine K.fin (vs := [_]) x28 ⟨rfl, trivial⟩ rfl ?_
    refine Ent.keep 1 rfl (sl_pers _ _ _) (Ent.fold (f := rdF r b) x35 ?_)
    refine Ent.take 2 rfl ?_
    refine Ent.keep 0 rfl (sl_pers _ _ _) ?_
    exact Ent.tail (Ent.tail (Ent.tail (Ent.refl _)))
theorem c407 {r n : Nat} {a b : Bytes} (hn : a.length = n) (h7 : n ≤ 6) (hl : (a ++ b).length ≤ 2 ^ 50) : Spec P 168 [.pointer (some ⟨r, 0, none⟩), .int .i64 n] [rdr r (a ++ b)] (fun _ : Unit => .int .i64 (beN a)) (fun _ => [rdr r b]) := by
  have c466n := c466 (r := r) (b := b) hn hl
  refine Spec.intro Tryz.func168 rfl rfl rfl fun F => ?_
  refine W.rseq ?_
  refine WL.p rfl rfl rfl (PV.as rfl) ?_
  refine WL.next [(4, _), (0, _), (1, _)] ⟨rfl, rfl, rfl, trivial⟩ ?_
  refine W.rseq ?_
  refine WL.p rfl rfl rfl (PV.as rfl) ?_
  refine WL.next [(5, _), (4, _), (0, _), (1, _)] ⟨rfl, rfl, rfl, rfl, trivial⟩ ?_
  refine W.seq ?_
  refine W.rseq ?_
  refine WL.p rfl rfl rfl (PV.mv rfl) ?_
  refine WL.p rfl rfl rfl (PV.mv rfl) ?_
  refine WL.putX rfl rfl rfl (OpX.call cb466 (c466 (by first | omega | (simp only [List.length_append, List.length_cons, List.length_nil, List.length_take]; omega) | assumption) (by first | omega | (simp only [List.length_append, List.length_cons, List.length_nil, List.length_take]; omega) | assumption)) rfl (.cons (i := 0) rfl .nil)) fun x10 => ?_
  refine WL.nm (H' := _ :: _ :: _) rfl ?_
  refine WL.p rfl rfl rfl (PV.lenL ul62 rfl rfl) ?_
  refine WL.p rfl rfl rfl (PV.mv rfl) ?_
  refine WL.next [(12, _), (11, _), (10, _), (5, _), (4, _)] ⟨rfl, rfl, rfl, rfl, rfl, trivial⟩ ?_
  refine W.block ?_
  rotate_left
  refine W.loopP (X := Nat) (fun k => k ≤ a.length) (fun k => [(12, .int .i64 k), (11, .int .i64 a.length), (10, x10.v a.length), (5, .int .i64 (beN (a.take k)))])
    (fun _ => sl Kb x10 a :: rdr r b :: F) (fun k => a.length - k) 0 (Nat.zero_le _) ⟨rfl, rfl, rfl, rfl, trivial⟩ (Ent.refl _) fun k hk => ?_
  have hbk : beN (a.take k) < 36028797018963968 := by
    have h1 := beN_lt (a.take k)
    have h3 : 256 ^ (a.take k).length ≤ 256 ^ 6 := Nat.pow_le_pow_right (by omega) (by rw [List.length_take]; omega)
    omega
  refine W.rseq ?_
  refine WL.p rfl rfl rfl (PV.lt rfl rfl) ?_
  refine WL.next [(13, _), (12, _), (11, _), (10, _), (5, _)] ⟨rfl, rfl, rfl, rfl, rfl, trivial⟩ ?_
  refine W.seq ?_
  refine W.condD rfl (fun h0 => ?_) (fun h0 => ?_)
  refine W.skip ?_
  refine K.next [(12, _), (11, _), (10, _), (5, _)] ⟨rfl, rfl, rfl, rfl, trivial⟩ ?_
  refine W.bseq ?_
  refine W.rseq ?_
  refine WL.fact (sl_fact 0 rfl) fun hs1 => ?_
  refine WL.p rfl rfl rfl (PV.ixN (by assumption) ul62 sz5 rfl rfl (by omega)) ?_
  refine WL.f rfl rfl rfl (FV.ld (LdD.sl1B 0 sc5 rfl rfl rfl (by omega))) ?_
  refine WL.p rfl rfl rfl (PV.as rfl) ?_
  refine WL.next [(7, _), (12, _), (11, _), (10, _), (5, _)] ⟨rfl, rfl, rfl, rfl, rfl, trivial⟩ ?_
  refine W.region ?_
  refine WL.p rfl rfl rfl (PV.mv rfl) ?_
  refine WL.p rfl rfl rfl (PV.shl rfl rfl (by omega)) ?_
  refine WL.p rfl rfl rfl (PV.mv rfl) ?_
  refine WL.p rfl rfl rfl (PV.cvI ul3 us5 rfl) ?_
  refine WL.p rfl rfl rfl (PV.or rfl rfl) ?_
  refine WL.p rfl rfl rfl (PV.as rfl) ?_
  refine WL.nil ?_
  refine K.out ?_
  refine K.next [(5, _), (12, _), (11, _), (10, _)] ⟨rfl, rfl, rfl, rfl, trivial⟩ ?_
  refine W.region ?_
  refine WL.p rfl rfl rfl (PV.add64 rfl rfl (by omega)) ?_
  refine WL.p rfl rfl rfl (PV.mv rfl) ?_
  refine WL.nil ?_
  rotate_left
  refine W.exit ?_
  refine K.exitT ?_
  refine K.exitT ?_
  refine K.exit ?_
  refine K.next [(5, _)] ⟨rfl, trivial⟩ ?_
  refine W.rseq ?_
  refine WL.p rfl rfl rfl (PV.mv rfl) ?_
  refine WL.p rfl rfl rfl (PV.as rfl) ?_
  refine WL.next [(4, _)] ⟨rfl, trivial⟩ ?_
  refine W.ret ?_
  rotate_left
  · have e : IntKind.i64.wrap (BitVec.ofInt IntKind.i64.bits (IntKind.i64.wrap ((beN (a.take k) : Int) * 2 ^ min (Int.toNat 8) IntKind.i64.bits)) ||| BitVec.ofInt IntKind.i64.bits (IntKind.i64.wrap ((a[k]'(by omega)).toNat : Int))).toNat = ((beN (a.take (k + 1)) : Nat) : Int) := by
      rw [or64 hbk (UInt8.toNat_lt _), beN_take_succ (by omega)]
    refine K.againP (k + 1) (by omega) (by omega) ⟨rfl, rfl, rfl, by rw [← e]; rfl, trivial⟩ ?_
    refine Ent.keep 0 rfl (sl_pers _ _ _) ?_
    refine Ent.take 1 rfl ?_
    exact Ent.tail (Ent.refl _)
  · rw [List.take_of_length_le (by omega)]
    refine K.fin (vs := [_]) () ⟨rfl, trivial⟩ rfl ?_
    refine Ent.take 1 rfl ?_
    exact Ent.tail (Ent.refl _)
/-- A text asx it lies in bytes. -/
def txB (s : Bytes) : Bytes := numB s.length 2 ++ s
theorem txB_len (s : Bytes) : (txB s).length = s.length + 2 := by unfold txB; rw [List.length_append, numB_len]; omega
theorem c408 {r : Nat} {s b : Bytes} (hs : s.length < 65536) (hl : (txB s ++ b).length ≤ 2 ^ 50) : Spec P 169 [.pointer (some ⟨r, 0, none⟩)] [rdr r (txB s ++ b)] (fun _ : Unit => str s) (fun _ => [rdr r b]) := by
  have e : txB s ++ b = numB s.length 2 ++ (s ++ b) := by unfold txB; rw [List.append_assoc]
  rw [e] at hl ⊢
  have c407n := c407 (r := r) (n := 2) (a := numB s.length 2) (b := s ++ b) (numB_len _ _) (by omega) hl
  rw [numB_inv (by omega) (by omega)] at c407n
  have c466n := c466 (r := r) (n := s.length) (a := s) (b := b) rfl (by rw [List.length_append, numB_len] at hl; omega)
  refine Spec.intro Tryz.func169 rfl rfl rfl fun F => ?_
  refine W.rseq ?_
  refine WL.p rfl rfl rfl (PV.as rfl) ?_
  refine WL.next [(2, _), (0, _)] ⟨rfl, rfl, trivial⟩ ?_
  refine W.rseq ?_
  refine WL.p rfl rfl rfl (PV.mv rfl) ?_
  refine WL.p rfl rfl rfl (PV.mv rfl) ?_
  refine WL.putX rfl rfl rfl (OpX.call cb407 (c407n) rfl (.cons (i := 0) rfl .nil)) fun x5 => ?_
  refine WL.nm (H' := _ :: _) rfl ?_
  refine WL.putX rfl rfl rfl (OpX.call cb466 (c466n) rfl (.cons (i := 0) rfl .nil)) fun x6 => ?_
  refine WL.nm (H' := _ :: _ :: _) rfl ?_
  refine WL.f rfl rfl rfl (FV.b2s 0 ul62 ul9 ul5 rfl rfl) ?_
  refine WL.p rfl rfl rfl (PV.as rfl) ?_
  refine WL.next [(2, _)] ⟨rfl, trivial⟩ ?_
  refine W.ret ?_
  rotate_left
  refine K.fin (vs := [_]) () ⟨rfl, trivial⟩ rfl ?_
  refine Ent.take 1 rfl ?_
  exact Ent.tail (Ent.refl _)
end Go.Sl
namespace Go.Sl
open Go Go.Proofs
set_option maxRecDepth 20000
def txs (xs : List Bytes) : Bytes := (xs.map txB).flatten
theorem txs_cons (x : Bytes) (l : List Bytes) : txs (x :: l) = txB x ++ txs l := rfl
theorem txs_drop {xs : List Bytes} {k : Nat} (h : k < xs.length) : txs (xs.drop k) = txB xs[k] ++ txs (xs.drop (k + 1)) := by rw [List.drop_eq_getElem_cons h, txs_cons]
theorem txs_le {xs : List Bytes} (k : Nat) : (txs (xs.drop k)).length ≤ (txs xs).length := by
  have : txs xs = txs (xs.take k) ++ txs (xs.drop k) := by
    conv => lhs; rw [← List.take_append_drop k xs]
    unfold txs; rw [List.map_append, List.flatten_append]
  rw [this, List.length_append]; omega
/-- A list of texts. -/
theorem c409 {r n : Nat} {xs : List Bytes} {b : Bytes} (hn : n ≤ 6) (hx : xs.length < 256 ^ n) (hx2 : xs.length ≤ 2 ^ 30) (hs : ∀ x, x ∈ xs → x.length < 65536) (hl : (numB xs.length n ++ (txs xs ++ b)).length ≤ 2 ^ 50) :
    Spec P 170 [.pointer (some ⟨r, 0, none⟩), .int .i64 n, .func (.func 169) #[.pointer (some ⟨r, 0, none⟩)] #[]] [rdr r (numB xs.length n ++ (txs xs ++ b))] (fun q : SP => q.v xs.length) (fun q => [sl Kstr q xs, rdr r b]) := by
  have c407n := c407 (r := r) (n := n) (a := numB xs.length n) (b := txs xs ++ b) (numB_len _ _) hn hl
  rw [numB_inv (by omega) hx] at c407n
  rw [List.length_append, List.length_append] at hl
  refine Spec.intro Tryz.func170 rfl rfl rfl fun F => ?_
  refine W.rseq ?_
  refine WL.p rfl rfl rfl (PV.as rfl) ?_
  refine WL.next [(6, _), (0, _), (1, _), (2, _)] ⟨rfl, rfl, rfl, rfl, trivial⟩ ?_
  refine W.rseq ?_
  refine WL.p rfl rfl rfl (PV.as rfl) ?_
  refine WL.next [(7, _), (6, _), (0, _), (1, _), (2, _)] ⟨rfl, rfl, rfl, rfl, rfl, trivial⟩ ?_
  refine W.seq ?_
  refine W.rseq ?_
  refine WL.p rfl rfl rfl (PV.mv rfl) ?_
  refine WL.p rfl rfl rfl (PV.mv rfl) ?_
  refine WL.putX rfl rfl rfl (OpX.call cb407 (c407n) rfl (.cons (i := 0) rfl .nil)) fun x11 => ?_
  refine WL.nm (H' := _ :: _) rfl ?_
  refine WL.p rfl rfl rfl (PV.as rfl) ?_
  refine WL.next [(8, _), (7, _), (6, _), (0, _), (2, _)] ⟨rfl, rfl, rfl, rfl, rfl, trivial⟩ ?_
  refine W.block ?_
  rotate_left
  refine W.loopP2 (fun (k : Nat) (_ : SP) => k ≤ xs.length) (fun k q => [(8, .int .i64 ((xs.length : Int) - k)), (7, q.v (xs.take k).length), (2, .func (.func 169) #[.pointer (some ⟨r, 0, none⟩)] #[]), (0, .pointer (some ⟨r, 0, none⟩))])
    (fun k q => sl Kstr q (xs.take k) :: tl 1 q (xs.take k).length :: rdr r (txs (xs.drop k) ++ b) :: F) (fun k _ => xs.length - k) 0 SP.nil (Nat.zero_le _)
    ⟨by rw [show (xs.length : Int) - (0 : Nat) = xs.length by omega]; rfl, rfl, rfl, rfl, trivial⟩ ?_ fun k q hk => ?_
  · refine Ent.add (Ent.nil_sl _) (Ent.take 0 rfl ?_)
    refine Ent.add (Ent.nil_tl _) (Ent.take 0 rfl ?_)
    refine Ent.take 0 rfl ?_
    exact Ent.refl _
  refine W.ex 2 rfl fun q0 => ?_
  refine W.nm (H' := pt _ _ [_, _] :: sl _ _ _ :: sl _ _ _ :: tl _ _ _ :: F) rfl ?_
  have htl : (xs.take k).length = k := by rw [List.length_take]; omega
  have hle := txs_le (xs := xs) k
  by_cases hkl : k < xs.length
  · have hcall : Spec P 169 ((#[.pointer (some ⟨r, 0, none⟩)] : Array Value).toList ++ [] ++ (#[] : Array Value).toList) [rdr r (txs (xs.drop k) ++ b)] (fun _ : Unit => str xs[k]) (fun _ => [rdr r (txs (xs.drop (k + 1)) ++ b)]) := by
      rw [txs_drop hkl, show txB xs[k] ++ txs (xs.drop (k + 1)) ++ b = txB xs[k] ++ (txs (xs.drop (k + 1)) ++ b) from List.append_assoc _ _ _]
      exact c408 (r := r) (s := xs[k]) (b := txs (xs.drop (k + 1)) ++ b) (hs _ (List.getElem_mem hkl)) (by rw [txs_drop hkl] at hle; simp only [List.length_append] at hle hl ⊢; omega)
    refine W.seq ?_
    refine W.rseq ?_
    refine WL.p rfl rfl rfl (PV.mv rfl) ?_
    refine WL.p rfl rfl rfl (PV.gt rfl rfl) ?_
    refine WL.p rfl rfl rfl (PV.mv rfl) ?_
    refine WL.splitD (t := 14) rfl (fun h0 => ?_) (fun h0 => ?_)
    refine WL.yes (dj := 14) rfl rfl rfl (decide_eq_true (by assumption)) rfl rfl (OpD.fv (PV.fv (PV.mv rfl))) ?_
    refine WL.yes (dj := 14) rfl rfl rfl (decide_eq_true (by assumption)) rfl rfl (OpD.fv (PV.fv (PV.nck rfl))) ?_
    refine WL.yes (dj := 14) rfl rfl rfl (decide_eq_true (by assumption)) rfl rfl (OpD.fv (PV.fv (PV.fa fo430_1 rfl rfl))) ?_
    refine WL.yes (dj := 14) rfl rfl rfl (decide_eq_true (by assumption)) rfl rfl (OpD.fv (FV.ld (LdD.sc 0 1 sc4 rfl rfl rfl rfl))) ?_
    refine WL.yes (dj := 14) rfl rfl rfl (decide_eq_true (by assumption)) rfl rfl (OpD.fv (PV.fv (PV.not rfl))) ?_
    refine WL.p rfl rfl rfl (PV.pickT rfl (decide_eq_true (by assumption)) rfl) ?_
    refine WL.next [(20, _), (8, _), (7, _), (2, _), (0, _)] ⟨rfl, rfl, rfl, rfl, rfl, trivial⟩ ?_
    refine W.cT rfl ?_
    refine W.skip ?_
    refine K.next [(8, _), (7, _), (2, _), (0, _)] ⟨rfl, rfl, rfl, rfl, trivial⟩ ?_
    refine W.bseq ?_
    refine W.region ?_
    refine WL.p rfl rfl rfl (PV.mv rfl) ?_
    refine WL.p rfl rfl rfl (PV.mv rfl) ?_
    rotate_left
    refine WL.no (dj := 14) rfl rfl rfl (decide_eq_false (by assumption)) rfl ?_
    refine WL.no (dj := 14) rfl rfl rfl (decide_eq_false (by assumption)) rfl ?_
    refine WL.no (dj := 14) rfl rfl rfl (decide_eq_false (by assumption)) rfl ?_
    refine WL.no (dj := 14) rfl rfl rfl (decide_eq_false (by assumption)) rfl ?_
    refine WL.no (dj := 14) rfl rfl rfl (decide_eq_false (by assumption)) rfl ?_
    refine WL.p rfl rfl rfl (PV.pickF rfl (decide_eq_false (by assumption)) rfl) ?_
    refine WL.next [(20, _), (8, _), (7, _), (2, _), (0, _)] ⟨rfl, rfl, rfl, rfl, rfl, trivial⟩ ?_
    refine W.cF rfl ?_
    refine W.exit ?_
    refine K.exitT ?_
    refine K.exitT ?_
    refine K.exit ?_
    refine K.next [(7, _)] ⟨rfl, trivial⟩ ?_
    refine W.rseq ?_
    refine WL.p rfl rfl rfl (PV.mv rfl) ?_
    refine WL.p rfl rfl rfl (PV.as rfl) ?_
    refine WL.next [(6, _)] ⟨rfl, trivial⟩ ?_
    refine W.ret ?_
    rotate_left
    · refine WL.entA (.cons (i := 0) rfl (.cons (i := 0) rfl .nil)) (Ent.exI (f := rdF r _) q0) ?_
      refine WL.nm (H' := rdr r _ :: sl _ _ _ :: tl _ _ _ :: F) rfl ?_
      refine WL.putX rfl rfl rfl (OpX.callV cb408 rfl hcall rfl (.cons (i := 0) rfl .nil)) fun x25 => ?_
      refine WL.nm (H' := rdr r _ :: sl _ _ _ :: tl _ _ _ :: F) rfl ?_
      refine WL.putX rfl rfl rfl (OpX.rowS (K := Kstr) [_] [()] slt33 ⟨_, zr9, rfl⟩ rfl rfl rfl rfl rfl rfl (fun _ h => by first | (simp [innerL, Kb, Kint, Kstr, Kbool] at h; done) | (simp [innerL, Ksl, Kwr, Kmsg] at h; rcases h with h | h | h <;> subst h <;> simp [Sl.rem]) | (simp [innerL, Ksl, Kwr] at h; subst h; simp [Sl.rem]))) fun x26 => ?_
      refine WL.nm (H' := _ :: _ :: _ :: _ :: _ :: _) rfl ?_
      refine WL.putX rfl rfl rfl (OpX.app 4 3 slt33 ni33 rfl rfl rfl rfl (SrcV.atSl 0 rfl) (by first | omega | (simp only [List.length_append, List.length_cons, List.length_nil, List.length_take]; omega) | assumption) (by first | omega | (simp only [List.length_append, List.length_cons, List.length_nil, List.length_take]; omega) | assumption)) fun x27 => ?_
      refine WL.nm (H' := _ :: _ :: _ :: _ :: _ :: _ :: _) rfl ?_
      refine WL.p rfl rfl rfl (PV.as rfl) ?_
      refine WL.nil ?_
      refine K.out ?_
      refine K.next [(7, _), (8, _), (2, _), (0, _)] ⟨rfl, rfl, rfl, rfl, trivial⟩ ?_
      refine W.region ?_
      refine WL.p rfl rfl rfl (PV.mv rfl) ?_
      refine WL.p rfl rfl rfl (PV.sub64 rfl rfl (by omega)) ?_
      refine WL.p rfl rfl rfl (PV.as rfl) ?_
      refine WL.nil ?_
      rotate_left
      have e : xs.take (k + 1) = xs.take k ++ [xs[k]] := List.take_succ_eq_append_getElem hkl
      rw [← e]
      refine K.againP (k + 1, x27) (show k + 1 ≤ xs.length by omega) (show xs.length - (k + 1) < xs.length - k by omega) ⟨by rw [show (xs.length : Int) - ((k + 1 : Nat) : Int) = xs.length - k - 1 by omega]; rfl, rfl, rfl, rfl, trivial⟩ ?_
      refine Ent.keep 0 rfl (sl_pers _ _ _) ?_
      refine Ent.take 1 rfl ?_
      refine Ent.take 3 rfl ?_
      exact Ent.tail (Ent.tail (Ent.tail (Ent.tail (Ent.refl _))))
    · exfalso; omega
  · refine W.seq ?_
    refine W.rseq ?_
    refine WL.p rfl rfl rfl (PV.mv rfl) ?_
    refine WL.p rfl rfl rfl (PV.gt rfl rfl) ?_
    refine WL.p rfl rfl rfl (PV.mv rfl) ?_
    refine WL.splitD (t := 14) rfl (fun h0 => ?_) (fun h0 => ?_)
    refine WL.yes (dj := 14) rfl rfl rfl (decide_eq_true (by assumption)) rfl rfl (OpD.fv (PV.fv (PV.mv rfl))) ?_
    refine WL.yes (dj := 14) rfl rfl rfl (decide_eq_true (by assumption)) rfl rfl (OpD.fv (PV.fv (PV.nck rfl))) ?_
    refine WL.yes (dj := 14) rfl rfl rfl (decide_eq_true (by assumption)) rfl rfl (OpD.fv (PV.fv (PV.fa fo430_1 rfl rfl))) ?_
    refine WL.yes (dj := 14) rfl rfl rfl (decide_eq_true (by assumption)) rfl rfl (OpD.fv (FV.ld (LdD.sc 0 1 sc4 rfl rfl rfl rfl))) ?_
    refine WL.yes (dj := 14) rfl rfl rfl (decide_eq_true (by assumption)) rfl rfl (OpD.fv (PV.fv (PV.not rfl))) ?_
    refine WL.p rfl rfl rfl (PV.pickT rfl (decide_eq_true (by assumption)) rfl) ?_
    refine WL.next [(20, _), (8, _), (7, _), (2, _), (0, _)] ⟨rfl, rfl, rfl, rfl, rfl, trivial⟩ ?_
    refine W.cT rfl ?_
    refine W.skip ?_
    refine K.next [(8, _), (7, _), (2, _), (0, _)] ⟨rfl, rfl, rfl, rfl, trivial⟩ ?_
    refine W.bseq ?_
    refine W.region ?_
    refine WL.p rfl rfl rfl (PV.mv rfl) ?_
    refine WL.p rfl rfl rfl (PV.mv rfl) ?_
    rotate_left
    refine WL.no (dj := 14) rfl rfl rfl (decide_eq_false (by assumption)) rfl ?_
    refine WL.no (dj := 14) rfl rfl rfl (decide_eq_false (by assumption)) rfl ?_
    refine WL.no (dj := 14) rfl rfl rfl (decide_eq_false (by assumption)) rfl ?_
    refine WL.no (dj := 14) rfl rfl rfl (decide_eq_false (by assumption)) rfl ?_
    refine WL.no (dj := 14) rfl rfl rfl (decide_eq_false (by assumption)) rfl ?_
    refine WL.p rfl rfl rfl (PV.pickF rfl (decide_eq_false (by assumption)) rfl) ?_
    refine WL.next [(20, _), (8, _), (7, _), (2, _), (0, _)] ⟨rfl, rfl, rfl, rfl, rfl, trivial⟩ ?_
    refine W.cF rfl ?_
    refine W.exit ?_
    refine K.exitT ?_
    refine K.exitT ?_
    refine K.exit ?_
    refine K.next [(7, _)] ⟨rfl, trivial⟩ ?_
    refine W.rseq ?_
    refine WL.p rfl rfl rfl (PV.mv rfl) ?_
    refine WL.p rfl rfl rfl (PV.as rfl) ?_
    refine WL.next [(6, _)] ⟨rfl, trivial⟩ ?_
    refine W.ret ?_
    rotate_left
    · exfalso; omega
    · rw [show xs.take k = xs from List.take_of_length_le (by omega)]
      have e : txs (xs.drop k) = [] := by rw [List.drop_eq_nil_of_le (by omega)]; rfl
      rw [e]
      refine K.fin (vs := [_]) q ⟨rfl, trivial⟩ rfl ?_
      refine Ent.keep 2 rfl (sl_pers _ _ _) (Ent.fold (f := rdF r _) q0 ?_)
      refine Ent.take 0 rfl ?_
      refine Ent.keep 0 rfl (sl_pers _ _ _) ?_
      exact Ent.tail (Ent.tail (Ent.tail (Ent.refl _)))
end Go.Sl
namespace Go.Sl
open Go Go.Proofs
set_option maxRecDepth 20000
def mks (xs : List Int) : Bytes := (xs.map fun n => numB n 1).flatten
theorem mks_drop {xs : List Int} {k : Nat} (h : k < xs.length) : mks (xs.drop k) = numB xs[k] 1 ++ mks (xs.drop (k + 1)) := by rw [List.drop_eq_getElem_cons h]; rfl
theorem mks_len : ∀ (xs : List Int), (mks xs).length = xs.length
  | [] => rfl
  | x :: xs => by show (numB x 1 ++ mks xs).length = _; rw [List.length_append, numB_len, mks_len]; simp; omega
theorem beN1 {n : Int} (h : 0 ≤ n ∧ n < 256) : (beN (numB n 1) : Int) = n := by
  obtain ⟨k, rfl⟩ : ∃ k : Nat, n = k := ⟨n.toNat, by omega⟩
  rw [numB_inv (by omega) (by omega)]
theorem c411 {c r : Nat} {n : Int} {b : Bytes} (h : 0 ≤ n ∧ n < 256) (hl : (numB n 1 ++ b).length ≤ 2 ^ 50) : Spec P 172 [.pointer (some ⟨c, 0, none⟩)] [pt c 0 [.pointer (some ⟨r, 0, none⟩)], rdr r (numB n 1 ++ b)] (fun _ : Unit => .int .i64 n) (fun _ => [pt c 0 [.pointer (some ⟨r, 0, none⟩)], rdr r b]) := by
  have c407n := c407 (r := r) (n := 1) (a := numB n 1) (b := b) (numB_len _ _) (by omega) hl
  rw [beN1 h] at c407n
  refine Spec.intro Tryz.func172 rfl rfl rfl fun F => ?_
  refine W.rseq ?_
  refine WL.p rfl rfl rfl (PV.as rfl) ?_
  refine WL.next [(1, _), (0, _)] ⟨rfl, rfl, trivial⟩ ?_
  refine W.rseq ?_
  refine WL.f rfl rfl rfl (FV.ld (LdD.sc 0 0 sc428 rfl rfl rfl rfl)) ?_
  refine WL.putX rfl rfl rfl (OpX.call cb407 (c407n) rfl (.cons (i := 1) rfl .nil)) fun x3 => ?_
  refine WL.nm (H' := _ :: pt _ _ [_] :: _) rfl ?_
  refine WL.p rfl rfl rfl (PV.as rfl) ?_
  refine WL.next [(1, _)] ⟨rfl, trivial⟩ ?_
  refine W.ret ?_
  rotate_left
  refine K.fin (vs := [_]) () ⟨rfl, trivial⟩ rfl ?_
  refine Ent.take 1 rfl ?_
  refine Ent.take 0 rfl ?_
  exact Ent.refl _
theorem c410 {c r n : Nat} {xs : List Int} {b : Bytes} (hn : n ≤ 6) (hx : xs.length < 256 ^ n) (hx2 : xs.length ≤ 2 ^ 30) (hs : ∀ x, x ∈ xs → 0 ≤ x ∧ x < 256) (hl : (numB xs.length n ++ (mks xs ++ b)).length ≤ 2 ^ 50) :
    Spec P 171 [.pointer (some ⟨r, 0, none⟩), .int .i64 n, .func (.func 172) #[] #[.pointer (some ⟨c, 0, none⟩)]] [pt c 0 [.pointer (some ⟨r, 0, none⟩)], rdr r (numB xs.length n ++ (mks xs ++ b))] (fun q : SP => q.v xs.length) (fun q => [sl (Kint .i64) q xs, pt c 0 [.pointer (some ⟨r, 0, none⟩)], rdr r b]) := by
  have c407n := c407 (r := r) (n := n) (a := numB xs.length n) (b := mks xs ++ b) (numB_len _ _) hn hl
  rw [numB_inv (by omega) hx] at c407n
  rw [List.length_append, List.length_append, mks_len] at hl
  refine Spec.intro Tryz.func171 rfl rfl rfl fun F => ?_
  refine W.rseq ?_
  refine WL.p rfl rfl rfl (PV.as rfl) ?_
  refine WL.next [(6, _), (0, _), (1, _), (2, _)] ⟨rfl, rfl, rfl, rfl, trivial⟩ ?_
  refine W.rseq ?_
  refine WL.p rfl rfl rfl (PV.as rfl) ?_
  refine WL.next [(7, _), (6, _), (0, _), (1, _), (2, _)] ⟨rfl, rfl, rfl, rfl, rfl, trivial⟩ ?_
  refine W.seq ?_
  refine W.rseq ?_
  refine WL.p rfl rfl rfl (PV.mv rfl) ?_
  refine WL.p rfl rfl rfl (PV.mv rfl) ?_
  refine WL.putX rfl rfl rfl (OpX.call cb407 (c407n) rfl (.cons (i := 1) rfl .nil)) fun x11 => ?_
  refine WL.nm (H' := _ :: pt _ _ [_] :: _) rfl ?_
  refine WL.p rfl rfl rfl (PV.as rfl) ?_
  refine WL.next [(8, _), (7, _), (6, _), (0, _), (2, _)] ⟨rfl, rfl, rfl, rfl, rfl, trivial⟩ ?_
  refine W.block ?_
  rotate_left
  refine W.loopP2 (fun (k : Nat) (_ : SP) => k ≤ xs.length) (fun k q => [(8, .int .i64 ((xs.length : Int) - k)), (7, q.v (xs.take k).length), (2, .func (.func 172) #[] #[.pointer (some ⟨c, 0, none⟩)]), (0, .pointer (some ⟨r, 0, none⟩))])
    (fun k q => sl (Kint .i64) q (xs.take k) :: tl 1 q (xs.take k).length :: pt c 0 [.pointer (some ⟨r, 0, none⟩)] :: rdr r (mks (xs.drop k) ++ b) :: F) (fun k _ => xs.length - k) 0 SP.nil (Nat.zero_le _)
    ⟨by rw [show (xs.length : Int) - (0 : Nat) = xs.length by omega]; rfl, rfl, rfl, rfl, trivial⟩ ?_ fun k q hk => ?_
  · refine Ent.add (Ent.nil_sl _) (Ent.take 0 rfl ?_)
    refine Ent.add (Ent.nil_tl _) (Ent.take 0 rfl ?_)
    refine Ent.take 1 rfl ?_
    refine Ent.take 0 rfl ?_
    exact Ent.refl _
  refine W.ex 3 rfl fun q0 => ?_
  refine W.nm (H' := pt _ _ [_, _] :: sl _ _ _ :: sl _ _ _ :: tl _ _ _ :: pt _ _ [_] :: F) rfl ?_
  have htl : (xs.take k).length = k := by rw [List.length_take]; omega
  have hle : (mks (xs.drop k)).length ≤ xs.length := by rw [mks_len, List.length_drop]; omega
  by_cases hkl : k < xs.length
  · have hcall : Spec P 172 ((#[] : Array Value).toList ++ [] ++ (#[.pointer (some ⟨c, 0, none⟩)] : Array Value).toList) [pt c 0 [.pointer (some ⟨r, 0, none⟩)], rdr r (mks (xs.drop k) ++ b)] (fun _ : Unit => .int .i64 xs[k]) (fun _ => [pt c 0 [.pointer (some ⟨r, 0, none⟩)], rdr r (mks (xs.drop (k + 1)) ++ b)]) := by
      rw [mks_drop hkl, show numB xs[k] 1 ++ mks (xs.drop (k + 1)) ++ b = numB xs[k] 1 ++ (mks (xs.drop (k + 1)) ++ b) from List.append_assoc _ _ _]
      exact c411 (r := r) (n := xs[k]) (b := mks (xs.drop (k + 1)) ++ b) (hs _ (List.getElem_mem hkl)) (by rw [mks_drop hkl] at hle; simp only [List.length_append] at hle hl ⊢; omega)
    refine W.seq ?_
    refine W.rseq ?_
    refine WL.p rfl rfl rfl (PV.mv rfl) ?_
    refine WL.p rfl rfl rfl (PV.gt rfl rfl) ?_
    refine WL.p rfl rfl rfl (PV.mv rfl) ?_
    refine WL.splitD (t := 14) rfl (fun h0 => ?_) (fun h0 => ?_)
    refine WL.yes (dj := 14) rfl rfl rfl (decide_eq_true (by assumption)) rfl rfl (OpD.fv (PV.fv (PV.mv rfl))) ?_
    refine WL.yes (dj := 14) rfl rfl rfl (decide_eq_true (by assumption)) rfl rfl (OpD.fv (PV.fv (PV.nck rfl))) ?_
    refine WL.yes (dj := 14) rfl rfl rfl (decide_eq_true (by assumption)) rfl rfl (OpD.fv (PV.fv (PV.fa fo430_1 rfl rfl))) ?_
    refine WL.yes (dj := 14) rfl rfl rfl (decide_eq_true (by assumption)) rfl rfl (OpD.fv (FV.ld (LdD.sc 0 1 sc4 rfl rfl rfl rfl))) ?_
    refine WL.yes (dj := 14) rfl rfl rfl (decide_eq_true (by assumption)) rfl rfl (OpD.fv (PV.fv (PV.not rfl))) ?_
    refine WL.p rfl rfl rfl (PV.pickT rfl (decide_eq_true (by assumption)) rfl) ?_
    refine WL.next [(20, _), (8, _), (7, _), (2, _), (0, _)] ⟨rfl, rfl, rfl, rfl, rfl, trivial⟩ ?_
    refine W.cT rfl ?_
    refine W.skip ?_
    refine K.next [(8, _), (7, _), (2, _), (0, _)] ⟨rfl, rfl, rfl, rfl, trivial⟩ ?_
    refine W.bseq ?_
    refine W.region ?_
    refine WL.p rfl rfl rfl (PV.mv rfl) ?_
    refine WL.p rfl rfl rfl (PV.mv rfl) ?_
    rotate_left
    refine WL.no (dj := 14) rfl rfl rfl (decide_eq_false (by assumption)) rfl ?_
    refine WL.no (dj := 14) rfl rfl rfl (decide_eq_false (by assumption)) rfl ?_
    refine WL.no (dj := 14) rfl rfl rfl (decide_eq_false (by assumption)) rfl ?_
    refine WL.no (dj := 14) rfl rfl rfl (decide_eq_false (by assumption)) rfl ?_
    refine WL.no (dj := 14) rfl rfl rfl (decide_eq_false (by assumption)) rfl ?_
    refine WL.p rfl rfl rfl (PV.pickF rfl (decide_eq_false (by assumption)) rfl) ?_
    refine WL.next [(20, _), (8, _), (7, _), (2, _), (0, _)] ⟨rfl, rfl, rfl, rfl, rfl, trivial⟩ ?_
    refine W.cF rfl ?_
    refine W.exit ?_
    refine K.exitT ?_
    refine K.exitT ?_
    refine K.exit ?_
    refine K.next [(7, _)] ⟨rfl, trivial⟩ ?_
    refine W.rseq ?_
    refine WL.p rfl rfl rfl (PV.mv rfl) ?_
    refine WL.p rfl rfl rfl (PV.as rfl) ?_
    refine WL.next [(6, _)] ⟨rfl, trivial⟩ ?_
    refine W.ret ?_
    rotate_left
    · refine WL.entA (.cons (i := 0) rfl (.cons (i := 0) rfl .nil)) (Ent.exI (f := rdF r _) q0) ?_
      refine WL.nm (H' := rdr r _ :: sl _ _ _ :: tl _ _ _ :: pt _ _ [_] :: F) rfl ?_
      refine WL.putX rfl rfl rfl (OpX.callV cb411 rfl hcall rfl (.cons (i := 3) rfl (.cons (i := 0) rfl .nil))) fun x25 => ?_
      refine WL.nm (H' := pt _ _ [_] :: rdr r _ :: sl _ _ _ :: tl _ _ _ :: F) rfl ?_
      refine WL.putX rfl rfl rfl (OpX.rowS (K := (Kint .i64)) [_] [()] slt32 ⟨_, zr3, rfl⟩ rfl rfl rfl rfl rfl rfl (fun _ h => by first | (simp [innerL, Kb, Kint, Kstr, Kbool] at h; done) | (simp [innerL, Ksl, Kwr, Kmsg] at h; rcases h with h | h | h <;> subst h <;> simp [Sl.rem]) | (simp [innerL, Ksl, Kwr] at h; subst h; simp [Sl.rem]))) fun x26 => ?_
      refine WL.nm (H' := _ :: _ :: pt _ _ [_] :: _ :: _ :: _ :: _) rfl ?_
      refine WL.putX rfl rfl rfl (OpX.app 5 4 slt32 ni32 rfl rfl rfl rfl (SrcV.atSl 0 rfl) (by first | omega | (simp only [List.length_append, List.length_cons, List.length_nil, List.length_take]; omega) | assumption) (by first | omega | (simp only [List.length_append, List.length_cons, List.length_nil, List.length_take]; omega) | assumption)) fun x27 => ?_
      refine WL.nm (H' := _ :: _ :: _ :: _ :: pt _ _ [_] :: _ :: _ :: _) rfl ?_
      refine WL.p rfl rfl rfl (PV.as rfl) ?_
      refine WL.nil ?_
      refine K.out ?_
      refine K.next [(7, _), (8, _), (2, _), (0, _)] ⟨rfl, rfl, rfl, rfl, trivial⟩ ?_
      refine W.region ?_
      refine WL.p rfl rfl rfl (PV.mv rfl) ?_
      refine WL.p rfl rfl rfl (PV.sub64 rfl rfl (by omega)) ?_
      refine WL.p rfl rfl rfl (PV.as rfl) ?_
      refine WL.nil ?_
      rotate_left
      have e : xs.take (k + 1) = xs.take k ++ [xs[k]] := List.take_succ_eq_append_getElem hkl
      rw [← e]
      refine K.againP (k + 1, x27) (show k + 1 ≤ xs.length by omega) (show xs.length - (k + 1) < xs.length - k by omega) ⟨by rw [show (xs.length : Int) - ((k + 1 : Nat) : Int) = xs.length - k - 1 by omega]; rfl, rfl, rfl, rfl, trivial⟩ ?_
      refine Ent.keep 0 rfl (sl_pers _ _ _) ?_
      refine Ent.take 1 rfl ?_
      refine Ent.take 3 rfl ?_
      refine Ent.take 3 rfl ?_
      exact Ent.tail (Ent.tail (Ent.tail (Ent.tail (Ent.refl _))))
    · exfalso; omega
  · refine W.seq ?_
    refine W.rseq ?_
    refine WL.p rfl rfl rfl (PV.mv rfl) ?_
    refine WL.p rfl rfl rfl (PV.gt rfl rfl) ?_
    refine WL.p rfl rfl rfl (PV.mv rfl) ?_
    refine WL.splitD (t := 14) rfl (fun h0 => ?_) (fun h0 => ?_)
    refine WL.yes (dj := 14) rfl rfl rfl (decide_eq_true (by assumption)) rfl rfl (OpD.fv (PV.fv (PV.mv rfl))) ?_
    refine WL.yes (dj := 14) rfl rfl rfl (decide_eq_true (by assumption)) rfl rfl (OpD.fv (PV.fv (PV.nck rfl))) ?_
    refine WL.yes (dj := 14) rfl rfl rfl (decide_eq_true (by assumption)) rfl rfl (OpD.fv (PV.fv (PV.fa fo430_1 rfl rfl))) ?_
    refine WL.yes (dj := 14) rfl rfl rfl (decide_eq_true (by assumption)) rfl rfl (OpD.fv (FV.ld (LdD.sc 0 1 sc4 rfl rfl rfl rfl))) ?_
    refine WL.yes (dj := 14) rfl rfl rfl (decide_eq_true (by assumption)) rfl rfl (OpD.fv (PV.fv (PV.not rfl))) ?_
    refine WL.p rfl rfl rfl (PV.pickT rfl (decide_eq_true (by assumption)) rfl) ?_
    refine WL.next [(20, _), (8, _), (7, _), (2, _), (0, _)] ⟨rfl, rfl, rfl, rfl, rfl, trivial⟩ ?_
    refine W.cT rfl ?_
    refine W.skip ?_
    refine K.next [(8, _), (7, _), (2, _), (0, _)] ⟨rfl, rfl, rfl, rfl, trivial⟩ ?_
    refine W.bseq ?_
    refine W.region ?_
    refine WL.p rfl rfl rfl (PV.mv rfl) ?_
    refine WL.p rfl rfl rfl (PV.mv rfl) ?_
    rotate_left
    refine WL.no (dj := 14) rfl rfl rfl (decide_eq_false (by assumption)) rfl ?_
    refine WL.no (dj := 14) rfl rfl rfl (decide_eq_false (by assumption)) rfl ?_
    refine WL.no (dj := 14) rfl rfl rfl (decide_eq_false (by assumption)) rfl ?_
    refine WL.no (dj := 14) rfl rfl rfl (decide_eq_false (by assumption)) rfl ?_
    refine WL.no (dj := 14) rfl rfl rfl (decide_eq_false (by assumption)) rfl ?_
    refine WL.p rfl rfl rfl (PV.pickF rfl (decide_eq_false (by assumption)) rfl) ?_
    refine WL.next [(20, _), (8, _), (7, _), (2, _), (0, _)] ⟨rfl, rfl, rfl, rfl, rfl, trivial⟩ ?_
    refine W.cF rfl ?_
    refine W.exit ?_
    refine K.exitT ?_
    refine K.exitT ?_
    refine K.exit ?_
    refine K.next [(7, _)] ⟨rfl, trivial⟩ ?_
    refine W.rseq ?_
    refine WL.p rfl rfl rfl (PV.mv rfl) ?_
    refine WL.p rfl rfl rfl (PV.as rfl) ?_
    refine WL.next [(6, _)] ⟨rfl, trivial⟩ ?_
    refine W.ret ?_
    rotate_left
    · exfalso; omega
    · rw [show xs.take k = xs from List.take_of_length_le (by omega)]
      have e : mks (xs.drop k) = [] := by rw [List.drop_eq_nil_of_le (by omega)]; rfl
      rw [e]
      refine K.fin (vs := [_]) q ⟨rfl, trivial⟩ rfl ?_
      refine Ent.keep 2 rfl (sl_pers _ _ _) (Ent.take 4 rfl (Ent.fold (f := rdF r b) q0 ?_))
      refine Ent.take 0 rfl ?_
      refine Ent.keep 0 rfl (sl_pers _ _ _) ?_
      exact Ent.tail (Ent.tail (Ent.tail (Ent.refl _)))
end Go.Sl
/-! Messages asx bytes. -/
namespace Go.Sl
open Go Go.Proofs
set_option maxRecDepth 20000
def Msg.nums (m : Msg) : List Int := [m.id, m.gen, m.born, m.tries, m.due]
def n6s (l : List Int) : Bytes := (l.map fun n => numB n 6).flatten
def binM (m : Msg) : Bytes := [2] ++ n6s m.nums ++ txB m.frm ++ numB m.rcpts.length 2 ++ txs m.rcpts ++ numB m.marks.length 2 ++ mks m.marks ++ numB m.body.length 4 ++ txs m.body
theorem n6s_len : ∀ l, (n6s l).length = 6 * l.length
  | [] => rfl
  | x :: l => by show (numB x 6 ++ n6s l).length = _; rw [List.length_append, numB_len, n6s_len]; simp; omega
theorem n6s_take {l : List Int} {k : Nat} (h : k < l.length) : n6s (l.take (k + 1)) = n6s (l.take k) ++ numB l[k] 6 := by
  rw [List.take_succ_eq_append_getElem h]; unfold n6s; rw [List.map_append, List.flatten_append]; simp
theorem txs_take {l : List Bytes} {k : Nat} (h : k < l.length) : txs (l.take (k + 1)) = txs (l.take k) ++ txB l[k] := by
  rw [List.take_succ_eq_append_getElem h]; unfold txs; rw [List.map_append, List.flatten_append]; simp
theorem mks_take {l : List Int} {k : Nat} (h : k < l.length) : mks (l.take (k + 1)) = mks (l.take k) ++ numB l[k] 1 := by
  rw [List.take_succ_eq_append_getElem h]; unfold mks; rw [List.map_append, List.flatten_append]; simp
theorem txs_takele {xs : List Bytes} (k : Nat) : (txs (xs.take k)).length ≤ (txs xs).length := by
  have : txs xs = txs (xs.take k) ++ txs (xs.drop k) := by
    conv => lhs; rw [← List.take_append_drop k xs]
    unfold txs; rw [List.map_append, List.flatten_append]
  rw [this, List.length_append]; omega
theorem c277 {m : Msg} {p1 p2 p3 : SP} (hm : m.Ok) (hg : goodM m = true) (hN : (binM m).length ≤ 2 ^ 40) (hrb : ∀ b, b ∈ m.rcpts → b.length ≤ 2 ^ 37) (hbb : ∀ b, b ∈ m.body → b.length ≤ 2 ^ 37) :
    Spec P 125 [.agg #[.int .i64 m.id, .int .i64 m.gen, .int .i64 m.born, .int .i64 m.tries, .int .i64 m.due, str m.frm, p1.v m.rcpts.length, p2.v m.marks.length, p3.v m.body.length]] [sl Kstr p1 m.rcpts, sl (Kint .i64) p2 m.marks, sl Kstr p3 m.body]
    (fun q : SP => .tuple #[q.v (binM m).length, .int .i64 0]) (fun q => [sl Kb q (binM m), tl 1 q (binM m).length, sl Kstr p1 m.rcpts, sl (Kint .i64) p2 m.marks, sl Kstr p3 m.body]) := by
  have hL : (binM m).length = 1 + 30 + (m.frm.length + 2) + 2 + (txs m.rcpts).length + 2 + m.marks.length + 4 + (txs m.body).length := by
    unfold binM; simp only [List.length_append, numB_len, n6s_len, txB_len, mks_len]; rfl
  have g1 := hm.frm; have g2 := hm.rl; have g4 := hm.ml; have g5 := hm.bl
  have c124h := c124 (m := m) (p1 := p1) (p2 := p2) (p3 := p3) hm
  rw [hg] at c124h
  refine Spec.intro Tryz.func125 rfl rfl rfl fun F => ?_
  refine W.rseq ?_
  refine WL.putX rfl rfl rfl (OpX.box rfl) fun x1 => ?_
  refine WL.nm (H' := pt _ _ [_, _, _, _, _, _, _, _, _] :: _ :: _ :: _ :: _) rfl ?_
  refine WL.p rfl rfl rfl (PV.as rfl) ?_
  refine WL.p rfl rfl rfl (PV.as rfl) ?_
  refine WL.next [(3, _), (2, _), (1, _)] ⟨rfl, rfl, rfl, trivial⟩ ?_
  refine W.seq ?_
  refine W.rseq ?_
  refine WL.f rfl rfl rfl (FV.ld (LdD.ag (us := [_, _, _, _, _, _, _, _, _]) 0 0 ag52 rfl rfl rfl rfl rfl)) ?_
  refine WL.putX rfl rfl rfl (OpX.call cb124 (c124h) rfl (.cons (i := 1) rfl (.cons (i := 1) rfl (.cons (i := 1) rfl .nil)))) fun x14 => ?_
  refine WL.nm (H' := _ :: _ :: _ :: pt _ _ [_, _, _, _, _, _, _, _, _] :: _) rfl ?_
  refine WL.p rfl rfl rfl (PV.not rfl) ?_
  refine WL.next [(15, _), (3, _), (2, _), (1, _)] ⟨rfl, rfl, rfl, rfl, trivial⟩ ?_
  refine W.cF rfl ?_
  refine W.skip ?_
  refine K.next [(3, _), (2, _), (1, _)] ⟨rfl, rfl, rfl, trivial⟩ ?_
  refine W.rseq ?_
  refine WL.putX rfl rfl rfl (OpX.rowS (K := Kb) [(2 : UInt8)] [()] slt62 ⟨_, zr5, rfl⟩ rfl rfl rfl rfl rfl rfl (fun _ h => by first | (simp [innerL, Kb, Kint, Kstr, Kbool] at h; done) | (simp [innerL, Ksl, Kwr, Kmsg] at h; rcases h with h | h | h <;> subst h <;> simp [Sl.rem]) | (simp [innerL, Ksl, Kwr] at h; subst h; simp [Sl.rem]))) fun x16 => ?_
  refine WL.nm (H' := _ :: _ :: _ :: _ :: _ :: pt _ _ [_, _, _, _, _, _, _, _, _] :: _) rfl ?_
  refine WL.p rfl rfl rfl (PV.bld (cs := [_]) bt382 rfl rfl) ?_
  refine WL.putX rfl rfl rfl (OpX.box rfl) fun x18 => ?_
  refine WL.nm (H' := pt _ _ [_] :: _ :: _ :: _ :: _ :: _ :: pt _ _ [_, _, _, _, _, _, _, _, _] :: _) rfl ?_
  refine WL.p rfl rfl rfl (PV.as rfl) ?_
  refine WL.next [(4, _), (3, _), (2, _), (1, _)] ⟨rfl, rfl, rfl, rfl, trivial⟩ ?_
  refine W.seq ?_
  refine W.rseq ?_
  refine WL.p rfl rfl rfl (PV.fa fo52_0 rfl rfl) ?_
  refine WL.f rfl rfl rfl (FV.ld (LdD.sc 6 0 sc3 rfl rfl rfl rfl)) ?_
  refine WL.p rfl rfl rfl (PV.fa fo52_1 rfl rfl) ?_
  refine WL.f rfl rfl rfl (FV.ld (LdD.sc 6 1 sc3 rfl rfl rfl rfl)) ?_
  refine WL.p rfl rfl rfl (PV.fa fo52_2 rfl rfl) ?_
  refine WL.f rfl rfl rfl (FV.ld (LdD.sc 6 2 sc3 rfl rfl rfl rfl)) ?_
  refine WL.p rfl rfl rfl (PV.fa fo52_3 rfl rfl) ?_
  refine WL.f rfl rfl rfl (FV.ld (LdD.sc 6 3 sc3 rfl rfl rfl rfl)) ?_
  refine WL.p rfl rfl rfl (PV.fa fo52_4 rfl rfl) ?_
  refine WL.f rfl rfl rfl (FV.ld (LdD.sc 6 4 sc3 rfl rfl rfl rfl)) ?_
  refine WL.p rfl rfl rfl (PV.bldA (cs := [_, _, _, _, _]) ba295 rfl rfl) ?_
  refine WL.p rfl rfl rfl (PV.mv rfl) ?_
  refine WL.next [(30, _), (29, _), (4, _), (3, _), (2, _), (1, _)] ⟨rfl, rfl, rfl, rfl, rfl, rfl, trivial⟩ ?_
  refine W.block ?_
  rotate_left
  refine W.entA (.cons (i := 0) rfl (.cons (i := 0) rfl (.cons (i := 0) rfl .nil))) (Ent.exI (f := wrF x18 [2]) x16) ?_
  refine W.nm (H' := wr x18 [2] :: sl Kstr p1 m.rcpts :: sl (Kint .i64) p2 m.marks :: sl Kstr p3 m.body :: pt x1 0 [_, _, _, _, _, _, _, _, _] :: F) rfl ?_
  refine W.loopP (X := Nat) (fun k => k ≤ 5) (fun k => [(30, .int .i64 k), (29, .agg #[.int .i64 m.id, .int .i64 m.gen, .int .i64 m.born, .int .i64 m.tries, .int .i64 m.due]), (4, .pointer (some ⟨x18, 0, none⟩)), (1, .pointer (some ⟨x1, 0, none⟩))])
    (fun k => wr x18 ([2] ++ n6s (m.nums.take k)) :: sl Kstr p1 m.rcpts :: sl (Kint .i64) p2 m.marks :: sl Kstr p3 m.body :: pt x1 0 [.int .i64 m.id, .int .i64 m.gen, .int .i64 m.born, .int .i64 m.tries, .int .i64 m.due, str m.frm, p1.v m.rcpts.length, p2.v m.marks.length, p3.v m.body.length] :: F) (fun k => 5 - k) 0 (Nat.zero_le _)
    ⟨rfl, rfl, rfl, rfl, trivial⟩ (Ent.refl _) fun k hk => ?_
  have hml : m.nums.length = 5 := rfl
  have hal : ([2] ++ n6s (m.nums.take k) : Bytes).length ≤ 31 := by rw [List.length_append, n6s_len, List.length_take]; simp; omega
  by_cases hk5 : k < 5
  · have hv : [Value.int .i64 m.id, .int .i64 m.gen, .int .i64 m.born, .int .i64 m.tries, .int .i64 m.due][k]? = some (.int .i64 (m.nums[k]'(by omega))) := by
      have e : [Value.int .i64 m.id, .int .i64 m.gen, .int .i64 m.born, .int .i64 m.tries, .int .i64 m.due] = m.nums.map (Value.int .i64) := rfl
      rw [e, List.getElem?_map, List.getElem?_eq_getElem (by omega)]; rfl
    have hac : ([2] ++ n6s (m.nums.take k) : Bytes).length ≤ 2 ^ 45 := by omega
    have c340h := fun n => c340 (w := x18) (acc := [2] ++ n6s (m.nums.take k)) (n := n) (m := 6) (by omega) hac
    refine W.rseq ?_
    refine WL.p rfl rfl rfl (PV.lt rfl rfl) ?_
    refine WL.next [(31, _), (30, _), (29, _), (4, _), (1, _)] ⟨rfl, rfl, rfl, rfl, rfl, trivial⟩ ?_
    refine W.seq ?_
    refine W.condD rfl (fun h0 => ?_) (fun h0 => ?_)
    refine W.skip ?_
    refine K.next [(30, _), (29, _), (4, _), (1, _)] ⟨rfl, rfl, rfl, rfl, trivial⟩ ?_
    refine W.bseq ?_
    refine W.rseq ?_
    refine WL.p rfl rfl rfl (PV.ixA ua295 sc3 sz3 rfl rfl (by omega) (by assumption)) ?_
    refine WL.p rfl rfl rfl (PV.as rfl) ?_
    refine WL.next [(6, _), (30, _), (29, _), (4, _), (1, _)] ⟨rfl, rfl, rfl, rfl, rfl, trivial⟩ ?_
    refine W.region ?_
    refine WL.p rfl rfl rfl (PV.mv rfl) ?_
    refine WL.p rfl rfl rfl (PV.mv rfl) ?_
    refine WL.putX rfl rfl rfl (OpX.call cb340 (c340h _) rfl (.cons (i := 0) rfl .nil)) fun x35 => ?_
    refine WL.nm (H' := _ :: _ :: _ :: _ :: pt _ _ [_, _, _, _, _, _, _, _, _] :: _) rfl ?_
    refine WL.nil ?_
    refine K.out ?_
    refine K.next [(30, _), (29, _), (4, _), (1, _)] ⟨rfl, rfl, rfl, rfl, trivial⟩ ?_
    refine W.region ?_
    refine WL.p rfl rfl rfl (PV.add64 rfl rfl (by omega)) ?_
    refine WL.p rfl rfl rfl (PV.mv rfl) ?_
    refine WL.nil ?_
    rotate_left
    refine W.exit ?_
    refine K.exitT ?_
    refine K.exitT ?_
    refine K.exit ?_
    refine K.next [(4, _), (1, _)] ⟨rfl, rfl, trivial⟩ ?_
    refine W.rseq ?_
    refine WL.p rfl rfl rfl (PV.mv rfl) ?_
    refine WL.p rfl rfl rfl (PV.fa fo52_5 rfl rfl) ?_
    refine WL.f rfl rfl rfl (FV.ld (LdD.sc 4 5 sc9 rfl rfl rfl rfl)) ?_
    refine WL.putX rfl rfl rfl (OpX.call cb341 (c341 (by first | omega | (simp only [List.length_append, List.length_cons, List.length_nil, List.length_take, numB_len]; omega) | assumption) (by first | omega | (simp only [List.length_append, List.length_cons, List.length_nil, List.length_take, numB_len]; omega) | assumption)) rfl (.cons (i := 0) rfl .nil)) fun x40 => ?_
    refine WL.nm (H' := _ :: _ :: _ :: _ :: pt _ _ [_, _, _, _, _, _, _, _, _] :: _) rfl ?_
    refine WL.next [(4, _), (1, _)] ⟨rfl, rfl, trivial⟩ ?_
    refine W.rseq ?_
    refine WL.p rfl rfl rfl (PV.mv rfl) ?_
    refine WL.p rfl rfl rfl (PV.fa fo52_6 rfl rfl) ?_
    refine WL.f rfl rfl rfl (FV.ld (LdD.sc 4 6 sc33 rfl rfl rfl rfl)) ?_
    refine WL.p rfl rfl rfl (PV.lenL ul33 rfl rfl) ?_
    refine WL.putX rfl rfl rfl (OpX.call cb340 (c340 (by first | omega | (simp only [List.length_append, List.length_cons, List.length_nil, List.length_take, numB_len]; omega) | assumption) (by first | omega | (simp only [List.length_append, List.length_cons, List.length_nil, List.length_take, numB_len]; omega) | assumption)) rfl (.cons (i := 0) rfl .nil)) fun x45 => ?_
    refine WL.nm (H' := _ :: _ :: _ :: _ :: pt _ _ [_, _, _, _, _, _, _, _, _] :: _) rfl ?_
    refine WL.next [(4, _), (1, _)] ⟨rfl, rfl, trivial⟩ ?_
    refine W.seq ?_
    refine W.rseq ?_
    refine WL.p rfl rfl rfl (PV.fa fo52_6 rfl rfl) ?_
    refine WL.f rfl rfl rfl (FV.ld (LdD.sc 4 6 sc33 rfl rfl rfl rfl)) ?_
    refine WL.p rfl rfl rfl (PV.lenL ul33 rfl rfl) ?_
    refine WL.p rfl rfl rfl (PV.mv rfl) ?_
    refine WL.next [(49, _), (48, _), (47, _), (4, _), (1, _)] ⟨rfl, rfl, rfl, rfl, rfl, trivial⟩ ?_
    refine W.block ?_
    rotate_left
    · rw [List.append_assoc, ← n6s_take (by omega)]
      refine K.againP (k + 1) (by omega) (by omega) ⟨rfl, rfl, rfl, rfl, trivial⟩ ?_
      refine Ent.take 0 rfl ?_
      refine Ent.keep 0 rfl (sl_pers _ _ _) ?_
      refine Ent.keep 1 rfl (sl_pers _ _ _) ?_
      refine Ent.keep 2 rfl (sl_pers _ _ _) ?_
      refine Ent.take 3 rfl ?_
      exact Ent.tail (Ent.tail (Ent.tail (Ent.refl _)))
    · exfalso; omega
  · refine W.rseq ?_
    refine WL.p rfl rfl rfl (PV.lt rfl rfl) ?_
    refine WL.next [(31, _), (30, _), (29, _), (4, _), (1, _)] ⟨rfl, rfl, rfl, rfl, rfl, trivial⟩ ?_
    refine W.seq ?_
    refine W.condD rfl (fun h0 => ?_) (fun h0 => ?_)
    refine W.skip ?_
    refine K.next [(30, _), (29, _), (4, _), (1, _)] ⟨rfl, rfl, rfl, rfl, trivial⟩ ?_
    refine W.bseq ?_
    refine W.rseq ?_
    rotate_left
    refine W.exit ?_
    refine K.exitT ?_
    refine K.exitT ?_
    refine K.exit ?_
    refine K.next [(4, _), (1, _)] ⟨rfl, rfl, trivial⟩ ?_
    refine W.rseq ?_
    refine WL.p rfl rfl rfl (PV.mv rfl) ?_
    refine WL.p rfl rfl rfl (PV.fa fo52_5 rfl rfl) ?_
    refine WL.f rfl rfl rfl (FV.ld (LdD.sc 4 5 sc9 rfl rfl rfl rfl)) ?_
    refine WL.putX rfl rfl rfl (OpX.call cb341 (c341 (by first | omega | (simp only [List.length_append, List.length_cons, List.length_nil, List.length_take, numB_len]; omega) | assumption) (by first | omega | (simp only [List.length_append, List.length_cons, List.length_nil, List.length_take, numB_len]; omega) | assumption)) rfl (.cons (i := 0) rfl .nil)) fun x40 => ?_
    refine WL.nm (H' := _ :: _ :: _ :: _ :: pt _ _ [_, _, _, _, _, _, _, _, _] :: _) rfl ?_
    refine WL.next [(4, _), (1, _)] ⟨rfl, rfl, trivial⟩ ?_
    refine W.rseq ?_
    refine WL.p rfl rfl rfl (PV.mv rfl) ?_
    refine WL.p rfl rfl rfl (PV.fa fo52_6 rfl rfl) ?_
    refine WL.f rfl rfl rfl (FV.ld (LdD.sc 4 6 sc33 rfl rfl rfl rfl)) ?_
    refine WL.p rfl rfl rfl (PV.lenL ul33 rfl rfl) ?_
    rotate_left
    · exfalso; omega
    · rw [List.take_of_length_le (show m.nums.length ≤ k by omega)] at *
      have hal1 : ([2] ++ n6s m.nums : Bytes).length = 31 := by rw [List.length_append, n6s_len, hml]; rfl
      have hn6 : (n6s m.nums).length = 30 := by rw [n6s_len, hml]
      refine WL.putX rfl rfl rfl (OpX.call cb340 (c340 (by first | omega | (simp only [List.length_append, List.length_cons, List.length_nil, List.length_take, numB_len]; omega) | assumption) (by first | omega | (simp only [List.length_append, List.length_cons, List.length_nil, List.length_take, numB_len]; omega) | assumption)) rfl (.cons (i := 0) rfl .nil)) fun x45 => ?_
      refine WL.nm (H' := _ :: _ :: _ :: _ :: pt _ _ [_, _, _, _, _, _, _, _, _] :: _) rfl ?_
      refine WL.next [(4, _), (1, _)] ⟨rfl, rfl, trivial⟩ ?_
      refine W.seq ?_
      refine W.rseq ?_
      refine WL.p rfl rfl rfl (PV.fa fo52_6 rfl rfl) ?_
      refine WL.f rfl rfl rfl (FV.ld (LdD.sc 4 6 sc33 rfl rfl rfl rfl)) ?_
      refine WL.p rfl rfl rfl (PV.lenL ul33 rfl rfl) ?_
      refine WL.p rfl rfl rfl (PV.mv rfl) ?_
      refine WL.next [(49, _), (48, _), (47, _), (4, _), (1, _)] ⟨rfl, rfl, rfl, rfl, rfl, trivial⟩ ?_
      refine W.block ?_
      rotate_left
      obtain ⟨A, hA⟩ : ∃ A, A = [2] ++ n6s m.nums ++ (numB m.frm.length 2 ++ m.frm) ++ numB m.rcpts.length 2 := ⟨_, rfl⟩
      have hAl : A.length = 31 + (m.frm.length + 2) + 2 := by rw [hA]; simp only [List.length_append, numB_len, hn6]; simp; omega
      rw [← hA]
      refine W.loopP (X := Nat) (fun k => k ≤ m.rcpts.length) (fun k => [(49, .int .i64 k), (48, .int .i64 m.rcpts.length), (47, p1.v m.rcpts.length), (4, .pointer (some ⟨x18, 0, none⟩)), (1, .pointer (some ⟨x1, 0, none⟩))])
        (fun k => wr x18 (A ++ txs (m.rcpts.take k)) :: sl Kstr p1 m.rcpts :: sl (Kint .i64) p2 m.marks :: sl Kstr p3 m.body :: pt x1 0 [.int .i64 m.id, .int .i64 m.gen, .int .i64 m.born, .int .i64 m.tries, .int .i64 m.due, str m.frm, p1.v m.rcpts.length, p2.v m.marks.length, p3.v m.body.length] :: F) (fun k => m.rcpts.length - k) 0 (Nat.zero_le _)
        ⟨rfl, rfl, rfl, rfl, rfl, trivial⟩ (by rw [show A ++ txs (m.rcpts.take 0) = A by simp [txs]]; exact Ent.refl _) fun k hk => ?_
      have hle := txs_takele (xs := m.rcpts) k
      by_cases hkl : k < m.rcpts.length
      · have hbk := hrb _ (List.getElem_mem hkl)
        refine W.rseq ?_
        refine WL.p rfl rfl rfl (PV.lt rfl rfl) ?_
        refine WL.next [(50, _), (49, _), (48, _), (47, _), (4, _), (1, _)] ⟨rfl, rfl, rfl, rfl, rfl, rfl, trivial⟩ ?_
        refine W.seq ?_
        refine W.condD rfl (fun h0 => ?_) (fun h0 => ?_)
        refine W.skip ?_
        refine K.next [(49, _), (48, _), (47, _), (4, _), (1, _)] ⟨rfl, rfl, rfl, rfl, rfl, trivial⟩ ?_
        refine W.bseq ?_
        refine W.rseq ?_
        refine WL.fact (sl_fact 1 rfl) fun hs1 => ?_
        refine WL.p rfl rfl rfl (PV.ixN (by assumption) ul33 sz9 rfl rfl (by omega)) ?_
        refine WL.f rfl rfl rfl (FV.ld (LdD.sl1S 1 sc9 rfl rfl rfl (by omega))) ?_
        refine WL.p rfl rfl rfl (PV.as rfl) ?_
        refine WL.next [(8, _), (49, _), (48, _), (47, _), (4, _), (1, _)] ⟨rfl, rfl, rfl, rfl, rfl, rfl, trivial⟩ ?_
        refine W.region ?_
        refine WL.p rfl rfl rfl (PV.mv rfl) ?_
        refine WL.p rfl rfl rfl (PV.mv rfl) ?_
        refine WL.putX rfl rfl rfl (OpX.call cb341 (c341 (by first | omega | (simp only [List.length_append, List.length_cons, List.length_nil, List.length_take, numB_len]; omega) | assumption) (by first | omega | (simp only [List.length_append, List.length_cons, List.length_nil, List.length_take, numB_len]; omega) | assumption)) rfl (.cons (i := 0) rfl .nil)) fun x55 => ?_
        refine WL.nm (H' := _ :: _ :: _ :: _ :: pt _ _ [_, _, _, _, _, _, _, _, _] :: _) rfl ?_
        refine WL.nil ?_
        refine K.out ?_
        refine K.next [(49, _), (48, _), (47, _), (4, _), (1, _)] ⟨rfl, rfl, rfl, rfl, rfl, trivial⟩ ?_
        refine W.region ?_
        refine WL.p rfl rfl rfl (PV.add64 rfl rfl (by omega)) ?_
        refine WL.p rfl rfl rfl (PV.mv rfl) ?_
        refine WL.nil ?_
        rotate_left
        refine W.exit ?_
        refine K.exitT ?_
        refine K.exitT ?_
        refine K.exit ?_
        refine K.next [(4, _), (1, _)] ⟨rfl, rfl, trivial⟩ ?_
        refine W.rseq ?_
        refine WL.p rfl rfl rfl (PV.mv rfl) ?_
        refine WL.p rfl rfl rfl (PV.fa fo52_7 rfl rfl) ?_
        refine WL.f rfl rfl rfl (FV.ld (LdD.sc 4 7 sc32 rfl rfl rfl rfl)) ?_
        refine WL.p rfl rfl rfl (PV.lenL ul32 rfl rfl) ?_
        refine WL.putX rfl rfl rfl (OpX.call cb340 (c340 (by first | omega | (simp only [List.length_append, List.length_cons, List.length_nil, List.length_take, numB_len]; omega) | assumption) (by first | omega | (simp only [List.length_append, List.length_cons, List.length_nil, List.length_take, numB_len]; omega) | assumption)) rfl (.cons (i := 0) rfl .nil)) fun x61 => ?_
        refine WL.nm (H' := _ :: _ :: _ :: _ :: pt _ _ [_, _, _, _, _, _, _, _, _] :: _) rfl ?_
        refine WL.next [(4, _), (1, _)] ⟨rfl, rfl, trivial⟩ ?_
        refine W.seq ?_
        refine W.rseq ?_
        refine WL.p rfl rfl rfl (PV.fa fo52_7 rfl rfl) ?_
        refine WL.f rfl rfl rfl (FV.ld (LdD.sc 4 7 sc32 rfl rfl rfl rfl)) ?_
        refine WL.p rfl rfl rfl (PV.lenL ul32 rfl rfl) ?_
        refine WL.p rfl rfl rfl (PV.mv rfl) ?_
        refine WL.next [(65, _), (64, _), (63, _), (4, _), (1, _)] ⟨rfl, rfl, rfl, rfl, rfl, trivial⟩ ?_
        refine W.block ?_
        rotate_left
        · rw [List.append_assoc, show numB (m.rcpts[k].length : Int) 2 ++ m.rcpts[k] = txB m.rcpts[k] from rfl, ← txs_take hkl]
          refine K.againP (k + 1) (by omega) (by omega) ⟨rfl, rfl, rfl, rfl, rfl, trivial⟩ ?_
          refine Ent.take 0 rfl ?_
          refine Ent.keep 0 rfl (sl_pers _ _ _) ?_
          refine Ent.keep 1 rfl (sl_pers _ _ _) ?_
          refine Ent.keep 2 rfl (sl_pers _ _ _) ?_
          refine Ent.take 3 rfl ?_
          exact Ent.tail (Ent.tail (Ent.tail (Ent.refl _)))
        · exfalso; omega
      · refine W.rseq ?_
        refine WL.p rfl rfl rfl (PV.lt rfl rfl) ?_
        refine WL.next [(50, _), (49, _), (48, _), (47, _), (4, _), (1, _)] ⟨rfl, rfl, rfl, rfl, rfl, rfl, trivial⟩ ?_
        refine W.seq ?_
        refine W.condD rfl (fun h0 => ?_) (fun h0 => ?_)
        refine W.skip ?_
        refine K.next [(49, _), (48, _), (47, _), (4, _), (1, _)] ⟨rfl, rfl, rfl, rfl, rfl, trivial⟩ ?_
        refine W.bseq ?_
        refine W.rseq ?_
        refine WL.fact (sl_fact 1 rfl) fun hs1 => ?_
        refine WL.p rfl rfl rfl (PV.ixN (by assumption) ul33 sz9 rfl rfl (by omega)) ?_
        refine WL.f rfl rfl rfl (FV.ld (LdD.sl1S 1 sc9 rfl rfl rfl (by omega))) ?_
        refine WL.p rfl rfl rfl (PV.as rfl) ?_
        refine WL.next [(8, _), (49, _), (48, _), (47, _), (4, _), (1, _)] ⟨rfl, rfl, rfl, rfl, rfl, rfl, trivial⟩ ?_
        refine W.region ?_
        refine WL.p rfl rfl rfl (PV.mv rfl) ?_
        refine WL.p rfl rfl rfl (PV.mv rfl) ?_
        refine WL.putX rfl rfl rfl (OpX.call cb341 (c341 (by first | omega | (simp only [List.length_append, List.length_cons, List.length_nil, List.length_take, numB_len]; omega) | assumption) (by first | omega | (simp only [List.length_append, List.length_cons, List.length_nil, List.length_take, numB_len]; omega) | assumption)) rfl (.cons (i := 0) rfl .nil)) fun x55 => ?_
        refine WL.nm (H' := _ :: _ :: _ :: _ :: pt _ _ [_, _, _, _, _, _, _, _, _] :: _) rfl ?_
        refine WL.nil ?_
        refine K.out ?_
        refine K.next [(49, _), (48, _), (47, _), (4, _), (1, _)] ⟨rfl, rfl, rfl, rfl, rfl, trivial⟩ ?_
        refine W.region ?_
        refine WL.p rfl rfl rfl (PV.add64 rfl rfl (by omega)) ?_
        refine WL.p rfl rfl rfl (PV.mv rfl) ?_
        refine WL.nil ?_
        rotate_left
        refine W.exit ?_
        refine K.exitT ?_
        refine K.exitT ?_
        refine K.exit ?_
        refine K.next [(4, _), (1, _)] ⟨rfl, rfl, trivial⟩ ?_
        refine W.rseq ?_
        refine WL.p rfl rfl rfl (PV.mv rfl) ?_
        refine WL.p rfl rfl rfl (PV.fa fo52_7 rfl rfl) ?_
        refine WL.f rfl rfl rfl (FV.ld (LdD.sc 4 7 sc32 rfl rfl rfl rfl)) ?_
        refine WL.p rfl rfl rfl (PV.lenL ul32 rfl rfl) ?_
        refine WL.putX rfl rfl rfl (OpX.call cb340 (c340 (by first | omega | (simp only [List.length_append, List.length_cons, List.length_nil, List.length_take, numB_len]; omega) | assumption) (by first | omega | (simp only [List.length_append, List.length_cons, List.length_nil, List.length_take, numB_len]; omega) | assumption)) rfl (.cons (i := 0) rfl .nil)) fun x61 => ?_
        refine WL.nm (H' := _ :: _ :: _ :: _ :: pt _ _ [_, _, _, _, _, _, _, _, _] :: _) rfl ?_
        refine WL.next [(4, _), (1, _)] ⟨rfl, rfl, trivial⟩ ?_
        refine W.seq ?_
        refine W.rseq ?_
        refine WL.p rfl rfl rfl (PV.fa fo52_7 rfl rfl) ?_
        refine WL.f rfl rfl rfl (FV.ld (LdD.sc 4 7 sc32 rfl rfl rfl rfl)) ?_
        refine WL.p rfl rfl rfl (PV.lenL ul32 rfl rfl) ?_
        refine WL.p rfl rfl rfl (PV.mv rfl) ?_
        refine WL.next [(65, _), (64, _), (63, _), (4, _), (1, _)] ⟨rfl, rfl, rfl, rfl, rfl, trivial⟩ ?_
        refine W.block ?_
        rotate_left
        · exfalso; omega
        · rw [show m.rcpts.take k = m.rcpts from List.take_of_length_le (by omega)]
          rotate_left
          obtain ⟨B, hB⟩ : ∃ B, B = A ++ txs m.rcpts ++ numB m.marks.length 2 := ⟨_, rfl⟩
          have hBl : B.length = 31 + (m.frm.length + 2) + 2 + (txs m.rcpts).length + 2 := by rw [hB]; simp only [List.length_append, numB_len, hAl]
          rw [← hB]
          refine W.loopP (X := Nat) (fun k => k ≤ m.marks.length) (fun k => [(65, .int .i64 k), (64, .int .i64 m.marks.length), (63, p2.v m.marks.length), (4, .pointer (some ⟨x18, 0, none⟩)), (1, .pointer (some ⟨x1, 0, none⟩))])
            (fun k => wr x18 (B ++ mks (m.marks.take k)) :: sl Kstr p1 m.rcpts :: sl (Kint .i64) p2 m.marks :: sl Kstr p3 m.body :: pt x1 0 [.int .i64 m.id, .int .i64 m.gen, .int .i64 m.born, .int .i64 m.tries, .int .i64 m.due, str m.frm, p1.v m.rcpts.length, p2.v m.marks.length, p3.v m.body.length] :: F) (fun k => m.marks.length - k) 0 (Nat.zero_le _)
            ⟨rfl, rfl, rfl, rfl, rfl, trivial⟩ (by rw [show B ++ mks (m.marks.take 0) = B by simp [mks]]; exact Ent.refl _) fun k hk => ?_
          have hle : (mks (m.marks.take k)).length ≤ m.marks.length := by rw [mks_len, List.length_take]; omega
          by_cases hkl : k < m.marks.length
          · refine W.rseq ?_
            refine WL.p rfl rfl rfl (PV.lt rfl rfl) ?_
            refine WL.next [(66, _), (65, _), (64, _), (63, _), (4, _), (1, _)] ⟨rfl, rfl, rfl, rfl, rfl, rfl, trivial⟩ ?_
            refine W.seq ?_
            refine W.condD rfl (fun h0 => ?_) (fun h0 => ?_)
            refine W.skip ?_
            refine K.next [(65, _), (64, _), (63, _), (4, _), (1, _)] ⟨rfl, rfl, rfl, rfl, rfl, trivial⟩ ?_
            refine W.bseq ?_
            refine W.rseq ?_
            refine WL.fact (sl_fact 2 rfl) fun hs1 => ?_
            refine WL.p rfl rfl rfl (PV.ixN (by assumption) ul32 sz3 rfl rfl (by omega)) ?_
            refine WL.f rfl rfl rfl (FV.ld (LdD.sl1I 2 sc3 rfl rfl rfl (by omega))) ?_
            refine WL.p rfl rfl rfl (PV.as rfl) ?_
            refine WL.next [(10, _), (65, _), (64, _), (63, _), (4, _), (1, _)] ⟨rfl, rfl, rfl, rfl, rfl, rfl, trivial⟩ ?_
            refine W.region ?_
            refine WL.p rfl rfl rfl (PV.mv rfl) ?_
            refine WL.p rfl rfl rfl (PV.mv rfl) ?_
            refine WL.putX rfl rfl rfl (OpX.call cb340 (c340 (by first | omega | (simp only [List.length_append, List.length_cons, List.length_nil, List.length_take, numB_len]; omega) | assumption) (by first | omega | (simp only [List.length_append, List.length_cons, List.length_nil, List.length_take, numB_len]; omega) | assumption)) rfl (.cons (i := 0) rfl .nil)) fun x71 => ?_
            refine WL.nm (H' := _ :: _ :: _ :: _ :: pt _ _ [_, _, _, _, _, _, _, _, _] :: _) rfl ?_
            refine WL.nil ?_
            refine K.out ?_
            refine K.next [(65, _), (64, _), (63, _), (4, _), (1, _)] ⟨rfl, rfl, rfl, rfl, rfl, trivial⟩ ?_
            refine W.region ?_
            refine WL.p rfl rfl rfl (PV.add64 rfl rfl (by omega)) ?_
            refine WL.p rfl rfl rfl (PV.mv rfl) ?_
            refine WL.nil ?_
            rotate_left
            refine W.exit ?_
            refine K.exitT ?_
            refine K.exitT ?_
            refine K.exit ?_
            refine K.next [(4, _), (1, _)] ⟨rfl, rfl, trivial⟩ ?_
            refine W.rseq ?_
            refine WL.p rfl rfl rfl (PV.mv rfl) ?_
            refine WL.p rfl rfl rfl (PV.fa fo52_8 rfl rfl) ?_
            refine WL.f rfl rfl rfl (FV.ld (LdD.sc 4 8 sc33 rfl rfl rfl rfl)) ?_
            refine WL.p rfl rfl rfl (PV.lenL ul33 rfl rfl) ?_
            refine WL.putX rfl rfl rfl (OpX.call cb340 (c340 (by first | omega | (simp only [List.length_append, List.length_cons, List.length_nil, List.length_take, numB_len]; omega) | assumption) (by first | omega | (simp only [List.length_append, List.length_cons, List.length_nil, List.length_take, numB_len]; omega) | assumption)) rfl (.cons (i := 0) rfl .nil)) fun x77 => ?_
            refine WL.nm (H' := _ :: _ :: _ :: _ :: pt _ _ [_, _, _, _, _, _, _, _, _] :: _) rfl ?_
            refine WL.next [(4, _), (1, _)] ⟨rfl, rfl, trivial⟩ ?_
            refine W.seq ?_
            refine W.rseq ?_
            refine WL.p rfl rfl rfl (PV.fa fo52_8 rfl rfl) ?_
            refine WL.f rfl rfl rfl (FV.ld (LdD.sc 4 8 sc33 rfl rfl rfl rfl)) ?_
            refine WL.p rfl rfl rfl (PV.lenL ul33 rfl rfl) ?_
            refine WL.p rfl rfl rfl (PV.mv rfl) ?_
            refine WL.next [(81, _), (80, _), (79, _), (4, _)] ⟨rfl, rfl, rfl, rfl, trivial⟩ ?_
            refine W.block ?_
            rotate_left
            · rw [List.append_assoc, ← mks_take hkl]
              refine K.againP (k + 1) (by omega) (by omega) ⟨rfl, rfl, rfl, rfl, rfl, trivial⟩ ?_
              refine Ent.take 0 rfl ?_
              refine Ent.keep 0 rfl (sl_pers _ _ _) ?_
              refine Ent.keep 1 rfl (sl_pers _ _ _) ?_
              refine Ent.keep 2 rfl (sl_pers _ _ _) ?_
              refine Ent.take 3 rfl ?_
              exact Ent.tail (Ent.tail (Ent.tail (Ent.refl _)))
            · exfalso; omega
          · refine W.rseq ?_
            refine WL.p rfl rfl rfl (PV.lt rfl rfl) ?_
            refine WL.next [(66, _), (65, _), (64, _), (63, _), (4, _), (1, _)] ⟨rfl, rfl, rfl, rfl, rfl, rfl, trivial⟩ ?_
            refine W.seq ?_
            refine W.condD rfl (fun h0 => ?_) (fun h0 => ?_)
            refine W.skip ?_
            refine K.next [(65, _), (64, _), (63, _), (4, _), (1, _)] ⟨rfl, rfl, rfl, rfl, rfl, trivial⟩ ?_
            refine W.bseq ?_
            refine W.rseq ?_
            refine WL.fact (sl_fact 2 rfl) fun hs1 => ?_
            refine WL.p rfl rfl rfl (PV.ixN (by assumption) ul32 sz3 rfl rfl (by omega)) ?_
            refine WL.f rfl rfl rfl (FV.ld (LdD.sl1I 2 sc3 rfl rfl rfl (by omega))) ?_
            refine WL.p rfl rfl rfl (PV.as rfl) ?_
            refine WL.next [(10, _), (65, _), (64, _), (63, _), (4, _), (1, _)] ⟨rfl, rfl, rfl, rfl, rfl, rfl, trivial⟩ ?_
            refine W.region ?_
            refine WL.p rfl rfl rfl (PV.mv rfl) ?_
            refine WL.p rfl rfl rfl (PV.mv rfl) ?_
            refine WL.putX rfl rfl rfl (OpX.call cb340 (c340 (by first | omega | (simp only [List.length_append, List.length_cons, List.length_nil, List.length_take, numB_len]; omega) | assumption) (by first | omega | (simp only [List.length_append, List.length_cons, List.length_nil, List.length_take, numB_len]; omega) | assumption)) rfl (.cons (i := 0) rfl .nil)) fun x71 => ?_
            refine WL.nm (H' := _ :: _ :: _ :: _ :: pt _ _ [_, _, _, _, _, _, _, _, _] :: _) rfl ?_
            refine WL.nil ?_
            refine K.out ?_
            refine K.next [(65, _), (64, _), (63, _), (4, _), (1, _)] ⟨rfl, rfl, rfl, rfl, rfl, trivial⟩ ?_
            refine W.region ?_
            refine WL.p rfl rfl rfl (PV.add64 rfl rfl (by omega)) ?_
            refine WL.p rfl rfl rfl (PV.mv rfl) ?_
            refine WL.nil ?_
            rotate_left
            refine W.exit ?_
            refine K.exitT ?_
            refine K.exitT ?_
            refine K.exit ?_
            refine K.next [(4, _), (1, _)] ⟨rfl, rfl, trivial⟩ ?_
            refine W.rseq ?_
            refine WL.p rfl rfl rfl (PV.mv rfl) ?_
            refine WL.p rfl rfl rfl (PV.fa fo52_8 rfl rfl) ?_
            refine WL.f rfl rfl rfl (FV.ld (LdD.sc 4 8 sc33 rfl rfl rfl rfl)) ?_
            refine WL.p rfl rfl rfl (PV.lenL ul33 rfl rfl) ?_
            refine WL.putX rfl rfl rfl (OpX.call cb340 (c340 (by first | omega | (simp only [List.length_append, List.length_cons, List.length_nil, List.length_take, numB_len]; omega) | assumption) (by first | omega | (simp only [List.length_append, List.length_cons, List.length_nil, List.length_take, numB_len]; omega) | assumption)) rfl (.cons (i := 0) rfl .nil)) fun x77 => ?_
            refine WL.nm (H' := _ :: _ :: _ :: _ :: pt _ _ [_, _, _, _, _, _, _, _, _] :: _) rfl ?_
            refine WL.next [(4, _), (1, _)] ⟨rfl, rfl, trivial⟩ ?_
            refine W.seq ?_
            refine W.rseq ?_
            refine WL.p rfl rfl rfl (PV.fa fo52_8 rfl rfl) ?_
            refine WL.f rfl rfl rfl (FV.ld (LdD.sc 4 8 sc33 rfl rfl rfl rfl)) ?_
            refine WL.p rfl rfl rfl (PV.lenL ul33 rfl rfl) ?_
            refine WL.p rfl rfl rfl (PV.mv rfl) ?_
            refine WL.next [(81, _), (80, _), (79, _), (4, _)] ⟨rfl, rfl, rfl, rfl, trivial⟩ ?_
            refine W.block ?_
            rotate_left
            · exfalso; omega
            · rw [show m.marks.take k = m.marks from List.take_of_length_le (by omega)]
              have hmk := mks_len m.marks
              rotate_left
              obtain ⟨C, hC⟩ : ∃ C, C = B ++ mks m.marks ++ numB m.body.length 4 := ⟨_, rfl⟩
              have hCl : C.length = 31 + (m.frm.length + 2) + 2 + (txs m.rcpts).length + 2 + m.marks.length + 4 := by rw [hC]; simp only [List.length_append, numB_len, hBl, mks_len]
              rw [← hC]
              refine W.loopP (X := Nat) (fun k => k ≤ m.body.length) (fun k => [(81, .int .i64 k), (80, .int .i64 m.body.length), (79, p3.v m.body.length), (4, .pointer (some ⟨x18, 0, none⟩))])
                (fun k => wr x18 (C ++ txs (m.body.take k)) :: sl Kstr p1 m.rcpts :: sl (Kint .i64) p2 m.marks :: sl Kstr p3 m.body :: pt x1 0 [.int .i64 m.id, .int .i64 m.gen, .int .i64 m.born, .int .i64 m.tries, .int .i64 m.due, str m.frm, p1.v m.rcpts.length, p2.v m.marks.length, p3.v m.body.length] :: F) (fun k => m.body.length - k) 0 (Nat.zero_le _)
                ⟨rfl, rfl, rfl, rfl, trivial⟩ (by rw [show C ++ txs (m.body.take 0) = C by simp [txs]]; exact Ent.refl _) fun k hk => ?_
              have hle := txs_takele (xs := m.body) k
              by_cases hkl : k < m.body.length
              · have hbk := hbb _ (List.getElem_mem hkl)
                refine W.rseq ?_
                refine WL.p rfl rfl rfl (PV.lt rfl rfl) ?_
                refine WL.next [(82, _), (81, _), (80, _), (79, _), (4, _)] ⟨rfl, rfl, rfl, rfl, rfl, trivial⟩ ?_
                refine W.seq ?_
                refine W.condD rfl (fun h0 => ?_) (fun h0 => ?_)
                refine W.skip ?_
                refine K.next [(81, _), (80, _), (79, _), (4, _)] ⟨rfl, rfl, rfl, rfl, trivial⟩ ?_
                refine W.bseq ?_
                refine W.rseq ?_
                refine WL.fact (sl_fact 3 rfl) fun hs1 => ?_
                refine WL.p rfl rfl rfl (PV.ixN (by assumption) ul33 sz9 rfl rfl (by omega)) ?_
                refine WL.f rfl rfl rfl (FV.ld (LdD.sl1S 3 sc9 rfl rfl rfl (by omega))) ?_
                refine WL.p rfl rfl rfl (PV.as rfl) ?_
                refine WL.next [(12, _), (81, _), (80, _), (79, _), (4, _)] ⟨rfl, rfl, rfl, rfl, rfl, trivial⟩ ?_
                refine W.region ?_
                refine WL.p rfl rfl rfl (PV.mv rfl) ?_
                refine WL.p rfl rfl rfl (PV.mv rfl) ?_
                refine WL.putX rfl rfl rfl (OpX.call cb341 (c341 (by first | omega | (simp only [List.length_append, List.length_cons, List.length_nil, List.length_take, numB_len]; omega) | assumption) (by first | omega | (simp only [List.length_append, List.length_cons, List.length_nil, List.length_take, numB_len]; omega) | assumption)) rfl (.cons (i := 0) rfl .nil)) fun x87 => ?_
                refine WL.nm (H' := _ :: _ :: _ :: _ :: pt _ _ [_, _, _, _, _, _, _, _, _] :: _) rfl ?_
                refine WL.nil ?_
                refine K.out ?_
                refine K.next [(81, _), (80, _), (79, _), (4, _)] ⟨rfl, rfl, rfl, rfl, trivial⟩ ?_
                refine W.region ?_
                refine WL.p rfl rfl rfl (PV.add64 rfl rfl (by omega)) ?_
                refine WL.p rfl rfl rfl (PV.mv rfl) ?_
                refine WL.nil ?_
                rotate_left
                refine W.exit ?_
                refine K.exitT ?_
                refine K.exitT ?_
                refine K.exit ?_
                refine K.next [(4, _)] ⟨rfl, trivial⟩ ?_
                refine W.rseq ?_
                refine WL.p rfl rfl rfl (PV.mv rfl) ?_
                refine WL.p rfl rfl rfl (PV.nck rfl) ?_
                refine WL.p rfl rfl rfl (PV.fa fo382_0 rfl rfl) ?_
                rotate_left
                · rw [List.append_assoc, show numB (m.body[k].length : Int) 2 ++ m.body[k] = txB m.body[k] from rfl, ← txs_take hkl]
                  refine K.againP (k + 1) (by omega) (by omega) ⟨rfl, rfl, rfl, rfl, trivial⟩ ?_
                  refine Ent.take 0 rfl ?_
                  refine Ent.keep 0 rfl (sl_pers _ _ _) ?_
                  refine Ent.keep 1 rfl (sl_pers _ _ _) ?_
                  refine Ent.keep 2 rfl (sl_pers _ _ _) ?_
                  refine Ent.take 3 rfl ?_
                  exact Ent.tail (Ent.tail (Ent.tail (Ent.refl _)))
                · exfalso; omega
              · refine W.rseq ?_
                refine WL.p rfl rfl rfl (PV.lt rfl rfl) ?_
                refine WL.next [(82, _), (81, _), (80, _), (79, _), (4, _)] ⟨rfl, rfl, rfl, rfl, rfl, trivial⟩ ?_
                refine W.seq ?_
                refine W.condD rfl (fun h0 => ?_) (fun h0 => ?_)
                refine W.skip ?_
                refine K.next [(81, _), (80, _), (79, _), (4, _)] ⟨rfl, rfl, rfl, rfl, trivial⟩ ?_
                refine W.bseq ?_
                refine W.rseq ?_
                refine WL.fact (sl_fact 3 rfl) fun hs1 => ?_
                refine WL.p rfl rfl rfl (PV.ixN (by assumption) ul33 sz9 rfl rfl (by omega)) ?_
                refine WL.f rfl rfl rfl (FV.ld (LdD.sl1S 3 sc9 rfl rfl rfl (by omega))) ?_
                refine WL.p rfl rfl rfl (PV.as rfl) ?_
                refine WL.next [(12, _), (81, _), (80, _), (79, _), (4, _)] ⟨rfl, rfl, rfl, rfl, rfl, trivial⟩ ?_
                refine W.region ?_
                refine WL.p rfl rfl rfl (PV.mv rfl) ?_
                refine WL.p rfl rfl rfl (PV.mv rfl) ?_
                refine WL.putX rfl rfl rfl (OpX.call cb341 (c341 (by first | omega | (simp only [List.length_append, List.length_cons, List.length_nil, List.length_take, numB_len]; omega) | assumption) (by first | omega | (simp only [List.length_append, List.length_cons, List.length_nil, List.length_take, numB_len]; omega) | assumption)) rfl (.cons (i := 0) rfl .nil)) fun x87 => ?_
                refine WL.nm (H' := _ :: _ :: _ :: _ :: pt _ _ [_, _, _, _, _, _, _, _, _] :: _) rfl ?_
                refine WL.nil ?_
                refine K.out ?_
                refine K.next [(81, _), (80, _), (79, _), (4, _)] ⟨rfl, rfl, rfl, rfl, trivial⟩ ?_
                refine W.region ?_
                refine WL.p rfl rfl rfl (PV.add64 rfl rfl (by omega)) ?_
                refine WL.p rfl rfl rfl (PV.mv rfl) ?_
                refine WL.nil ?_
                rotate_left
                refine W.exit ?_
                refine K.exitT ?_
                refine K.exitT ?_
                refine K.exit ?_
                refine K.next [(4, _)] ⟨rfl, trivial⟩ ?_
                refine W.rseq ?_
                refine WL.p rfl rfl rfl (PV.mv rfl) ?_
                refine WL.p rfl rfl rfl (PV.nck rfl) ?_
                refine WL.p rfl rfl rfl (PV.fa fo382_0 rfl rfl) ?_
                rotate_left
                · exfalso; omega
                · rw [show m.body.take k = m.body from List.take_of_length_le (by omega)]
                  have hD : C ++ txs m.body = binM m := by rw [hC, hB, hA]; unfold binM txB; simp only [List.append_assoc]
                  rw [hD]
                  rotate_left
                  refine WL.ex 0 rfl fun q => ?_
                  refine WL.nm (H' := pt _ _ [_] :: sl _ _ _ :: tl _ _ _ :: sl Kstr p1 m.rcpts :: sl (Kint .i64) p2 m.marks :: sl Kstr p3 m.body :: pt x1 0 [.int .i64 m.id, .int .i64 m.gen, .int .i64 m.born, .int .i64 m.tries, .int .i64 m.due, str m.frm, p1.v m.rcpts.length, p2.v m.marks.length, p3.v m.body.length] :: F) rfl ?_
                  refine WL.f rfl rfl rfl (FV.ld (LdD.sc 0 0 sc62 rfl rfl rfl rfl)) ?_
                  refine WL.p rfl rfl rfl (PV.as rfl) ?_
                  refine WL.p rfl rfl rfl (PV.as rfl) ?_
                  refine WL.next [(3, _), (2, _)] ⟨rfl, rfl, trivial⟩ ?_
                  refine W.ret ?_
                  rotate_left
                  refine K.fin (vs := [_, _]) q ⟨rfl, rfl, trivial⟩ rfl ?_
                  refine Ent.keep 1 rfl (sl_pers _ _ _) ?_
                  refine Ent.take 2 rfl ?_
                  refine Ent.keep 2 rfl (sl_pers _ _ _) ?_
                  refine Ent.keep 3 rfl (sl_pers _ _ _) ?_
                  refine Ent.keep 4 rfl (sl_pers _ _ _) ?_
                  exact Ent.tail (Ent.tail (Ent.tail (Ent.tail (Ent.tail (Ent.tail (Ent.refl _))))))
end Go.Sl
/-! What a good message is. -/
namespace Go.Sl
open Go
structure Fine (m : Msg) : Prop where
  nums : ∀ n, n ∈ m.nums → 0 ≤ n ∧ n ≤ 1099511627776
  frm : m.frm = [] ∨ mboxB m.frm = true
  rl : 1 ≤ m.rcpts.length ∧ m.rcpts.length ≤ 20
  rb : ∀ b, b ∈ m.rcpts → mboxB b = true
  ml : m.marks.length ≤ 50
  mrk : ∀ x, x ∈ m.marks → 0 ≤ x ∧ x ≤ 2
  bb : ∀ b, b ∈ m.body → badB b = false
  bs : sizeL m.body ≤ 65536
theorem goodM_fine {m : Msg} (h : goodM m = true) : Fine m := by
  unfold goodM at h
  simp only [Bool.and_eq_true, Bool.not_eq_true', Bool.or_eq_true, decide_eq_true_eq] at h
  obtain ⟨⟨⟨⟨⟨⟨⟨h1, h2⟩, h3⟩, h4⟩, h5⟩, h6⟩, h7⟩, h8⟩ := h
  unfold goodL at h8
  simp only [Bool.and_eq_true, Bool.not_eq_true', decide_eq_true_eq] at h8
  refine ⟨fun n hn => ?_, h2, ⟨h3, h4⟩, fun b hb => ?_, h6, fun x hx => ?_, fun b hb => ?_, h8.2⟩
  · have := List.any_eq_false.1 h1 n hn
    unfold timeB at this; simp at this; exact this
  · have := List.any_eq_false.1 h5 b hb
    simpa using this
  · have := List.any_eq_false.1 h7 x hx
    unfold oddB at this; simp at this; omega
  · have := List.any_eq_false.1 h8.1 b hb
    simpa using this
theorem fine_good {m : Msg} (h : Fine m) : goodM m = true := by
  have h1 : ([m.id, m.gen, m.born, m.tries, m.due].any fun n => !(timeB n)) = false := by
    rw [List.any_eq_false]; intro n hn
    have := h.nums n hn
    unfold timeB; simp; exact this
  have h5 : (m.rcpts.any fun a => !(mboxB a)) = false := by
    rw [List.any_eq_false]; intro n hn; simp [h.rb n hn]
  have h7 : m.marks.any oddB = false := by
    rw [List.any_eq_false]; intro n hn
    have := h.mrk n hn
    unfold oddB; simp; omega
  have h8 : goodL m.body = true := by
    unfold goodL
    rw [List.any_eq_false.2 (fun b hb => by simp [h.bb b hb])]; simp [h.bs]
  unfold goodM
  rw [h1, h5, h7, h8]
  simp [h.rl.1, h.rl.2, h.ml, h.frm]
theorem mbox_len {s : Bytes} (h : mboxB s = true) : s.length ≤ 320 := by
  unfold mboxB canonM at h
  simp only [Bool.and_eq_true, decide_eq_true_eq] at h
  obtain ⟨h1, h2⟩ := h
  split at h1
  · next h3 =>
    rw [if_pos h3] at h2
    have h4 : (splitM s).1.length ≤ 64 ∧ (splitM s).2.1.length ≤ 255 := by
      unfold splitM at h3 ⊢
      split at h3
      · next h5 =>
        rw [if_pos h5]
        simp only [Bool.and_eq_true] at h5
        unfold localB domB at h5
        simp only [Bool.and_eq_true, decide_eq_true_eq] at h5
        exact ⟨h5.2.1.1, h5.2.2.1⟩
      · cases h3
    have h6 := congrArg List.length h2
    simp only [List.length_append, lowB, List.length_map, List.length_singleton] at h6
    omega
  · cases h1
theorem badB_len {s : Bytes} (h : badB s = false) : s.length ≤ 997 := by
  unfold badB at h; simp at h; omega
theorem Fine.frl {m : Msg} (h : Fine m) : m.frm.length ≤ 320 := by
  rcases h.frm with h | h
  · rw [h]; simp
  · exact mbox_len h
theorem txs_sum : ∀ (l : List Bytes), (txs l).length = sizeL l
  | [] => rfl
  | x :: l => by rw [txs_cons, List.length_append, txB_len, txs_sum]; simp [sizeL]
theorem body_len : ∀ (l : List Bytes), 2 * l.length ≤ sizeL l
  | [] => by simp
  | x :: l => by have := body_len l; simp [sizeL] at this ⊢; omega
theorem sizeL_bound {l : List Bytes} {k : Nat} (h : ∀ b, b ∈ l → b.length ≤ k) : sizeL l ≤ l.length * (k + 2) := by
  induction l with
  | nil => simp [sizeL]
  | cons x l ih =>
    have h1 := h x (by simp)
    have h2 := ih fun b hb => h b (by simp [hb])
    simp only [sizeL, List.map_cons, List.sum_cons, List.length_cons] at h2 ⊢
    rw [Nat.add_mul]; omega
theorem Fine.ok {m : Msg} (h : Fine m) : m.Ok := by
  have h1 := h.rl
  have h2 := h.ml
  have h3 := body_len m.body
  have h4 := h.bs
  exact ⟨by have := h.frl; omega, by omega, fun b hb => by have := mbox_len (h.rb b hb); omega, by omega, by omega, by omega⟩
theorem binM_len (m : Msg) : (binM m).length = 1 + 30 + (m.frm.length + 2) + 2 + (txs m.rcpts).length + 2 + m.marks.length + 4 + (txs m.body).length := by
  unfold binM; simp only [List.length_append, numB_len, n6s_len, txB_len, mks_len]; rfl
theorem Fine.bin {m : Msg} (h : Fine m) : (binM m).length ≤ 100000 := by
  rw [binM_len, txs_sum, txs_sum]
  have h1 := h.frl
  have h2 := sizeL_bound (fun b hb => mbox_len (h.rb b hb))
  have h3 := h.bs
  have h4 := h.ml
  have h5 := h.rl.2
  have h6 : m.rcpts.length * (320 + 2) ≤ 20 * 322 := Nat.mul_le_mul_right _ h5
  omega
theorem binM_right (m : Msg) : binM m = [2] ++ (numB m.id 6 ++ (numB m.gen 6 ++ (numB m.born 6 ++ (numB m.tries 6 ++ (numB m.due 6 ++ (txB m.frm ++ (numB m.rcpts.length 2 ++ (txs m.rcpts ++ (numB m.marks.length 2 ++ (mks m.marks ++ (numB m.body.length 4 ++ (txs m.body ++ [])))))))))))) := by
  unfold binM Msg.nums n6s
  simp only [List.map_cons, List.map_nil, List.flatten_cons, List.flatten_nil, List.append_assoc, List.append_nil]
end Go.Sl
