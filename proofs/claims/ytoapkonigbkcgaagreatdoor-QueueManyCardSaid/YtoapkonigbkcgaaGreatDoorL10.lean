/- A library for the proof (part 10): Qf0 Qp0 Qm0 Qm1. -/
import Derived.Test.YtoapkonigbkcgaaGreatDoorL09
set_option linter.unusedVariables false
set_option linter.unusedSimpArgs false
set_option linter.unusedSectionVars false
/-! A message is finished. -/
namespace Go.Sl
open Go Go.Proofs
set_option maxRecDepth 20000
theorem c122f {q r1 r2 : Nat} {s : QS} {c4 c5 c6 : Value} {id : Int} {p : SP} (hC : Rng id) :
    Spec P 50 [.pointer (some ⟨q, 0, none⟩), p.v ([70] ++ numB id 6 : Bytes).length]
      [pt q 0 [.map (some r1), .map (some r2), .int .i64 s.next, .int .i64 s.aim, c4, c5, c6], mx Kmsg r1 s.mail, mx (Kint .i64) r2 s.form, sl Kb p ([70] ++ numB id 6)]
      (fun _ : Unit => .bool true) (fun _ => [pt q 0 [.map (some r1), .map (some r2), .int .i64 (s.del id).next, .int .i64 (s.del id).aim, c4, c5, c6], mx Kmsg r1 (s.del id).mail, mx (Kint .i64) r2 (s.del id).form, sl Kb p ([70] ++ numB id 6)]) := by
  have hl : ([70] ++ numB id 6 : Bytes).length = 7 := by rw [List.length_append, numB_len]; rfl
  have hn := numB_len id 6
  refine Spec.intro Tryz.func50 rfl rfl rfl fun F => ?_
  refine W.fact (sl_fact 3 rfl) fun hp => ?_
  refine W.ex 1 rfl fun m1 => ?_
  refine W.pr 0 rfl fun hm1 => ?_
  refine W.nm (H' := mp kvI Kmsg r1 m1 :: pt _ _ [_, _, _, _, _, _, _] :: _ :: _ :: _) rfl ?_
  refine W.ex 2 rfl fun m2 => ?_
  refine W.pr 0 rfl fun hm2 => ?_
  refine W.nm (H' := mp kvI (Kint .i64) r2 m2 :: mp kvI Kmsg r1 m1 :: pt _ _ [_, _, _, _, _, _, _] :: _ :: _) rfl ?_
  refine W.rseq ?_
  refine WL.p rfl rfl rfl (PV.as rfl) ?_
  refine WL.next [(4, _), (0, _), (1, _)] ⟨rfl, rfl, rfl, trivial⟩ ?_
  refine W.seq ?_
  refine W.rseq ?_
  refine WL.p rfl rfl rfl (PV.mv rfl) ?_
  refine WL.p rfl rfl rfl (PV.lenL ul62 rfl rfl) ?_
  refine WL.p rfl rfl rfl (PV.eqI rfl rfl) ?_
  refine WL.next [(10, _), (4, _), (0, _), (1, _)] ⟨rfl, rfl, rfl, rfl, trivial⟩ ?_
  refine W.condD rfl (fun h0 => ?_) (fun h0 => ?_)
  refine W.rseq ?_
  refine WL.p rfl rfl rfl (PV.as rfl) ?_
  refine WL.next [(4, _), (0, _), (1, _)] ⟨rfl, rfl, rfl, trivial⟩ ?_
  refine W.ret ?_
  refine K.retT ?_
  rotate_left
  refine W.skip ?_
  refine K.next [(4, _), (0, _), (1, _)] ⟨rfl, rfl, rfl, trivial⟩ ?_
  refine W.dseq [0, 1, 2, 3, 4, 5, 6] mixedOrders rfl rfl fun hR => ?_
  refine DP.p rfl rfl rfl rfl rfl (PV.mv rfl) ?_
  refine DP.p rfl rfl rfl rfl rfl (PV.ixN (j := 0) (by assumption) ul62 sz5 rfl rfl (by omega)) ?_
  refine DP.f rfl rfl rfl rfl rfl (FV.ld (LdD.sl1B 3 sc5 rfl rfl rfl (by omega))) ?_
  refine DP.p rfl rfl rfl rfl rfl (PV.mv rfl) ?_
  refine DP.p rfl rfl rfl rfl rfl (PV.cutL ul62 sz5 rfl rfl rfl (by omega) (by omega) (by omega)) ?_
  refine DP.p rfl rfl rfl rfl rfl (PV.as rfl) ?_
  refine DP.p rfl rfl rfl rfl rfl (PV.as rfl) ?_
  refine DP.fin hR ?_
  clear hR
  refine K.next [(6, _), (5, _), (4, _), (0, _)] ⟨rfl, rfl, rfl, rfl, trivial⟩ ?_
  refine W.bseq ?_
  refine W.rseq ?_
  refine WL.p rfl rfl rfl (PV.mv rfl) ?_
  refine WL.p rfl rfl rfl (PV.eqI rfl rfl) ?_
  refine WL.p rfl rfl rfl (PV.as rfl) ?_
  refine WL.next [(16, _), (6, _), (5, _), (4, _), (0, _)] ⟨rfl, rfl, rfl, rfl, rfl, trivial⟩ ?_
  refine W.condD rfl (fun h1 => ?_) (fun h1 => ?_)
  refine W.rseq ?_
  refine WL.p rfl rfl rfl (PV.mv rfl) ?_
  refine WL.p rfl rfl rfl (PV.mv rfl) ?_
  rotate_left
  refine W.rseq ?_
  refine WL.p rfl rfl rfl (PV.mv rfl) ?_
  refine WL.p rfl rfl rfl (PV.eqI rfl rfl) ?_
  refine WL.p rfl rfl rfl (PV.mv rfl) ?_
  refine WL.yes (dj := 25) rfl rfl rfl rfl rfl rfl (OpD.fv (PV.fv (PV.mv rfl))) ?_
  refine WL.yes (dj := 25) rfl rfl rfl rfl rfl rfl (OpD.fv (PV.fv (PV.lenL ul62 rfl rfl))) ?_
  refine WL.yes (dj := 25) rfl rfl rfl rfl rfl rfl (OpD.fv (PV.fv (PV.ge rfl rfl))) ?_
  refine WL.p rfl rfl rfl (PV.pickT rfl rfl rfl) ?_
  refine WL.p rfl rfl rfl (PV.as rfl) ?_
  refine WL.next [(22, _), (6, _), (5, _), (4, _), (0, _)] ⟨rfl, rfl, rfl, rfl, rfl, trivial⟩ ?_
  refine W.condD rfl (fun h2 => ?_) (fun h2 => ?_)
  refine W.rseq ?_
  refine WL.p rfl rfl rfl (PV.mv rfl) ?_
  rotate_left
  refine W.rseq ?_
  refine WL.p rfl rfl rfl (PV.mv rfl) ?_
  refine WL.p rfl rfl rfl (PV.eqI rfl rfl) ?_
  refine WL.p rfl rfl rfl (PV.mv rfl) ?_
  refine WL.no (dj := 55) rfl rfl rfl rfl rfl ?_
  refine WL.no (dj := 55) rfl rfl rfl rfl rfl ?_
  refine WL.no (dj := 55) rfl rfl rfl rfl rfl ?_
  refine WL.p rfl rfl rfl (PV.pickF rfl rfl rfl) ?_
  refine WL.p rfl rfl rfl (PV.mv rfl) ?_
  refine WL.no (dj := 60) rfl rfl rfl rfl rfl ?_
  refine WL.no (dj := 60) rfl rfl rfl rfl rfl ?_
  refine WL.no (dj := 60) rfl rfl rfl rfl rfl ?_
  refine WL.no (dj := 60) rfl rfl rfl rfl rfl ?_
  refine WL.no (dj := 60) rfl rfl rfl rfl rfl ?_
  refine WL.noU (dj := 65) rfl rfl rfl rfl ?_
  refine WL.noU (dj := 65) rfl rfl rfl rfl ?_
  refine WL.noU (dj := 65) rfl rfl rfl rfl ?_
  refine WL.noU (dj := 65) rfl rfl rfl rfl ?_
  refine WL.no (dj := 60) rfl rfl rfl rfl rfl ?_
  refine WL.p rfl rfl rfl (PV.pickF rfl rfl rfl) ?_
  refine WL.p rfl rfl rfl (PV.as rfl) ?_
  refine WL.next [(52, _), (6, _), (5, _), (4, _), (0, _)] ⟨rfl, rfl, rfl, rfl, rfl, trivial⟩ ?_
  refine W.cF rfl ?_
  refine W.rseq ?_
  refine WL.p rfl rfl rfl (PV.mv rfl) ?_
  refine WL.p rfl rfl rfl (PV.eqI rfl rfl) ?_
  refine WL.p rfl rfl rfl (PV.mv rfl) ?_
  refine WL.no (dj := 82) rfl rfl rfl rfl rfl ?_
  refine WL.no (dj := 82) rfl rfl rfl rfl rfl ?_
  refine WL.no (dj := 82) rfl rfl rfl rfl rfl ?_
  refine WL.p rfl rfl rfl (PV.pickF rfl rfl rfl) ?_
  refine WL.p rfl rfl rfl (PV.as rfl) ?_
  refine WL.next [(79, _), (6, _), (4, _), (0, _)] ⟨rfl, rfl, rfl, rfl, trivial⟩ ?_
  refine W.cF rfl ?_
  refine W.skip ?_
  refine K.out ?_
  refine K.next [(4, _)] ⟨rfl, trivial⟩ ?_
  refine W.rseq ?_
  refine WL.p rfl rfl rfl (PV.as rfl) ?_
  refine WL.next [(4, _)] ⟨rfl, trivial⟩ ?_
  refine W.ret ?_
  rotate_left
  · exfalso; omega
  · exact absurd h1 (by show ¬ ((70 : Int) = 80); decide)
  · rw [show ((([70] ++ numB id 6 : Bytes).length : Int)).toNat - Int.toNat 1 = (numB id 6).length by omega]
    refine WL.cutK 3 1 p.c (numB id 6).length (numB id 6) rfl (Nat.le_refl _) (by omega) (by simp) ?_
    refine WL.nm (H' := sl Kb (p.cut 1 (Int.toNat 1) p.c) (numB id 6) :: sl Kb p ([70] ++ numB id 6) :: mp kvI (Kint .i64) r2 m2 :: mp kvI Kmsg r1 m1 :: pt _ _ [_, _, _, _, _, _, _] :: F) rfl ?_
    have c195h := fun p => c195 (p := p) (b := part (numB id 6) 0 6) (by simp [part, hn])
    refine WL.fact (sl_fact 0 rfl) fun hs0 => ?_
    refine WL.putX rfl rfl rfl (OpX.cutS 0 ul62 sz5 rfl rfl rfl rfl (by first | omega | (simp only [List.length_append, List.length_cons, List.length_nil, List.length_take, List.length_drop, Sl.part]; omega)) (by first | omega | (simp only [List.length_append, List.length_cons, List.length_nil, List.length_take, List.length_drop, Sl.part]; omega)) (by first | omega | (simp only [List.length_append, List.length_cons, List.length_nil, List.length_take, List.length_drop, Sl.part]; omega))) fun x31 => ?_
    refine WL.nm (H' := _ :: _ :: _ :: _ :: _ :: pt _ _ [_, _, _, _, _, _, _] :: _) rfl ?_
    refine WL.putX rfl rfl rfl (OpX.call cb195 (c195h _) rfl (.cons (i := 0) rfl .nil)) fun x32 => ?_
    refine WL.nm (H' := _ :: _ :: _ :: _ :: _ :: pt _ _ [_, _, _, _, _, _, _] :: _) rfl ?_
    refine WL.p rfl rfl rfl (PV.as rfl) ?_
    refine WL.next [(7, _), (6, _), (4, _), (0, _)] ⟨rfl, rfl, rfl, rfl, trivial⟩ ?_
    refine W.rseq ?_
    refine WL.p rfl rfl rfl (PV.mv rfl) ?_
    refine WL.p rfl rfl rfl (PV.nck rfl) ?_
    refine WL.p rfl rfl rfl (PV.fa fo200_0 rfl rfl) ?_
    refine WL.f rfl rfl rfl (FV.ld (LdD.sc 5 0 sc197 rfl rfl rfl rfl)) ?_
    refine WL.p rfl rfl rfl (PV.mv rfl) ?_
    refine WL.done rfl rfl (OpD.delM 4 ul197 rfl ki3 rfl rfl rfl) ?_
    refine WL.nm (H' := _ :: _ :: _ :: _ :: _ :: pt _ _ [_, _, _, _, _, _, _] :: _) rfl ?_
    refine WL.next [(7, _), (6, _), (4, _), (0, _)] ⟨rfl, rfl, rfl, rfl, trivial⟩ ?_
    refine W.rseq ?_
    refine WL.p rfl rfl rfl (PV.mv rfl) ?_
    refine WL.p rfl rfl rfl (PV.nck rfl) ?_
    refine WL.p rfl rfl rfl (PV.fa fo200_1 rfl rfl) ?_
    refine WL.f rfl rfl rfl (FV.ld (LdD.sc 5 1 sc198 rfl rfl rfl rfl)) ?_
    refine WL.p rfl rfl rfl (PV.mv rfl) ?_
    refine WL.done rfl rfl (OpD.delM 3 ul198 rfl ki3 rfl rfl rfl) ?_
    refine WL.nm (H' := _ :: _ :: _ :: _ :: _ :: pt _ _ [_, _, _, _, _, _, _] :: _) rfl ?_
    refine WL.next [(6, _), (4, _), (0, _)] ⟨rfl, rfl, rfl, trivial⟩ ?_
    refine W.rseq ?_
    refine WL.p rfl rfl rfl (PV.mv rfl) ?_
    refine WL.p rfl rfl rfl (PV.lenL ul62 rfl rfl) ?_
    refine WL.p rfl rfl rfl (PV.eqI rfl rfl) ?_
    refine WL.p rfl rfl rfl (PV.mv rfl) ?_
    refine WL.no (dj := 46) rfl rfl rfl rfl rfl ?_
    refine WL.no (dj := 46) rfl rfl rfl rfl rfl ?_
    refine WL.no (dj := 46) rfl rfl rfl rfl rfl ?_
    refine WL.no (dj := 46) rfl rfl rfl rfl rfl ?_
    refine WL.p rfl rfl rfl (PV.pickT rfl rfl rfl) ?_
    refine WL.p rfl rfl rfl (PV.as rfl) ?_
    refine WL.next [(4, _)] ⟨rfl, trivial⟩ ?_
    refine W.ret ?_
    refine K.retB ?_
    refine K.retT ?_
    rotate_left
    have e : part (numB id 6) 0 6 = numB id 6 := by simp [part]; exact List.take_of_length_le (by omega)
    rw [e, beN6' hC]
    refine K.fin (vs := [_]) () ⟨rfl, trivial⟩ rfl ?_
    refine Ent.take 5 rfl (Ent.fold (mdel m1 id) (Ent.pr ⟨mdel_perm hm1.1 hm1.2 _, Nk.del hm1.2 _⟩ (Ent.take 4 rfl (Ent.fold (mdel m2 id) (Ent.pr ⟨mdel_perm hm2.1 hm2.2 _, Nk.del hm2.2 _⟩ (Ent.take 3 rfl ?_))))))
    refine Ent.keep 2 rfl (sl_pers _ _ _) ?_
    exact Ent.tail (Ent.tail (Ent.tail (Ent.refl _)))
  · exfalso; omega
theorem c127o {q l g : Nat} {z : Nat × Nat} {s s' : QS} {down : Bool} {L : LM} {p : SP} {b : Bytes}
    (c122h : Spec P 50 [.pointer (some ⟨q, 0, none⟩), p.v b.length] [pt q 0 [.map (some z.1), .map (some z.2), .int .i64 s.next, .int .i64 s.aim, .pointer (some ⟨l, 0, none⟩), .bool false, .bool down], mx Kmsg z.1 s.mail, mx (Kint .i64) z.2 s.form, sl Kb p b]
      (fun _ : Unit => .bool true) (fun _ => [pt q 0 [.map (some z.1), .map (some z.2), .int .i64 s'.next, .int .i64 s'.aim, .pointer (some ⟨l, 0, none⟩), .bool false, .bool down], mx Kmsg z.1 s'.mail, mx (Kint .i64) z.2 s'.form, sl Kb p b]))
    (hb : b.length ≤ 2 ^ 44) (hfull : (L.append b).1 ≠ 5) (hD : L.D.Ok) (hD2 : (L.D.append L.nm (frame b)).2.Ok) (hn : L.nm.length < 2 ^ 40) (hr : L.recs.length ≤ 2 ^ 40) :
    Spec P 55 [.pointer (some ⟨q, 0, none⟩), p.v b.length] [pt q 0 [.map (some z.1), .map (some z.2), .int .i64 s.next, .int .i64 s.aim, .pointer (some ⟨l, 0, none⟩), .bool false, .bool down], mx Kmsg z.1 s.mail, mx (Kint .i64) z.2 s.form, lg l g L.nm L.recs L.down, dsk g L.D, sl Kb p b]
      (fun _ : Unit => .int .i64 (L.append b).1) (fun _ => [qu q l (if (L.append b).1 = 6 then s else s') false (down || decide ((L.append b).1 = 6)), lg l g (L.append b).2.nm (L.append b).2.recs (L.append b).2.down, dsk g (L.append b).2.D, sl Kb p b]) := by
  have hfl := frame_len b
  have c204h := c204 (q := q) (r1 := z.1) (r2 := z.2) (s := s) (c4 := .pointer (some ⟨l, 0, none⟩)) (c5 := .bool false) (c6 := .bool down)
  have c205h := fun c0 c1 c2 c3 => c205a (q := q) (l := l) (g := g) (c0 := c0) (c1 := c1) (c2 := c2) (c3 := c3) (down := down) (L := L) (p := p) (b := b) hfull hD hD2 hn hr (by omega) (by omega)
  refine Spec.intro Tryz.func55 rfl rfl rfl fun F => ?_
  refine W.rseq ?_
  refine WL.p rfl rfl rfl (PV.as rfl) ?_
  refine WL.next [(4, _), (0, _), (1, _)] ⟨rfl, rfl, rfl, trivial⟩ ?_
  refine W.rseq ?_
  refine WL.p rfl rfl rfl (PV.mv rfl) ?_
  refine WL.p rfl rfl rfl (PV.nck rfl) ?_
  refine WL.p rfl rfl rfl (PV.fa fo202_0 rfl rfl) ?_
  refine WL.putX rfl rfl rfl (OpX.call cb204 (c204h) rfl (.cons (i := 0) rfl (.cons (i := 0) rfl (.cons (i := 0) rfl .nil)))) fun x10 => ?_
  refine WL.nm (H' := pt _ _ [_, _, _, _, _, _, _] :: _ :: _ :: _ :: _ :: _ :: _ :: _ :: _) rfl ?_
  refine WL.putX rfl rfl rfl (OpX.alloc zr200) fun x5 => ?_
  refine WL.nm (H' := pt _ _ [_, _, _, _] :: pt _ _ [_, _, _, _, _, _, _] :: _ :: _ :: _ :: _ :: _ :: _ :: _ :: _) rfl ?_
  refine WL.done rfl rfl (OpD.st 0 0 sz200 rfl rfl rfl rfl rfl rfl (NAs.mem (vs := [_, _, _, _]) ⟨NA.map _, NA.map _, NA.int _ _, NA.int _ _, trivial⟩)) ?_
  refine WL.nm (H' := pt _ _ [_, _, _, _] :: pt _ _ [_, _, _, _, _, _, _] :: _ :: _ :: _ :: _ :: _ :: _ :: _ :: _) rfl ?_
  refine WL.next [(5, _), (4, _), (0, _), (1, _)] ⟨rfl, rfl, rfl, rfl, trivial⟩ ?_
  refine W.rseq ?_
  refine WL.p rfl rfl rfl (PV.mv rfl) ?_
  refine WL.p rfl rfl rfl (PV.nck rfl) ?_
  refine WL.p rfl rfl rfl (PV.fa fo202_0 rfl rfl) ?_
  refine WL.p rfl rfl rfl (PV.mv rfl) ?_
  refine WL.putX rfl rfl rfl (OpX.call cb122 (c122h) rfl (.cons (i := 1) rfl (.cons (i := 1) rfl (.cons (i := 1) rfl (.cons (i := 5) rfl .nil))))) fun x15 => ?_
  refine WL.nm (H' := pt _ _ [_, _, _, _, _, _, _] :: _ :: _ :: _ :: pt _ _ [_, _, _, _] :: _ :: _ :: _ :: _ :: _) rfl ?_
  refine WL.next [(5, _), (4, _), (0, _), (1, _)] ⟨rfl, rfl, rfl, rfl, trivial⟩ ?_
  refine W.rseq ?_
  refine WL.p rfl rfl rfl (PV.mv rfl) ?_
  refine WL.p rfl rfl rfl (PV.mv rfl) ?_
  refine WL.putX rfl rfl rfl (OpX.call cb205 (c205h _ _ _ _) rfl (.cons (i := 0) rfl (.cons (i := 6) rfl (.cons (i := 6) rfl (.cons (i := 2) rfl .nil))))) fun x18 => ?_
  refine WL.nm (H' := pt _ _ [_, _, _, _, _, _, _] :: _ :: _ :: _ :: _ :: _ :: pt _ _ [_, _, _, _] :: _ :: _ :: _) rfl ?_
  refine WL.p rfl rfl rfl (PV.as rfl) ?_
  refine WL.next [(6, _), (5, _), (4, _), (0, _)] ⟨rfl, rfl, rfl, rfl, trivial⟩ ?_
  refine W.seq ?_
  refine W.rseq ?_
  refine WL.p rfl rfl rfl (PV.mv rfl) ?_
  refine WL.next [(19, _), (6, _), (5, _), (4, _), (0, _)] ⟨rfl, rfl, rfl, rfl, rfl, trivial⟩ ?_
  refine W.block ?_
  refine W.rseq ?_
  refine WL.p rfl rfl rfl (PV.eqI rfl rfl) ?_
  refine WL.p rfl rfl rfl (PV.as rfl) ?_
  refine WL.next [(20, _), (19, _), (6, _), (5, _), (4, _), (0, _)] ⟨rfl, rfl, rfl, rfl, rfl, rfl, trivial⟩ ?_
  refine W.condD rfl (fun h0 => ?_) (fun h0 => ?_)
  refine W.region ?_
  refine WL.p rfl rfl rfl (PV.mv rfl) ?_
  refine WL.p rfl rfl rfl (PV.nck rfl) ?_
  refine WL.p rfl rfl rfl (PV.fa fo202_2 rfl rfl) ?_
  refine WL.done rfl rfl (OpD.st 0 5 sz4 rfl rfl rfl rfl rfl rfl (NA.one (NA.bool _))) ?_
  refine WL.nm (H' := pt _ _ [_, _, _, _, _, _, _] :: _ :: _ :: _ :: _ :: _ :: pt _ _ [_, _, _, _] :: _ :: _ :: _) rfl ?_
  refine WL.nil ?_
  refine K.out ?_
  refine K.next [(6, _), (4, _)] ⟨rfl, rfl, trivial⟩ ?_
  refine W.rseq ?_
  refine WL.p rfl rfl rfl (PV.mv rfl) ?_
  refine WL.p rfl rfl rfl (PV.as rfl) ?_
  refine WL.next [(4, _)] ⟨rfl, trivial⟩ ?_
  refine W.ret ?_
  rotate_left
  refine W.rseq ?_
  refine WL.p rfl rfl rfl (PV.eqI rfl rfl) ?_
  refine WL.p rfl rfl rfl (PV.as rfl) ?_
  refine WL.next [(25, _), (6, _), (5, _), (4, _), (0, _)] ⟨rfl, rfl, rfl, rfl, rfl, trivial⟩ ?_
  refine W.condD rfl (fun h1 => ?_) (fun h1 => ?_)
  refine W.region ?_
  refine WL.p rfl rfl rfl (PV.mv rfl) ?_
  refine WL.f rfl rfl rfl (FV.ld (LdD.ag (us := [_, _, _, _]) 6 0 ag200 rfl rfl rfl rfl rfl)) ?_
  refine WL.p rfl rfl rfl (PV.nck rfl) ?_
  refine WL.p rfl rfl rfl (PV.fa fo202_0 rfl rfl) ?_
  refine WL.done rfl rfl (OpD.st 0 0 sz200 rfl rfl rfl rfl rfl rfl (NAs.mem (vs := [_, _, _, _]) ⟨NA.map _, NA.map _, NA.int _ _, NA.int _ _, trivial⟩)) ?_
  refine WL.nm (H' := pt _ _ [_, _, _, _, _, _, _] :: _ :: _ :: _ :: _ :: _ :: pt _ _ [_, _, _, _] :: _ :: _ :: _) rfl ?_
  refine WL.nil ?_
  refine K.out ?_
  refine K.next [(6, _), (4, _)] ⟨rfl, rfl, trivial⟩ ?_
  refine W.rseq ?_
  refine WL.p rfl rfl rfl (PV.mv rfl) ?_
  refine WL.p rfl rfl rfl (PV.as rfl) ?_
  refine WL.next [(4, _)] ⟨rfl, trivial⟩ ?_
  refine W.ret ?_
  rotate_left
  refine W.skip ?_
  refine K.out ?_
  refine K.next [(6, _), (4, _)] ⟨rfl, rfl, trivial⟩ ?_
  refine W.rseq ?_
  refine WL.p rfl rfl rfl (PV.mv rfl) ?_
  refine WL.p rfl rfl rfl (PV.as rfl) ?_
  refine WL.next [(4, _)] ⟨rfl, trivial⟩ ?_
  refine W.ret ?_
  rotate_left
  · exact absurd h0 hfull
  · rw [if_pos h1]
    refine K.fin (vs := [_]) () ⟨rfl, trivial⟩ rfl (Ent.fold (f := quF q l s false _) (x10.1, x10.2) ?_)
    refine Ent.take 0 rfl (Ent.take 6 rfl (Ent.take 6 rfl ?_))
    refine Ent.take 0 rfl ?_
    refine Ent.take 0 rfl ?_
    refine Ent.keep 0 rfl (sl_pers _ _ _) ?_
    exact Ent.tail (Ent.tail (Ent.tail (Ent.tail (Ent.refl _))))
  · rw [if_neg h1]
    refine K.fin (vs := [_]) () ⟨rfl, trivial⟩ rfl (Ent.fold (f := quF q l s' false _) z ?_)
    refine Ent.take 0 rfl ?_
    refine Ent.take 3 rfl ?_
    refine Ent.take 3 rfl ?_
    refine Ent.take 0 rfl ?_
    refine Ent.take 0 rfl ?_
    refine Ent.keep 0 rfl (sl_pers _ _ _) ?_
    exact Ent.tail (Ent.tail (Ent.tail (Ent.tail (Ent.refl _))))
theorem c127f {q l g : Nat} {z : Nat × Nat} {s : QS} {down : Bool} {L : LM} {p : SP} {id : Int} (hC : Rng id)
    (hfull : (L.append ([70] ++ numB id 6)).1 ≠ 5) (hD : L.D.Ok) (hD2 : (L.D.append L.nm (frame ([70] ++ numB id 6))).2.Ok) (hn : L.nm.length < 2 ^ 40) (hr : L.recs.length ≤ 2 ^ 40) :
    Spec P 55 [.pointer (some ⟨q, 0, none⟩), p.v ([70] ++ numB id 6 : Bytes).length] [pt q 0 [.map (some z.1), .map (some z.2), .int .i64 s.next, .int .i64 s.aim, .pointer (some ⟨l, 0, none⟩), .bool false, .bool down], mx Kmsg z.1 s.mail, mx (Kint .i64) z.2 s.form, lg l g L.nm L.recs L.down, dsk g L.D, sl Kb p ([70] ++ numB id 6)]
      (fun _ : Unit => .int .i64 (L.append ([70] ++ numB id 6)).1) (fun _ => [qu q l (if (L.append ([70] ++ numB id 6)).1 = 6 then s else s.del id) false (down || decide ((L.append ([70] ++ numB id 6)).1 = 6)), lg l g (L.append ([70] ++ numB id 6)).2.nm (L.append ([70] ++ numB id 6)).2.recs (L.append ([70] ++ numB id 6)).2.down, dsk g (L.append ([70] ++ numB id 6)).2.D, sl Kb p ([70] ++ numB id 6)]) :=
  c127o (c122f hC) (by rw [List.length_append, numB_len]; decide) hfull hD hD2 hn hr
theorem c46f {q l g : Nat} {s : QS} {L : LM} {id : Int} {m : Msg} {b0 b1 b2 b3 b4 b5 b6 b7 b8 : Value} (hg : mget s.mail id = some m) (hC : Rng id)
    (hfull : (L.append ([70] ++ numB id 6)).1 ≠ 5) (hD : L.D.Ok) (hD2 : (L.D.append L.nm (frame ([70] ++ numB id 6))).2.Ok) (hn : L.nm.length < 2 ^ 40) (hr : L.recs.length ≤ 2 ^ 40) :
    Spec P 24 [.pointer (some ⟨q, 0, none⟩), .int .i64 id, .agg #[b0, b1, b2, b3, b4, b5, b6, b7, b8], .bool false] [qu q l s false false, lg l g L.nm L.recs L.down, dsk g L.D]
      (fun _ : Unit => .int .i64 (L.append ([70] ++ numB id 6)).1) (fun _ => [qu q l (if (L.append ([70] ++ numB id 6)).1 = 6 then s else s.del id) false (decide ((L.append ([70] ++ numB id 6)).1 = 6)), lg l g (L.append ([70] ++ numB id 6)).2.nm (L.append ([70] ++ numB id 6)).2.recs (L.append ([70] ++ numB id 6)).2.down, dsk g (L.append ([70] ++ numB id 6)).2.D]) := by
  have hl : ([70] ++ numB id 6 : Bytes).length = 7 := by rw [List.length_append, numB_len]; rfl
  have hl6 := numB_len id 6
  refine Spec.exI fun z => ?_
  have c127h := fun p => c127f (q := q) (l := l) (g := g) (z := z) (s := s) (down := false) (L := L) (p := p) (id := id) hC hfull hD hD2 hn hr
  refine Spec.intro Tryz.func24 rfl rfl rfl fun F => ?_
  refine W.ex 1 rfl fun m1 => ?_
  refine W.pr 0 rfl fun hm1 => ?_
  refine W.nm (H' := mp kvI Kmsg z.1 m1 :: pt _ _ [_, _, _, _, _, _, _] :: _ :: _ :: _ :: F) rfl ?_
  have hg1 : mget m1 id = some m := by rw [mget_perm hm1.1 hm1.2]; exact hg
  refine W.rseq ?_
  refine WL.putX rfl rfl rfl (OpX.box rfl) fun x6 => ?_
  refine WL.nm (H' := pt _ _ [_, _, _, _, _, _, _, _, _] :: _ :: pt _ _ [_, _, _, _, _, _, _] :: _ :: _ :: _ :: _) rfl ?_
  refine WL.p rfl rfl rfl (PV.as rfl) ?_
  refine WL.next [(8, _), (6, _), (0, _), (1, _), (3, _)] ⟨rfl, rfl, rfl, rfl, rfl, trivial⟩ ?_
  refine W.seq ?_
  refine W.rseq ?_
  refine WL.p rfl rfl rfl (PV.mv rfl) ?_
  refine WL.putX rfl rfl rfl (OpX.call cb123 (c123) rfl (.cons (i := 2) rfl .nil)) fun x13 => ?_
  refine WL.nm (H' := pt _ _ [_, _, _, _, _, _, _] :: pt _ _ [_, _, _, _, _, _, _, _, _] :: _ :: _ :: _ :: _ :: _) rfl ?_
  refine WL.p rfl rfl rfl (PV.as rfl) ?_
  refine WL.next [(9, _), (8, _), (6, _), (0, _), (1, _), (3, _)] ⟨rfl, rfl, rfl, rfl, rfl, rfl, trivial⟩ ?_
  refine W.rseq ?_
  refine WL.p rfl rfl rfl (PV.mv rfl) ?_
  refine WL.p rfl rfl rfl (PV.neI rfl rfl) ?_
  refine WL.next [(15, _), (9, _), (8, _), (6, _), (0, _), (1, _), (3, _)] ⟨rfl, rfl, rfl, rfl, rfl, rfl, rfl, trivial⟩ ?_
  refine W.cF rfl ?_
  refine W.skip ?_
  refine K.next [(8, _), (6, _), (0, _), (1, _), (3, _)] ⟨rfl, rfl, rfl, rfl, rfl, trivial⟩ ?_
  refine W.seq ?_
  refine W.rseq ?_
  refine WL.p rfl rfl rfl (PV.mv rfl) ?_
  refine WL.p rfl rfl rfl (PV.nck rfl) ?_
  refine WL.p rfl rfl rfl (PV.fa fo202_0 rfl rfl) ?_
  refine WL.p rfl rfl rfl (PV.fa fo200_0 rfl rfl) ?_
  refine WL.f rfl rfl rfl (FV.ld (LdD.sc 0 0 sc197 rfl rfl rfl rfl)) ?_
  refine WL.p rfl rfl rfl (PV.mv rfl) ?_
  refine WL.putX rfl rfl rfl (OpX.lkT 2 ul197 ki3 rfl rfl rfl (by assumption) _) fun x24 => ?_
  refine WL.nm (H' := _ :: _ :: _ :: pt _ _ [_, _, _, _, _, _, _] :: pt _ _ [_, _, _, _, _, _, _, _, _] :: _ :: _ :: _ :: _ :: _) rfl ?_
  refine WL.p rfl rfl rfl (PV.mv rfl) ?_
  refine WL.p rfl rfl rfl (PV.ext0 rfl) ?_
  refine WL.p rfl rfl rfl (PV.ext1 rfl) ?_
  refine WL.putX rfl rfl rfl (OpX.alloc zr52) fun x10 => ?_
  refine WL.nm (H' := pt _ _ [_, _, _, _, _, _, _, _, _] :: _ :: _ :: _ :: pt _ _ [_, _, _, _, _, _, _] :: pt _ _ [_, _, _, _, _, _, _, _, _] :: _ :: _ :: _ :: _ :: _) rfl ?_
  refine WL.done rfl rfl (OpD.st 0 0 sz52 rfl rfl rfl rfl rfl rfl (Kd.na _ _ _)) ?_
  refine WL.nm (H' := pt _ _ [_, _, _, _, _, _, _, _, _] :: _ :: _ :: _ :: pt _ _ [_, _, _, _, _, _, _] :: pt _ _ [_, _, _, _, _, _, _, _, _] :: _ :: _ :: _ :: _ :: _) rfl ?_
  refine WL.p rfl rfl rfl (PV.as rfl) ?_
  refine WL.next [(11, _), (8, _), (6, _), (0, _), (1, _), (3, _)] ⟨rfl, rfl, rfl, rfl, rfl, rfl, trivial⟩ ?_
  refine W.rseq ?_
  refine WL.p rfl rfl rfl (PV.mv rfl) ?_
  refine WL.p rfl rfl rfl (PV.not rfl) ?_
  refine WL.next [(28, _), (8, _), (6, _), (0, _), (1, _), (3, _)] ⟨rfl, rfl, rfl, rfl, rfl, rfl, trivial⟩ ?_
  refine W.cF rfl ?_
  refine W.skip ?_
  refine K.next [(8, _), (6, _), (0, _), (1, _), (3, _)] ⟨rfl, rfl, rfl, rfl, rfl, trivial⟩ ?_
  refine W.seq ?_
  refine W.rseq ?_
  refine WL.p rfl rfl rfl (PV.mv rfl) ?_
  refine WL.p rfl rfl rfl (PV.not rfl) ?_
  refine WL.next [(30, _), (8, _), (6, _), (0, _), (1, _)] ⟨rfl, rfl, rfl, rfl, rfl, trivial⟩ ?_
  refine W.cT rfl ?_
  refine W.rseq ?_
  refine WL.p rfl rfl rfl (PV.mv rfl) ?_
  refine WL.putX rfl rfl rfl (OpX.rowS (K := Kb) [(70 : UInt8)] [()] slt62 ⟨_, zr5, rfl⟩ rfl rfl rfl rfl rfl rfl (fun _ h => by first | (simp [innerL, Kb, Kint, Kstr, Kbool] at h; done) | (simp [innerL, Ksl, Kwr, Kmsg] at h; rcases h with h | h | h <;> subst h <;> simp [Sl.rem]) | (simp [innerL, Ksl, Kwr] at h; subst h; simp [Sl.rem]))) fun x32 => ?_
  refine WL.nm (H' := _ :: _ :: pt _ _ [_, _, _, _, _, _, _, _, _] :: _ :: _ :: _ :: pt _ _ [_, _, _, _, _, _, _] :: pt _ _ [_, _, _, _, _, _, _, _, _] :: _ :: _ :: _ :: _ :: _) rfl ?_
  refine WL.p rfl rfl rfl (PV.mv rfl) ?_
  refine WL.putX rfl rfl rfl (OpX.call cb130 (c130) rfl .nil) fun x34 => ?_
  refine WL.nm (H' := _ :: _ :: _ :: _ :: pt _ _ [_, _, _, _, _, _, _, _, _] :: _ :: _ :: _ :: pt _ _ [_, _, _, _, _, _, _] :: pt _ _ [_, _, _, _, _, _, _, _, _] :: _ :: _ :: _ :: _ :: _) rfl ?_
  refine WL.putX rfl rfl rfl (OpX.app 3 2 slt62 ni62 rfl rfl rfl rfl (SrcV.atSl 0 rfl) (by first | omega | (simp only [List.length_append, List.length_cons, List.length_nil, List.length_take, numB_len]; omega) | assumption) (by first | omega | (simp only [List.length_append, List.length_cons, List.length_nil, List.length_take, numB_len]; omega) | assumption)) fun x35 => ?_
  refine WL.nm (H' := _ :: _ :: _ :: _ :: _ :: pt _ _ [_, _, _, _, _, _, _, _, _] :: _ :: _ :: _ :: pt _ _ [_, _, _, _, _, _, _] :: pt _ _ [_, _, _, _, _, _, _, _, _] :: _ :: _ :: _ :: _ :: _) rfl ?_
  rotate_left
  refine WL.entA (.cons (i := 11) rfl .nil) (B := [mx Kmsg z.1 s.mail]) (Ent.fold m1 (Ent.pr hm1 (Ent.refl _))) ?_
  refine WL.nm (H' := mx Kmsg z.1 s.mail :: _ :: _ :: _ :: _ :: _ :: pt _ _ [_, _, _, _, _, _, _, _, _] :: _ :: _ :: _ :: pt _ _ [_, _, _, _, _, _, _] :: pt _ _ [_, _, _, _, _, _, _, _, _] :: _ :: _ :: _ :: F) rfl ?_
  refine WL.putX rfl rfl rfl (OpX.call cb127 (c127h _) rfl (.cons (i := 10) rfl (.cons (i := 0) rfl (.cons (i := 10) rfl (.cons (i := 10) rfl (.cons (i := 10) rfl (.cons (i := 0) rfl .nil))))))) fun x36 => ?_
  refine WL.nm (H' := _ :: _ :: _ :: _ :: _ :: _ :: _ :: _ :: pt _ _ [_, _, _, _, _, _, _, _, _] :: _ :: _ :: _ :: pt _ _ [_, _, _, _, _, _, _, _, _] :: _) rfl ?_
  refine WL.p rfl rfl rfl (PV.as rfl) ?_
  refine WL.next [(8, _), (6, _), (0, _), (1, _)] ⟨rfl, rfl, rfl, rfl, trivial⟩ ?_
  refine W.ret ?_
  refine K.retT ?_
  rotate_left
  refine K.fin (vs := [_]) () ⟨rfl, trivial⟩ rfl ?_
  refine Ent.take 0 rfl ?_
  refine Ent.take 0 rfl ?_
  refine Ent.take 0 rfl ?_
  exact Ent.tail (Ent.tail (Ent.tail (Ent.tail (Ent.tail (Ent.tail (Ent.tail (Ent.tail (Ent.tail (Ent.tail (Ent.refl _))))))))))
end Go.Sl
/-! A log on a disk on which nothing goes wrong. -/
namespace Go.Sl
open Go Go.Proofs
set_option maxRecDepth 20000
def fl1 (rs : List Bytes) : List (Bytes × Bytes) := match rs with
  | [] => []
  | _ :: _ => [(qname, flat rs)]
def lL (rs : List Bytes) (room : Int) : LM := ⟨⟨fl1 rs, fl1 rs, [], room, -1, false⟩, qname, rs, false⟩
theorem fl1_total (rs : List Bytes) : total (fl1 rs) = (flat rs).length := by
  cases rs with
  | nil => rfl
  | cons r rs => simp [fl1, total]
theorem fl1_app (rs : List Bytes) (b : Bytes) : fl1 (rs ++ [b]) = [(qname, flat rs ++ frame b)] := by
  cases rs with
  | nil => simp [fl1, flat]
  | cons r rs =>
    show [(qname, flat (r :: rs ++ [b]))] = _
    rw [flat_app]; simp [flat]
theorem fl1_set (rs : List Bytes) (c : Bytes) : mset (fl1 rs) qname ((mget (fl1 rs) qname).getD [] ++ c) = [(qname, flat rs ++ c)] := by
  cases rs with
  | nil => simp [fl1, mset, mget, flat]
  | cons r rs => simp [fl1, mset, mget]
theorem fl1_len (rs : List Bytes) : (fl1 rs).length ≤ 1 := by cases rs <;> simp [fl1]
theorem lL_done {rs : List Bytes} {b : Bytes} {room : Int} (h2 : (((flat rs).length + (frame b).length : Nat) : Int) ≤ room) :
    (lL rs room).D.append qname (frame b) = (0, ⟨[(qname, flat rs ++ frame b)], fl1 rs, [⟨0, qname, [], frame b⟩], room, -1, false⟩) := by
  have ht := fl1_total rs
  have hl := fl1_len rs
  unfold DM.append
  rw [if_neg (by decide), if_neg (by simp [lL]), if_neg (by
    show ¬ ((mget (fl1 rs) qname = none ∧ 16 ≤ (fl1 rs).length) ∨ room < (total (fl1 rs) : Int) + (frame b).length)
    rw [ht]; omega)]
  show (0, ({ now := doW (fl1 rs) ⟨0, qname, [], frame b⟩, sure := fl1 rs, loose := [] ++ [⟨0, qname, [], frame b⟩], room := room, fuse := -1, down := false } : DM)) = _
  have e : doW (fl1 rs) ⟨0, qname, [], frame b⟩ = [(qname, flat rs ++ frame b)] := by
    show mset (fl1 rs) qname ((mget (fl1 rs) qname).getD [] ++ frame b) = _
    exact fl1_set rs _
  rw [e]; rfl
theorem lL_app {rs : List Bytes} {b : Bytes} {room : Int} (h1 : b.length ≤ 262144) (h2 : (((flat rs).length + (frame b).length : Nat) : Int) ≤ room) :
    (lL rs room).append b = (0, lL (rs ++ [b]) room) := by
  have e1 : mayL false [b] = 0 := by unfold mayL; simp; omega
  have e2 := lL_done (rs := rs) (b := b) h2
  have e3 : (⟨[(qname, flat rs ++ frame b)], fl1 rs, [⟨0, qname, [], frame b⟩], room, -1, false⟩ : DM).sync = (0, ⟨[(qname, flat rs ++ frame b)], [(qname, flat rs ++ frame b)], [], room, -1, false⟩) := rfl
  unfold LM.append
  have f1 : (lL rs room).down = false := rfl
  have f2 : (lL rs room).nm = qname := rfl
  have f3 : (lL rs room).recs = rs := rfl
  simp only [f1, f2, f3, e1, e2, e3]
  simp only [lL, fl1_app]
  rfl
theorem lL_ok {rs : List Bytes} {room : Int} (h : (flat rs).length ≤ 2 ^ 45) : (lL rs room).D.Ok := ⟨by show -1 ≤ (-1 : Int) ∧ (-1 : Int) < 2 ^ 63; decide, by show ([] : List Wr).length ≤ _; simp, by show total (fl1 rs) ≤ _; rw [fl1_total]; exact h⟩
theorem lL_LOk {rs : List Bytes} {b : Bytes} {room : Int} (h1 : b.length ≤ 262144) (h2 : (((flat rs).length + (frame b).length : Nat) : Int) ≤ room) (hr : room ≤ 2 ^ 45) (hn : rs.length ≤ 2 ^ 40) : LOk (lL rs room) b := by
  refine ⟨by rw [lL_app h1 h2]; show (0 : Int) ≠ 5; decide, lL_ok (by omega), ?_, by show qname.length < _; decide, hn⟩
  show ((lL rs room).D.append qname (frame b)).2.Ok
  rw [lL_done h2]
  refine ⟨by show -1 ≤ (-1 : Int) ∧ (-1 : Int) < 2 ^ 63; decide, by show ([_] : List Wr).length ≤ _; simp, ?_⟩
  show total [(qname, flat rs ++ frame b)] ≤ _
  simp only [total, List.map_cons, List.map_nil, List.sum_cons, List.sum_nil, List.length_append]
  omega
theorem flat_bound {n : Nat} : ∀ {rs : List Bytes}, (∀ r, r ∈ rs → r.length ≤ n) → (flat rs).length ≤ rs.length * (n + 8)
  | [], _ => by simp [flat]
  | r :: rs, h => by
    rw [flat_cons, List.length_append, frame_len, List.length_cons, Nat.add_mul]
    have h1 := h r (by simp)
    have h2 := flat_bound (n := n) (rs := rs) fun x hx => h x (by simp [hx])
    omega
end Go.Sl
/-! As many messages asx may be: what they are. -/
namespace Go.Sl
open Go Go.Proofs
set_option maxRecDepth 20000
def mm (i : Nat) : Msg := ⟨(i : Int) + 1, i, i, 0, i, [], [[97, 64, 98]], [], []⟩
def psM (k : Nat) : List (Int × Msg) := (List.range k).map fun i => (2, mm i)
def sM (k : Nat) : QS := foldP (psM k) QS.zero
def rM (k : Nat) : List Bytes := (psM k).map recP
def roomM : Int := max 67108864 0
def QM (k : Nat) : QL := ⟨sM (min k 60), false, lL (rM (min k 60)) roomM⟩
theorem sM_facts : ∀ k : Nat, k < 61 → (sM k).next = (k : Int) + 1 ∧ (sM k).aim = 2 ∧ (sM k).mail.length = k := by decide +kernel
theorem mm_good : ∀ i : Nat, i < 61 → goodM (mm i) = true := by decide +kernel
theorem mm_can {i : Nat} (h : i < 61) : Can 2 (mm i) := ⟨rfl, goodM_fine (mm_good i h)⟩
theorem psM_succ (k : Nat) : psM (k + 1) = psM k ++ [(2, mm k)] := by simp [psM, List.range_succ]
theorem sM_succ (k : Nat) : sM (k + 1) = (sM k).put (mm k) 2 := by unfold sM foldP; rw [psM_succ, List.foldl_append]; rfl
theorem rM_succ (k : Nat) : rM (k + 1) = rM k ++ [recP (2, mm k)] := by unfold rM; rw [psM_succ]; simp
theorem rM_len (k : Nat) : (rM k).length = k := by simp [rM, psM]
theorem rM_mem {k : Nat} (hk : k ≤ 61) : ∀ r, r ∈ rM k → r.length ≤ 200001 := by
  intro r hr
  simp only [rM, psM, List.map_map, List.mem_map, List.mem_range] at hr
  obtain ⟨i, hi, rfl⟩ := hr
  have := (mm_can (i := i) (by omega)).len
  show ([80] ++ encM 2 (mm i)).length ≤ _
  rw [List.length_append]; simp; omega
theorem rM_flat {k : Nat} (hk : k ≤ 60) : (flat (rM k)).length ≤ 12000540 := by
  have h1 := flat_bound (n := 200001) (rs := rM k) (rM_mem (by omega))
  rw [rM_len] at h1
  exact Nat.le_trans h1 (Nat.le_trans (Nat.mul_le_mul_right _ hk) (by decide))
theorem newM_mm {k : Nat} (hk : k < 61) : newM (sM k) [] [[97, 64, 98]] [] k k = mm k := by
  have h := sM_facts k hk
  simp only [newM, h.1, mm]
theorem QM_down (k : Nat) : (QM k).down = false := rfl
theorem putB_mm {k : Nat} (hk : k < 61) : putB (sM k) (mm k) = recP (2, mm k) := by
  have h := sM_facts k hk
  simp only [putB, recP, h.2.1]
theorem rec_len {k : Nat} (hk : k < 61) : (recP (2, mm k)).length ≤ 200001 := by
  have := (mm_can (i := k) (by omega)).len
  show ([80] ++ encM 2 (mm k)).length ≤ _
  rw [List.length_append]; simp; omega
theorem room_ok {k : Nat} {b : Bytes} (hk : k ≤ 60) (hb : b.length ≤ 200001) : (((flat (rM k)).length + (frame b).length : Nat) : Int) ≤ roomM := by
  have h1 := rM_flat (k := k) hk
  have h2 := frame_len b
  have : roomM = 67108864 := by decide
  omega
theorem QM_LOk {k : Nat} {b : Bytes} (hk : k ≤ 60) (hb : b.length ≤ 200001) : LOk (lL (rM k) roomM) b :=
  lL_LOk (by omega) (room_ok hk hb) (by decide) (by rw [rM_len]; omega)
theorem QM_put (k : Nat) : (QM k).put [] [[97, 64, 98]] [] k k = if k < 60 then ((k : Int) + 1, 0, QM (k + 1)) else (0, 5, QM (k + 1)) := by
  by_cases h : k < 60
  · rw [if_pos h]
    have hm : min k 60 = k := by omega
    have hm1 : min (k + 1) 60 = k + 1 := by omega
    have hf := sM_facts k (by omega)
    unfold QL.put QM
    rw [hm, hm1]
    rw [if_neg (by simp), if_neg (by show ¬ 60 ≤ (sM k).mail.length; rw [hf.2.2]; omega)]
    show (if goodM (newM (sM k) [] [[97, 64, 98]] [] k k) = false then _ else _) = _
    rw [newM_mm (by omega), if_neg (by rw [mm_good k (by omega)]; decide)]
    have e := lL_app (rs := rM k) (b := recP (2, mm k)) (room := roomM) (by have := rec_len (k := k) (by omega); omega) (room_ok (by omega) (rec_len (by omega)))
    have p := putB_mm (k := k) (by omega)
    simp only [p, e, hf.1, hf.2.1, sM_succ, rM_succ]
    rfl
  · rw [if_neg h]
    have hm : min k 60 = 60 := by omega
    have hm1 : min (k + 1) 60 = 60 := by omega
    have hf := sM_facts 60 (by omega)
    unfold QL.put QM
    rw [hm, hm1]
    rw [if_neg (by simp), if_pos (by show 60 ≤ (sM 60).mail.length; rw [hf.2.2]; omega)]
end Go.Sl
/-! As many messages asx may be. -/
namespace Go.Sl
open Go Go.Proofs
set_option maxRecDepth 20000
theorem sM_one : ∀ k : Nat, k < 61 → 0 < k → (mget (sM k).mail 1).isSome = true ∧ goodM (newM ((sM k).del 1) [] [[97, 64, 98]] [] 0 0) = true ∧ ((sM k).del 1).mail.length < 60 ∧ ((sM k).del 1).aim = 2 := by decide +kernel
theorem newM_good : ∀ k : Nat, k < 65 → goodM (newM (sM (min k 60)) [] [[97, 64, 98]] [] k k) = true := by decide +kernel
theorem putB_len {s : QS} {m : Msg} (ha : s.aim = 2) (hg : goodM m = true) : (putB s m).length ≤ 200001 := by
  have : Can 2 m := ⟨rfl, goodM_fine hg⟩
  have := this.len
  unfold putB; rw [ha, List.length_append]; simp; omega
theorem put41 {q l g k : Nat} {p1 p3 : SP} (hk : k < 65) :
    Spec P 19 [.pointer (some ⟨q, 0, none⟩), .agg #[str [], p1.v ([[97, 64, 98]] : List Bytes).length, p3.v ([] : List Bytes).length], .int .i64 k, .int .i64 k] [qu q l (sM (min k 60)) false false, lg l g qname (rM (min k 60)) false, dsk g (lL (rM (min k 60)) roomM).D, sl Kstr p1 [[97, 64, 98]], sl Kstr p3 []]
      (fun _ : Unit => .tuple #[.int .i64 (if k < 60 then (k : Int) + 1 else 0), .int .i64 (if k < 60 then 0 else 5)])
      (fun _ => [qu q l (sM (min (k + 1) 60)) false false, lg l g qname (rM (min (k + 1) 60)) false, dsk g (lL (rM (min (k + 1) 60)) roomM).D, sl Kstr p1 [[97, 64, 98]], sl Kstr p3 []]) := by
  have hf := sM_facts (min k 60) (by omega)
  have hg := newM_good k hk
  have hc := c41 (q := q) (l := l) (g := g) (Q := QM k) (p1 := p1) (p3 := p3) (frm := []) (rcpts := [[97, 64, 98]]) (body := []) (gen := k) (now := k) (goodM_fine hg).ok
    (fun _ => ⟨hf.2.1, goodM_fine hg⟩) (fun _ => QM_LOk (by omega) (putB_len hf.2.1 hg))
  rw [QM_put] at hc
  by_cases h : k < 60
  · rw [if_pos h] at hc; rw [if_pos h, if_pos h]; exact hc
  · rw [if_neg h] at hc; rw [if_neg h, if_neg h]; exact hc
theorem QL_put_ok {s : QS} {rs : List Bytes} {room : Int} {frm : Bytes} {rcpts body : List Bytes} {gen now : Int} (hl : s.mail.length < 60) (hg : goodM (newM s frm rcpts body gen now) = true)
    (h1 : (putB s (newM s frm rcpts body gen now)).length ≤ 262144) (h2 : (((flat rs).length + (frame (putB s (newM s frm rcpts body gen now))).length : Nat) : Int) ≤ room) :
    (⟨s, false, lL rs room⟩ : QL).put frm rcpts body gen now = (s.next, 0, ⟨s.put (newM s frm rcpts body gen now) s.aim, false, lL (rs ++ [putB s (newM s frm rcpts body gen now)]) room⟩) := by
  have e := lL_app (rs := rs) (b := putB s (newM s frm rcpts body gen now)) (room := room) h1 h2
  unfold QL.put
  rw [if_neg (by simp), if_neg (by show ¬ 60 ≤ s.mail.length; omega)]
  show (if goodM (newM s frm rcpts body gen now) = false then _ else _) = _
  rw [if_neg (by rw [hg]; decide)]
  simp only [e]
  rfl
theorem c6 {n : Int} (hn : 0 ≤ n ∧ n ≤ 255) : Spec P 5 [.int .u8 n] [] (fun _ : Unit => .bool true) (fun _ => []) := by
  have c38h : ∀ g, Spec P 15 [.pointer (some ⟨g, 0, none⟩)] [dsk g (lL [] roomM).D] (fun z : Nat × Nat => .tuple #[.pointer (some ⟨z.1, 0, none⟩), .int .i64 0]) (fun z => [qu z.1 z.2 QS.zero false false, lg z.2 g qname [] false, dsk g (lL [] roomM).D]) :=
    fun g => c38 (g := g) (D := (lL [] roomM).D) (ps := []) (by simp) (by decide) (lL_ok (by decide)) (.inr rfl) (lL_ok (by decide)) (.inr rfl) rfl (by decide)
  refine Spec.intro Tryz.func5 rfl rfl rfl fun F => ?_
  refine W.entH (Ent.ofNil (Ent.nil_sl Kstr)) ?_
  refine W.nm (H' := sl Kstr SP.nil [] :: F) rfl ?_
  refine W.rseq ?_
  refine WL.p rfl rfl rfl (PV.as rfl) ?_
  refine WL.next [(2, _), (0, _)] ⟨rfl, rfl, trivial⟩ ?_
  refine W.rseq ?_
  refine WL.putX rfl rfl rfl (OpX.call cb29 (c29) rfl .nil) fun x12 => ?_
  refine WL.nm (H' := _ :: _ :: _) rfl ?_
  refine WL.putX rfl rfl rfl (OpX.call cb38 (c38h _) rfl (.cons (i := 0) rfl .nil)) fun x13 => ?_
  refine WL.nm (H' := _ :: _ :: _ :: _ :: _) rfl ?_
  refine WL.p rfl rfl rfl (PV.mv rfl) ?_
  refine WL.p rfl rfl rfl (PV.ext0 rfl) ?_
  refine WL.p rfl rfl rfl (PV.ext1 rfl) ?_
  refine WL.p rfl rfl rfl (PV.as rfl) ?_
  refine WL.p rfl rfl rfl (PV.as rfl) ?_
  refine WL.next [(4, _), (3, _), (2, _), (0, _)] ⟨rfl, rfl, rfl, rfl, trivial⟩ ?_
  refine W.seq ?_
  refine W.rseq ?_
  refine WL.p rfl rfl rfl (PV.mv rfl) ?_
  refine WL.p rfl rfl rfl (PV.neI rfl rfl) ?_
  refine WL.next [(17, _), (3, _), (2, _), (0, _)] ⟨rfl, rfl, rfl, rfl, trivial⟩ ?_
  refine W.cF rfl ?_
  refine W.skip ?_
  refine K.next [(3, _), (2, _), (0, _)] ⟨rfl, rfl, rfl, trivial⟩ ?_
  refine W.rseq ?_
  refine WL.p rfl rfl rfl (PV.mv rfl) ?_
  refine WL.p rfl rfl rfl (PV.rem rfl rfl (by omega)) ?_
  refine WL.p rfl rfl rfl (PV.cvI ul3 us5 rfl) ?_
  refine WL.p rfl rfl rfl (PV.add rfl rfl) ?_
  refine WL.p rfl rfl rfl (PV.as rfl) ?_
  refine WL.next [(5, _), (3, _), (2, _)] ⟨rfl, rfl, rfl, trivial⟩ ?_
  refine W.seq ?_
  refine W.rseq ?_
  refine WL.p rfl rfl rfl (PV.as rfl) ?_
  refine WL.next [(6, _), (5, _), (3, _), (2, _)] ⟨rfl, rfl, rfl, rfl, trivial⟩ ?_
  refine W.block ?_
  rotate_left
  obtain ⟨N, hK, hK1, hK2⟩ : ∃ N : Nat, IntKind.i64.wrap (55 + IntKind.i64.wrap (n.tmod 10)) = N ∧ 55 ≤ N ∧ N < 65 := by
    have h1 : 0 ≤ n.tmod 10 ∧ n.tmod 10 < 10 := by rw [Int.tmod_eq_emod_of_nonneg hn.1]; omega
    have e1 : IntKind.i64.wrap (n.tmod 10) = n.tmod 10 := wrap64_in ⟨by omega, by omega⟩
    have e2 : IntKind.i64.wrap (55 + n.tmod 10) = 55 + n.tmod 10 := wrap64_in ⟨by omega, by omega⟩
    rw [e1, e2]
    exact ⟨(55 + n.tmod 10).toNat, by omega, by omega, by omega⟩
  rw [hK]
  refine W.loopP (X := Nat) (fun k => k ≤ N) (fun k => [(6, .int .i64 k), (5, .int .i64 N), (3, .pointer (some ⟨x13.1, 0, none⟩)), (2, .bool false)])
    (fun k => qu x13.1 x13.2 (sM (min k 60)) false false :: lg x13.2 x12 qname (rM (min k 60)) false :: dsk x12 (lL (rM (min k 60)) roomM).D :: sl Kstr SP.nil [] :: F)
    (fun k => N - k) 0 (Nat.zero_le _) ⟨rfl, rfl, rfl, rfl, trivial⟩ ?_ fun k hk => ?_
  · refine Ent.take 0 rfl (Ent.take 0 rfl (Ent.take 0 rfl ?_))
    refine Ent.keep 0 rfl (sl_pers _ _ _) ?_
    exact Ent.tail (Ent.refl _)
  obtain ⟨a, e, he, c41h⟩ : ∃ a e : Int, ((k < 60 ∧ a = k + 1 ∧ e = 0) ∨ (¬ k < 60 ∧ a = 0 ∧ e = 5)) ∧ ∀ q l g p1, Spec P 19 [.pointer (some ⟨q, 0, none⟩), .agg #[str [], p1.v 1, .slice none 0 0], .int .i64 k, .int .i64 k] [qu q l (sM (min k 60)) false false, lg l g qname (rM (min k 60)) false, dsk g (lL (rM (min k 60)) roomM).D, sl Kstr p1 [[97, 64, 98]], sl Kstr SP.nil []]
      (fun _ : Unit => .tuple #[.int .i64 a, .int .i64 e]) (fun _ => [qu q l (sM (min (k + 1) 60)) false false, lg l g qname (rM (min (k + 1) 60)) false, dsk g (lL (rM (min (k + 1) 60)) roomM).D, sl Kstr p1 [[97, 64, 98]], sl Kstr SP.nil []]) :=
    ⟨_, _, by
      by_cases h : k < 60
      · exact .inl ⟨h, by rw [if_pos h], by rw [if_pos h]⟩
      · exact .inr ⟨h, by rw [if_neg h], by rw [if_neg h]⟩, fun q l g p1 => put41 (p1 := p1) (p3 := SP.nil) (k := k) (by omega)⟩
  refine W.seq ?_
  refine W.rseq ?_
  refine WL.p rfl rfl rfl (PV.mv rfl) ?_
  refine WL.p rfl rfl rfl (PV.mv rfl) ?_
  refine WL.p rfl rfl rfl (PV.lt rfl rfl) ?_
  refine WL.next [(24, _), (6, _), (5, _), (3, _), (2, _)] ⟨rfl, rfl, rfl, rfl, rfl, trivial⟩ ?_
  refine W.condD rfl (fun h0 => ?_) (fun h0 => ?_)
  refine W.skip ?_
  refine K.next [(6, _), (5, _), (3, _), (2, _)] ⟨rfl, rfl, rfl, rfl, trivial⟩ ?_
  refine W.bseq ?_
  refine W.rseq ?_
  refine WL.p rfl rfl rfl (PV.mv rfl) ?_
  refine WL.putX rfl rfl rfl (OpX.rowS (K := Kstr) [_] [()] slt33 ⟨_, zr9, rfl⟩ rfl rfl rfl rfl rfl rfl (fun _ h => by first | (simp [innerL, Kb, Kint, Kstr, Kbool] at h; done) | (simp [innerL, Ksl, Kwr, Kmsg] at h; rcases h with h | h | h <;> subst h <;> simp [Sl.rem]) | (simp [innerL, Ksl, Kwr] at h; subst h; simp [Sl.rem]))) fun x29 => ?_
  refine WL.nm (H' := _ :: _ :: _ :: _ :: _ :: _ :: _) rfl ?_
  refine WL.p rfl rfl rfl (PV.bld (cs := [_, _, _]) bt46 rfl rfl) ?_
  refine WL.p rfl rfl rfl (PV.mv rfl) ?_
  refine WL.p rfl rfl rfl (PV.mv rfl) ?_
  refine WL.putX rfl rfl rfl (OpX.call cb41 (c41h _ _ _ _) rfl (.cons (i := 2) rfl (.cons (i := 2) rfl (.cons (i := 2) rfl (.cons (i := 0) rfl (.cons (i := 1) rfl .nil)))))) fun x33 => ?_
  refine WL.nm (H' := _ :: _ :: _ :: _ :: _ :: _ :: _) rfl ?_
  refine WL.p rfl rfl rfl (PV.mv rfl) ?_
  refine WL.p rfl rfl rfl (PV.ext0 rfl) ?_
  refine WL.p rfl rfl rfl (PV.ext1 rfl) ?_
  refine WL.p rfl rfl rfl (PV.as rfl) ?_
  refine WL.p rfl rfl rfl (PV.as rfl) ?_
  refine WL.next [(8, _), (7, _), (6, _), (5, _), (3, _), (2, _)] ⟨rfl, rfl, rfl, rfl, rfl, rfl, trivial⟩ ?_
  refine W.rseq ?_
  refine WL.p rfl rfl rfl (PV.mv rfl) ?_
  refine WL.p rfl rfl rfl (PV.eqI rfl rfl) ?_
  refine WL.p rfl rfl rfl (PV.mv rfl) ?_
  refine WL.p rfl rfl rfl (PV.lt rfl rfl) ?_
  refine WL.p rfl rfl rfl (PV.neV rfl rfl rfl (EqIs.b ul4)) ?_
  refine WL.p rfl rfl rfl (PV.mv rfl) ?_
  refine WL.split (t := 41) rfl (fun h1 => ?_) (fun h1 => ?_)
  refine WL.no (dj := 41) rfl rfl rfl (by assumption) rfl ?_
  refine WL.no (dj := 41) rfl rfl rfl (by assumption) rfl ?_
  refine WL.no (dj := 41) rfl rfl rfl (by assumption) rfl ?_
  refine WL.noU (dj := 44) rfl rfl rfl rfl ?_
  refine WL.noU (dj := 44) rfl rfl rfl rfl ?_
  refine WL.noU (dj := 44) rfl rfl rfl rfl ?_
  refine WL.noU (dj := 44) rfl rfl rfl rfl ?_
  refine WL.no (dj := 41) rfl rfl rfl (by assumption) rfl ?_
  refine WL.p rfl rfl rfl (PV.pickT rfl (by assumption) rfl) ?_
  refine WL.p rfl rfl rfl (PV.mv rfl) ?_
  refine WL.no (dj := 51) rfl rfl rfl rfl rfl ?_
  refine WL.no (dj := 51) rfl rfl rfl rfl rfl ?_
  refine WL.no (dj := 51) rfl rfl rfl rfl rfl ?_
  refine WL.noU (dj := 54) rfl rfl rfl rfl ?_
  refine WL.noU (dj := 54) rfl rfl rfl rfl ?_
  refine WL.noU (dj := 54) rfl rfl rfl rfl ?_
  refine WL.noU (dj := 57) rfl rfl rfl rfl ?_
  refine WL.noU (dj := 57) rfl rfl rfl rfl ?_
  refine WL.noU (dj := 54) rfl rfl rfl rfl ?_
  refine WL.no (dj := 51) rfl rfl rfl rfl rfl ?_
  refine WL.p rfl rfl rfl (PV.pickT rfl rfl rfl) ?_
  refine WL.next [(62, _), (6, _), (5, _), (3, _), (2, _)] ⟨rfl, rfl, rfl, rfl, rfl, trivial⟩ ?_
  refine W.cT rfl ?_
  refine W.rseq ?_
  refine WL.p rfl rfl rfl (PV.as rfl) ?_
  refine WL.next [(2, _), (6, _), (5, _), (3, _)] ⟨rfl, rfl, rfl, rfl, trivial⟩ ?_
  refine W.ret ?_
  refine K.retB ?_
  refine K.retT ?_
  refine K.retT ?_
  refine K.retB ?_
  refine K.retT ?_
  rotate_left
  refine WL.yes (dj := 41) rfl rfl rfl (by assumption) rfl rfl (OpD.fv (PV.fv (PV.mv rfl))) ?_
  refine WL.yes (dj := 41) rfl rfl rfl (by assumption) rfl rfl (OpD.fv (PV.fv (PV.eqI rfl rfl))) ?_
  refine WL.yes (dj := 41) rfl rfl rfl (by assumption) rfl rfl (OpD.fv (PV.fv (PV.mv rfl))) ?_
  refine WL.splitD (t := 44) rfl (fun h2 => ?_) (fun h2 => ?_)
  refine WL.yes (dj := 44) rfl rfl rfl (decide_eq_true (by assumption)) rfl rfl (OpD.fv (PV.fv (PV.mv rfl))) ?_
  refine WL.yes (dj := 44) rfl rfl rfl (decide_eq_true (by assumption)) rfl rfl (OpD.fv (PV.fv (PV.mv rfl))) ?_
  refine WL.yes (dj := 44) rfl rfl rfl (decide_eq_true (by assumption)) rfl rfl (OpD.fv (PV.fv (PV.add64 rfl rfl (by omega)))) ?_
  refine WL.yes (dj := 44) rfl rfl rfl (decide_eq_true (by assumption)) rfl rfl (OpD.fv (PV.fv (PV.neI rfl rfl))) ?_
  refine WL.yes (dj := 41) rfl rfl rfl (by assumption) rfl rfl (OpD.fv (PV.fv (PV.pickT rfl (decide_eq_true (by assumption)) rfl))) ?_
  refine WL.p rfl rfl rfl (PV.pickF rfl (by assumption) rfl) ?_
  refine WL.p rfl rfl rfl (PV.mv rfl) ?_
  refine WL.splitD (t := 51) rfl (fun h3 => ?_) (fun h3 => ?_)
  refine WL.no (dj := 51) rfl rfl rfl (decide_eq_true (by assumption)) rfl ?_
  refine WL.no (dj := 51) rfl rfl rfl (decide_eq_true (by assumption)) rfl ?_
  refine WL.no (dj := 51) rfl rfl rfl (decide_eq_true (by assumption)) rfl ?_
  refine WL.noU (dj := 54) rfl rfl rfl rfl ?_
  refine WL.noU (dj := 54) rfl rfl rfl rfl ?_
  refine WL.noU (dj := 54) rfl rfl rfl rfl ?_
  refine WL.noU (dj := 57) rfl rfl rfl rfl ?_
  refine WL.noU (dj := 57) rfl rfl rfl rfl ?_
  refine WL.noU (dj := 54) rfl rfl rfl rfl ?_
  refine WL.no (dj := 51) rfl rfl rfl (decide_eq_true (by assumption)) rfl ?_
  refine WL.p rfl rfl rfl (PV.pickT rfl (decide_eq_true (by assumption)) rfl) ?_
  refine WL.next [(62, _), (6, _), (5, _), (3, _), (2, _)] ⟨rfl, rfl, rfl, rfl, rfl, trivial⟩ ?_
  refine W.cT rfl ?_
  refine W.rseq ?_
  refine WL.p rfl rfl rfl (PV.as rfl) ?_
  refine WL.next [(2, _), (6, _), (5, _), (3, _)] ⟨rfl, rfl, rfl, rfl, trivial⟩ ?_
  refine W.ret ?_
  refine K.retB ?_
  refine K.retT ?_
  refine K.retT ?_
  refine K.retB ?_
  refine K.retT ?_
  rotate_left
  refine WL.yes (dj := 51) rfl rfl rfl (decide_eq_false (by assumption)) rfl rfl (OpD.fv (PV.fv (PV.mv rfl))) ?_
  refine WL.yes (dj := 51) rfl rfl rfl (decide_eq_false (by assumption)) rfl rfl (OpD.fv (PV.fv (PV.neI rfl rfl))) ?_
  refine WL.yes (dj := 51) rfl rfl rfl (decide_eq_false (by assumption)) rfl rfl (OpD.fv (PV.fv (PV.mv rfl))) ?_
  refine WL.splitD (t := 54) rfl (fun h4 => ?_) (fun h4 => ?_)
  refine WL.yes (dj := 54) rfl rfl rfl (decide_eq_true (by assumption)) rfl rfl (OpD.fv (PV.fv (PV.mv rfl))) ?_
  refine WL.yes (dj := 54) rfl rfl rfl (decide_eq_true (by assumption)) rfl rfl (OpD.fv (PV.fv (PV.neI rfl rfl))) ?_
  refine WL.yes (dj := 54) rfl rfl rfl (decide_eq_true (by assumption)) rfl rfl (OpD.fv (PV.fv (PV.mv rfl))) ?_
  refine WL.splitD (t := 57) rfl (fun h5 => ?_) (fun h5 => ?_)
  refine WL.no (dj := 57) rfl rfl rfl (decide_eq_true (by assumption)) rfl ?_
  refine WL.no (dj := 57) rfl rfl rfl (decide_eq_true (by assumption)) rfl ?_
  refine WL.yes (dj := 54) rfl rfl rfl (decide_eq_true (by assumption)) rfl rfl (OpD.fv (PV.fv (PV.pickT rfl (decide_eq_true (by assumption)) rfl))) ?_
  refine WL.yes (dj := 51) rfl rfl rfl (decide_eq_false (by assumption)) rfl rfl (OpD.fv (PV.fv (PV.pickT rfl (decide_eq_true (by assumption)) rfl))) ?_
  refine WL.p rfl rfl rfl (PV.pickF rfl (decide_eq_false (by assumption)) rfl) ?_
  refine WL.next [(62, _), (6, _), (5, _), (3, _), (2, _)] ⟨rfl, rfl, rfl, rfl, rfl, trivial⟩ ?_
  refine W.cT rfl ?_
  refine W.rseq ?_
  refine WL.p rfl rfl rfl (PV.as rfl) ?_
  refine WL.next [(2, _), (6, _), (5, _), (3, _)] ⟨rfl, rfl, rfl, rfl, trivial⟩ ?_
  refine W.ret ?_
  refine K.retB ?_
  refine K.retT ?_
  refine K.retT ?_
  refine K.retB ?_
  refine K.retT ?_
  rotate_left
  refine WL.yes (dj := 57) rfl rfl rfl (decide_eq_false (by assumption)) rfl rfl (OpD.fv (PV.fv (PV.mv rfl))) ?_
  refine WL.yes (dj := 57) rfl rfl rfl (decide_eq_false (by assumption)) rfl rfl (OpD.fv (PV.fv (PV.neI rfl rfl))) ?_
  refine WL.yes (dj := 54) rfl rfl rfl (decide_eq_true (by assumption)) rfl rfl (OpD.fv (PV.fv (PV.pickF rfl (decide_eq_false (by assumption)) rfl))) ?_
  refine WL.yes (dj := 51) rfl rfl rfl (decide_eq_false (by assumption)) rfl rfl (OpD.fv (PV.fv (PV.pickT rfl (decide_eq_true (by assumption)) rfl))) ?_
  refine WL.p rfl rfl rfl (PV.pickF rfl (decide_eq_false (by assumption)) rfl) ?_
  refine WL.next [(62, _), (6, _), (5, _), (3, _), (2, _)] ⟨rfl, rfl, rfl, rfl, rfl, trivial⟩ ?_
  refine W.condD rfl (fun h6 => ?_) (fun h6 => ?_)
  refine W.rseq ?_
  refine WL.p rfl rfl rfl (PV.as rfl) ?_
  refine WL.next [(2, _), (6, _), (5, _), (3, _)] ⟨rfl, rfl, rfl, rfl, trivial⟩ ?_
  refine W.ret ?_
  refine K.retB ?_
  refine K.retT ?_
  refine K.retT ?_
  refine K.retB ?_
  refine K.retT ?_
  rotate_left
  refine W.skip ?_
  refine K.out ?_
  refine K.next [(6, _), (5, _), (3, _), (2, _)] ⟨rfl, rfl, rfl, rfl, trivial⟩ ?_
  refine W.region ?_
  refine WL.p rfl rfl rfl (PV.mv rfl) ?_
  refine WL.p rfl rfl rfl (PV.add64 rfl rfl (by omega)) ?_
  refine WL.p rfl rfl rfl (PV.as rfl) ?_
  refine WL.nil ?_
  rotate_left
  refine WL.no (dj := 54) rfl rfl rfl (decide_eq_false (by assumption)) rfl ?_
  refine WL.no (dj := 54) rfl rfl rfl (decide_eq_false (by assumption)) rfl ?_
  refine WL.no (dj := 54) rfl rfl rfl (decide_eq_false (by assumption)) rfl ?_
  refine WL.noU (dj := 57) rfl rfl rfl rfl ?_
  refine WL.noU (dj := 57) rfl rfl rfl rfl ?_
  refine WL.no (dj := 54) rfl rfl rfl (decide_eq_false (by assumption)) rfl ?_
  refine WL.yes (dj := 51) rfl rfl rfl (decide_eq_false (by assumption)) rfl rfl (OpD.fv (PV.fv (PV.pickF rfl (decide_eq_false (by assumption)) rfl))) ?_
  refine WL.p rfl rfl rfl (PV.pickF rfl (decide_eq_false (by assumption)) rfl) ?_
  refine WL.next [(62, _), (6, _), (5, _), (3, _), (2, _)] ⟨rfl, rfl, rfl, rfl, rfl, trivial⟩ ?_
  refine W.cF rfl ?_
  refine W.skip ?_
  refine K.out ?_
  refine K.next [(6, _), (5, _), (3, _), (2, _)] ⟨rfl, rfl, rfl, rfl, trivial⟩ ?_
  refine W.region ?_
  refine WL.p rfl rfl rfl (PV.mv rfl) ?_
  refine WL.p rfl rfl rfl (PV.add64 rfl rfl (by omega)) ?_
  refine WL.p rfl rfl rfl (PV.as rfl) ?_
  refine WL.nil ?_
  rotate_left
  refine WL.no (dj := 44) rfl rfl rfl (decide_eq_false (by assumption)) rfl ?_
  refine WL.no (dj := 44) rfl rfl rfl (decide_eq_false (by assumption)) rfl ?_
  refine WL.no (dj := 44) rfl rfl rfl (decide_eq_false (by assumption)) rfl ?_
  refine WL.no (dj := 44) rfl rfl rfl (decide_eq_false (by assumption)) rfl ?_
  refine WL.yes (dj := 41) rfl rfl rfl (by assumption) rfl rfl (OpD.fv (PV.fv (PV.pickF rfl (decide_eq_false (by assumption)) rfl))) ?_
  refine WL.p rfl rfl rfl (PV.pickF rfl (by assumption) rfl) ?_
  refine WL.p rfl rfl rfl (PV.mv rfl) ?_
  refine WL.yes (dj := 51) rfl rfl rfl rfl rfl rfl (OpD.fv (PV.fv (PV.mv rfl))) ?_
  refine WL.yes (dj := 51) rfl rfl rfl rfl rfl rfl (OpD.fv (PV.fv (PV.neI rfl rfl))) ?_
  refine WL.yes (dj := 51) rfl rfl rfl rfl rfl rfl (OpD.fv (PV.fv (PV.mv rfl))) ?_
  refine WL.yes (dj := 54) rfl rfl rfl (decide_eq_true (by assumption)) rfl rfl (OpD.fv (PV.fv (PV.mv rfl))) ?_
  refine WL.yes (dj := 54) rfl rfl rfl (decide_eq_true (by assumption)) rfl rfl (OpD.fv (PV.fv (PV.neI rfl rfl))) ?_
  refine WL.yes (dj := 54) rfl rfl rfl (decide_eq_true (by assumption)) rfl rfl (OpD.fv (PV.fv (PV.mv rfl))) ?_
  refine WL.splitD (t := 57) rfl (fun h7 => ?_) (fun h7 => ?_)
  refine WL.no (dj := 57) rfl rfl rfl (decide_eq_true (by assumption)) rfl ?_
  refine WL.no (dj := 57) rfl rfl rfl (decide_eq_true (by assumption)) rfl ?_
  refine WL.yes (dj := 54) rfl rfl rfl (decide_eq_true (by assumption)) rfl rfl (OpD.fv (PV.fv (PV.pickT rfl (decide_eq_true (by assumption)) rfl))) ?_
  refine WL.yes (dj := 51) rfl rfl rfl rfl rfl rfl (OpD.fv (PV.fv (PV.pickT rfl (decide_eq_true (by assumption)) rfl))) ?_
  refine WL.p rfl rfl rfl (PV.pickF rfl rfl rfl) ?_
  refine WL.next [(62, _), (6, _), (5, _), (3, _), (2, _)] ⟨rfl, rfl, rfl, rfl, rfl, trivial⟩ ?_
  refine W.cT rfl ?_
  refine W.rseq ?_
  refine WL.p rfl rfl rfl (PV.as rfl) ?_
  refine WL.next [(2, _), (6, _), (5, _), (3, _)] ⟨rfl, rfl, rfl, rfl, trivial⟩ ?_
  refine W.ret ?_
  refine K.retB ?_
  refine K.retT ?_
  refine K.retT ?_
  refine K.retB ?_
  refine K.retT ?_
  rotate_left
  refine WL.yes (dj := 57) rfl rfl rfl (decide_eq_false (by assumption)) rfl rfl (OpD.fv (PV.fv (PV.mv rfl))) ?_
  refine WL.yes (dj := 57) rfl rfl rfl (decide_eq_false (by assumption)) rfl rfl (OpD.fv (PV.fv (PV.neI rfl rfl))) ?_
  refine WL.yes (dj := 54) rfl rfl rfl (decide_eq_true (by assumption)) rfl rfl (OpD.fv (PV.fv (PV.pickF rfl (decide_eq_false (by assumption)) rfl))) ?_
  refine WL.yes (dj := 51) rfl rfl rfl rfl rfl rfl (OpD.fv (PV.fv (PV.pickT rfl (decide_eq_true (by assumption)) rfl))) ?_
  refine WL.p rfl rfl rfl (PV.pickF rfl rfl rfl) ?_
  refine WL.next [(62, _), (6, _), (5, _), (3, _), (2, _)] ⟨rfl, rfl, rfl, rfl, rfl, trivial⟩ ?_
  refine W.condD rfl (fun h8 => ?_) (fun h8 => ?_)
  refine W.rseq ?_
  refine WL.p rfl rfl rfl (PV.as rfl) ?_
  refine WL.next [(2, _), (6, _), (5, _), (3, _)] ⟨rfl, rfl, rfl, rfl, trivial⟩ ?_
  refine W.ret ?_
  refine K.retB ?_
  refine K.retT ?_
  refine K.retT ?_
  refine K.retB ?_
  refine K.retT ?_
  rotate_left
  refine W.skip ?_
  refine K.out ?_
  refine K.next [(6, _), (5, _), (3, _), (2, _)] ⟨rfl, rfl, rfl, rfl, trivial⟩ ?_
  refine W.region ?_
  refine WL.p rfl rfl rfl (PV.mv rfl) ?_
  refine WL.p rfl rfl rfl (PV.add64 rfl rfl (by omega)) ?_
  refine WL.p rfl rfl rfl (PV.as rfl) ?_
  refine WL.nil ?_
  rotate_left
  refine W.exit ?_
  refine K.exitT ?_
  refine K.exitT ?_
  refine K.exit ?_
  refine K.next [(3, _), (2, _)] ⟨rfl, rfl, trivial⟩ ?_
  refine W.seq ?_
  refine W.rseq ?_
  refine WL.p rfl rfl rfl (PV.mv rfl) ?_
  refine WL.p rfl rfl rfl (PV.bld (cs := [_, _, _, _, _, _, _, _, _]) bt52 rfl rfl) ?_
  rotate_left
  · exfalso; simp at h1; omega
  · exfalso; simp at h1; omega
  · exfalso; omega
  · exfalso; omega
  · exfalso; omega
  · refine K.againP (k + 1) (show k + 1 ≤ N by omega) (show N - (k + 1) < N - k by omega) ⟨by rw [show ((k + 1 : Nat) : Int) = (k : Int) + 1 by omega]; rfl, rfl, rfl, rfl, trivial⟩ ?_
    refine Ent.take 0 rfl ?_
    refine Ent.take 0 rfl ?_
    refine Ent.take 0 rfl ?_
    refine Ent.keep 1 rfl (sl_pers _ _ _) ?_
    exact Ent.tail (Ent.tail (Ent.tail (Ent.refl _)))
  · exfalso; omega
  · exfalso; omega
  · refine K.againP (k + 1) (show k + 1 ≤ N by omega) (show N - (k + 1) < N - k by omega) ⟨by rw [show ((k + 1 : Nat) : Int) = (k : Int) + 1 by omega]; rfl, rfl, rfl, rfl, trivial⟩ ?_
    refine Ent.take 0 rfl ?_
    refine Ent.take 0 rfl ?_
    refine Ent.take 0 rfl ?_
    refine Ent.keep 1 rfl (sl_pers _ _ _) ?_
    exact Ent.tail (Ent.tail (Ent.tail (Ent.refl _)))
  obtain rfl : k = N := by omega
  obtain ⟨j, hj⟩ : ∃ j, j = min k 60 := ⟨_, rfl⟩
  rw [← hj]
  have hj1 : 55 ≤ j ∧ j ≤ 60 := by omega
  obtain ⟨f1, f2, f3, f4⟩ := sM_one j (by omega) (by omega)
  obtain ⟨m, hm⟩ := Option.isSome_iff_exists.1 f1
  have hbl : ([70] ++ numB 1 6 : Bytes).length = 7 := by rw [List.length_append, numB_len]; rfl
  have hL := QM_LOk (k := j) (b := [70] ++ numB 1 6) (by omega) (by omega)
  have hap := lL_app (rs := rM j) (b := [70] ++ numB 1 6) (room := roomM) (by omega) (room_ok (by omega) (by omega))
  have c46h : ∀ q l g, Spec P 24 [.pointer (some ⟨q, 0, none⟩), .int .i64 1, .agg #[.int .i64 0, .int .i64 0, .int .i64 0, .int .i64 0, .int .i64 0, str [], .slice none 0 0, .slice none 0 0, .slice none 0 0], .bool false] [qu q l (sM j) false false, lg l g qname (rM j) false, dsk g (lL (rM j) roomM).D]
      (fun _ : Unit => .int .i64 0) (fun _ => [qu q l ((sM j).del 1) false false, lg l g qname (rM j ++ [[70] ++ numB 1 6]) false, dsk g (lL (rM j ++ [[70] ++ numB 1 6]) roomM).D]) := by
    intro q l g
    have h := c46f (q := q) (l := l) (g := g) (s := sM j) (L := lL (rM j) roomM) (id := 1) (m := m) (b0 := .int .i64 0) (b1 := .int .i64 0) (b2 := .int .i64 0) (b3 := .int .i64 0) (b4 := .int .i64 0) (b5 := str []) (b6 := .slice none 0 0) (b7 := .slice none 0 0) (b8 := .slice none 0 0) hm ⟨by decide, by decide⟩ hL.full hL.dok hL.dok2 hL.nm hL.rl
    rw [hap] at h
    rw [if_neg (show ¬ ((0 : Int) = 6) by decide)] at h
    exact h
  have hfl := rM_flat (k := j) (by omega)
  have hpl := putB_len (s := (sM j).del 1) f4 f2
  have hfr : (((flat (rM j ++ [[70] ++ numB 1 6])).length + (frame (putB ((sM j).del 1) (newM ((sM j).del 1) [] [[97, 64, 98]] [] 0 0))).length : Nat) : Int) ≤ roomM := by
    rw [flat_app, List.length_append, frame_len]
    have : (flat [[70] ++ numB 1 6]).length = 15 := by rw [flat_cons, List.length_append, frame_len, hbl]; rfl
    have : roomM = 67108864 := by decide
    omega
  have c41i : ∀ q l g p1, Spec P 19 [.pointer (some ⟨q, 0, none⟩), .agg #[str [], p1.v 1, .slice none 0 0], .int .i64 0, .int .i64 0] [qu q l ((sM j).del 1) false false, lg l g qname (rM j ++ [[70] ++ numB 1 6]) false, dsk g (lL (rM j ++ [[70] ++ numB 1 6]) roomM).D, sl Kstr p1 [[97, 64, 98]], sl Kstr SP.nil []]
      (fun _ : Unit => .tuple #[.int .i64 ((sM j).del 1).next, .int .i64 0]) (fun _ => [sl Kstr p1 [[97, 64, 98]], sl Kstr SP.nil []]) := by
    intro q l g p1
    have h := c41 (q := q) (l := l) (g := g) (Q := ⟨(sM j).del 1, false, lL (rM j ++ [[70] ++ numB 1 6]) roomM⟩) (p1 := p1) (p3 := SP.nil) (frm := []) (rcpts := [[97, 64, 98]]) (body := []) (gen := 0) (now := 0) (goodM_fine f2).ok
      (fun _ => ⟨f4, goodM_fine f2⟩) (fun _ => lL_LOk (Nat.le_trans hpl (by decide)) hfr (by decide) (by rw [List.length_append, rM_len]; simp; omega))
    rw [QL_put_ok f3 f2 (by omega) hfr] at h
    exact Spec.mono h (Ent.refl _) fun _ => ⟨(), rfl, Ent.tail (Ent.tail (Ent.tail (Ent.refl _)))⟩
  refine WL.putX rfl rfl rfl (OpX.call cb46 (c46h _ _ _) rfl (.cons (i := 0) rfl (.cons (i := 0) rfl (.cons (i := 0) rfl .nil)))) fun x65 => ?_
  refine WL.nm (H' := _ :: _ :: _ :: _ :: _) rfl ?_
  refine WL.p rfl rfl rfl (PV.neI rfl rfl) ?_
  refine WL.next [(66, _), (3, _), (2, _)] ⟨rfl, rfl, rfl, trivial⟩ ?_
  refine W.cF rfl ?_
  refine W.skip ?_
  refine K.next [(3, _), (2, _)] ⟨rfl, rfl, trivial⟩ ?_
  refine W.rseq ?_
  refine WL.p rfl rfl rfl (PV.mv rfl) ?_
  refine WL.putX rfl rfl rfl (OpX.rowS (K := Kstr) [_] [()] slt33 ⟨_, zr9, rfl⟩ rfl rfl rfl rfl rfl rfl (fun _ h => by first | (simp [innerL, Kb, Kint, Kstr, Kbool] at h; done) | (simp [innerL, Ksl, Kwr, Kmsg] at h; rcases h with h | h | h <;> subst h <;> simp [Sl.rem]) | (simp [innerL, Ksl, Kwr] at h; subst h; simp [Sl.rem]))) fun x69 => ?_
  refine WL.nm (H' := _ :: _ :: _ :: _ :: _ :: _ :: _) rfl ?_
  refine WL.p rfl rfl rfl (PV.bld (cs := [_, _, _]) bt46 rfl rfl) ?_
  refine WL.putX rfl rfl rfl (OpX.call cb41 (c41i _ _ _ _) rfl (.cons (i := 2) rfl (.cons (i := 2) rfl (.cons (i := 2) rfl (.cons (i := 0) rfl (.cons (i := 1) rfl .nil)))))) fun x71 => ?_
  refine WL.nm (H' := _ :: _ :: _ :: _) rfl ?_
  refine WL.p rfl rfl rfl (PV.mv rfl) ?_
  refine WL.p rfl rfl rfl (PV.ext0 rfl) ?_
  refine WL.p rfl rfl rfl (PV.ext1 rfl) ?_
  refine WL.p rfl rfl rfl (PV.as rfl) ?_
  refine WL.p rfl rfl rfl (PV.as rfl) ?_
  refine WL.next [(10, _), (2, _)] ⟨rfl, rfl, trivial⟩ ?_
  refine W.rseq ?_
  refine WL.putX rfl rfl rfl (OpX.call cb40 (c40) rfl .nil) fun x74 => ?_
  refine WL.nm (H' := _ :: _ :: _ :: _) rfl ?_
  refine WL.p rfl rfl rfl (PV.mv rfl) ?_
  refine WL.yes (dj := 75) rfl rfl rfl rfl rfl rfl (OpD.fv (PV.fv (PV.mv rfl))) ?_
  refine WL.yes (dj := 75) rfl rfl rfl rfl rfl rfl (OpD.fv (PV.fv (PV.eqI rfl rfl))) ?_
  refine WL.p rfl rfl rfl (PV.pickT rfl rfl rfl) ?_
  refine WL.p rfl rfl rfl (PV.as rfl) ?_
  refine WL.next [(2, _)] ⟨rfl, trivial⟩ ?_
  refine W.ret ?_
  rotate_left
  refine K.fin (vs := [_]) () ⟨rfl, trivial⟩ rfl ?_
  exact Ent.tail (Ent.tail (Ent.tail (Ent.refl _)))
end Go.Sl
