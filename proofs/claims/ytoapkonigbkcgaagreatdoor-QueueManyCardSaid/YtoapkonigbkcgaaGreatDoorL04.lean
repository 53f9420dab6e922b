/- A library for the proof (part 4): Dk4 Dk5 Dk6 Dk7 Lg1 Lg2. -/
import Derived.Test.YtoapkonigbkcgaaGreatDoorL03
set_option linter.unusedVariables false
set_option linter.unusedSimpArgs false
set_option linter.unusedSectionVars false
namespace Go.Sl
open Go Go.Proofs
set_option maxRecDepth 20000
theorem done_room (D : DM) (w : Wr) : (D.done w).2.room = D.room := by unfold DM.done; split <;> rfl
theorem done_sure (D : DM) (w : Wr) : (D.done w).2.sure = D.sure := by unfold DM.done; split <;> rfl
/-- Append. -/
def DM.append (D : DM) (s b : Bytes) : Int × DM :=
  if dname s = false then (1, D) else if D.down = true then (6, D) else if (mget D.now s = none ∧ 16 ≤ D.now.length) ∨ D.room < (total D.now : Int) + b.length then (5, D) else D.done ⟨0, s, [], b⟩
/-- It is not too large for us. -/
structure DM.Ok (D : DM) : Prop where
  fuse : -1 ≤ D.fuse ∧ D.fuse < 2 ^ 63
  loose : D.loose.length ≤ 2 ^ 40
  tot : total D.now ≤ 2 ^ 45
theorem get_total : ∀ {m : List (Bytes × Bytes)} {s : Bytes}, ((mget m s).getD []).length ≤ total m
  | [], s => by simp [mget, total]
  | (k, a) :: m, s => by
    have := get_total (m := m) (s := s)
    unfold mget
    simp only [total, List.map_cons, List.sum_cons] at this ⊢
    split <;> simp <;> omega
theorem append_done {D : DM} {s b : Bytes} (h0 : dname s = true) (h1 : D.down = false) (h2 : ¬ ((mget D.now s = none ∧ 16 ≤ D.now.length) ∨ D.room < (total D.now : Int) + b.length)) : D.append s b = D.done ⟨0, s, [], b⟩ := by
  unfold DM.append
  rw [if_neg (by simp [h0]), if_neg (by simp [h1]), if_neg h2]
theorem c191 {g : Nat} {D : DM} {s b : Bytes} {q : SP} (hD : D.Ok) (hs : s.length < 2 ^ 40) (hb : b.length ≤ 2 ^ 45) :
    Spec P 107 [.pointer (some ⟨g, 0, none⟩), str s, q.v b.length] [dsk g D, sl Kb q b] (fun _ : Unit => .int .i64 (D.append s b).1) (fun _ => [dsk g (D.append s b).2, sl Kb q b]) := by
  refine Spec.exI fun ⟨r1, r2, p⟩ => ?_
  have hf := hD.fuse; have hlo := hD.loose; have ht := hD.tot
  have hg := get_total (m := D.now) (s := s)
  refine Spec.intro Tryz.func107 rfl rfl rfl fun F => ?_
  refine W.rseq ?_
  refine WL.p rfl rfl rfl (PV.as rfl) ?_
  refine WL.next [(6, _), (0, _), (1, _), (2, _)] ⟨rfl, rfl, rfl, rfl, trivial⟩ ?_
  refine W.bseq ?_
  refine W.rseq ?_
  refine WL.p rfl rfl rfl (PV.mv rfl) ?_
  refine WL.p rfl rfl rfl (PV.eqV rfl rfl rfl (EqIs.p0 ul24)) ?_
  refine WL.p rfl rfl rfl (PV.mv rfl) ?_
  refine WL.yes (dj := 10) rfl rfl rfl rfl rfl rfl (OpD.fv (PV.fv (PV.mv rfl))) ?_
  refine WL.yesX (dj := 10) rfl rfl rfl rfl rfl rfl (OpX.call cb245 (c245 (by first | omega | (simp only [List.length_append, List.length_cons, List.length_nil]; omega) | assumption)) rfl .nil) fun x12 => ?_
  refine WL.nm (H' := pt _ _ [_, _, _, _, _, _] :: _ :: _ :: _ :: _ :: _ :: _) rfl ?_
  refine WL.yes (dj := 10) rfl rfl rfl rfl rfl rfl (OpD.fv (PV.fv (PV.not rfl))) ?_
  refine WL.p rfl rfl rfl (PV.pickF rfl rfl rfl) ?_
  refine WL.p rfl rfl rfl (PV.as rfl) ?_
  refine WL.next [(7, _), (6, _), (0, _), (1, _), (2, _)] ⟨rfl, rfl, rfl, rfl, rfl, trivial⟩ ?_
  refine W.cond rfl (fun h0 => ?_) (fun h0 => ?_)
  refine W.rseq ?_
  refine WL.p rfl rfl rfl (PV.as rfl) ?_
  refine WL.next [(6, _), (0, _), (1, _), (2, _)] ⟨rfl, rfl, rfl, rfl, trivial⟩ ?_
  refine W.ret ?_
  refine K.retB ?_
  refine K.retT ?_
  rotate_left
  refine W.rseq ?_
  refine WL.p rfl rfl rfl (PV.mv rfl) ?_
  refine WL.p rfl rfl rfl (PV.nck rfl) ?_
  refine WL.p rfl rfl rfl (PV.fa fo175_5 rfl rfl) ?_
  refine WL.f rfl rfl rfl (FV.ld (LdD.sc 0 5 sc4 rfl rfl rfl rfl)) ?_
  refine WL.p rfl rfl rfl (PV.as rfl) ?_
  refine WL.next [(15, _), (6, _), (0, _), (1, _), (2, _)] ⟨rfl, rfl, rfl, rfl, rfl, trivial⟩ ?_
  refine W.cond rfl (fun h1 => ?_) (fun h1 => ?_)
  refine W.rseq ?_
  refine WL.p rfl rfl rfl (PV.as rfl) ?_
  refine WL.next [(6, _), (0, _), (1, _), (2, _)] ⟨rfl, rfl, rfl, rfl, trivial⟩ ?_
  refine W.ret ?_
  refine K.retB ?_
  refine K.retT ?_
  rotate_left
  refine W.dseq [0, 1, 2, 3, 4, 5, 6, 7, 8, 9, 10, 11, 12, 13, 15, 16, 18, 19, 20, 21, 14, 17, 22, 23, 24] mixedOrders rfl rfl fun hR => ?_
  refine DP.p rfl rfl rfl rfl rfl (PV.mv rfl) ?_
  refine DP.p rfl rfl rfl rfl rfl (PV.mv rfl) ?_
  refine DP.e hR [] rfl rfl rfl rfl rfl (OpX.call cb246 (c246) rfl (.cons (i := 0) rfl (.cons (i := 0) rfl .nil))) rfl (fun _ => KeepL.nil) fun x23 => ?_
  refine DP.nm (H' := pt _ _ [_, _, _, _, _, _] :: _ :: _ :: _ :: _ :: _ :: _) rfl ?_
  refine DP.p rfl rfl rfl rfl rfl (PV.not rfl) ?_
  refine DP.p rfl rfl rfl rfl rfl (PV.mv rfl) ?_
  refine DP.split (t := 25) rfl (fun h2 => ?_) (fun h2 => ?_)
  refine DP.pY (dj := 25) rfl rfl rfl rfl rfl (by assumption) rfl rfl rfl (PV.mv rfl) ?_
  refine DP.pY (dj := 25) rfl rfl rfl rfl rfl (by assumption) rfl rfl rfl (PV.nck rfl) ?_
  refine DP.pY (dj := 25) rfl rfl rfl rfl rfl (by assumption) rfl rfl rfl (PV.fa fo175_0 rfl rfl) ?_
  refine DP.fY (dj := 25) rfl rfl rfl rfl rfl (by assumption) rfl rfl rfl (FV.ld (LdD.sc 0 0 sc172 rfl rfl rfl rfl)) ?_
  refine DP.fY (dj := 25) rfl rfl rfl rfl rfl (by assumption) rfl rfl rfl (FV.lenFs 1 ul172 rfl rfl rfl) ?_
  refine DP.pY (dj := 25) rfl rfl rfl rfl rfl (by assumption) rfl rfl rfl (PV.ge rfl rfl) ?_
  refine DP.p rfl rfl rfl rfl rfl (PV.pickT rfl (by assumption) rfl) ?_
  refine DP.p rfl rfl rfl rfl rfl (PV.mv rfl) ?_
  refine DP.splitD (t := 33) rfl (fun h3 => ?_) (fun h3 => ?_)
  refine DP.pN (dj := 33) rfl rfl rfl rfl rfl (decide_eq_true (by assumption)) rfl rfl rfl ?_
  refine DP.pN (dj := 33) rfl rfl rfl rfl rfl (decide_eq_true (by assumption)) rfl rfl rfl ?_
  refine DP.pN (dj := 33) rfl rfl rfl rfl rfl (decide_eq_true (by assumption)) rfl rfl rfl ?_
  refine DP.pN (dj := 33) rfl rfl rfl rfl rfl (decide_eq_true (by assumption)) rfl rfl rfl ?_
  refine DP.pN (dj := 33) rfl rfl rfl rfl rfl (decide_eq_true (by assumption)) rfl rfl rfl ?_
  refine DP.pN (dj := 33) rfl rfl rfl rfl rfl (decide_eq_true (by assumption)) rfl rfl rfl ?_
  refine DP.pN (dj := 33) rfl rfl rfl rfl rfl (decide_eq_true (by assumption)) rfl rfl rfl ?_
  refine DP.pN (dj := 33) rfl rfl rfl rfl rfl (decide_eq_true (by assumption)) rfl rfl rfl ?_
  refine DP.pN (dj := 33) rfl rfl rfl rfl rfl (decide_eq_true (by assumption)) rfl rfl rfl ?_
  refine DP.pN (dj := 33) rfl rfl rfl rfl rfl (decide_eq_true (by assumption)) rfl rfl rfl ?_
  refine DP.p rfl rfl rfl rfl rfl (PV.pickT rfl (decide_eq_true (by assumption)) rfl) ?_
  refine DP.p rfl rfl rfl rfl rfl (PV.as rfl) ?_
  refine DP.fin hR ?_
  clear hR
  refine K.next [(20, _), (6, _), (0, _), (1, _), (2, _)] ⟨rfl, rfl, rfl, rfl, rfl, trivial⟩ ?_
  refine W.cT rfl ?_
  refine W.rseq ?_
  refine WL.p rfl rfl rfl (PV.as rfl) ?_
  refine WL.next [(6, _), (0, _), (1, _), (2, _)] ⟨rfl, rfl, rfl, rfl, trivial⟩ ?_
  refine W.ret ?_
  refine K.retB ?_
  refine K.retT ?_
  rotate_left
  refine DP.pY (dj := 33) rfl rfl rfl rfl rfl (decide_eq_false (by assumption)) rfl rfl rfl (PV.mv rfl) ?_
  refine DP.pY (dj := 33) rfl rfl rfl rfl rfl (decide_eq_false (by assumption)) rfl rfl rfl (PV.mv rfl) ?_
  refine DP.pY (dj := 33) rfl rfl rfl rfl rfl (decide_eq_false (by assumption)) rfl rfl rfl (PV.lenL ul62 rfl rfl) ?_
  refine DP.pY (dj := 33) rfl rfl rfl rfl rfl (decide_eq_false (by assumption)) rfl rfl rfl (PV.mv rfl) ?_
  refine DP.pY (dj := 33) rfl rfl rfl rfl rfl (decide_eq_false (by assumption)) rfl rfl rfl (PV.nck rfl) ?_
  refine DP.pY (dj := 33) rfl rfl rfl rfl rfl (decide_eq_false (by assumption)) rfl rfl rfl (PV.fa fo175_3 rfl rfl) ?_
  refine DP.fY (dj := 33) rfl rfl rfl rfl rfl (decide_eq_false (by assumption)) rfl rfl rfl (FV.ld (LdD.sc 0 3 sc3 rfl rfl rfl rfl)) ?_
  refine DP.eY (dj := 33) hR [(21, _)] rfl rfl rfl rfl rfl (decide_eq_false (by assumption)) rfl rfl rfl (OpX.call cb262 (c262 (by first | omega | (simp only [List.length_append, List.length_cons, List.length_nil]; omega) | assumption)) rfl (.cons (i := 0) rfl (.cons (i := 0) rfl .nil))) rfl (fun _ => (KeepL.keep rfl (FloatAt.yes (dj := 33) rfl rfl rfl rfl (by first | rfl | assumption | exact decide_eq_true (by assumption) | exact decide_eq_false (by assumption)) (by first | exact FV.ld (LdD.sc 0 3 sc3 rfl rfl rfl rfl) | exact FV.ld (LdD.ag (us := _) 0 3 ag3 rfl rfl rfl rfl rfl) | exact FV.ld (LdD.sc 1 3 sc3 rfl rfl rfl rfl) | exact FV.ld (LdD.ag (us := _) 1 3 ag3 rfl rfl rfl rfl rfl) | exact FV.ld (LdD.sc 2 3 sc3 rfl rfl rfl rfl) | exact FV.ld (LdD.ag (us := _) 2 3 ag3 rfl rfl rfl rfl rfl) | exact FV.ld (LdD.sc 3 3 sc3 rfl rfl rfl rfl) | exact FV.ld (LdD.ag (us := _) 3 3 ag3 rfl rfl rfl rfl rfl) | exact FV.ld (LdD.sc 4 3 sc3 rfl rfl rfl rfl) | exact FV.ld (LdD.ag (us := _) 4 3 ag3 rfl rfl rfl rfl rfl))) (KeepL.drop rfl (KeepL.drop rfl KeepL.nil)))) fun x35 => ?_
  refine DP.nm (H' := pt _ _ [_, _, _, _, _, _] :: _ :: _ :: _ :: _ :: _ :: _) rfl ?_
  refine DP.pY (dj := 33) rfl rfl rfl rfl rfl (decide_eq_false (by assumption)) rfl rfl rfl (PV.add64 rfl rfl (by omega)) ?_
  refine DP.pY (dj := 33) rfl rfl rfl rfl rfl (decide_eq_false (by assumption)) rfl rfl rfl (PV.gt rfl rfl) ?_
  refine DP.p rfl rfl rfl rfl rfl (PV.pickF rfl (decide_eq_false (by assumption)) rfl) ?_
  refine DP.p rfl rfl rfl rfl rfl (PV.as rfl) ?_
  refine DP.fin hR ?_
  clear hR
  refine K.next [(20, _), (6, _), (0, _), (1, _), (2, _)] ⟨rfl, rfl, rfl, rfl, rfl, trivial⟩ ?_
  refine W.condD rfl (fun h4 => ?_) (fun h4 => ?_)
  refine W.rseq ?_
  refine WL.p rfl rfl rfl (PV.as rfl) ?_
  refine WL.next [(6, _), (0, _), (1, _), (2, _)] ⟨rfl, rfl, rfl, rfl, trivial⟩ ?_
  refine W.ret ?_
  refine K.retB ?_
  refine K.retT ?_
  rotate_left
  refine W.skip ?_
  refine K.out ?_
  refine K.next [(6, _), (0, _), (1, _), (2, _)] ⟨rfl, rfl, rfl, rfl, trivial⟩ ?_
  refine W.rseq ?_
  refine WL.p rfl rfl rfl (PV.mv rfl) ?_
  refine WL.p rfl rfl rfl (PV.mv rfl) ?_
  refine WL.p rfl rfl rfl (PV.mv rfl) ?_
  refine WL.putX rfl rfl rfl (OpX.call cb179 (c179 (by first | omega | (simp only [List.length_append, List.length_cons, List.length_nil]; omega) | assumption)) rfl (.cons (i := 5) rfl .nil)) fun x48 => ?_
  refine WL.nm (H' := _ :: _ :: _ :: pt _ _ [_, _, _, _, _, _] :: _ :: _ :: _ :: _ :: _) rfl ?_
  refine WL.p rfl rfl rfl (PV.bld bt194 rfl rfl) ?_
  refine WL.putX rfl rfl rfl (OpX.call cb247 (c247 (by first | omega | (simp only [List.length_append, List.length_cons, List.length_nil]; omega) | assumption) (by first | omega | (simp only [List.length_append, List.length_cons, List.length_nil]; omega) | assumption) (by first | omega | (simp only [List.length_append, List.length_cons, List.length_nil]; omega) | assumption)) rfl (.cons (i := 3) rfl (.cons (i := 3) rfl (.cons (i := 4) rfl (.cons (i := 4) rfl (.cons (i := 0) rfl .nil)))))) fun x50 => ?_
  refine WL.nm (H' := pt _ _ [_, _, _, _, _, _] :: _ :: _ :: _ :: _ :: _ :: _ :: _) rfl ?_
  refine WL.p rfl rfl rfl (PV.as rfl) ?_
  refine WL.next [(6, _)] ⟨rfl, trivial⟩ ?_
  refine W.ret ?_
  rotate_left
  refine DP.pN (dj := 25) rfl rfl rfl rfl rfl (by assumption) rfl rfl rfl ?_
  refine DP.pN (dj := 25) rfl rfl rfl rfl rfl (by assumption) rfl rfl rfl ?_
  refine DP.pN (dj := 25) rfl rfl rfl rfl rfl (by assumption) rfl rfl rfl ?_
  refine DP.pN (dj := 25) rfl rfl rfl rfl rfl (by assumption) rfl rfl rfl ?_
  refine DP.pN (dj := 25) rfl rfl rfl rfl rfl (by assumption) rfl rfl rfl ?_
  refine DP.pN (dj := 25) rfl rfl rfl rfl rfl (by assumption) rfl rfl rfl ?_
  refine DP.p rfl rfl rfl rfl rfl (PV.pickF rfl (by assumption) rfl) ?_
  refine DP.p rfl rfl rfl rfl rfl (PV.mv rfl) ?_
  refine DP.pY (dj := 33) rfl rfl rfl rfl rfl rfl rfl rfl rfl (PV.mv rfl) ?_
  refine DP.pY (dj := 33) rfl rfl rfl rfl rfl rfl rfl rfl rfl (PV.mv rfl) ?_
  refine DP.pY (dj := 33) rfl rfl rfl rfl rfl rfl rfl rfl rfl (PV.lenL ul62 rfl rfl) ?_
  refine DP.pY (dj := 33) rfl rfl rfl rfl rfl rfl rfl rfl rfl (PV.mv rfl) ?_
  refine DP.pY (dj := 33) rfl rfl rfl rfl rfl rfl rfl rfl rfl (PV.nck rfl) ?_
  refine DP.pY (dj := 33) rfl rfl rfl rfl rfl rfl rfl rfl rfl (PV.fa fo175_3 rfl rfl) ?_
  refine DP.fY (dj := 33) rfl rfl rfl rfl rfl rfl rfl rfl rfl (FV.ld (LdD.sc 0 3 sc3 rfl rfl rfl rfl)) ?_
  refine DP.eY (dj := 33) hR [(21, _)] rfl rfl rfl rfl rfl rfl rfl rfl rfl (OpX.call cb262 (c262 (by first | omega | (simp only [List.length_append, List.length_cons, List.length_nil]; omega) | assumption)) rfl (.cons (i := 0) rfl (.cons (i := 0) rfl .nil))) rfl (fun _ => (KeepL.keep rfl (FloatAt.yes (dj := 33) rfl rfl rfl rfl (by first | rfl | assumption | exact decide_eq_true (by assumption) | exact decide_eq_false (by assumption)) (by first | exact FV.ld (LdD.sc 0 3 sc3 rfl rfl rfl rfl) | exact FV.ld (LdD.ag (us := _) 0 3 ag3 rfl rfl rfl rfl rfl) | exact FV.ld (LdD.sc 1 3 sc3 rfl rfl rfl rfl) | exact FV.ld (LdD.ag (us := _) 1 3 ag3 rfl rfl rfl rfl rfl) | exact FV.ld (LdD.sc 2 3 sc3 rfl rfl rfl rfl) | exact FV.ld (LdD.ag (us := _) 2 3 ag3 rfl rfl rfl rfl rfl) | exact FV.ld (LdD.sc 3 3 sc3 rfl rfl rfl rfl) | exact FV.ld (LdD.ag (us := _) 3 3 ag3 rfl rfl rfl rfl rfl) | exact FV.ld (LdD.sc 4 3 sc3 rfl rfl rfl rfl) | exact FV.ld (LdD.ag (us := _) 4 3 ag3 rfl rfl rfl rfl rfl))) KeepL.nil)) fun x35 => ?_
  refine DP.nm (H' := pt _ _ [_, _, _, _, _, _] :: _ :: _ :: _ :: _ :: _ :: _) rfl ?_
  refine DP.pY (dj := 33) rfl rfl rfl rfl rfl rfl rfl rfl rfl (PV.add64 rfl rfl (by omega)) ?_
  refine DP.pY (dj := 33) rfl rfl rfl rfl rfl rfl rfl rfl rfl (PV.gt rfl rfl) ?_
  refine DP.p rfl rfl rfl rfl rfl (PV.pickF rfl rfl rfl) ?_
  refine DP.p rfl rfl rfl rfl rfl (PV.as rfl) ?_
  refine DP.fin hR ?_
  clear hR
  refine K.next [(20, _), (6, _), (0, _), (1, _), (2, _)] ⟨rfl, rfl, rfl, rfl, rfl, trivial⟩ ?_
  refine W.condD rfl (fun h5 => ?_) (fun h5 => ?_)
  refine W.rseq ?_
  refine WL.p rfl rfl rfl (PV.as rfl) ?_
  refine WL.next [(6, _), (0, _), (1, _), (2, _)] ⟨rfl, rfl, rfl, rfl, trivial⟩ ?_
  refine W.ret ?_
  refine K.retB ?_
  refine K.retT ?_
  rotate_left
  refine W.skip ?_
  refine K.out ?_
  refine K.next [(6, _), (0, _), (1, _), (2, _)] ⟨rfl, rfl, rfl, rfl, trivial⟩ ?_
  refine W.rseq ?_
  refine WL.p rfl rfl rfl (PV.mv rfl) ?_
  refine WL.p rfl rfl rfl (PV.mv rfl) ?_
  refine WL.p rfl rfl rfl (PV.mv rfl) ?_
  refine WL.putX rfl rfl rfl (OpX.call cb179 (c179 (by first | omega | (simp only [List.length_append, List.length_cons, List.length_nil]; omega) | assumption)) rfl (.cons (i := 5) rfl .nil)) fun x48 => ?_
  refine WL.nm (H' := _ :: _ :: _ :: pt _ _ [_, _, _, _, _, _] :: _ :: _ :: _ :: _ :: _) rfl ?_
  refine WL.p rfl rfl rfl (PV.bld bt194 rfl rfl) ?_
  refine WL.putX rfl rfl rfl (OpX.call cb247 (c247 (by first | omega | (simp only [List.length_append, List.length_cons, List.length_nil]; omega) | assumption) (by first | omega | (simp only [List.length_append, List.length_cons, List.length_nil]; omega) | assumption) (by first | omega | (simp only [List.length_append, List.length_cons, List.length_nil]; omega) | assumption)) rfl (.cons (i := 3) rfl (.cons (i := 3) rfl (.cons (i := 4) rfl (.cons (i := 4) rfl (.cons (i := 0) rfl .nil)))))) fun x50 => ?_
  refine WL.nm (H' := pt _ _ [_, _, _, _, _, _] :: _ :: _ :: _ :: _ :: _ :: _ :: _) rfl ?_
  refine WL.p rfl rfl rfl (PV.as rfl) ?_
  refine WL.next [(6, _)] ⟨rfl, trivial⟩ ?_
  refine W.ret ?_
  rotate_left
  · have e : D.append s b = (1, D) := by
      simp at h0; simp [DM.append, h0]
    rw [e]
    refine K.fin (vs := [_]) () ⟨rfl, trivial⟩ rfl (Ent.fold (f := dskF g D) (r1, r2, p) ?_)
    refine Ent.take 0 rfl ?_
    refine Ent.take 0 rfl ?_
    refine Ent.take 0 rfl ?_
    refine Ent.keep 0 rfl (sl_pers _ _ _) ?_
    refine Ent.take 1 rfl ?_
    refine Ent.keep 1 rfl (sl_pers _ _ _) ?_
    exact Ent.tail (Ent.tail (Ent.refl _))
  · have e : D.append s b = (6, D) := by
      simp at h0; simp [DM.append, h0, h1]
    rw [e]
    refine K.fin (vs := [_]) () ⟨rfl, trivial⟩ rfl (Ent.fold (f := dskF g D) (r1, r2, p) ?_)
    refine Ent.take 0 rfl ?_
    refine Ent.take 0 rfl ?_
    refine Ent.take 0 rfl ?_
    refine Ent.keep 0 rfl (sl_pers _ _ _) ?_
    refine Ent.take 1 rfl ?_
    refine Ent.keep 1 rfl (sl_pers _ _ _) ?_
    exact Ent.tail (Ent.tail (Ent.refl _))
  · have e : D.append s b = (5, D) := by
      simp at h0 h2; have h3' : 16 ≤ D.now.length := by omega
      simp [DM.append, h0, h1, h2, h3']
    rw [e]
    refine K.fin (vs := [_]) () ⟨rfl, trivial⟩ rfl (Ent.fold (f := dskF g D) (r1, r2, p) ?_)
    refine Ent.take 0 rfl ?_
    refine Ent.take 0 rfl ?_
    refine Ent.take 0 rfl ?_
    refine Ent.keep 0 rfl (sl_pers _ _ _) ?_
    refine Ent.take 1 rfl ?_
    refine Ent.keep 1 rfl (sl_pers _ _ _) ?_
    exact Ent.tail (Ent.tail (Ent.refl _))
  · have e : D.append s b = (5, D) := by
      simp at h0 h2; simp [DM.append, h0, h1, h2, h4]
    rw [e]
    refine K.fin (vs := [_]) () ⟨rfl, trivial⟩ rfl (Ent.fold (f := dskF g D) (r1, r2, p) ?_)
    refine Ent.take 0 rfl ?_
    refine Ent.take 0 rfl ?_
    refine Ent.take 0 rfl ?_
    refine Ent.keep 0 rfl (sl_pers _ _ _) ?_
    refine Ent.take 1 rfl ?_
    refine Ent.keep 1 rfl (sl_pers _ _ _) ?_
    exact Ent.tail (Ent.tail (Ent.refl _))
  · have e : D.append s b = D.done ⟨0, s, [], b⟩ := append_done (by simpa using h0) h1 (by
      omega)
    rw [e]
    refine K.fin (vs := [_]) () ⟨rfl, trivial⟩ rfl (Ent.fold (f := dskF g _) (r1, r2, x50) ?_)
    unfold dskF
    rw [done_room, done_sure]
    refine Ent.take 0 rfl ?_
    refine Ent.take 0 rfl ?_
    refine Ent.take 4 rfl ?_
    refine Ent.keep 0 rfl (sl_pers _ _ _) ?_
    refine Ent.take 1 rfl ?_
    refine Ent.keep 2 rfl (sl_pers _ _ _) ?_
    exact Ent.tail (Ent.tail (Ent.tail (Ent.refl _)))
  · have e : D.append s b = (5, D) := by
      simp at h0; simp [DM.append, h0, h1, h5]
    rw [e]
    refine K.fin (vs := [_]) () ⟨rfl, trivial⟩ rfl (Ent.fold (f := dskF g D) (r1, r2, p) ?_)
    refine Ent.take 0 rfl ?_
    refine Ent.take 0 rfl ?_
    refine Ent.take 0 rfl ?_
    refine Ent.keep 0 rfl (sl_pers _ _ _) ?_
    refine Ent.take 1 rfl ?_
    refine Ent.keep 1 rfl (sl_pers _ _ _) ?_
    exact Ent.tail (Ent.tail (Ent.refl _))
  · have e : D.append s b = D.done ⟨0, s, [], b⟩ := append_done (by simpa using h0) h1 (by
      rintro (h | h)
      · simp [h.1] at h2
      · omega)
    rw [e]
    refine K.fin (vs := [_]) () ⟨rfl, trivial⟩ rfl (Ent.fold (f := dskF g _) (r1, r2, x50) ?_)
    unfold dskF
    rw [done_room, done_sure]
    refine Ent.take 0 rfl ?_
    refine Ent.take 0 rfl ?_
    refine Ent.take 4 rfl ?_
    refine Ent.keep 0 rfl (sl_pers _ _ _) ?_
    refine Ent.take 1 rfl ?_
    refine Ent.keep 2 rfl (sl_pers _ _ _) ?_
    exact Ent.tail (Ent.tail (Ent.tail (Ent.refl _)))
end Go.Sl
namespace Go.Sl
open Go Go.Proofs
set_option maxRecDepth 20000
/-- Rename. -/
def DM.rename (D : DM) (a b : Bytes) : Int × DM :=
  if dname a = false ∨ dname b = false then (1, D) else if D.down = true then (6, D) else if mget D.now a = none then (3, D) else D.done ⟨1, a, b, []⟩
theorem Ent.nilB : Ent [] [sl Kb SP.nil []] := Ent.nil_sl Kb
theorem c249 {g : Nat} {D : DM} {s t : Bytes} (hD : D.Ok) (hs : s.length < 2 ^ 40) (ht : t.length < 2 ^ 40) :
    Spec P 109 [.pointer (some ⟨g, 0, none⟩), str s, str t] [dsk g D] (fun _ : Unit => .int .i64 (D.rename s t).1) (fun _ => [dsk g (D.rename s t).2]) := by
  refine Spec.exI fun ⟨r1, r2, p⟩ => ?_
  have hf := hD.fuse; have hlo := hD.loose; have ht := hD.tot
  have hg := get_total (m := D.now) (s := s)
  refine Spec.intro Tryz.func109 rfl rfl rfl fun F => ?_
  refine W.rseq ?_
  refine WL.p rfl rfl rfl (PV.as rfl) ?_
  refine WL.next [(6, _), (0, _), (1, _), (2, _)] ⟨rfl, rfl, rfl, rfl, trivial⟩ ?_
  refine W.bseq ?_
  refine W.rseq ?_
  refine WL.p rfl rfl rfl (PV.mv rfl) ?_
  refine WL.p rfl rfl rfl (PV.eqV rfl rfl rfl (EqIs.p0 ul24)) ?_
  refine WL.p rfl rfl rfl (PV.mv rfl) ?_
  refine WL.yes (dj := 10) rfl rfl rfl rfl rfl rfl (OpD.fv (PV.fv (PV.mv rfl))) ?_
  refine WL.yesX (dj := 10) rfl rfl rfl rfl rfl rfl (OpX.call cb245 (c245 (by first | omega | (simp only [List.length_append, List.length_cons, List.length_nil, List.length_take]; omega) | assumption)) rfl .nil) fun x12 => ?_
  refine WL.nm (H' := pt _ _ [_, _, _, _, _, _] :: _ :: _ :: _ :: _ :: _) rfl ?_
  refine WL.yes (dj := 10) rfl rfl rfl rfl rfl rfl (OpD.fv (PV.fv (PV.not rfl))) ?_
  refine WL.p rfl rfl rfl (PV.pickF rfl rfl rfl) ?_
  refine WL.p rfl rfl rfl (PV.mv rfl) ?_
  refine WL.split (t := 15) rfl (fun h0 => ?_) (fun h0 => ?_)
  refine WL.no (dj := 15) rfl rfl rfl (by assumption) rfl ?_
  refine WL.no (dj := 15) rfl rfl rfl (by assumption) rfl ?_
  refine WL.no (dj := 15) rfl rfl rfl (by assumption) rfl ?_
  refine WL.p rfl rfl rfl (PV.pickT rfl (by assumption) rfl) ?_
  refine WL.p rfl rfl rfl (PV.as rfl) ?_
  refine WL.next [(7, _), (6, _), (0, _), (1, _), (2, _)] ⟨rfl, rfl, rfl, rfl, rfl, trivial⟩ ?_
  refine W.cT rfl ?_
  refine W.rseq ?_
  refine WL.p rfl rfl rfl (PV.as rfl) ?_
  refine WL.next [(6, _), (0, _), (1, _), (2, _)] ⟨rfl, rfl, rfl, rfl, trivial⟩ ?_
  refine W.ret ?_
  refine K.retB ?_
  refine K.retT ?_
  rotate_left
  refine WL.yes (dj := 15) rfl rfl rfl (by assumption) rfl rfl (OpD.fv (PV.fv (PV.mv rfl))) ?_
  refine WL.yesX (dj := 15) rfl rfl rfl (by assumption) rfl rfl (OpX.call cb245 (c245 (by first | omega | (simp only [List.length_append, List.length_cons, List.length_nil, List.length_take]; omega) | assumption)) rfl .nil) fun x17 => ?_
  refine WL.nm (H' := pt _ _ [_, _, _, _, _, _] :: _ :: _ :: _ :: _ :: _) rfl ?_
  refine WL.yes (dj := 15) rfl rfl rfl (by assumption) rfl rfl (OpD.fv (PV.fv (PV.not rfl))) ?_
  refine WL.p rfl rfl rfl (PV.pickF rfl (by assumption) rfl) ?_
  refine WL.p rfl rfl rfl (PV.as rfl) ?_
  refine WL.next [(7, _), (6, _), (0, _), (1, _), (2, _)] ⟨rfl, rfl, rfl, rfl, rfl, trivial⟩ ?_
  refine W.cond rfl (fun h1 => ?_) (fun h1 => ?_)
  refine W.rseq ?_
  refine WL.p rfl rfl rfl (PV.as rfl) ?_
  refine WL.next [(6, _), (0, _), (1, _), (2, _)] ⟨rfl, rfl, rfl, rfl, trivial⟩ ?_
  refine W.ret ?_
  refine K.retB ?_
  refine K.retT ?_
  rotate_left
  refine W.rseq ?_
  refine WL.p rfl rfl rfl (PV.mv rfl) ?_
  refine WL.p rfl rfl rfl (PV.nck rfl) ?_
  refine WL.p rfl rfl rfl (PV.fa fo175_5 rfl rfl) ?_
  refine WL.f rfl rfl rfl (FV.ld (LdD.sc 0 5 sc4 rfl rfl rfl rfl)) ?_
  refine WL.p rfl rfl rfl (PV.as rfl) ?_
  refine WL.next [(20, _), (6, _), (0, _), (1, _), (2, _)] ⟨rfl, rfl, rfl, rfl, rfl, trivial⟩ ?_
  refine W.cond rfl (fun h2 => ?_) (fun h2 => ?_)
  refine W.rseq ?_
  refine WL.p rfl rfl rfl (PV.as rfl) ?_
  refine WL.next [(6, _), (0, _), (1, _), (2, _)] ⟨rfl, rfl, rfl, rfl, trivial⟩ ?_
  refine W.ret ?_
  refine K.retB ?_
  refine K.retT ?_
  rotate_left
  refine W.rseq ?_
  refine WL.p rfl rfl rfl (PV.mv rfl) ?_
  refine WL.p rfl rfl rfl (PV.mv rfl) ?_
  refine WL.putX rfl rfl rfl (OpX.call cb246 (c246) rfl (.cons (i := 0) rfl (.cons (i := 0) rfl .nil))) fun x28 => ?_
  refine WL.nm (H' := pt _ _ [_, _, _, _, _, _] :: _ :: _ :: _ :: _ :: _) rfl ?_
  refine WL.p rfl rfl rfl (PV.not rfl) ?_
  refine WL.p rfl rfl rfl (PV.as rfl) ?_
  refine WL.next [(25, _), (6, _), (0, _), (1, _), (2, _)] ⟨rfl, rfl, rfl, rfl, rfl, trivial⟩ ?_
  refine W.cond rfl (fun h3 => ?_) (fun h3 => ?_)
  refine W.rseq ?_
  refine WL.p rfl rfl rfl (PV.as rfl) ?_
  refine WL.next [(6, _), (0, _), (1, _), (2, _)] ⟨rfl, rfl, rfl, rfl, trivial⟩ ?_
  refine W.ret ?_
  refine K.retB ?_
  refine K.retT ?_
  rotate_left
  refine W.skip ?_
  refine K.out ?_
  refine K.next [(6, _), (0, _), (1, _), (2, _)] ⟨rfl, rfl, rfl, rfl, trivial⟩ ?_
  refine W.rseq ?_
  refine WL.p rfl rfl rfl (PV.mv rfl) ?_
  refine WL.p rfl rfl rfl (PV.mv rfl) ?_
  refine WL.p rfl rfl rfl (PV.mv rfl) ?_
  refine WL.p rfl rfl rfl (PV.bld (cs := [_, _, _, _]) bt194 rfl rfl) ?_
  refine WL.putX rfl rfl rfl (OpX.call cb247 (c247n (by first | omega | (simp only [List.length_append, List.length_cons, List.length_nil, List.length_take]; omega) | assumption) (by first | omega | (simp only [List.length_append, List.length_cons, List.length_nil, List.length_take]; omega) | assumption) (by first | omega | (simp only [List.length_append, List.length_cons, List.length_nil, List.length_take]; omega) | assumption)) rfl (.cons (i := 0) rfl (.cons (i := 0) rfl (.cons (i := 1) rfl (.cons (i := 1) rfl .nil))))) fun x34 => ?_
  refine WL.nm (H' := pt _ _ [_, _, _, _, _, _] :: _ :: _ :: _ :: _ :: _) rfl ?_
  refine WL.p rfl rfl rfl (PV.as rfl) ?_
  refine WL.next [(6, _)] ⟨rfl, trivial⟩ ?_
  refine W.ret ?_
  rotate_left
  · have e : D.rename s t = (1, D) := by
      simp at h0; simp [DM.rename, h0]
    rw [e]
    refine K.fin (vs := [_]) () ⟨rfl, trivial⟩ rfl (Ent.fold (f := dskF g D) (r1, r2, p) ?_)
    refine Ent.take 0 rfl ?_
    refine Ent.take 0 rfl ?_
    refine Ent.take 0 rfl ?_
    refine Ent.keep 0 rfl (sl_pers _ _ _) ?_
    refine Ent.take 1 rfl ?_
    exact Ent.tail (Ent.refl _)
  · have e : D.rename s t = (1, D) := by
      simp at h1; simp [DM.rename, h1]
    rw [e]
    refine K.fin (vs := [_]) () ⟨rfl, trivial⟩ rfl (Ent.fold (f := dskF g D) (r1, r2, p) ?_)
    refine Ent.take 0 rfl ?_
    refine Ent.take 0 rfl ?_
    refine Ent.take 0 rfl ?_
    refine Ent.keep 0 rfl (sl_pers _ _ _) ?_
    refine Ent.take 1 rfl ?_
    exact Ent.tail (Ent.refl _)
  · have e : D.rename s t = (6, D) := by
      simp at h0 h1; simp [DM.rename, h0, h1, h2]
    rw [e]
    refine K.fin (vs := [_]) () ⟨rfl, trivial⟩ rfl (Ent.fold (f := dskF g D) (r1, r2, p) ?_)
    refine Ent.take 0 rfl ?_
    refine Ent.take 0 rfl ?_
    refine Ent.take 0 rfl ?_
    refine Ent.keep 0 rfl (sl_pers _ _ _) ?_
    refine Ent.take 1 rfl ?_
    exact Ent.tail (Ent.refl _)
  · have e : D.rename s t = (3, D) := by
      simp at h0 h1 h3; simp [DM.rename, h0, h1, h2, h3]
    rw [e]
    refine K.fin (vs := [_]) () ⟨rfl, trivial⟩ rfl (Ent.fold (f := dskF g D) (r1, r2, p) ?_)
    refine Ent.take 0 rfl ?_
    refine Ent.take 0 rfl ?_
    refine Ent.take 0 rfl ?_
    refine Ent.keep 0 rfl (sl_pers _ _ _) ?_
    refine Ent.take 1 rfl ?_
    exact Ent.tail (Ent.refl _)
  · have e : D.rename s t = D.done ⟨1, s, t, []⟩ := by
      simp at h0 h1
      have h3' : mget D.now s ≠ none := by intro h; rw [h] at h3; simp at h3
      simp [DM.rename, h0, h1, h2, h3']
    rw [e]
    refine K.fin (vs := [_]) () ⟨rfl, trivial⟩ rfl (Ent.fold (f := dskF g _) (r1, r2, x34) ?_)
    unfold dskF
    rw [done_room, done_sure]
    refine Ent.take 0 rfl ?_
    refine Ent.take 0 rfl ?_
    refine Ent.take 2 rfl ?_
    refine Ent.keep 0 rfl (sl_pers _ _ _) ?_
    refine Ent.take 1 rfl ?_
    exact Ent.tail (Ent.refl _)
/-- Remove. -/
def DM.remove (D : DM) (s : Bytes) : Int × DM :=
  if dname s = false then (1, D) else if D.down = true then (6, D) else if mget D.now s = none then (3, D) else D.done ⟨2, s, [], []⟩
theorem c175 {g : Nat} {D : DM} {s : Bytes} (hD : D.Ok) (hs : s.length < 2 ^ 40) :
    Spec P 74 [.pointer (some ⟨g, 0, none⟩), str s] [dsk g D] (fun _ : Unit => .int .i64 (D.remove s).1) (fun _ => [dsk g (D.remove s).2]) := by
  refine Spec.exI fun ⟨r1, r2, p⟩ => ?_
  have hf := hD.fuse; have hlo := hD.loose; have ht := hD.tot
  have hg := get_total (m := D.now) (s := s)
  refine Spec.intro Tryz.func74 rfl rfl rfl fun F => ?_
  refine W.rseq ?_
  refine WL.p rfl rfl rfl (PV.as rfl) ?_
  refine WL.next [(4, _), (0, _), (1, _)] ⟨rfl, rfl, rfl, trivial⟩ ?_
  refine W.bseq ?_
  refine W.rseq ?_
  refine WL.p rfl rfl rfl (PV.mv rfl) ?_
  refine WL.p rfl rfl rfl (PV.eqV rfl rfl rfl (EqIs.p0 ul24)) ?_
  refine WL.p rfl rfl rfl (PV.mv rfl) ?_
  refine WL.yes (dj := 8) rfl rfl rfl rfl rfl rfl (OpD.fv (PV.fv (PV.mv rfl))) ?_
  refine WL.yesX (dj := 8) rfl rfl rfl rfl rfl rfl (OpX.call cb245 (c245 (by first | omega | (simp only [List.length_append, List.length_cons, List.length_nil, List.length_take]; omega) | assumption)) rfl .nil) fun x10 => ?_
  refine WL.nm (H' := pt _ _ [_, _, _, _, _, _] :: _ :: _ :: _ :: _ :: _) rfl ?_
  refine WL.yes (dj := 8) rfl rfl rfl rfl rfl rfl (OpD.fv (PV.fv (PV.not rfl))) ?_
  refine WL.p rfl rfl rfl (PV.pickF rfl rfl rfl) ?_
  refine WL.p rfl rfl rfl (PV.as rfl) ?_
  refine WL.next [(5, _), (4, _), (0, _), (1, _)] ⟨rfl, rfl, rfl, rfl, trivial⟩ ?_
  refine W.cond rfl (fun h0 => ?_) (fun h0 => ?_)
  refine W.rseq ?_
  refine WL.p rfl rfl rfl (PV.as rfl) ?_
  refine WL.next [(4, _), (0, _), (1, _)] ⟨rfl, rfl, rfl, trivial⟩ ?_
  refine W.ret ?_
  refine K.retB ?_
  refine K.retT ?_
  rotate_left
  refine W.rseq ?_
  refine WL.p rfl rfl rfl (PV.mv rfl) ?_
  refine WL.p rfl rfl rfl (PV.nck rfl) ?_
  refine WL.p rfl rfl rfl (PV.fa fo175_5 rfl rfl) ?_
  refine WL.f rfl rfl rfl (FV.ld (LdD.sc 0 5 sc4 rfl rfl rfl rfl)) ?_
  refine WL.p rfl rfl rfl (PV.as rfl) ?_
  refine WL.next [(13, _), (4, _), (0, _), (1, _)] ⟨rfl, rfl, rfl, rfl, trivial⟩ ?_
  refine W.cond rfl (fun h1 => ?_) (fun h1 => ?_)
  refine W.rseq ?_
  refine WL.p rfl rfl rfl (PV.as rfl) ?_
  refine WL.next [(4, _), (0, _), (1, _)] ⟨rfl, rfl, rfl, trivial⟩ ?_
  refine W.ret ?_
  refine K.retB ?_
  refine K.retT ?_
  rotate_left
  refine W.rseq ?_
  refine WL.p rfl rfl rfl (PV.mv rfl) ?_
  refine WL.p rfl rfl rfl (PV.mv rfl) ?_
  refine WL.putX rfl rfl rfl (OpX.call cb246 (c246) rfl (.cons (i := 0) rfl (.cons (i := 0) rfl .nil))) fun x21 => ?_
  refine WL.nm (H' := pt _ _ [_, _, _, _, _, _] :: _ :: _ :: _ :: _ :: _) rfl ?_
  refine WL.p rfl rfl rfl (PV.not rfl) ?_
  refine WL.p rfl rfl rfl (PV.as rfl) ?_
  refine WL.next [(18, _), (4, _), (0, _), (1, _)] ⟨rfl, rfl, rfl, rfl, trivial⟩ ?_
  refine W.cond rfl (fun h2 => ?_) (fun h2 => ?_)
  refine W.rseq ?_
  refine WL.p rfl rfl rfl (PV.as rfl) ?_
  refine WL.next [(4, _), (0, _), (1, _)] ⟨rfl, rfl, rfl, trivial⟩ ?_
  refine W.ret ?_
  refine K.retB ?_
  refine K.retT ?_
  rotate_left
  refine W.skip ?_
  refine K.out ?_
  refine K.next [(4, _), (0, _), (1, _)] ⟨rfl, rfl, rfl, trivial⟩ ?_
  refine W.rseq ?_
  refine WL.p rfl rfl rfl (PV.mv rfl) ?_
  refine WL.p rfl rfl rfl (PV.mv rfl) ?_
  refine WL.p rfl rfl rfl (PV.bld (cs := [_, _, _, _]) bt194 rfl rfl) ?_
  refine WL.putX rfl rfl rfl (OpX.call cb247 (c247n (by first | omega | (simp only [List.length_append, List.length_cons, List.length_nil, List.length_take]; omega) | assumption) (by first | omega | (simp only [List.length_append, List.length_cons, List.length_nil, List.length_take]; omega) | assumption) (by first | omega | (simp only [List.length_append, List.length_cons, List.length_nil, List.length_take]; omega) | assumption)) rfl (.cons (i := 0) rfl (.cons (i := 0) rfl (.cons (i := 1) rfl (.cons (i := 1) rfl .nil))))) fun x26 => ?_
  refine WL.nm (H' := pt _ _ [_, _, _, _, _, _] :: _ :: _ :: _ :: _ :: _) rfl ?_
  refine WL.p rfl rfl rfl (PV.as rfl) ?_
  refine WL.next [(4, _)] ⟨rfl, trivial⟩ ?_
  refine W.ret ?_
  rotate_left
  · have e : D.remove s = (1, D) := by
      simp at h0; simp [DM.remove, h0]
    rw [e]
    refine K.fin (vs := [_]) () ⟨rfl, trivial⟩ rfl (Ent.fold (f := dskF g D) (r1, r2, p) ?_)
    refine Ent.take 0 rfl ?_
    refine Ent.take 0 rfl ?_
    refine Ent.take 0 rfl ?_
    refine Ent.keep 0 rfl (sl_pers _ _ _) ?_
    refine Ent.take 1 rfl ?_
    exact Ent.tail (Ent.refl _)
  · have e : D.remove s = (6, D) := by
      simp at h0; simp [DM.remove, h0, h1]
    rw [e]
    refine K.fin (vs := [_]) () ⟨rfl, trivial⟩ rfl (Ent.fold (f := dskF g D) (r1, r2, p) ?_)
    refine Ent.take 0 rfl ?_
    refine Ent.take 0 rfl ?_
    refine Ent.take 0 rfl ?_
    refine Ent.keep 0 rfl (sl_pers _ _ _) ?_
    refine Ent.take 1 rfl ?_
    exact Ent.tail (Ent.refl _)
  · have e : D.remove s = (3, D) := by
      simp at h0 h2; simp [DM.remove, h0, h1, h2]
    rw [e]
    refine K.fin (vs := [_]) () ⟨rfl, trivial⟩ rfl (Ent.fold (f := dskF g D) (r1, r2, p) ?_)
    refine Ent.take 0 rfl ?_
    refine Ent.take 0 rfl ?_
    refine Ent.take 0 rfl ?_
    refine Ent.keep 0 rfl (sl_pers _ _ _) ?_
    refine Ent.take 1 rfl ?_
    exact Ent.tail (Ent.refl _)
  · have e : D.remove s = D.done ⟨2, s, [], []⟩ := by
      simp at h0
      have h3' : mget D.now s ≠ none := by intro h; rw [h] at h2; simp at h2
      simp [DM.remove, h0, h1, h3']
    rw [e]
    refine K.fin (vs := [_]) () ⟨rfl, trivial⟩ rfl (Ent.fold (f := dskF g _) (r1, r2, x26) ?_)
    unfold dskF
    rw [done_room, done_sure]
    refine Ent.take 0 rfl ?_
    refine Ent.take 0 rfl ?_
    refine Ent.take 2 rfl ?_
    refine Ent.keep 0 rfl (sl_pers _ _ _) ?_
    refine Ent.take 1 rfl ?_
    exact Ent.tail (Ent.refl _)
theorem mset_new {m : List (Bytes × Bytes)} {k a : Bytes} (h : k ∉ m.map (·.1)) : mset m k a = m ++ [(k, a)] := by
  induction m with
  | nil => rfl
  | cons x m ih =>
    simp only [List.map_cons, List.mem_cons, not_or] at h
    unfold mset
    rw [if_neg (by simpa using fun e => h.1 e.symm), ih h.2]; rfl
/-- copied. -/
theorem c117 {r : Nat} {m : List (Bytes × Bytes)} (hm : total m ≤ 2 ^ 46) : Spec P 60 [.map (some r)] [fs r m] (fun r' : Nat => .map (some r')) (fun r' => [fs r m, fs r' m]) := by
  refine Spec.intro Tryz.func60 rfl rfl rfl fun F => ?_
  refine W.ex 0 rfl fun m1 => ?_
  refine W.pr 0 rfl fun hm1 => ?_
  refine W.nm (H' := mp kvS (Ksl Kb) r m1 :: _) rfl ?_
  refine W.rseq ?_
  refine WL.p rfl rfl rfl (PV.as rfl) ?_
  refine WL.next [(2, _), (0, _)] ⟨rfl, rfl, trivial⟩ ?_
  refine W.rseq ?_
  refine WL.putX rfl rfl rfl (OpX.mkM (kv := kvS) (K := (Ksl Kb))) fun x6 => ?_
  refine WL.nm (H' := _ :: _ :: _) rfl ?_
  refine WL.p rfl rfl rfl (PV.as rfl) ?_
  refine WL.next [(3, _), (2, _), (0, _)] ⟨rfl, rfl, rfl, trivial⟩ ?_
  refine W.seq ?_
  refine W.rseq ?_
  refine WL.p rfl rfl rfl (PV.mv rfl) ?_
  refine WL.putX rfl rfl rfl (OpX.rng 1 ul172 rfl rfl) fun x8 => ?_
  refine WL.nm (H' := _ :: _ :: _) rfl ?_
  refine WL.next [(8, _), (3, _), (2, _)] ⟨rfl, rfl, rfl, trivial⟩ ?_
  refine W.block ?_
  rotate_left
  refine W.loopP (X := List (Bytes × Bytes) × List (Bytes × Bytes) × Option (Bytes × Bytes)) (fun x => (x.1 ++ x.2.1).Perm m1) (fun x => [(8, .pointer (some ⟨x8, 0, none⟩)), (3, .map (some x6))])
    (fun x => mi kvS (Ksl Kb) r x8 m1 x.2.1 x.2.2 :: mp kvS (Ksl Kb) x6 x.1 :: F) (fun x => x.2.1.length) ([], m1, none) (List.Perm.refl _)
    ⟨rfl, rfl, trivial⟩ (Ent.refl _) fun ⟨done, todo, cur⟩ hI => ?_
  cases todo with
  | nil =>
    refine W.nm (H' := mi _ _ _ _ _ [] _ :: mp _ _ _ _ :: _) rfl ?_
    refine W.rseq ?_
    refine WL.f rfl rfl rfl (FV.nx0 0 rfl rfl) ?_
    refine WL.p rfl rfl rfl (PV.ext0 rfl) ?_
    refine WL.next [(10, _), (8, _), (3, _)] ⟨rfl, rfl, rfl, trivial⟩ ?_
    refine W.seq ?_
    refine W.cF rfl ?_
    refine W.exit ?_
    refine K.exitT ?_
    refine K.exitT ?_
    refine K.exit ?_
    refine K.next [(3, _)] ⟨rfl, trivial⟩ ?_
    refine W.rseq ?_
    refine WL.p rfl rfl rfl (PV.mv rfl) ?_
    refine WL.p rfl rfl rfl (PV.as rfl) ?_
    refine WL.next [(2, _)] ⟨rfl, trivial⟩ ?_
    refine W.ret ?_
    rotate_left
    have hd : done.Perm m1 := by simpa using hI
    refine K.fin (vs := [_]) x6 ⟨rfl, trivial⟩ rfl ?_
    refine Ent.app (.cons (i := 0) rfl .nil) Ent.mi ?_
    refine Ent.fold m1 (Ent.pr hm1 (Ent.take 0 rfl (Ent.fold done (Ent.pr ⟨hd.trans hm1.1, Nk.perm hm1.2 hd.symm⟩ ?_))))
    refine Ent.take 0 rfl ?_
    exact Ent.refl _
  | cons y ys =>
    have hne : y :: ys ≠ [] := by simp
    refine W.nm (H' := mi _ _ _ _ _ (y :: ys) _ :: mp _ _ _ _ :: _) rfl ?_
    have hlen : ∀ k a t', (y :: ys).Perm ((k, a) :: t') → a.length ≤ 2 ^ 46 := by
      intro k a t' hp
      have h1 := total_perm (((hp.append_left done).symm.trans hI).trans hm1.1)
      rw [total_app] at h1
      simp only [total, List.map_cons, List.sum_cons] at h1 hm
      omega
    refine W.rseq ?_
    refine WL.putX rfl rfl rfl (OpX.nxS 0 rfl rfl (by assumption)) fun x9 => ?_
    refine WL.nm (H' := _ :: _ :: _) rfl ?_
    refine WL.p rfl rfl rfl (PV.ext0 rfl) ?_
    refine WL.next [(10, _), (8, _), (3, _)] ⟨rfl, rfl, rfl, trivial⟩ ?_
    refine W.seq ?_
    refine W.cT rfl ?_
    refine W.skip ?_
    refine K.next [(8, _), (3, _)] ⟨rfl, rfl, trivial⟩ ?_
    refine W.block ?_
    refine W.rseq ?_
    refine WL.putX rfl rfl rfl (OpX.ent 0 rfl rfl) fun x11 => ?_
    refine WL.nm (H' := _ :: _ :: _ :: _) rfl ?_
    refine WL.p rfl rfl rfl (PV.ext0 rfl) ?_
    refine WL.p rfl rfl rfl (PV.ext1 rfl) ?_
    refine WL.p rfl rfl rfl (PV.as rfl) ?_
    refine WL.p rfl rfl rfl (PV.as rfl) ?_
    refine WL.next [(5, _), (4, _), (8, _), (3, _)] ⟨rfl, rfl, rfl, rfl, trivial⟩ ?_
    refine W.region ?_
    refine WL.p rfl rfl rfl (PV.mv rfl) ?_
    refine WL.p rfl rfl rfl (PV.mv rfl) ?_
    refine WL.p rfl rfl rfl (PV.mv rfl) ?_
    rotate_left
    have hl := hlen _ _ _ x9.2
    refine WL.putX rfl rfl rfl (OpX.call cb179 (c179 (by first | omega | (simp only [List.length_append, List.length_cons, List.length_nil, List.length_take]; omega) | assumption)) rfl (.cons (i := 0) rfl .nil)) fun x17 => ?_
    refine WL.nm (H' := _ :: _ :: _ :: _ :: _ :: _) rfl ?_
    refine WL.done rfl rfl (OpD.upM (ins := false) (K := (Ksl Kb)) 4 ul172 ks9 rfl rfl rfl rfl (fun _ h => by first | (simp [innerL, Kb, Kint, Kstr, Kbool] at h; done) | (simp [innerL, Ksl, Kwr, Kmsg] at h; rcases h with h | h | h <;> subst h <;> simp [Sl.rem]) | (simp [innerL, Ksl, Kwr] at h; subst h; simp [Sl.rem]))) ?_
    refine WL.nm (H' := _ :: _ :: _ :: _ :: _ :: _) rfl ?_
    refine WL.nil ?_
    refine K.out ?_
    rotate_left
    obtain ⟨⟨⟨k, a, t'⟩, q⟩, hp⟩ := x9
    have hI' : (done ++ [(k, a)] ++ t').Perm m1 := by
      refine List.Perm.trans ?_ hI
      rw [List.append_assoc]
      exact (hp.symm).append_left done
    have hk : k ∉ done.map (·.1) := by
      have h1 := Nk.perm (m := m1) hm1.2 hI'.symm
      unfold Nk at h1
      rw [List.map_append, List.map_append] at h1
      have h2 := (List.nodup_append.1 (List.nodup_append.1 h1).1).2.2
      intro hc
      exact h2 k hc k (by simp) rfl
    have e := mset_new (m := done) (a := a) hk
    refine K.againP (done ++ [(k, a)], t', some (k, a)) hI' (by have := hp.length_eq; simp at this ⊢; omega) ⟨rfl, rfl, trivial⟩ ?_
    rw [← e]
    refine Ent.take 3 rfl ?_
    refine Ent.take 3 rfl ?_
    exact Ent.tail (Ent.tail (Ent.tail (Ent.refl _)))
end Go.Sl
namespace Go.Sl
open Go Go.Proofs
set_option maxRecDepth 20000
/-- Sync. -/
def DM.sync (D : DM) : Int × DM :=
  if (burnF D.fuse D.down).1 then (0, { D with sure := D.now, loose := [], fuse := (burnF D.fuse D.down).2.1, down := (burnF D.fuse D.down).2.2 })
  else (6, { D with fuse := (burnF D.fuse D.down).2.1, down := (burnF D.fuse D.down).2.2 })
theorem c193 {g : Nat} {D : DM} (hD : D.Ok) :
    Spec P 108 [.pointer (some ⟨g, 0, none⟩)] [dsk g D] (fun _ : Unit => .int .i64 (D.sync).1) (fun _ => [dsk g (D.sync).2]) := by
  refine Spec.exI fun ⟨r1, r2, p⟩ => ?_
  have hf := hD.fuse; have hlo := hD.loose; have ht := hD.tot
  refine Spec.intro Tryz.func108 rfl rfl rfl fun F => ?_
  refine W.rseq ?_
  refine WL.p rfl rfl rfl (PV.as rfl) ?_
  refine WL.next [(2, _), (0, _)] ⟨rfl, rfl, trivial⟩ ?_
  refine W.seq ?_
  refine W.rseq ?_
  refine WL.p rfl rfl rfl (PV.mv rfl) ?_
  refine WL.p rfl rfl rfl (PV.eqV rfl rfl rfl (EqIs.p0 ul24)) ?_
  refine WL.next [(4, _), (2, _), (0, _)] ⟨rfl, rfl, rfl, trivial⟩ ?_
  refine W.cF rfl ?_
  refine W.skip ?_
  refine K.next [(2, _), (0, _)] ⟨rfl, rfl, trivial⟩ ?_
  refine W.seq ?_
  refine W.rseq ?_
  refine WL.p rfl rfl rfl (PV.mv rfl) ?_
  refine WL.putX rfl rfl rfl (OpX.call cb264 (c264 (by first | omega | (simp only [List.length_append, List.length_cons, List.length_nil, List.length_take]; omega) | assumption)) rfl (.cons (i := 0) rfl .nil)) fun x6 => ?_
  refine WL.nm (H' := pt _ _ [_, _, _, _, _, _] :: _ :: _ :: _ :: _ :: _) rfl ?_
  refine WL.p rfl rfl rfl (PV.not rfl) ?_
  refine WL.next [(7, _), (2, _), (0, _)] ⟨rfl, rfl, rfl, trivial⟩ ?_
  refine W.cond rfl (fun h0 => ?_) (fun h0 => ?_)
  refine W.rseq ?_
  refine WL.p rfl rfl rfl (PV.as rfl) ?_
  refine WL.next [(2, _), (0, _)] ⟨rfl, rfl, trivial⟩ ?_
  refine W.ret ?_
  refine K.retT ?_
  rotate_left
  refine W.skip ?_
  refine K.next [(2, _), (0, _)] ⟨rfl, rfl, trivial⟩ ?_
  refine W.rseq ?_
  refine WL.p rfl rfl rfl (PV.mv rfl) ?_
  refine WL.p rfl rfl rfl (PV.mv rfl) ?_
  refine WL.p rfl rfl rfl (PV.mv rfl) ?_
  refine WL.p rfl rfl rfl (PV.nck rfl) ?_
  refine WL.p rfl rfl rfl (PV.fa fo175_0 rfl rfl) ?_
  refine WL.f rfl rfl rfl (FV.ld (LdD.sc 0 0 sc172 rfl rfl rfl rfl)) ?_
  refine WL.putX rfl rfl rfl (OpX.call cb117 (c117 (by first | omega | (simp only [List.length_append, List.length_cons, List.length_nil, List.length_take]; omega) | assumption)) rfl (.cons (i := 1) rfl .nil)) fun x14 => ?_
  refine WL.nm (H' := _ :: _ :: pt _ _ [_, _, _, _, _, _] :: _ :: _ :: _ :: _) rfl ?_
  refine WL.p rfl rfl rfl (PV.nck rfl) ?_
  refine WL.p rfl rfl rfl (PV.fa fo175_1 rfl rfl) ?_
  refine WL.done rfl rfl (OpD.st 2 1 sz172 rfl rfl rfl rfl rfl rfl (NA.one (NA.map _))) ?_
  refine WL.nm (H' := _ :: _ :: pt _ _ [_, _, _, _, _, _] :: _ :: _ :: _ :: _) rfl ?_
  refine WL.p rfl rfl rfl (PV.nck rfl) ?_
  refine WL.p rfl rfl rfl (PV.fa fo175_2 rfl rfl) ?_
  refine WL.done rfl rfl (OpD.st 2 2 sz173 rfl rfl rfl rfl rfl rfl (NA.one (NA.sl _ _ _))) ?_
  refine WL.nm (H' := _ :: _ :: pt _ _ [_, _, _, _, _, _] :: _ :: _ :: _ :: _) rfl ?_
  refine WL.next [(2, _)] ⟨rfl, trivial⟩ ?_
  refine W.rseq ?_
  refine WL.p rfl rfl rfl (PV.as rfl) ?_
  refine WL.next [(2, _)] ⟨rfl, trivial⟩ ?_
  refine W.ret ?_
  rotate_left
  · have e : D.sync = (6, { D with fuse := (burnF D.fuse D.down).2.1, down := (burnF D.fuse D.down).2.2 }) := by simp at h0; simp [DM.sync, h0]
    rw [e]
    refine K.fin (vs := [_]) () ⟨rfl, trivial⟩ rfl (Ent.fold (f := dskF g _) (r1, r2, p) ?_)
    refine Ent.take 0 rfl ?_
    refine Ent.take 0 rfl ?_
    refine Ent.take 0 rfl ?_
    refine Ent.keep 0 rfl (sl_pers _ _ _) ?_
    refine Ent.take 1 rfl ?_
    exact Ent.tail (Ent.refl _)
  · have e : D.sync = (0, { D with sure := D.now, loose := [], fuse := (burnF D.fuse D.down).2.1, down := (burnF D.fuse D.down).2.2 }) := by simp at h0; simp [DM.sync, h0]
    rw [e]
    refine K.fin (vs := [_]) () ⟨rfl, trivial⟩ rfl (Ent.fold (f := dskF g _) (r1, x14, SP.nil) ?_)
    refine Ent.take 2 rfl ?_
    refine Ent.take 0 rfl ?_
    refine Ent.take 0 rfl ?_
    refine Ent.add (Ent.nil_sl _) (Ent.take 0 rfl ?_)
    refine Ent.add (Ent.nil_tl _) (Ent.take 0 rfl ?_)
    exact Ent.tail (Ent.tail (Ent.tail (Ent.refl _)))
/-- Read. -/
def DM.read (D : DM) (s : Bytes) : Bytes × Int :=
  if dname s = false then ([], 1) else if D.down = true then ([], 6) else match mget D.now s with | none => ([], 3) | some b => (b, 0)
theorem c176 {g : Nat} {D : DM} {s : Bytes} (hD : D.Ok) (hs : s.length < 2 ^ 40) :
    Spec P 75 [.pointer (some ⟨g, 0, none⟩), str s] [dsk g D] (fun q : SP => .tuple #[q.v (D.read s).1.length, .int .i64 (D.read s).2]) (fun q => [dsk g D, sl Kb q (D.read s).1]) := by
  refine Spec.exI fun ⟨r1, r2, p⟩ => ?_
  have hf := hD.fuse; have hlo := hD.loose; have ht := hD.tot
  refine Spec.intro Tryz.func75 rfl rfl rfl fun F => ?_
  refine W.rseq ?_
  refine WL.p rfl rfl rfl (PV.as rfl) ?_
  refine WL.p rfl rfl rfl (PV.as rfl) ?_
  refine WL.next [(5, _), (4, _), (0, _), (1, _)] ⟨rfl, rfl, rfl, rfl, trivial⟩ ?_
  refine W.bseq ?_
  refine W.rseq ?_
  refine WL.p rfl rfl rfl (PV.mv rfl) ?_
  refine WL.p rfl rfl rfl (PV.eqV rfl rfl rfl (EqIs.p0 ul24)) ?_
  refine WL.p rfl rfl rfl (PV.mv rfl) ?_
  refine WL.yes (dj := 9) rfl rfl rfl rfl rfl rfl (OpD.fv (PV.fv (PV.mv rfl))) ?_
  refine WL.yesX (dj := 9) rfl rfl rfl rfl rfl rfl (OpX.call cb245 (c245 (by first | omega | (simp only [List.length_append, List.length_cons, List.length_nil, List.length_take]; omega) | assumption)) rfl .nil) fun x11 => ?_
  refine WL.nm (H' := pt _ _ [_, _, _, _, _, _] :: _ :: _ :: _ :: _ :: _) rfl ?_
  refine WL.yes (dj := 9) rfl rfl rfl rfl rfl rfl (OpD.fv (PV.fv (PV.not rfl))) ?_
  refine WL.p rfl rfl rfl (PV.pickF rfl rfl rfl) ?_
  refine WL.p rfl rfl rfl (PV.as rfl) ?_
  refine WL.next [(6, _), (5, _), (4, _), (0, _), (1, _)] ⟨rfl, rfl, rfl, rfl, rfl, trivial⟩ ?_
  refine W.cond rfl (fun h0 => ?_) (fun h0 => ?_)
  refine W.rseq ?_
  refine WL.p rfl rfl rfl (PV.as rfl) ?_
  refine WL.p rfl rfl rfl (PV.as rfl) ?_
  refine WL.next [(5, _), (4, _), (0, _), (1, _)] ⟨rfl, rfl, rfl, rfl, trivial⟩ ?_
  refine W.ret ?_
  refine K.retB ?_
  refine K.retT ?_
  rotate_left
  refine W.rseq ?_
  refine WL.p rfl rfl rfl (PV.mv rfl) ?_
  refine WL.p rfl rfl rfl (PV.nck rfl) ?_
  refine WL.p rfl rfl rfl (PV.fa fo175_5 rfl rfl) ?_
  refine WL.f rfl rfl rfl (FV.ld (LdD.sc 0 5 sc4 rfl rfl rfl rfl)) ?_
  refine WL.p rfl rfl rfl (PV.as rfl) ?_
  refine WL.next [(14, _), (5, _), (4, _), (0, _), (1, _)] ⟨rfl, rfl, rfl, rfl, rfl, trivial⟩ ?_
  refine W.cond rfl (fun h1 => ?_) (fun h1 => ?_)
  refine W.rseq ?_
  refine WL.p rfl rfl rfl (PV.as rfl) ?_
  refine WL.p rfl rfl rfl (PV.as rfl) ?_
  refine WL.next [(5, _), (4, _), (0, _), (1, _)] ⟨rfl, rfl, rfl, rfl, trivial⟩ ?_
  refine W.ret ?_
  refine K.retB ?_
  refine K.retT ?_
  rotate_left
  refine W.rseq ?_
  refine WL.p rfl rfl rfl (PV.mv rfl) ?_
  refine WL.p rfl rfl rfl (PV.mv rfl) ?_
  refine WL.putX rfl rfl rfl (OpX.call cb246 (c246) rfl (.cons (i := 0) rfl (.cons (i := 0) rfl .nil))) fun x22 => ?_
  refine WL.nm (H' := pt _ _ [_, _, _, _, _, _] :: _ :: _ :: _ :: _ :: _) rfl ?_
  refine WL.p rfl rfl rfl (PV.not rfl) ?_
  refine WL.p rfl rfl rfl (PV.as rfl) ?_
  refine WL.next [(19, _), (5, _), (4, _), (0, _), (1, _)] ⟨rfl, rfl, rfl, rfl, rfl, trivial⟩ ?_
  refine W.cond rfl (fun h2 => ?_) (fun h2 => ?_)
  refine W.rseq ?_
  refine WL.p rfl rfl rfl (PV.as rfl) ?_
  refine WL.p rfl rfl rfl (PV.as rfl) ?_
  refine WL.next [(5, _), (4, _), (0, _), (1, _)] ⟨rfl, rfl, rfl, rfl, trivial⟩ ?_
  refine W.ret ?_
  refine K.retB ?_
  refine K.retT ?_
  rotate_left
  refine W.skip ?_
  refine K.out ?_
  refine K.next [(5, _), (4, _), (0, _), (1, _)] ⟨rfl, rfl, rfl, rfl, trivial⟩ ?_
  refine W.rseq ?_
  refine WL.p rfl rfl rfl (PV.mv rfl) ?_
  refine WL.p rfl rfl rfl (PV.nck rfl) ?_
  refine WL.p rfl rfl rfl (PV.fa fo175_0 rfl rfl) ?_
  refine WL.f rfl rfl rfl (FV.ld (LdD.sc 0 0 sc172 rfl rfl rfl rfl)) ?_
  refine WL.p rfl rfl rfl (PV.mv rfl) ?_
  rotate_left
  · have e : D.read s = ([], 1) := by
      simp at h0; simp [DM.read, h0]
    rw [e]
    refine K.fin (vs := [_, _]) SP.nil ⟨rfl, rfl, trivial⟩ rfl (Ent.fold (f := dskF g D) (r1, r2, p) ?_)
    refine Ent.take 0 rfl ?_
    refine Ent.take 0 rfl ?_
    refine Ent.take 0 rfl ?_
    refine Ent.keep 0 rfl (sl_pers _ _ _) ?_
    refine Ent.take 1 rfl ?_
    refine Ent.add (Ent.nil_sl _) (Ent.take 0 rfl ?_)
    exact Ent.tail (Ent.refl _)
  · have e : D.read s = ([], 6) := by
      simp at h0; simp [DM.read, h0, h1]
    rw [e]
    refine K.fin (vs := [_, _]) SP.nil ⟨rfl, rfl, trivial⟩ rfl (Ent.fold (f := dskF g D) (r1, r2, p) ?_)
    refine Ent.take 0 rfl ?_
    refine Ent.take 0 rfl ?_
    refine Ent.take 0 rfl ?_
    refine Ent.keep 0 rfl (sl_pers _ _ _) ?_
    refine Ent.take 1 rfl ?_
    refine Ent.add (Ent.nil_sl _) (Ent.take 0 rfl ?_)
    exact Ent.tail (Ent.refl _)
  · have e : D.read s = ([], 3) := by
      simp at h0 h2; simp [DM.read, h0, h1, h2]
    rw [e]
    refine K.fin (vs := [_, _]) SP.nil ⟨rfl, rfl, trivial⟩ rfl (Ent.fold (f := dskF g D) (r1, r2, p) ?_)
    refine Ent.take 0 rfl ?_
    refine Ent.take 0 rfl ?_
    refine Ent.take 0 rfl ?_
    refine Ent.keep 0 rfl (sl_pers _ _ _) ?_
    refine Ent.take 1 rfl ?_
    refine Ent.add (Ent.nil_sl _) (Ent.take 0 rfl ?_)
    exact Ent.tail (Ent.refl _)
  · refine WL.ex 1 rfl fun m => ?_
    refine WL.pr 0 rfl fun hm => ?_
    refine WL.nm (H' := mp kvS (Ksl Kb) r1 m :: pt _ _ [_, _, _, _, _, _] :: _) rfl ?_
    have eg := mget_perm hm.1 hm.2 s
    have hg := get_total (m := m) (s := s)
    rw [total_perm hm.1] at hg
    refine WL.putX rfl rfl rfl (OpX.lkD (z0 := []) (q0 := SP.nil) 0 ul172 ks9 zr62 (Ent.nil_sl _) rfl rfl rfl) fun x29 => ?_
    refine WL.nm (H' := _ :: _ :: pt _ _ [_, _, _, _, _, _] :: _ :: _ :: _ :: _) rfl ?_
    refine WL.putX rfl rfl rfl (OpX.call cb179 (c179 (by first | omega | (simp only [List.length_append, List.length_cons, List.length_nil, List.length_take]; omega) | assumption)) rfl (.cons (i := 0) rfl .nil)) fun x30 => ?_
    refine WL.nm (H' := _ :: _ :: _ :: _ :: pt _ _ [_, _, _, _, _, _] :: _ :: _ :: _ :: _) rfl ?_
    refine WL.p rfl rfl rfl (PV.as rfl) ?_
    refine WL.p rfl rfl rfl (PV.as rfl) ?_
    refine WL.next [(5, _), (4, _)] ⟨rfl, rfl, trivial⟩ ?_
    refine W.ret ?_
    rotate_left
    have e : D.read s = ((mget m s).getD [], 0) := by
      simp at h0
      simp only [DM.read, h0, h1, eg]
      cases hc : mget D.now s with
      | none => rw [hc] at h2; simp at h2
      | some b => simp
    rw [e]
    refine K.fin (vs := [_, _]) x30 ⟨rfl, rfl, trivial⟩ rfl (Ent.fold (f := dskF g D) (r1, r2, p) ?_)
    refine Ent.take 4 rfl ?_
    refine Ent.fold (m) (Ent.pr (by first | assumption | exact ⟨List.Perm.refl _, by assumption⟩) (Ent.take 3 rfl ?_))
    refine Ent.take 3 rfl ?_
    refine Ent.keep 3 rfl (sl_pers _ _ _) ?_
    refine Ent.take 4 rfl ?_
    refine Ent.keep 0 rfl (sl_pers _ _ _) ?_
    exact Ent.tail (Ent.tail (Ent.tail (Ent.tail (Ent.refl _))))
/-- Room. -/
theorem c67 {g : Nat} {D : DM} {n : Int} : Spec P 47 [.pointer (some ⟨g, 0, none⟩), .int .i64 n] [dsk g D] (fun _ : Unit => .tuple #[]) (fun _ => [dsk g { D with room := max n 0 }]) := by
  refine Spec.exI fun ⟨r1, r2, p⟩ => ?_
  refine Spec.intro Tryz.func47 rfl rfl rfl fun F => ?_
  refine W.rseq ?_
  refine WL.p rfl rfl rfl (PV.mv rfl) ?_
  refine WL.p rfl rfl rfl (PV.neV rfl rfl rfl (EqIs.p0 ul24)) ?_
  refine WL.next [(5, _), (0, _), (1, _)] ⟨rfl, rfl, rfl, trivial⟩ ?_
  refine W.cT rfl ?_
  refine W.region ?_
  refine WL.p rfl rfl rfl (PV.mv rfl) ?_
  refine WL.p rfl rfl rfl (PV.mv rfl) ?_
  refine WL.p rfl rfl rfl (PV.max2 rfl rfl) ?_
  refine WL.p rfl rfl rfl (PV.nck rfl) ?_
  refine WL.p rfl rfl rfl (PV.fa fo175_3 rfl rfl) ?_
  refine WL.done rfl rfl (OpD.st 0 3 sz3 rfl rfl rfl rfl rfl rfl (NA.one (NA.int _ _))) ?_
  refine WL.nm (H' := pt _ _ [_, _, _, _, _, _] :: _ :: _ :: _ :: _ :: _) rfl ?_
  refine WL.nil ?_
  rotate_left
  refine K.finN (vs := []) () trivial rfl (Ent.fold (f := dskF g _) (r1, r2, p) ?_)
  refine Ent.take 0 rfl ?_
  refine Ent.take 0 rfl ?_
  refine Ent.take 0 rfl ?_
  refine Ent.keep 0 rfl (sl_pers _ _ _) ?_
  refine Ent.take 1 rfl ?_
  exact Ent.tail (Ent.refl _)
/-- Fuse. -/
theorem c31 {g : Nat} {D : DM} {n : Int} : Spec P 39 [.pointer (some ⟨g, 0, none⟩), .int .i64 n] [dsk g D] (fun _ : Unit => .tuple #[]) (fun _ => [dsk g { D with fuse := max n 0 }]) := by
  refine Spec.exI fun ⟨r1, r2, p⟩ => ?_
  refine Spec.intro Tryz.func39 rfl rfl rfl fun F => ?_
  refine W.rseq ?_
  refine WL.p rfl rfl rfl (PV.mv rfl) ?_
  refine WL.p rfl rfl rfl (PV.neV rfl rfl rfl (EqIs.p0 ul24)) ?_
  refine WL.next [(5, _), (0, _), (1, _)] ⟨rfl, rfl, rfl, trivial⟩ ?_
  refine W.cT rfl ?_
  refine W.region ?_
  refine WL.p rfl rfl rfl (PV.mv rfl) ?_
  refine WL.p rfl rfl rfl (PV.mv rfl) ?_
  refine WL.p rfl rfl rfl (PV.max2 rfl rfl) ?_
  refine WL.p rfl rfl rfl (PV.nck rfl) ?_
  refine WL.p rfl rfl rfl (PV.fa fo175_4 rfl rfl) ?_
  refine WL.done rfl rfl (OpD.st 0 4 sz3 rfl rfl rfl rfl rfl rfl (NA.one (NA.int _ _))) ?_
  refine WL.nm (H' := pt _ _ [_, _, _, _, _, _] :: _ :: _ :: _ :: _ :: _) rfl ?_
  refine WL.nil ?_
  rotate_left
  refine K.finN (vs := []) () trivial rfl (Ent.fold (f := dskF g _) (r1, r2, p) ?_)
  refine Ent.take 0 rfl ?_
  refine Ent.take 0 rfl ?_
  refine Ent.take 0 rfl ?_
  refine Ent.keep 0 rfl (sl_pers _ _ _) ?_
  refine Ent.take 1 rfl ?_
  exact Ent.tail (Ent.refl _)
/-- New. -/
theorem c29 {n : Int} : Spec P 16 [.int .i64 n] [] (fun g : Nat => .pointer (some ⟨g, 0, none⟩)) (fun g => [dsk g ⟨[], [], [], max n 0, -1, false⟩]) := by
  refine Spec.intro Tryz.func16 rfl rfl rfl fun F => ?_
  refine W.rseq ?_
  refine WL.p rfl rfl rfl (PV.as rfl) ?_
  refine WL.next [(2, _), (0, _)] ⟨rfl, rfl, trivial⟩ ?_
  refine W.rseq ?_
  refine WL.putX rfl rfl rfl (OpX.mkM (kv := kvS) (K := (Ksl Kb))) fun x3 => ?_
  refine WL.nm (H' := _ :: _) rfl ?_
  refine WL.putX rfl rfl rfl (OpX.mkM (kv := kvS) (K := (Ksl Kb))) fun x4 => ?_
  refine WL.nm (H' := _ :: _ :: _) rfl ?_
  refine WL.p rfl rfl rfl (PV.mv rfl) ?_
  refine WL.p rfl rfl rfl (PV.max2 rfl rfl) ?_
  refine WL.p rfl rfl rfl (PV.bld (cs := [_, _, _, _, _, _]) bt175 rfl rfl) ?_
  refine WL.putX rfl rfl rfl (OpX.box rfl) fun x8 => ?_
  refine WL.nm (H' := pt _ _ [_, _, _, _, _, _] :: _ :: _ :: _) rfl ?_
  refine WL.p rfl rfl rfl (PV.as rfl) ?_
  refine WL.next [(2, _)] ⟨rfl, trivial⟩ ?_
  refine W.ret ?_
  rotate_left
  have hn : Nk ([] : List (Bytes × Bytes)) := List.nodup_nil
  refine K.fin (vs := [_]) x8 ⟨rfl, trivial⟩ rfl (Ent.fold (f := dskF x8 _) (x3, x4, SP.nil) ?_)
  refine Ent.take 0 rfl ?_
  refine Ent.fold ([]) (Ent.pr ⟨List.Perm.refl _, hn⟩ (Ent.take 1 rfl ?_))
  refine Ent.fold ([]) (Ent.pr ⟨List.Perm.refl _, hn⟩ (Ent.take 0 rfl ?_))
  refine Ent.add (Ent.nil_sl _) (Ent.take 0 rfl ?_)
  refine Ent.add (Ent.nil_tl _) (Ent.take 0 rfl ?_)
  exact Ent.refl _
end Go.Sl
namespace Go.Sl
open Go Go.Proofs
set_option maxRecDepth 20000
/-- What is kept at a crash. -/
def DM.crash (D : DM) (keep torn : Int) : List (Bytes × Bytes) :=
  let k := (min (max keep 0) D.loose.length).toNat
  let f := (D.loose.take k).foldl doW D.sure
  match D.loose[k]? with
  | some w => if w.kind = 0 ∧ 0 ≤ torn then doW f { w with b := w.b.take torn.toNat } else f
  | none => f
theorem total_mset : ∀ (m : List (Bytes × Bytes)) (k a : Bytes), total (mset m k a) + ((mget m k).getD []).length = total m + a.length
  | [], k, a => by simp [mset, mget, total]
  | (k', b) :: m, k, a => by
    have ih := total_mset m k a
    unfold mset mget
    split
    · simp [total]; omega
    · simp only [total, List.map_cons, List.sum_cons] at ih ⊢; omega
theorem total_mdel : ∀ (m : List (Bytes × Bytes)) (k : Bytes), total (mdel m k) + ((mget m k).getD []).length = total m
  | [], k => by simp [mdel, mget, total]
  | (k', b) :: m, k => by
    have ih := total_mdel m k
    unfold mdel mget
    split
    · simp [total]; omega
    · simp only [total, List.map_cons, List.sum_cons] at ih ⊢; omega
theorem total_doW (m : List (Bytes × Bytes)) (w : Wr) : total (doW m w) ≤ total m + w.b.length := by
  unfold doW
  split
  · have := total_mset m w.frm ((mget m w.frm).getD [] ++ w.b)
    rw [List.length_append] at this; omega
  · split
    · have h1 := total_mset (mdel m w.frm) w.to ((mget m w.frm).getD [])
      have h2 := total_mdel m w.frm
      omega
    · split
      · have h2 := total_mdel m w.frm; omega
      · omega
def lsum (l : List Wr) : Nat := (l.map (·.b.length)).sum
theorem total_fold : ∀ (l : List Wr) (m : List (Bytes × Bytes)), total (l.foldl doW m) ≤ total m + lsum l
  | [], m => by simp [lsum]
  | w :: l, m => by
    have h1 := total_fold l (doW m w)
    have h2 := total_doW m w
    simp only [List.foldl_cons, lsum, List.map_cons, List.sum_cons] at h1 ⊢
    omega
theorem lsum_take (l : List Wr) (k : Nat) (h : k < l.length) : lsum (l.take k) + l[k].b.length ≤ lsum l := by
  have e : l = l.take k ++ l[k] :: l.drop (k + 1) := by simp
  have : lsum l = lsum (l.take k) + (l[k].b.length + lsum (l.drop (k + 1))) := by
    have h1 : lsum l = lsum (l.take k ++ l[k] :: l.drop (k + 1)) := congrArg lsum e
    rw [h1]
    simp only [lsum, List.map_append, List.map_cons, List.sum_append, List.sum_cons]
  omega
theorem c36 {g : Nat} {D : DM} {keep torn : Int} (hD : D.Ok) (hS : total D.sure + lsum D.loose ≤ 2 ^ 45) :
    Spec P 25 [.pointer (some ⟨g, 0, none⟩), .int .i64 keep, .int .i64 torn] [dsk g D] (fun _ : Unit => .tuple #[]) (fun _ => [dsk g ⟨D.crash keep torn, D.crash keep torn, [], D.room, -1, false⟩]) := by
  refine Spec.exI fun ⟨r1, r2, p⟩ => ?_
  have hf := hD.fuse; have hlo := hD.loose; have ht := hD.tot
  refine Spec.intro Tryz.func25 rfl rfl rfl fun F => ?_
  refine W.seq ?_
  refine W.rseq ?_
  refine WL.p rfl rfl rfl (PV.mv rfl) ?_
  refine WL.p rfl rfl rfl (PV.eqV rfl rfl rfl (EqIs.p0 ul24)) ?_
  refine WL.next [(11, _), (0, _), (1, _), (2, _)] ⟨rfl, rfl, rfl, rfl, trivial⟩ ?_
  refine W.cF rfl ?_
  refine W.skip ?_
  refine K.next [(0, _), (1, _), (2, _)] ⟨rfl, rfl, rfl, trivial⟩ ?_
  refine W.rseq ?_
  refine WL.p rfl rfl rfl (PV.mv rfl) ?_
  refine WL.p rfl rfl rfl (PV.max2 rfl rfl) ?_
  refine WL.p rfl rfl rfl (PV.mv rfl) ?_
  refine WL.p rfl rfl rfl (PV.nck rfl) ?_
  refine WL.p rfl rfl rfl (PV.fa fo175_2 rfl rfl) ?_
  refine WL.f rfl rfl rfl (FV.ld (LdD.sc 0 2 sc173 rfl rfl rfl rfl)) ?_
  refine WL.p rfl rfl rfl (PV.lenL ul173 rfl rfl) ?_
  refine WL.p rfl rfl rfl (PV.min2 rfl rfl) ?_
  refine WL.p rfl rfl rfl (PV.as rfl) ?_
  refine WL.next [(1, _), (0, _), (2, _)] ⟨rfl, rfl, rfl, trivial⟩ ?_
  refine W.rseq ?_
  refine WL.p rfl rfl rfl (PV.mv rfl) ?_
  refine WL.p rfl rfl rfl (PV.nck rfl) ?_
  refine WL.p rfl rfl rfl (PV.fa fo175_1 rfl rfl) ?_
  refine WL.f rfl rfl rfl (FV.ld (LdD.sc 0 1 sc172 rfl rfl rfl rfl)) ?_
  refine WL.putX rfl rfl rfl (OpX.call cb117 (c117 (by first | omega | (simp only [List.length_append, List.length_cons, List.length_nil]; omega) | assumption)) rfl (.cons (i := 2) rfl .nil)) fun x24 => ?_
  refine WL.nm (H' := _ :: _ :: pt _ _ [_, _, _, _, _, _] :: _ :: _ :: _ :: _) rfl ?_
  refine WL.p rfl rfl rfl (PV.as rfl) ?_
  refine WL.next [(6, _), (1, _), (0, _), (2, _)] ⟨rfl, rfl, rfl, rfl, trivial⟩ ?_
  refine W.seq ?_
  refine W.rseq ?_
  refine WL.p rfl rfl rfl (PV.mv rfl) ?_
  refine WL.p rfl rfl rfl (PV.nck rfl) ?_
  refine WL.p rfl rfl rfl (PV.fa fo175_2 rfl rfl) ?_
  refine WL.f rfl rfl rfl (FV.ld (LdD.sc 2 2 sc173 rfl rfl rfl rfl)) ?_
  refine WL.p rfl rfl rfl (PV.mv rfl) ?_
  refine WL.fact (sl_fact 4 rfl) fun hs0 => ?_
  refine WL.p rfl rfl rfl (PV.cutL ul173 sz194 rfl rfl rfl (by omega) (by omega) (by omega)) ?_
  refine WL.p rfl rfl rfl (PV.lenL ul173 rfl rfl) ?_
  refine WL.p rfl rfl rfl (PV.mv rfl) ?_
  refine WL.next [(32, _), (31, _), (30, _), (6, _), (1, _), (0, _), (2, _)] ⟨rfl, rfl, rfl, rfl, rfl, rfl, rfl, trivial⟩ ?_
  refine W.block ?_
  rotate_left
  obtain ⟨N, hK⟩ : ∃ N : Nat, (min (max keep 0) D.loose.length).toNat = N := ⟨_, rfl⟩
  have hKl : N ≤ D.loose.length := by omega
  have hKe : (min (max keep 0) (D.loose.length : Int)) = N := by omega
  rw [hK, hKe]
  refine W.entA (A := [sl Kwr p D.loose]) (.cons (i := 4) rfl .nil) ((Ent.dup (sl_pers _ _ _)).trans (Ent.cons (Ent.cut Kwr p D.loose 0 p.c N (Nat.le_refl _) (by have := hs0.1; simp at this; omega)))) ?_
  refine W.nm (H' := sl Kwr p D.loose :: sl Kwr (p.cut 4 0 p.c) (D.loose.take N) :: fs _ _ :: fs _ _ :: pt _ _ [_, _, _, _, _, _] :: _) rfl ?_
  refine W.loopP (X := Nat) (fun k => k ≤ N) (fun k => [(32, .int .i64 k), (31, .int .i64 N), (30, (p.cut 4 0 p.c).v N), (6, .map (some x24)), (1, .int .i64 N), (0, .pointer (some ⟨g, 0, none⟩)), (2, .int .i64 torn)])
    (fun k => sl Kwr p D.loose :: sl Kwr (p.cut 4 0 p.c) (D.loose.take N) :: fs r2 D.sure :: fs x24 ((D.loose.take k).foldl doW D.sure) :: pt g 0 [.map (some r1), .map (some r2), p.v D.loose.length, .int .i64 D.room, .int .i64 D.fuse, .bool D.down] :: fs r1 D.now :: tl 4 p D.loose.length :: F) (fun k => N - k) 0 (Nat.zero_le _)
    ⟨rfl, rfl, rfl, rfl, rfl, rfl, rfl, trivial⟩ (Ent.refl _) fun k hk => ?_
  have hT : ∀ j, total ((D.loose.take j).foldl doW D.sure) ≤ 2 ^ 45 := fun j => by
    have h1 := total_fold (D.loose.take j) D.sure
    have h2 : lsum (D.loose.take j) ≤ lsum D.loose := by
      have h3 : lsum D.loose = lsum (D.loose.take j ++ D.loose.drop j) := by rw [List.take_append_drop]
      rw [h3]; simp only [lsum, List.map_append, List.sum_append]; omega
    omega
  have hTk := hT k
  refine W.fact (sl_fact 1 rfl) fun hc => ?_
  rw [List.length_take, Nat.min_eq_left hKl] at hc
  have hb : ∀ (h : k < (D.loose.take N).length), ((mget ((D.loose.take k).foldl doW D.sure) ((D.loose.take N)[k].frm)).getD []).length + ((D.loose.take N)[k].b).length ≤ 2 ^ 46 := fun h => by
    have h1 := get_total (m := (D.loose.take k).foldl doW D.sure) (s := (D.loose.take N)[k].frm)
    have h2 := lsum_take D.loose k (by simp at h; omega)
    simp only [List.getElem_take] at h1 ⊢
    omega
  refine W.rseq ?_
  refine WL.p rfl rfl rfl (PV.lt rfl rfl) ?_
  refine WL.next [(33, _), (32, _), (31, _), (30, _), (6, _), (1, _), (0, _), (2, _)] ⟨rfl, rfl, rfl, rfl, rfl, rfl, rfl, rfl, trivial⟩ ?_
  refine W.seq ?_
  refine W.condD rfl (fun h0 => ?_) (fun h0 => ?_)
  refine W.skip ?_
  refine K.next [(32, _), (31, _), (30, _), (6, _), (1, _), (0, _), (2, _)] ⟨rfl, rfl, rfl, rfl, rfl, rfl, rfl, trivial⟩ ?_
  refine W.bseq ?_
  refine W.rseq ?_
  refine WL.p rfl rfl rfl (PV.ixN (by assumption) ul173 sz194 rfl rfl (by omega)) ?_
  refine WL.elt 1 (k) rfl (List.getElem?_eq_getElem (by first | omega | (simp; omega))) fun q1 => ?_
  refine WL.nm (H' := ro _ _ [_, _, _, _] :: _ :: _ :: _ :: _ :: _ :: pt _ _ [_, _, _, _, _, _] :: _ :: _ :: _) rfl ?_
  refine WL.f rfl rfl rfl (FV.ld (LdD.roA (us := [_, _, _, _]) 0 0 ag194 rfl rfl rfl rfl rfl)) ?_
  refine WL.putX rfl rfl rfl (OpX.alloc zr194) fun x8 => ?_
  refine WL.nm (H' := pt _ _ [_, _, _, _] :: ro _ _ [_, _, _, _] :: _ :: _ :: _ :: _ :: _ :: pt _ _ [_, _, _, _, _, _] :: _ :: _ :: _) rfl ?_
  refine WL.done rfl rfl (OpD.st 0 0 sz194 rfl rfl rfl rfl rfl rfl (NAs.mem (vs := [_, _, _, _]) ⟨NA.int _ _, NA.str _, NA.str _, NA.sl _ _ _, trivial⟩)) ?_
  refine WL.nm (H' := pt _ _ [_, _, _, _] :: ro _ _ [_, _, _, _] :: _ :: _ :: _ :: _ :: _ :: pt _ _ [_, _, _, _, _, _] :: _ :: _ :: _) rfl ?_
  refine WL.next [(8, _), (32, _), (31, _), (30, _), (6, _), (1, _), (0, _), (2, _)] ⟨rfl, rfl, rfl, rfl, rfl, rfl, rfl, rfl, trivial⟩ ?_
  refine W.region ?_
  refine WL.p rfl rfl rfl (PV.mv rfl) ?_
  refine WL.f rfl rfl rfl (FV.ld (LdD.ag (us := [_, _, _, _]) 0 0 ag194 rfl rfl rfl rfl rfl)) ?_
  rotate_left
  refine W.exit ?_
  refine K.exitT ?_
  refine K.exitT ?_
  refine K.exit ?_
  refine K.next [(6, _), (1, _), (0, _), (2, _)] ⟨rfl, rfl, rfl, rfl, trivial⟩ ?_
  refine W.seq ?_
  refine W.rseq ?_
  refine WL.p rfl rfl rfl (PV.mv rfl) ?_
  refine WL.p rfl rfl rfl (PV.mv rfl) ?_
  refine WL.p rfl rfl rfl (PV.nck rfl) ?_
  refine WL.p rfl rfl rfl (PV.fa fo175_2 rfl rfl) ?_
  refine WL.f rfl rfl rfl (FV.ld (LdD.sc 4 2 sc173 rfl rfl rfl rfl)) ?_
  refine WL.p rfl rfl rfl (PV.lenL ul173 rfl rfl) ?_
  refine WL.p rfl rfl rfl (PV.lt rfl rfl) ?_
  refine WL.p rfl rfl rfl (PV.mv rfl) ?_
  refine WL.splitD (t := 47) rfl (fun h2 => ?_) (fun h2 => ?_)
  refine WL.yes (dj := 47) rfl rfl rfl (decide_eq_true (by assumption)) rfl rfl (OpD.fv (PV.fv (PV.mv rfl))) ?_
  refine WL.yes (dj := 47) rfl rfl rfl (decide_eq_true (by assumption)) rfl rfl (OpD.fv (PV.fv (PV.nck rfl))) ?_
  refine WL.yes (dj := 47) rfl rfl rfl (decide_eq_true (by assumption)) rfl rfl (OpD.fv (PV.fv (PV.fa fo175_2 rfl rfl))) ?_
  refine WL.yes (dj := 47) rfl rfl rfl (decide_eq_true (by assumption)) rfl rfl (OpD.fv (FV.ld (LdD.sc 4 2 sc173 rfl rfl rfl rfl))) ?_
  refine WL.yes (dj := 47) rfl rfl rfl (decide_eq_true (by assumption)) rfl rfl (OpD.fv (PV.fv (PV.mv rfl))) ?_
  refine WL.yes (dj := 47) rfl rfl rfl (decide_eq_true (by assumption)) rfl rfl (OpD.fv (PV.fv (PV.ixN (by assumption) ul173 sz194 rfl rfl (by omega)))) ?_
  refine WL.elt 0 (N) rfl (List.getElem?_eq_getElem (by first | omega | (simp; omega))) fun q3 => ?_
  refine WL.nm (H' := ro _ _ [_, _, _, _] :: _ :: _ :: _ :: _ :: _ :: pt _ _ [_, _, _, _, _, _] :: _ :: _ :: _) rfl ?_
  refine WL.yes (dj := 47) rfl rfl rfl (decide_eq_true (by assumption)) rfl rfl (OpD.fv (PV.fv (PV.faE2 fo194_0 rfl (by assumption) (by omega) rfl))) ?_
  refine WL.yes (dj := 47) rfl rfl rfl (decide_eq_true (by assumption)) rfl rfl (OpD.fv (FV.ld (LdD.ro 0 0 sc3 rfl rfl rfl rfl))) ?_
  refine WL.yes (dj := 47) rfl rfl rfl (decide_eq_true (by assumption)) rfl rfl (OpD.fv (PV.fv (PV.eqI rfl rfl))) ?_
  refine WL.p rfl rfl rfl (PV.pickT rfl (decide_eq_true (by assumption)) rfl) ?_
  refine WL.p rfl rfl rfl (PV.mv rfl) ?_
  refine WL.splitD (t := 58) rfl (fun h4 => ?_) (fun h4 => ?_)
  refine WL.yes (dj := 58) rfl rfl rfl (decide_eq_true (by assumption)) rfl rfl (OpD.fv (PV.fv (PV.mv rfl))) ?_
  refine WL.yes (dj := 58) rfl rfl rfl (decide_eq_true (by assumption)) rfl rfl (OpD.fv (PV.fv (PV.ge rfl rfl))) ?_
  refine WL.p rfl rfl rfl (PV.pickT rfl (decide_eq_true (by assumption)) rfl) ?_
  refine WL.next [(61, _), (6, _), (1, _), (0, _), (2, _)] ⟨rfl, rfl, rfl, rfl, rfl, trivial⟩ ?_
  refine W.condD rfl (fun h5 => ?_) (fun h5 => ?_)
  refine W.rseq ?_
  refine WL.p rfl rfl rfl (PV.mv rfl) ?_
  refine WL.p rfl rfl rfl (PV.nck rfl) ?_
  refine WL.p rfl rfl rfl (PV.fa fo175_2 rfl rfl) ?_
  refine WL.f rfl rfl rfl (FV.ld (LdD.sc 6 2 sc173 rfl rfl rfl rfl)) ?_
  refine WL.p rfl rfl rfl (PV.mv rfl) ?_
  refine WL.p rfl rfl rfl (PV.ixN (by assumption) ul173 sz194 rfl rfl (by omega)) ?_
  refine WL.f rfl rfl rfl (FV.ld (LdD.roA (us := [_, _, _, _]) 0 0 ag194 rfl rfl rfl rfl rfl)) ?_
  refine WL.putX rfl rfl rfl (OpX.alloc zr194) fun x9 => ?_
  refine WL.nm (H' := pt _ _ [_, _, _, _] :: ro _ _ [_, _, _, _] :: _ :: _ :: _ :: _ :: _ :: pt _ _ [_, _, _, _, _, _] :: _ :: _ :: _) rfl ?_
  refine WL.done rfl rfl (OpD.st 0 0 sz194 rfl rfl rfl rfl rfl rfl (NAs.mem (vs := [_, _, _, _]) ⟨NA.int _ _, NA.str _, NA.str _, NA.sl _ _ _, trivial⟩)) ?_
  refine WL.nm (H' := pt _ _ [_, _, _, _] :: ro _ _ [_, _, _, _] :: _ :: _ :: _ :: _ :: _ :: pt _ _ [_, _, _, _, _, _] :: _ :: _ :: _) rfl ?_
  refine WL.next [(9, _), (6, _), (0, _), (2, _)] ⟨rfl, rfl, rfl, rfl, trivial⟩ ?_
  refine W.rseq ?_
  refine WL.p rfl rfl rfl (PV.fa fo194_3 rfl rfl) ?_
  refine WL.f rfl rfl rfl (FV.ld (LdD.sc 0 3 sc62 rfl rfl rfl rfl)) ?_
  refine WL.p rfl rfl rfl (PV.mv rfl) ?_
  refine WL.p rfl rfl rfl (PV.fa fo194_3 rfl rfl) ?_
  refine WL.f rfl rfl rfl (FV.ld (LdD.sc 0 3 sc62 rfl rfl rfl rfl)) ?_
  refine WL.p rfl rfl rfl (PV.lenL ul62 rfl rfl) ?_
  refine WL.p rfl rfl rfl (PV.min2 rfl rfl) ?_
  refine WL.fact (sl_fact 2 rfl) fun hs6 => ?_
  refine WL.p rfl rfl rfl (PV.cutL ul62 sz5 rfl rfl rfl (by omega) (by omega) (by omega)) ?_
  refine WL.p rfl rfl rfl (PV.fa fo194_3 rfl rfl) ?_
  refine WL.done rfl rfl (OpD.st 0 3 sz62 rfl rfl rfl rfl rfl rfl (NA.one (NA.sl _ _ _))) ?_
  refine WL.nm (H' := pt _ _ [_, _, _, _] :: ro _ _ [_, _, _, _] :: _ :: _ :: _ :: _ :: _ :: pt _ _ [_, _, _, _, _, _] :: _ :: _ :: _) rfl ?_
  refine WL.next [(9, _), (6, _), (0, _)] ⟨rfl, rfl, rfl, trivial⟩ ?_
  refine W.region ?_
  refine WL.p rfl rfl rfl (PV.mv rfl) ?_
  refine WL.f rfl rfl rfl (FV.ld (LdD.ag (us := [_, _, _, _]) 0 0 ag194 rfl rfl rfl rfl rfl)) ?_
  rotate_left
  refine W.skip ?_
  refine K.next [(6, _), (0, _)] ⟨rfl, rfl, trivial⟩ ?_
  refine W.region ?_
  refine WL.p rfl rfl rfl (PV.mv rfl) ?_
  refine WL.p rfl rfl rfl (PV.mv rfl) ?_
  refine WL.p rfl rfl rfl (PV.mv rfl) ?_
  refine WL.p rfl rfl rfl (PV.mv rfl) ?_
  refine WL.p rfl rfl rfl (PV.mv rfl) ?_
  refine WL.p rfl rfl rfl (PV.mv rfl) ?_
  refine WL.p rfl rfl rfl (PV.mv rfl) ?_
  refine WL.putX rfl rfl rfl (OpX.call cb117 (c117 (by first | omega | (simp only [List.length_append, List.length_cons, List.length_nil]; omega) | assumption)) rfl (.cons (i := 5) rfl .nil)) fun x88 => ?_
  refine WL.nm (H' := _ :: _ :: ro _ _ [_, _, _, _] :: _ :: _ :: _ :: _ :: pt _ _ [_, _, _, _, _, _] :: _ :: _ :: _) rfl ?_
  refine WL.p rfl rfl rfl (PV.nck rfl) ?_
  refine WL.p rfl rfl rfl (PV.fa fo175_0 rfl rfl) ?_
  refine WL.done rfl rfl (OpD.st 7 0 sz172 rfl rfl rfl rfl rfl rfl (NA.one (NA.map _))) ?_
  refine WL.nm (H' := _ :: _ :: ro _ _ [_, _, _, _] :: _ :: _ :: _ :: _ :: pt _ _ [_, _, _, _, _, _] :: _ :: _ :: _) rfl ?_
  refine WL.p rfl rfl rfl (PV.nck rfl) ?_
  refine WL.p rfl rfl rfl (PV.fa fo175_1 rfl rfl) ?_
  refine WL.done rfl rfl (OpD.st 7 1 sz172 rfl rfl rfl rfl rfl rfl (NA.one (NA.map _))) ?_
  refine WL.nm (H' := _ :: _ :: ro _ _ [_, _, _, _] :: _ :: _ :: _ :: _ :: pt _ _ [_, _, _, _, _, _] :: _ :: _ :: _) rfl ?_
  refine WL.p rfl rfl rfl (PV.nck rfl) ?_
  refine WL.p rfl rfl rfl (PV.fa fo175_2 rfl rfl) ?_
  refine WL.done rfl rfl (OpD.st 7 2 sz173 rfl rfl rfl rfl rfl rfl (NA.one (NA.sl _ _ _))) ?_
  refine WL.nm (H' := _ :: _ :: ro _ _ [_, _, _, _] :: _ :: _ :: _ :: _ :: pt _ _ [_, _, _, _, _, _] :: _ :: _ :: _) rfl ?_
  refine WL.p rfl rfl rfl (PV.nck rfl) ?_
  refine WL.p rfl rfl rfl (PV.fa fo175_5 rfl rfl) ?_
  refine WL.done rfl rfl (OpD.st 7 5 sz4 rfl rfl rfl rfl rfl rfl (NA.one (NA.bool _))) ?_
  refine WL.nm (H' := _ :: _ :: ro _ _ [_, _, _, _] :: _ :: _ :: _ :: _ :: pt _ _ [_, _, _, _, _, _] :: _ :: _ :: _) rfl ?_
  refine WL.p rfl rfl rfl (PV.nck rfl) ?_
  refine WL.p rfl rfl rfl (PV.fa fo175_4 rfl rfl) ?_
  refine WL.done rfl rfl (OpD.st 7 4 sz3 rfl rfl rfl rfl rfl rfl (NA.one (NA.int _ _))) ?_
  refine WL.nm (H' := _ :: _ :: ro _ _ [_, _, _, _] :: _ :: _ :: _ :: _ :: pt _ _ [_, _, _, _, _, _] :: _ :: _ :: _) rfl ?_
  refine WL.nil ?_
  rotate_left
  refine WL.no (dj := 58) rfl rfl rfl (decide_eq_false (by assumption)) rfl ?_
  refine WL.no (dj := 58) rfl rfl rfl (decide_eq_false (by assumption)) rfl ?_
  refine WL.p rfl rfl rfl (PV.pickF rfl (decide_eq_false (by assumption)) rfl) ?_
  refine WL.next [(61, _), (6, _), (1, _), (0, _), (2, _)] ⟨rfl, rfl, rfl, rfl, rfl, trivial⟩ ?_
  refine W.cF rfl ?_
  refine W.skip ?_
  refine K.next [(6, _), (0, _)] ⟨rfl, rfl, trivial⟩ ?_
  refine W.region ?_
  refine WL.p rfl rfl rfl (PV.mv rfl) ?_
  refine WL.p rfl rfl rfl (PV.mv rfl) ?_
  refine WL.p rfl rfl rfl (PV.mv rfl) ?_
  refine WL.p rfl rfl rfl (PV.mv rfl) ?_
  refine WL.p rfl rfl rfl (PV.mv rfl) ?_
  refine WL.p rfl rfl rfl (PV.mv rfl) ?_
  refine WL.p rfl rfl rfl (PV.mv rfl) ?_
  refine WL.putX rfl rfl rfl (OpX.call cb117 (c117 (by first | omega | (simp only [List.length_append, List.length_cons, List.length_nil]; omega) | assumption)) rfl (.cons (i := 5) rfl .nil)) fun x88 => ?_
  refine WL.nm (H' := _ :: _ :: ro _ _ [_, _, _, _] :: _ :: _ :: _ :: _ :: pt _ _ [_, _, _, _, _, _] :: _ :: _ :: _) rfl ?_
  refine WL.p rfl rfl rfl (PV.nck rfl) ?_
  refine WL.p rfl rfl rfl (PV.fa fo175_0 rfl rfl) ?_
  refine WL.done rfl rfl (OpD.st 7 0 sz172 rfl rfl rfl rfl rfl rfl (NA.one (NA.map _))) ?_
  refine WL.nm (H' := _ :: _ :: ro _ _ [_, _, _, _] :: _ :: _ :: _ :: _ :: pt _ _ [_, _, _, _, _, _] :: _ :: _ :: _) rfl ?_
  refine WL.p rfl rfl rfl (PV.nck rfl) ?_
  refine WL.p rfl rfl rfl (PV.fa fo175_1 rfl rfl) ?_
  refine WL.done rfl rfl (OpD.st 7 1 sz172 rfl rfl rfl rfl rfl rfl (NA.one (NA.map _))) ?_
  refine WL.nm (H' := _ :: _ :: ro _ _ [_, _, _, _] :: _ :: _ :: _ :: _ :: pt _ _ [_, _, _, _, _, _] :: _ :: _ :: _) rfl ?_
  refine WL.p rfl rfl rfl (PV.nck rfl) ?_
  refine WL.p rfl rfl rfl (PV.fa fo175_2 rfl rfl) ?_
  refine WL.done rfl rfl (OpD.st 7 2 sz173 rfl rfl rfl rfl rfl rfl (NA.one (NA.sl _ _ _))) ?_
  refine WL.nm (H' := _ :: _ :: ro _ _ [_, _, _, _] :: _ :: _ :: _ :: _ :: pt _ _ [_, _, _, _, _, _] :: _ :: _ :: _) rfl ?_
  refine WL.p rfl rfl rfl (PV.nck rfl) ?_
  refine WL.p rfl rfl rfl (PV.fa fo175_5 rfl rfl) ?_
  refine WL.done rfl rfl (OpD.st 7 5 sz4 rfl rfl rfl rfl rfl rfl (NA.one (NA.bool _))) ?_
  refine WL.nm (H' := _ :: _ :: ro _ _ [_, _, _, _] :: _ :: _ :: _ :: _ :: pt _ _ [_, _, _, _, _, _] :: _ :: _ :: _) rfl ?_
  refine WL.p rfl rfl rfl (PV.nck rfl) ?_
  refine WL.p rfl rfl rfl (PV.fa fo175_4 rfl rfl) ?_
  refine WL.done rfl rfl (OpD.st 7 4 sz3 rfl rfl rfl rfl rfl rfl (NA.one (NA.int _ _))) ?_
  refine WL.nm (H' := _ :: _ :: ro _ _ [_, _, _, _] :: _ :: _ :: _ :: _ :: pt _ _ [_, _, _, _, _, _] :: _ :: _ :: _) rfl ?_
  refine WL.nil ?_
  rotate_left
  refine WL.no (dj := 47) rfl rfl rfl (decide_eq_false (by assumption)) rfl ?_
  refine WL.no (dj := 47) rfl rfl rfl (decide_eq_false (by assumption)) rfl ?_
  refine WL.no (dj := 47) rfl rfl rfl (decide_eq_false (by assumption)) rfl ?_
  refine WL.no (dj := 47) rfl rfl rfl (decide_eq_false (by assumption)) rfl ?_
  refine WL.no (dj := 47) rfl rfl rfl (decide_eq_false (by assumption)) rfl ?_
  refine WL.no (dj := 47) rfl rfl rfl (decide_eq_false (by assumption)) rfl ?_
  refine WL.no (dj := 47) rfl rfl rfl (decide_eq_false (by assumption)) rfl ?_
  refine WL.no (dj := 47) rfl rfl rfl (decide_eq_false (by assumption)) rfl ?_
  refine WL.no (dj := 47) rfl rfl rfl (decide_eq_false (by assumption)) rfl ?_
  refine WL.p rfl rfl rfl (PV.pickF rfl (decide_eq_false (by assumption)) rfl) ?_
  refine WL.p rfl rfl rfl (PV.mv rfl) ?_
  refine WL.no (dj := 58) rfl rfl rfl rfl rfl ?_
  refine WL.no (dj := 58) rfl rfl rfl rfl rfl ?_
  refine WL.p rfl rfl rfl (PV.pickF rfl rfl rfl) ?_
  refine WL.next [(61, _), (6, _), (1, _), (0, _), (2, _)] ⟨rfl, rfl, rfl, rfl, rfl, trivial⟩ ?_
  refine W.cF rfl ?_
  refine W.skip ?_
  refine K.next [(6, _), (0, _)] ⟨rfl, rfl, trivial⟩ ?_
  refine W.region ?_
  refine WL.p rfl rfl rfl (PV.mv rfl) ?_
  refine WL.p rfl rfl rfl (PV.mv rfl) ?_
  refine WL.p rfl rfl rfl (PV.mv rfl) ?_
  refine WL.p rfl rfl rfl (PV.mv rfl) ?_
  refine WL.p rfl rfl rfl (PV.mv rfl) ?_
  refine WL.p rfl rfl rfl (PV.mv rfl) ?_
  refine WL.p rfl rfl rfl (PV.mv rfl) ?_
  refine WL.putX rfl rfl rfl (OpX.call cb117 (c117 (by first | omega | (simp only [List.length_append, List.length_cons, List.length_nil]; omega) | assumption)) rfl (.cons (i := 3) rfl .nil)) fun x88 => ?_
  refine WL.nm (H' := _ :: _ :: _ :: _ :: _ :: pt _ _ [_, _, _, _, _, _] :: _ :: _ :: _) rfl ?_
  refine WL.p rfl rfl rfl (PV.nck rfl) ?_
  refine WL.p rfl rfl rfl (PV.fa fo175_0 rfl rfl) ?_
  refine WL.done rfl rfl (OpD.st 5 0 sz172 rfl rfl rfl rfl rfl rfl (NA.one (NA.map _))) ?_
  refine WL.nm (H' := _ :: _ :: _ :: _ :: _ :: pt _ _ [_, _, _, _, _, _] :: _ :: _ :: _) rfl ?_
  refine WL.p rfl rfl rfl (PV.nck rfl) ?_
  refine WL.p rfl rfl rfl (PV.fa fo175_1 rfl rfl) ?_
  refine WL.done rfl rfl (OpD.st 5 1 sz172 rfl rfl rfl rfl rfl rfl (NA.one (NA.map _))) ?_
  refine WL.nm (H' := _ :: _ :: _ :: _ :: _ :: pt _ _ [_, _, _, _, _, _] :: _ :: _ :: _) rfl ?_
  refine WL.p rfl rfl rfl (PV.nck rfl) ?_
  refine WL.p rfl rfl rfl (PV.fa fo175_2 rfl rfl) ?_
  refine WL.done rfl rfl (OpD.st 5 2 sz173 rfl rfl rfl rfl rfl rfl (NA.one (NA.sl _ _ _))) ?_
  refine WL.nm (H' := _ :: _ :: _ :: _ :: _ :: pt _ _ [_, _, _, _, _, _] :: _ :: _ :: _) rfl ?_
  refine WL.p rfl rfl rfl (PV.nck rfl) ?_
  refine WL.p rfl rfl rfl (PV.fa fo175_5 rfl rfl) ?_
  refine WL.done rfl rfl (OpD.st 5 5 sz4 rfl rfl rfl rfl rfl rfl (NA.one (NA.bool _))) ?_
  refine WL.nm (H' := _ :: _ :: _ :: _ :: _ :: pt _ _ [_, _, _, _, _, _] :: _ :: _ :: _) rfl ?_
  refine WL.p rfl rfl rfl (PV.nck rfl) ?_
  refine WL.p rfl rfl rfl (PV.fa fo175_4 rfl rfl) ?_
  refine WL.done rfl rfl (OpD.st 5 4 sz3 rfl rfl rfl rfl rfl rfl (NA.one (NA.int _ _))) ?_
  refine WL.nm (H' := _ :: _ :: _ :: _ :: _ :: pt _ _ [_, _, _, _, _, _] :: _ :: _ :: _) rfl ?_
  refine WL.nil ?_
  rotate_left
  · have hb' := hb (by simp; omega)
    refine WL.putX rfl rfl rfl (OpX.call cb118 (c118 (by first | omega | (simp only [List.length_append, List.length_cons, List.length_nil, List.length_take]; omega) | assumption)) rfl (.cons (i := 6) rfl (.cons (i := 2) rfl .nil))) fun x38 => ?_
    refine WL.nm (H' := _ :: _ :: pt _ _ [_, _, _, _] :: ro _ _ [_, _, _, _] :: _ :: _ :: _ :: pt _ _ [_, _, _, _, _, _] :: _ :: _ :: _) rfl ?_
    refine WL.nil ?_
    refine K.out ?_
    refine K.next [(32, _), (31, _), (30, _), (6, _), (1, _), (0, _), (2, _)] ⟨rfl, rfl, rfl, rfl, rfl, rfl, rfl, trivial⟩ ?_
    refine W.region ?_
    refine WL.p rfl rfl rfl (PV.add64 rfl rfl (by omega)) ?_
    refine WL.p rfl rfl rfl (PV.mv rfl) ?_
    refine WL.nil ?_
    rotate_left
    have hk' : k < D.loose.length := by omega
    have hkn : k < (D.loose.take N).length := by simp; omega
    have e : (D.loose.take (k + 1)).foldl doW D.sure = doW ((D.loose.take k).foldl doW D.sure) ⟨(D.loose.take N)[k].kind, (D.loose.take N)[k].frm, (D.loose.take N)[k].to, (D.loose.take N)[k].b⟩ := by
      rw [List.take_succ_eq_append_getElem hk', List.foldl_append]; simp only [List.getElem_take]; rfl
    refine K.againP (k + 1) (by omega) (by omega) ⟨rfl, rfl, rfl, rfl, rfl, rfl, rfl, trivial⟩ ?_
    rw [e]
    refine Ent.keep 4 rfl (sl_pers _ _ _) ?_
    refine Ent.keep 5 rfl (sl_pers _ _ _) ?_
    refine Ent.take 6 rfl ?_
    refine Ent.take 0 rfl ?_
    refine Ent.take 5 rfl ?_
    refine Ent.take 5 rfl ?_
    refine Ent.take 5 rfl ?_
    exact Ent.tail (Ent.tail (Ent.tail (Ent.tail (Ent.tail (Ent.refl _)))))
  · have hM : (min torn (D.loose[N].b.length : Int)).toNat - Int.toNat 0 = (D.loose[N].b.take torn.toNat).length := by rw [List.length_take]; simp; omega
    rw [hM]
    refine WL.entA (A := [sl Kb q3 D.loose[N].b]) (.cons (i := 2) rfl .nil) (Ent.cut Kb q3 D.loose[N].b 0 q3.c (D.loose[N].b.take torn.toNat).length (Nat.le_refl _) (by have := hs6.1; rw [List.length_take]; omega)) ?_
    refine WL.nm (H' := sl Kb (q3.cut 1 0 q3.c) (D.loose[N].b.take (D.loose[N].b.take torn.toNat).length) :: pt _ _ [_, _, _, _] :: _) rfl ?_
    have hB : D.loose[N].b.take (D.loose[N].b.take torn.toNat).length = D.loose[N].b.take torn.toNat := by
      rw [List.length_take, List.take_eq_take_iff]; omega
    rw [hB]
    obtain ⟨B, hBe⟩ : ∃ B, D.loose[N].b.take torn.toNat = B := ⟨_, rfl⟩
    rw [hBe]
    have hBl : B.length ≤ D.loose[N].b.length := by rw [← hBe, List.length_take]; omega
    have hsum := lsum_take D.loose N (by omega)
    have hg0 := get_total (m := (D.loose.take k).foldl doW D.sure) (s := D.loose[N].frm)
    have hb' : ((mget ((D.loose.take k).foldl doW D.sure) D.loose[N].frm).getD []).length + B.length ≤ 2 ^ 46 := by omega
    have hT2 := total_doW ((D.loose.take k).foldl doW D.sure) ⟨D.loose[N].kind, D.loose[N].frm, D.loose[N].to, B⟩
    have hT3 : total (doW ((D.loose.take k).foldl doW D.sure) ⟨D.loose[N].kind, D.loose[N].frm, D.loose[N].to, B⟩) ≤ 2 ^ 46 := by simp only at hT2; omega
    refine WL.putX rfl rfl rfl (OpX.call cb118 (c118 (by first | omega | (simp only [List.length_append, List.length_cons, List.length_nil, List.length_take]; omega) | assumption)) rfl (.cons (i := 6) rfl (.cons (i := 0) rfl .nil))) fun x80 => ?_
    refine WL.nm (H' := _ :: _ :: pt _ _ [_, _, _, _] :: ro _ _ [_, _, _, _] :: _ :: _ :: _ :: pt _ _ [_, _, _, _, _, _] :: _ :: _ :: _) rfl ?_
    refine WL.next [(6, _), (0, _)] ⟨rfl, rfl, trivial⟩ ?_
    refine W.region ?_
    refine WL.p rfl rfl rfl (PV.mv rfl) ?_
    refine WL.p rfl rfl rfl (PV.mv rfl) ?_
    refine WL.p rfl rfl rfl (PV.mv rfl) ?_
    refine WL.p rfl rfl rfl (PV.mv rfl) ?_
    refine WL.p rfl rfl rfl (PV.mv rfl) ?_
    refine WL.p rfl rfl rfl (PV.mv rfl) ?_
    refine WL.p rfl rfl rfl (PV.mv rfl) ?_
    refine WL.putX rfl rfl rfl (OpX.call cb117 (c117 (by first | omega | (simp only [List.length_append, List.length_cons, List.length_nil, List.length_take]; omega) | assumption)) rfl (.cons (i := 0) rfl .nil)) fun x88 => ?_
    refine WL.nm (H' := _ :: _ :: _ :: pt _ _ [_, _, _, _] :: ro _ _ [_, _, _, _] :: _ :: _ :: _ :: pt _ _ [_, _, _, _, _, _] :: _ :: _ :: _) rfl ?_
    refine WL.p rfl rfl rfl (PV.nck rfl) ?_
    refine WL.p rfl rfl rfl (PV.fa fo175_0 rfl rfl) ?_
    refine WL.done rfl rfl (OpD.st 8 0 sz172 rfl rfl rfl rfl rfl rfl (NA.one (NA.map _))) ?_
    refine WL.nm (H' := _ :: _ :: _ :: pt _ _ [_, _, _, _] :: ro _ _ [_, _, _, _] :: _ :: _ :: _ :: pt _ _ [_, _, _, _, _, _] :: _ :: _ :: _) rfl ?_
    refine WL.p rfl rfl rfl (PV.nck rfl) ?_
    refine WL.p rfl rfl rfl (PV.fa fo175_1 rfl rfl) ?_
    refine WL.done rfl rfl (OpD.st 8 1 sz172 rfl rfl rfl rfl rfl rfl (NA.one (NA.map _))) ?_
    refine WL.nm (H' := _ :: _ :: _ :: pt _ _ [_, _, _, _] :: ro _ _ [_, _, _, _] :: _ :: _ :: _ :: pt _ _ [_, _, _, _, _, _] :: _ :: _ :: _) rfl ?_
    refine WL.p rfl rfl rfl (PV.nck rfl) ?_
    refine WL.p rfl rfl rfl (PV.fa fo175_2 rfl rfl) ?_
    refine WL.done rfl rfl (OpD.st 8 2 sz173 rfl rfl rfl rfl rfl rfl (NA.one (NA.sl _ _ _))) ?_
    refine WL.nm (H' := _ :: _ :: _ :: pt _ _ [_, _, _, _] :: ro _ _ [_, _, _, _] :: _ :: _ :: _ :: pt _ _ [_, _, _, _, _, _] :: _ :: _ :: _) rfl ?_
    refine WL.p rfl rfl rfl (PV.nck rfl) ?_
    refine WL.p rfl rfl rfl (PV.fa fo175_5 rfl rfl) ?_
    refine WL.done rfl rfl (OpD.st 8 5 sz4 rfl rfl rfl rfl rfl rfl (NA.one (NA.bool _))) ?_
    refine WL.nm (H' := _ :: _ :: _ :: pt _ _ [_, _, _, _] :: ro _ _ [_, _, _, _] :: _ :: _ :: _ :: pt _ _ [_, _, _, _, _, _] :: _ :: _ :: _) rfl ?_
    refine WL.p rfl rfl rfl (PV.nck rfl) ?_
    refine WL.p rfl rfl rfl (PV.fa fo175_4 rfl rfl) ?_
    refine WL.done rfl rfl (OpD.st 8 4 sz3 rfl rfl rfl rfl rfl rfl (NA.one (NA.int _ _))) ?_
    refine WL.nm (H' := _ :: _ :: _ :: pt _ _ [_, _, _, _] :: ro _ _ [_, _, _, _] :: _ :: _ :: _ :: pt _ _ [_, _, _, _, _, _] :: _ :: _ :: _) rfl ?_
    refine WL.nil ?_
    rotate_left
    have hc : D.crash keep torn = doW ((D.loose.take k).foldl doW D.sure) ⟨D.loose[N].kind, D.loose[N].frm, D.loose[N].to, B⟩ := by
      have hkN : k = N := by omega
      unfold DM.crash
      simp only [hK]
      rw [List.getElem?_eq_getElem (show N < D.loose.length by omega)]
      simp [h4, h5, hkN, hBe]
    rw [hc]
    refine K.finN (vs := []) () trivial rfl (Ent.fold (f := dskF g _) (x24, x88, SP.nil) ?_)
    refine Ent.take 8 rfl ?_
    refine Ent.take 0 rfl ?_
    refine Ent.take 0 rfl ?_
    refine Ent.add (Ent.nil_sl _) (Ent.take 0 rfl ?_)
    refine Ent.add (Ent.nil_tl _) (Ent.take 0 rfl ?_)
    exact Ent.tail (Ent.tail (Ent.tail (Ent.tail (Ent.tail (Ent.tail (Ent.tail (Ent.tail (Ent.refl _))))))))
  · have hc : D.crash keep torn = (D.loose.take k).foldl doW D.sure := by
      have hkN : k = N := by omega
      unfold DM.crash
      simp only [hK]
      rw [List.getElem?_eq_getElem (show N < D.loose.length by omega)]
      simp [h5, hkN]
    rw [hc]
    refine K.finN (vs := []) () trivial rfl (Ent.fold (f := dskF g _) (x24, x88, SP.nil) ?_)
    refine Ent.take 7 rfl ?_
    refine Ent.take 0 rfl ?_
    refine Ent.take 0 rfl ?_
    refine Ent.add (Ent.nil_sl _) (Ent.take 0 rfl ?_)
    refine Ent.add (Ent.nil_tl _) (Ent.take 0 rfl ?_)
    exact Ent.tail (Ent.tail (Ent.tail (Ent.tail (Ent.tail (Ent.tail (Ent.tail (Ent.refl _)))))))
  · have hc : D.crash keep torn = (D.loose.take k).foldl doW D.sure := by
      have hkN : k = N := by omega
      unfold DM.crash
      simp only [hK]
      rw [List.getElem?_eq_getElem (show N < D.loose.length by omega)]
      simp [h4, hkN]
    rw [hc]
    refine K.finN (vs := []) () trivial rfl (Ent.fold (f := dskF g _) (x24, x88, SP.nil) ?_)
    refine Ent.take 7 rfl ?_
    refine Ent.take 0 rfl ?_
    refine Ent.take 0 rfl ?_
    refine Ent.add (Ent.nil_sl _) (Ent.take 0 rfl ?_)
    refine Ent.add (Ent.nil_tl _) (Ent.take 0 rfl ?_)
    exact Ent.tail (Ent.tail (Ent.tail (Ent.tail (Ent.tail (Ent.tail (Ent.tail (Ent.refl _)))))))
  · have hc : D.crash keep torn = (D.loose.take k).foldl doW D.sure := by
      have hkN : k = N := by omega
      unfold DM.crash
      simp only [hK]
      rw [List.getElem?_eq_none (by omega)]
      simp [hkN]
    rw [hc]
    refine K.finN (vs := []) () trivial rfl (Ent.fold (f := dskF g _) (x24, x88, SP.nil) ?_)
    refine Ent.take 5 rfl ?_
    refine Ent.take 0 rfl ?_
    refine Ent.take 0 rfl ?_
    refine Ent.add (Ent.nil_sl _) (Ent.take 0 rfl ?_)
    refine Ent.add (Ent.nil_tl _) (Ent.take 0 rfl ?_)
    exact Ent.tail (Ent.tail (Ent.tail (Ent.tail (Ent.tail (Ent.refl _)))))
end Go.Sl
/-! Logs: what one has. -/
namespace Go.Sl
open Go Go.Proofs
set_option maxRecDepth 20000
/-- A log, but for its disk. -/
def lgF (l g : Nat) (nm : Bytes) (recs : List Bytes) (down : Bool) (p : SP) : List Res := [pt l 0 [.pointer (some ⟨g, 0, none⟩), str nm, p.v recs.length, .bool down], sl (Ksl Kb) p recs, tl 1 p recs.length]
def lg (l g : Nat) (nm : Bytes) (recs : List Bytes) (down : Bool) : Res := ex SP (lgF l g nm recs down)
theorem c187 {l : Nat} {c0 c1 c2 : Value} {down : Bool} {e : Int} : Spec P 143 [.pointer (some ⟨l, 0, none⟩), .int .i64 e] [pt l 0 [c0, c1, c2, .bool down]] (fun _ : Unit => .int .i64 e) (fun _ => [pt l 0 [c0, c1, c2, .bool (down || decide (e = 6))]]) := by
  refine Spec.intro Tryz.func143 rfl rfl rfl fun F => ?_
  cases down
  · refine W.rseq ?_
    refine WL.p rfl rfl rfl (PV.as rfl) ?_
    refine WL.next [(4, _), (0, _), (1, _)] ⟨rfl, rfl, rfl, trivial⟩ ?_
    refine W.rseq ?_
    refine WL.p rfl rfl rfl (PV.mv rfl) ?_
    refine WL.p rfl rfl rfl (PV.mv rfl) ?_
    refine WL.p rfl rfl rfl (PV.nck rfl) ?_
    refine WL.p rfl rfl rfl (PV.fa fo271_3 rfl rfl) ?_
    refine WL.f rfl rfl rfl (FV.ld (LdD.sc 0 3 sc4 rfl rfl rfl rfl)) ?_
    refine WL.p rfl rfl rfl (PV.mv rfl) ?_
    refine WL.yes (dj := 10) rfl rfl rfl rfl rfl rfl (OpD.fv (PV.fv (PV.mv rfl))) ?_
    refine WL.yes (dj := 10) rfl rfl rfl rfl rfl rfl (OpD.fv (PV.fv (PV.eqI rfl rfl))) ?_
    refine WL.p rfl rfl rfl (PV.pickF rfl rfl rfl) ?_
    refine WL.p rfl rfl rfl (PV.nck rfl) ?_
    refine WL.p rfl rfl rfl (PV.fa fo271_3 rfl rfl) ?_
    refine WL.done rfl rfl (OpD.st 0 3 sz4 rfl rfl rfl rfl rfl rfl (NA.one (NA.bool _))) ?_
    refine WL.nm (H' := pt _ _ [_, _, _, _] :: _) rfl ?_
    refine WL.next [(4, _), (1, _)] ⟨rfl, rfl, trivial⟩ ?_
    refine W.rseq ?_
    refine WL.p rfl rfl rfl (PV.mv rfl) ?_
    refine WL.p rfl rfl rfl (PV.as rfl) ?_
    refine WL.next [(4, _)] ⟨rfl, trivial⟩ ?_
    refine W.ret ?_
    rotate_left
    exact K.fin (vs := [_]) () ⟨rfl, trivial⟩ rfl (Ent.refl _)
  · refine W.rseq ?_
    refine WL.p rfl rfl rfl (PV.as rfl) ?_
    refine WL.next [(4, _), (0, _), (1, _)] ⟨rfl, rfl, rfl, trivial⟩ ?_
    refine W.rseq ?_
    refine WL.p rfl rfl rfl (PV.mv rfl) ?_
    refine WL.p rfl rfl rfl (PV.mv rfl) ?_
    refine WL.p rfl rfl rfl (PV.nck rfl) ?_
    refine WL.p rfl rfl rfl (PV.fa fo271_3 rfl rfl) ?_
    refine WL.f rfl rfl rfl (FV.ld (LdD.sc 0 3 sc4 rfl rfl rfl rfl)) ?_
    refine WL.p rfl rfl rfl (PV.mv rfl) ?_
    refine WL.no (dj := 10) rfl rfl rfl rfl rfl ?_
    refine WL.no (dj := 10) rfl rfl rfl rfl rfl ?_
    refine WL.p rfl rfl rfl (PV.pickT rfl rfl rfl) ?_
    refine WL.p rfl rfl rfl (PV.nck rfl) ?_
    refine WL.p rfl rfl rfl (PV.fa fo271_3 rfl rfl) ?_
    refine WL.done rfl rfl (OpD.st 0 3 sz4 rfl rfl rfl rfl rfl rfl (NA.one (NA.bool _))) ?_
    refine WL.nm (H' := pt _ _ [_, _, _, _] :: _) rfl ?_
    refine WL.next [(4, _), (1, _)] ⟨rfl, rfl, trivial⟩ ?_
    refine W.rseq ?_
    refine WL.p rfl rfl rfl (PV.mv rfl) ?_
    refine WL.p rfl rfl rfl (PV.as rfl) ?_
    refine WL.next [(4, _)] ⟨rfl, trivial⟩ ?_
    refine W.ret ?_
    rotate_left
    exact K.fin (vs := [_]) () ⟨rfl, trivial⟩ rfl (Ent.refl _)
/-- Records. -/
theorem c108 {l g : Nat} {nm : Bytes} {recs : List Bytes} {down : Bool} (hr : recs.length ≤ 2 ^ 30) (hb : ∀ b, b ∈ recs → b.length ≤ 2 ^ 46) :
    Spec P 49 [.pointer (some ⟨l, 0, none⟩)] [lg l g nm recs down] (fun q : SP => q.v recs.length) (fun q => [lg l g nm recs down, sl (Ksl Kb) q recs]) := by
  refine Spec.exI fun p => ?_
  refine Spec.intro Tryz.func49 rfl rfl rfl fun F => ?_
  refine W.fact (sl_fact 1 rfl) fun hp => ?_
  refine W.rseq ?_
  refine WL.p rfl rfl rfl (PV.as rfl) ?_
  refine WL.next [(2, _), (0, _)] ⟨rfl, rfl, trivial⟩ ?_
  refine W.seq ?_
  refine W.rseq ?_
  refine WL.p rfl rfl rfl (PV.mv rfl) ?_
  refine WL.p rfl rfl rfl (PV.eqV rfl rfl rfl (EqIs.p0 ul176)) ?_
  refine WL.next [(7, _), (2, _), (0, _)] ⟨rfl, rfl, rfl, trivial⟩ ?_
  refine W.cF rfl ?_
  refine W.skip ?_
  refine K.next [(2, _), (0, _)] ⟨rfl, rfl, trivial⟩ ?_
  refine W.rseq ?_
  refine WL.p rfl rfl rfl (PV.as rfl) ?_
  refine WL.next [(3, _), (2, _), (0, _)] ⟨rfl, rfl, rfl, trivial⟩ ?_
  refine W.seq ?_
  refine W.rseq ?_
  refine WL.p rfl rfl rfl (PV.mv rfl) ?_
  refine WL.p rfl rfl rfl (PV.nck rfl) ?_
  refine WL.p rfl rfl rfl (PV.fa fo271_2 rfl rfl) ?_
  refine WL.f rfl rfl rfl (FV.ld (LdD.sc 0 2 sc182 rfl rfl rfl rfl)) ?_
  refine WL.p rfl rfl rfl (PV.lenL ul182 rfl rfl) ?_
  refine WL.p rfl rfl rfl (PV.mv rfl) ?_
  refine WL.next [(13, _), (12, _), (11, _), (3, _), (2, _)] ⟨rfl, rfl, rfl, rfl, rfl, trivial⟩ ?_
  refine W.block ?_
  rotate_left
  refine W.loopP (X := Nat × SP) (fun x => x.1 ≤ recs.length) (fun x => [(13, .int .i64 x.1), (12, .int .i64 recs.length), (11, p.v recs.length), (3, x.2.v (recs.take x.1).length)])
    (fun x => sl (Ksl Kb) x.2 (recs.take x.1) :: tl 1 x.2 (recs.take x.1).length :: pt l 0 [.pointer (some ⟨g, 0, none⟩), str nm, p.v recs.length, .bool down] :: sl (Ksl Kb) p recs :: tl 1 p recs.length :: F) (fun x => recs.length - x.1) (0, SP.nil) (Nat.zero_le _)
    ⟨rfl, rfl, rfl, rfl, trivial⟩ ?_ fun ⟨k, q⟩ hk => ?_
  · refine Ent.add (Ent.nil_sl _) (Ent.take 0 rfl ?_)
    refine Ent.add (Ent.nil_tl _) (Ent.take 0 rfl ?_)
    refine Ent.take 0 rfl ?_
    refine Ent.keep 0 rfl (sl_pers _ _ _) ?_
    refine Ent.take 1 rfl ?_
    exact Ent.tail (Ent.refl _)
  · have hk' : k ≤ recs.length := hk
    have hbk : ∀ (h : k < recs.length), recs[k].length ≤ 2 ^ 46 := fun h => hb _ (List.getElem_mem h)
    refine W.rseq ?_
    refine WL.p rfl rfl rfl (PV.lt rfl rfl) ?_
    refine WL.next [(14, _), (13, _), (12, _), (11, _), (3, _)] ⟨rfl, rfl, rfl, rfl, rfl, trivial⟩ ?_
    refine W.seq ?_
    refine W.condD rfl (fun h0 => ?_) (fun h0 => ?_)
    refine W.skip ?_
    refine K.next [(13, _), (12, _), (11, _), (3, _)] ⟨rfl, rfl, rfl, rfl, trivial⟩ ?_
    refine W.bseq ?_
    refine W.rseq ?_
    refine WL.p rfl rfl rfl (PV.ixN (by assumption) ul182 sz62 rfl rfl (by omega)) ?_
    refine WL.elt 3 ((k, q).fst) rfl (List.getElem?_eq_getElem (by first | omega | (simp; omega))) fun q1 => ?_
    refine WL.nm (H' := ro _ _ [_] :: _ :: _ :: _ :: pt _ _ [_, _, _, _] :: _ :: _ :: _) rfl ?_
    refine WL.f rfl rfl rfl (FV.ld (LdD.ro 0 0 sc62 rfl rfl rfl rfl)) ?_
    refine WL.p rfl rfl rfl (PV.as rfl) ?_
    refine WL.next [(5, _), (13, _), (12, _), (11, _), (3, _)] ⟨rfl, rfl, rfl, rfl, rfl, trivial⟩ ?_
    refine W.region ?_
    refine WL.p rfl rfl rfl (PV.mv rfl) ?_
    refine WL.p rfl rfl rfl (PV.mv rfl) ?_
    rotate_left
    refine W.exit ?_
    refine K.exitT ?_
    refine K.exitT ?_
    refine K.exit ?_
    refine K.next [(3, _)] ⟨rfl, trivial⟩ ?_
    refine W.rseq ?_
    refine WL.p rfl rfl rfl (PV.mv rfl) ?_
    refine WL.p rfl rfl rfl (PV.as rfl) ?_
    refine WL.next [(2, _)] ⟨rfl, trivial⟩ ?_
    refine W.ret ?_
    rotate_left
    · have h0' : (k : Int) < recs.length := h0
      have hbk' : recs[(k, q).fst].length ≤ 2 ^ 46 := hbk (by omega)
      refine WL.putX rfl rfl rfl (OpX.call cb179 (c179 (by first | omega | (simp only [List.length_append, List.length_cons, List.length_nil, List.length_take]; omega) | assumption)) rfl (.cons (i := 1) rfl .nil)) fun x19 => ?_
      refine WL.nm (H' := _ :: _ :: _ :: ro _ _ [_] :: _ :: _ :: pt _ _ [_, _, _, _] :: _ :: _ :: _) rfl ?_
      refine WL.putX rfl rfl rfl (OpX.rowS (K := (Ksl Kb)) [_] [_] slt182 ⟨_, zr62, rfl⟩ rfl rfl rfl rfl rfl rfl (fun _ h => by first | (simp [innerL, Kb, Kint, Kstr, Kbool] at h; done) | (simp [innerL, Ksl, Kwr, Kmsg] at h; rcases h with h | h | h <;> subst h <;> simp [Sl.rem]) | (simp [innerL, Ksl, Kwr] at h; subst h; simp [Sl.rem]))) fun x20 => ?_
      refine WL.nm (H' := _ :: _ :: _ :: _ :: _ :: ro _ _ [_] :: _ :: _ :: pt _ _ [_, _, _, _] :: _ :: _ :: _) rfl ?_
      refine WL.putX rfl rfl rfl (OpX.app 7 6 slt182 ni182 rfl rfl rfl rfl (SrcV.atSl 0 rfl) (by first | omega | (simp only [List.length_append, List.length_cons, List.length_nil, List.length_take]; omega) | assumption) (by first | omega | (simp only [List.length_append, List.length_cons, List.length_nil, List.length_take]; omega) | assumption)) fun x21 => ?_
      refine WL.nm (H' := _ :: _ :: _ :: _ :: _ :: _ :: _ :: ro _ _ [_] :: _ :: pt _ _ [_, _, _, _] :: _ :: _ :: _) rfl ?_
      refine WL.p rfl rfl rfl (PV.as rfl) ?_
      refine WL.nil ?_
      refine K.out ?_
      refine K.next [(3, _), (13, _), (12, _), (11, _)] ⟨rfl, rfl, rfl, rfl, trivial⟩ ?_
      refine W.region ?_
      refine WL.p rfl rfl rfl (PV.add64 rfl rfl (by omega)) ?_
      refine WL.p rfl rfl rfl (PV.mv rfl) ?_
      refine WL.nil ?_
      rotate_left
      have e : recs.take (k + 1) = recs.take k ++ [recs[k]'(by omega)] := List.take_succ_eq_append_getElem (by omega)
      refine K.againP (k + 1, x21) (show k + 1 ≤ recs.length by omega) (show recs.length - (k + 1) < recs.length - k by omega) ⟨rfl, rfl, rfl, by rw [e]; rfl, trivial⟩ ?_
      rw [e]
      refine Ent.keep 0 rfl (sl_pers _ _ _) ?_
      refine Ent.take 1 rfl ?_
      refine Ent.take 8 rfl ?_
      refine Ent.keep 8 rfl (sl_pers _ _ _) ?_
      refine Ent.take 9 rfl ?_
      exact Ent.tail (Ent.tail (Ent.tail (Ent.tail (Ent.tail (Ent.tail (Ent.tail (Ent.tail (Ent.tail (Ent.refl _)))))))))
    · have h0' : ¬ (k : Int) < recs.length := h0
      have e : recs.take k = recs := List.take_of_length_le (by omega)
      refine K.fin (vs := [_]) q ⟨rfl, trivial⟩ ?_ ?_
      · show q.v (recs.take k).length = _; rw [e]
      · refine Ent.fold (f := lgF l g nm recs down) p ?_
        rw [e]
        refine Ent.take 2 rfl ?_
        refine Ent.keep 2 rfl (sl_pers _ _ _) ?_
        refine Ent.take 3 rfl ?_
        refine Ent.keep 0 rfl (sl_pers _ _ _) ?_
        exact Ent.tail (Ent.tail (Ent.tail (Ent.refl _)))
end Go.Sl
namespace Go.Sl
open Go Go.Proofs
set_option maxRecDepth 20000
theorem c261 {p : SP} {b : Bytes} : Spec P 178 [p.v b.length] [sl Kb p b] (fun _ : Unit => .bool (decide (262144 < (b.length : Int)))) (fun _ => [sl Kb p b]) := by
  refine Spec.intro Tryz.func178 rfl rfl rfl fun F => ?_
  refine W.rseq ?_
  refine WL.p rfl rfl rfl (PV.as rfl) ?_
  refine WL.next [(2, _), (0, _)] ⟨rfl, rfl, trivial⟩ ?_
  refine W.rseq ?_
  refine WL.p rfl rfl rfl (PV.mv rfl) ?_
  refine WL.p rfl rfl rfl (PV.lenL ul62 rfl rfl) ?_
  refine WL.p rfl rfl rfl (PV.gt rfl rfl) ?_
  refine WL.p rfl rfl rfl (PV.as rfl) ?_
  refine WL.next [(2, _)] ⟨rfl, trivial⟩ ?_
  refine W.ret ?_
  rotate_left
  exact K.fin (vs := [_]) () ⟨rfl, trivial⟩ rfl (Ent.refl _)
/-- Where the first one is. -/
def findI {α : Type} (pred : α → Bool) (xs : List α) : Int := match xs.findIdx? pred with | some k => k | none => -1
theorem findI_at {α : Type} {pred : α → Bool} {xs : List α} {k : Nat} (h : k < xs.length) (hp : pred xs[k] = true) (ha : ∀ x, x ∈ xs.take k → pred x = false) : findI pred xs = k := by
  have e : xs.findIdx? pred = some k := by
    rw [List.findIdx?_eq_some_iff_getElem]
    refine ⟨h, hp, fun j hj => ?_⟩
    have hj' : j < xs.length := by omega
    have := ha xs[j] (by rw [List.mem_take_iff_getElem]; exact ⟨j, by omega, rfl⟩)
    simp [this]
  unfold findI; rw [e]
theorem findI_none {α : Type} {pred : α → Bool} {xs : List α} (ha : ∀ x, x ∈ xs → pred x = false) : findI pred xs = -1 := by
  have e : xs.findIdx? pred = none := by rw [List.findIdx?_eq_none_iff]; exact ha
  unfold findI; rw [e]
theorem take_false {α : Type} {pred : α → Bool} {xs : List α} {k : Nat} (h : k < xs.length) (hp : pred xs[k] = false) (ha : ∀ x, x ∈ xs.take k → pred x = false) : ∀ x, x ∈ xs.take (k + 1) → pred x = false := by
  intro x hx
  rw [List.take_succ_eq_append_getElem h] at hx
  rcases List.mem_append.1 hx with hx | hx
  · exact ha x hx
  · simp at hx; rw [hx]; exact hp
theorem c333 {p : SP} {xs : List Bytes} {f : Nat} {c1 c2 : Array Value} (pred : Bytes → Bool) (hl : xs.length ≤ 2 ^ 40) (hcb : Cb P f) (hf : ∀ q b, Spec P f (c1.toList ++ [SP.v q b.length] ++ c2.toList) [sl Kb q b] (fun _ : Unit => .bool (pred b)) (fun _ => [sl Kb q b])) :
    Spec P 201 [p.v xs.length, .func (.func f) c1 c2] [sl (Ksl Kb) p xs] (fun _ : Unit => .int .i64 (findI pred xs)) (fun _ => [sl (Ksl Kb) p xs]) := by
  refine Spec.intro Tryz.func201 rfl rfl rfl fun F => ?_
  refine W.fact (sl_fact 0 rfl) fun hp => ?_
  refine W.rseq ?_
  refine WL.p rfl rfl rfl (PV.as rfl) ?_
  refine WL.next [(4, _), (0, _), (1, _)] ⟨rfl, rfl, rfl, trivial⟩ ?_
  refine W.seq ?_
  refine W.rseq ?_
  refine WL.p rfl rfl rfl (PV.mv rfl) ?_
  refine WL.p rfl rfl rfl (PV.lenL ul182 rfl rfl) ?_
  refine WL.p rfl rfl rfl (PV.mv rfl) ?_
  refine WL.next [(8, _), (7, _), (4, _), (0, _), (1, _)] ⟨rfl, rfl, rfl, rfl, rfl, trivial⟩ ?_
  refine W.block ?_
  rotate_left
  refine W.loopP (X := Nat) (fun k => k ≤ xs.length ∧ ∀ x, x ∈ xs.take k → pred x = false) (fun k => [(8, .int .i64 k), (7, .int .i64 xs.length), (4, .int .i64 0), (0, p.v xs.length), (1, .func (.func f) c1 c2)])
    (fun _ => sl (Ksl Kb) p xs :: F) (fun k => xs.length - k) 0 ⟨Nat.zero_le _, by simp⟩ ⟨rfl, rfl, rfl, rfl, rfl, trivial⟩ (Ent.refl _) fun k hI => ?_
  have hk := hI.1; have ha := hI.2; clear hI
  refine W.rseq ?_
  refine WL.p rfl rfl rfl (PV.lt rfl rfl) ?_
  refine WL.next [(9, _), (8, _), (7, _), (4, _), (0, _), (1, _)] ⟨rfl, rfl, rfl, rfl, rfl, rfl, trivial⟩ ?_
  refine W.seq ?_
  refine W.condD rfl (fun h0 => ?_) (fun h0 => ?_)
  refine W.skip ?_
  refine K.next [(8, _), (7, _), (4, _), (0, _), (1, _)] ⟨rfl, rfl, rfl, rfl, rfl, trivial⟩ ?_
  refine W.bseq ?_
  refine W.rseq ?_
  refine WL.p rfl rfl rfl (PV.mv rfl) ?_
  refine WL.p rfl rfl rfl (PV.as rfl) ?_
  refine WL.next [(5, _), (8, _), (7, _), (4, _), (0, _), (1, _)] ⟨rfl, rfl, rfl, rfl, rfl, rfl, trivial⟩ ?_
  refine W.rseq ?_
  refine WL.p rfl rfl rfl (PV.mv rfl) ?_
  refine WL.p rfl rfl rfl (PV.mv rfl) ?_
  refine WL.p rfl rfl rfl (PV.mv rfl) ?_
  refine WL.p rfl rfl rfl (PV.ixN (by assumption) ul182 sz62 rfl rfl (by omega)) ?_
  refine WL.elt 0 (k) rfl (List.getElem?_eq_getElem (by first | omega | (simp; omega))) fun q1 => ?_
  refine WL.nm (H' := ro _ _ [_] :: _ :: _ :: _) rfl ?_
  refine WL.f rfl rfl rfl (FV.ld (LdD.ro 0 0 sc62 rfl rfl rfl rfl)) ?_
  refine WL.putX rfl rfl rfl (OpX.callV hcb rfl (hf _ _) rfl (.cons (i := 1) rfl .nil)) fun x16 => ?_
  refine WL.nm (H' := _ :: ro _ _ [_] :: _ :: _) rfl ?_
  refine WL.next [(16, _), (5, _), (8, _), (7, _), (4, _), (0, _), (1, _)] ⟨rfl, rfl, rfl, rfl, rfl, rfl, rfl, trivial⟩ ?_
  refine W.cond rfl (fun h2 => ?_) (fun h2 => ?_)
  refine W.rseq ?_
  refine WL.p rfl rfl rfl (PV.mv rfl) ?_
  refine WL.p rfl rfl rfl (PV.as rfl) ?_
  refine WL.next [(4, _), (8, _), (7, _), (0, _), (1, _)] ⟨rfl, rfl, rfl, rfl, rfl, trivial⟩ ?_
  refine W.ret ?_
  refine K.retB ?_
  refine K.retT ?_
  refine K.retT ?_
  refine K.retB ?_
  refine K.retT ?_
  rotate_left
  refine W.skip ?_
  refine K.out ?_
  refine K.next [(8, _), (7, _), (4, _), (0, _), (1, _)] ⟨rfl, rfl, rfl, rfl, rfl, trivial⟩ ?_
  refine W.region ?_
  refine WL.p rfl rfl rfl (PV.add64 rfl rfl (by omega)) ?_
  refine WL.p rfl rfl rfl (PV.mv rfl) ?_
  refine WL.nil ?_
  rotate_left
  refine W.exit ?_
  refine K.exitT ?_
  refine K.exitT ?_
  refine K.exit ?_
  refine K.next [(4, _)] ⟨rfl, trivial⟩ ?_
  refine W.rseq ?_
  refine WL.p rfl rfl rfl (PV.as rfl) ?_
  refine WL.next [(4, _)] ⟨rfl, trivial⟩ ?_
  refine W.ret ?_
  rotate_left
  · refine K.fin (vs := [_]) () ⟨rfl, trivial⟩ ?_ ?_
    · show Value.int _ _ = Value.int _ _
      rw [findI_at (by omega) h2 ha]
    · refine Ent.keep 2 rfl (sl_pers _ _ _) ?_
      exact Ent.tail (Ent.tail (Ent.tail (Ent.refl _)))
  · refine K.againP (k + 1) ⟨by omega, take_false (by omega) h2 ha⟩ (by omega) ⟨rfl, rfl, rfl, rfl, rfl, trivial⟩ ?_
    refine Ent.keep 2 rfl (sl_pers _ _ _) ?_
    exact Ent.tail (Ent.tail (Ent.tail (Ent.refl _)))
  · refine K.fin (vs := [_]) () ⟨rfl, trivial⟩ ?_ ?_
    · show Value.int _ _ = Value.int _ _
      rw [findI_none (by rw [List.take_of_length_le (by omega)] at ha; exact ha)]
    · refine Ent.keep 0 rfl (sl_pers _ _ _) ?_
      exact Ent.tail (Ent.refl _)
theorem findI_any {α : Type} {pred : α → Bool} {xs : List α} : decide (0 ≤ findI pred xs) = xs.any pred := by
  cases h : xs.findIdx? pred with
  | none =>
    have h1 := h
    rw [List.findIdx?_eq_none_iff] at h1
    have h2 : xs.any pred = false := by rw [List.any_eq_false]; intro x hx; simp [h1 x hx]
    unfold findI; rw [h, h2]; rfl
  | some k =>
    have h1 := h
    rw [List.findIdx?_eq_some_iff_getElem] at h1
    obtain ⟨h2, h3, _⟩ := h1
    have h4 : xs.any pred = true := by rw [List.any_eq_true]; exact ⟨xs[k], List.getElem_mem h2, h3⟩
    unfold findI; rw [h, h4]; simp
end Go.Sl
