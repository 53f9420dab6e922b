/- A library for the proof (part 7): Cl0 Sl22 Bd0 Qn0 Tu0 Qc0. -/
import Derived.Test.YtoapkonigbkcgaaGreatDoorL06
set_option linter.unusedVariables false
set_option linter.unusedSimpArgs false
set_option linter.unusedSectionVars false
/-! Clones. -/
namespace Go.Sl
open Go Go.Proofs
set_option maxRecDepth 20000
theorem c208 {p : SP} {xs : List Bytes} (hx : xs.length ≤ 2 ^ 40) : Spec P 93 [p.v xs.length] [sl Kstr p xs] (fun q : SP => q.v xs.length) (fun q => [sl Kstr q xs, sl Kstr p xs]) := by
  refine Spec.intro Tryz.func93 rfl rfl rfl fun F => ?_
  refine W.fact (sl_fact 0 rfl) fun hp => ?_
  refine W.rseq ?_
  refine WL.p rfl rfl rfl (PV.as rfl) ?_
  refine WL.next [(2, _), (0, _)] ⟨rfl, rfl, trivial⟩ ?_
  refine W.seq ?_
  refine W.rseq ?_
  refine WL.p rfl rfl rfl (PV.mv rfl) ?_
  refine WL.p rfl rfl rfl (PV.eqV rfl rfl rfl (EqIs.s0 ul33)) ?_
  refine WL.next [(4, _), (2, _), (0, _)] ⟨rfl, rfl, rfl, trivial⟩ ?_
  refine W.cond rfl (fun h0 => ?_) (fun h0 => ?_)
  refine W.rseq ?_
  refine WL.p rfl rfl rfl (PV.as rfl) ?_
  refine WL.next [(2, _), (0, _)] ⟨rfl, rfl, trivial⟩ ?_
  refine W.ret ?_
  refine K.retT ?_
  rotate_left
  refine W.skip ?_
  refine K.next [(2, _), (0, _)] ⟨rfl, rfl, trivial⟩ ?_
  refine W.rseq ?_
  refine WL.putX rfl rfl rfl (OpX.row0 Kstr slt33 rfl) fun x5 => ?_
  refine WL.nm (H' := _ :: _ :: _ :: _) rfl ?_
  refine WL.p rfl rfl rfl (PV.mv rfl) ?_
  refine WL.putX rfl rfl rfl (OpX.app 1 0 slt33 ni33 rfl rfl rfl rfl (SrcV.atSl 1 rfl) (by first | omega | (simp only [List.length_append, List.length_cons, List.length_nil, List.length_take]; omega) | assumption) (by first | omega | (simp only [List.length_append, List.length_cons, List.length_nil, List.length_take]; omega) | assumption)) fun x7 => ?_
  refine WL.nm (H' := _ :: _ :: _ :: _ :: _) rfl ?_
  refine WL.p rfl rfl rfl (PV.as rfl) ?_
  refine WL.next [(2, _)] ⟨rfl, trivial⟩ ?_
  refine W.ret ?_
  rotate_left
  · have h1 : p.a = none := by simpa using h0
    have h2 : xs = [] := by have := hp.2 h1; exact List.length_eq_zero_iff.1 (by omega)
    subst h2
    refine K.fin (vs := [_]) SP.nil ⟨rfl, trivial⟩ rfl ?_
    refine Ent.add (Ent.nil_sl _) (Ent.take 0 rfl ?_)
    refine Ent.keep 0 rfl (sl_pers _ _ _) ?_
    exact Ent.tail (Ent.refl _)
  · refine K.fin (vs := [_]) x7 ⟨rfl, trivial⟩ rfl ?_
    refine Ent.keep 0 rfl (sl_pers _ _ _) ?_
    refine Ent.keep 3 rfl (sl_pers _ _ _) ?_
    exact Ent.tail (Ent.tail (Ent.tail (Ent.tail (Ent.refl _))))
theorem c207 {p : SP} {xs : List Bytes} (hx : xs.length ≤ 2 ^ 40) : Spec P 92 [p.v xs.length] [sl Kstr p xs] (fun q : SP => q.v xs.length) (fun q => [sl Kstr q xs, sl Kstr p xs]) := by
  refine Spec.intro Tryz.func92 rfl rfl rfl fun F => ?_
  refine W.rseq ?_
  refine WL.p rfl rfl rfl (PV.as rfl) ?_
  refine WL.next [(2, _), (0, _)] ⟨rfl, rfl, trivial⟩ ?_
  refine W.rseq ?_
  refine WL.p rfl rfl rfl (PV.mv rfl) ?_
  refine WL.p rfl rfl rfl (PV.mv rfl) ?_
  refine WL.p rfl rfl rfl (PV.lenL ul33 rfl rfl) ?_
  refine WL.p rfl rfl rfl (PV.mv rfl) ?_
  refine WL.p rfl rfl rfl (PV.lenL ul33 rfl rfl) ?_
  refine WL.fact (sl_fact 0 rfl) fun hs0 => ?_
  refine WL.putX rfl rfl rfl (OpX.cutS3 0 ul33 sz9 rfl rfl rfl rfl rfl (by first | omega | (simp only [List.length_append, List.length_cons, List.length_nil, List.length_take, List.length_drop, Sl.part]; omega)) (by first | omega | (simp only [List.length_append, List.length_cons, List.length_nil, List.length_take, List.length_drop, Sl.part]; omega)) (by first | omega | (simp only [List.length_append, List.length_cons, List.length_nil, List.length_take, List.length_drop, Sl.part]; omega)) (by first | omega | (simp only [List.length_append, List.length_cons, List.length_nil, List.length_take, List.length_drop, Sl.part]; omega))) fun x8 => ?_
  refine WL.nm (H' := _ :: _ :: _) rfl ?_
  refine WL.p rfl rfl rfl (PV.as rfl) ?_
  refine WL.next [(2, _)] ⟨rfl, trivial⟩ ?_
  refine W.ret ?_
  rotate_left
  · have e : part xs 0 (xs.length : Int) = xs := by unfold part; simp
    rw [e]
    refine K.fin (vs := [_]) x8 ⟨rfl, trivial⟩ rfl ?_
    refine Ent.keep 0 rfl (sl_pers _ _ _) ?_
    refine Ent.keep 1 rfl (sl_pers _ _ _) ?_
    exact Ent.tail (Ent.tail (Ent.refl _))
theorem c210 {p : SP} {xs : List Int} (hx : xs.length ≤ 2 ^ 40) : Spec P 95 [p.v xs.length] [sl (Kint .i64) p xs] (fun q : SP => q.v xs.length) (fun q => [sl (Kint .i64) q xs, sl (Kint .i64) p xs]) := by
  refine Spec.intro Tryz.func95 rfl rfl rfl fun F => ?_
  refine W.fact (sl_fact 0 rfl) fun hp => ?_
  refine W.rseq ?_
  refine WL.p rfl rfl rfl (PV.as rfl) ?_
  refine WL.next [(2, _), (0, _)] ⟨rfl, rfl, trivial⟩ ?_
  refine W.seq ?_
  refine W.rseq ?_
  refine WL.p rfl rfl rfl (PV.mv rfl) ?_
  refine WL.p rfl rfl rfl (PV.eqV rfl rfl rfl (EqIs.s0 ul32)) ?_
  refine WL.next [(4, _), (2, _), (0, _)] ⟨rfl, rfl, rfl, trivial⟩ ?_
  refine W.cond rfl (fun h0 => ?_) (fun h0 => ?_)
  refine W.rseq ?_
  refine WL.p rfl rfl rfl (PV.as rfl) ?_
  refine WL.next [(2, _), (0, _)] ⟨rfl, rfl, trivial⟩ ?_
  refine W.ret ?_
  refine K.retT ?_
  rotate_left
  refine W.skip ?_
  refine K.next [(2, _), (0, _)] ⟨rfl, rfl, trivial⟩ ?_
  refine W.rseq ?_
  refine WL.putX rfl rfl rfl (OpX.row0 (Kint .i64) slt32 rfl) fun x5 => ?_
  refine WL.nm (H' := _ :: _ :: _ :: _) rfl ?_
  refine WL.p rfl rfl rfl (PV.mv rfl) ?_
  refine WL.putX rfl rfl rfl (OpX.app 1 0 slt32 ni32 rfl rfl rfl rfl (SrcV.atSl 1 rfl) (by first | omega | (simp only [List.length_append, List.length_cons, List.length_nil, List.length_take]; omega) | assumption) (by first | omega | (simp only [List.length_append, List.length_cons, List.length_nil, List.length_take]; omega) | assumption)) fun x7 => ?_
  refine WL.nm (H' := _ :: _ :: _ :: _ :: _) rfl ?_
  refine WL.p rfl rfl rfl (PV.as rfl) ?_
  refine WL.next [(2, _)] ⟨rfl, trivial⟩ ?_
  refine W.ret ?_
  rotate_left
  · have h1 : p.a = none := by simpa using h0
    have h2 : xs = [] := by have := hp.2 h1; exact List.length_eq_zero_iff.1 (by omega)
    subst h2
    refine K.fin (vs := [_]) SP.nil ⟨rfl, trivial⟩ rfl ?_
    refine Ent.add (Ent.nil_sl _) (Ent.take 0 rfl ?_)
    refine Ent.keep 0 rfl (sl_pers _ _ _) ?_
    exact Ent.tail (Ent.refl _)
  · refine K.fin (vs := [_]) x7 ⟨rfl, trivial⟩ rfl ?_
    refine Ent.keep 0 rfl (sl_pers _ _ _) ?_
    refine Ent.keep 3 rfl (sl_pers _ _ _) ?_
    exact Ent.tail (Ent.tail (Ent.tail (Ent.tail (Ent.refl _))))
theorem c209 {p : SP} {xs : List Int} (hx : xs.length ≤ 2 ^ 40) : Spec P 94 [p.v xs.length] [sl (Kint .i64) p xs] (fun q : SP => q.v xs.length) (fun q => [sl (Kint .i64) q xs, sl (Kint .i64) p xs]) := by
  refine Spec.intro Tryz.func94 rfl rfl rfl fun F => ?_
  refine W.rseq ?_
  refine WL.p rfl rfl rfl (PV.as rfl) ?_
  refine WL.next [(2, _), (0, _)] ⟨rfl, rfl, trivial⟩ ?_
  refine W.rseq ?_
  refine WL.p rfl rfl rfl (PV.mv rfl) ?_
  refine WL.p rfl rfl rfl (PV.mv rfl) ?_
  refine WL.p rfl rfl rfl (PV.lenL ul32 rfl rfl) ?_
  refine WL.p rfl rfl rfl (PV.mv rfl) ?_
  refine WL.p rfl rfl rfl (PV.lenL ul32 rfl rfl) ?_
  refine WL.fact (sl_fact 0 rfl) fun hs0 => ?_
  refine WL.putX rfl rfl rfl (OpX.cutS3 0 ul32 sz3 rfl rfl rfl rfl rfl (by first | omega | (simp only [List.length_append, List.length_cons, List.length_nil, List.length_take, List.length_drop, Sl.part]; omega)) (by first | omega | (simp only [List.length_append, List.length_cons, List.length_nil, List.length_take, List.length_drop, Sl.part]; omega)) (by first | omega | (simp only [List.length_append, List.length_cons, List.length_nil, List.length_take, List.length_drop, Sl.part]; omega)) (by first | omega | (simp only [List.length_append, List.length_cons, List.length_nil, List.length_take, List.length_drop, Sl.part]; omega))) fun x8 => ?_
  refine WL.nm (H' := _ :: _ :: _) rfl ?_
  refine WL.p rfl rfl rfl (PV.as rfl) ?_
  refine WL.next [(2, _)] ⟨rfl, trivial⟩ ?_
  refine W.ret ?_
  rotate_left
  · have e : part xs 0 (xs.length : Int) = xs := by unfold part; simp
    rw [e]
    refine K.fin (vs := [_]) x8 ⟨rfl, trivial⟩ rfl ?_
    refine Ent.keep 0 rfl (sl_pers _ _ _) ?_
    refine Ent.keep 1 rfl (sl_pers _ _ _) ?_
    exact Ent.tail (Ent.tail (Ent.refl _))
theorem c272 {r : Nat} {m : List (Int × Msg)} : Spec P 118 [.map (some r)] [mp kvI Kmsg r m] (fun r' : Nat => .map (some r')) (fun r' => [mp kvI Kmsg r' m, mp kvI Kmsg r m]) := by
  refine Spec.intro Tryz.func118 rfl rfl rfl fun F => ?_
  refine W.rseq ?_
  refine WL.p rfl rfl rfl (PV.as rfl) ?_
  refine WL.next [(2, _), (0, _)] ⟨rfl, rfl, trivial⟩ ?_
  refine W.seq ?_
  refine W.rseq ?_
  refine WL.p rfl rfl rfl (PV.mv rfl) ?_
  refine WL.p rfl rfl rfl (PV.eqV rfl rfl rfl (EqIs.m0 ul197)) ?_
  refine WL.next [(4, _), (2, _), (0, _)] ⟨rfl, rfl, rfl, trivial⟩ ?_
  refine W.cF rfl ?_
  refine W.skip ?_
  refine K.next [(2, _), (0, _)] ⟨rfl, rfl, trivial⟩ ?_
  refine W.rseq ?_
  refine WL.p rfl rfl rfl (PV.mv rfl) ?_
  refine WL.p rfl rfl rfl (PV.mkI ⟨_, ul197, by intro _ h; cases h⟩ rfl) ?_
  rotate_left
  refine WL.mclone 0 xt338 rfl rfl rfl fun x7 => ?_
  refine WL.p rfl rfl rfl (PV.ta ul197 (by intro _ h; cases h) rfl) ?_
  refine WL.p rfl rfl rfl (PV.as rfl) ?_
  refine WL.next [(2, _)] ⟨rfl, trivial⟩ ?_
  refine W.ret ?_
  rotate_left
  refine K.fin (vs := [_]) x7 ⟨rfl, trivial⟩ rfl ?_
  refine Ent.take 0 rfl ?_
  refine Ent.take 0 rfl ?_
  exact Ent.refl _
theorem c273 {r : Nat} {m : List (Int × Int)} : Spec P 119 [.map (some r)] [mp kvI (Kint .i64) r m] (fun r' : Nat => .map (some r')) (fun r' => [mp kvI (Kint .i64) r' m, mp kvI (Kint .i64) r m]) := by
  refine Spec.intro Tryz.func119 rfl rfl rfl fun F => ?_
  refine W.rseq ?_
  refine WL.p rfl rfl rfl (PV.as rfl) ?_
  refine WL.next [(2, _), (0, _)] ⟨rfl, rfl, trivial⟩ ?_
  refine W.seq ?_
  refine W.rseq ?_
  refine WL.p rfl rfl rfl (PV.mv rfl) ?_
  refine WL.p rfl rfl rfl (PV.eqV rfl rfl rfl (EqIs.m0 ul198)) ?_
  refine WL.next [(4, _), (2, _), (0, _)] ⟨rfl, rfl, rfl, trivial⟩ ?_
  refine W.cF rfl ?_
  refine W.skip ?_
  refine K.next [(2, _), (0, _)] ⟨rfl, rfl, trivial⟩ ?_
  refine W.rseq ?_
  refine WL.p rfl rfl rfl (PV.mv rfl) ?_
  refine WL.p rfl rfl rfl (PV.mkI ⟨_, ul198, by intro _ h; cases h⟩ rfl) ?_
  rotate_left
  refine WL.mclone 0 xt338 rfl rfl rfl fun x7 => ?_
  refine WL.p rfl rfl rfl (PV.ta ul198 (by intro _ h; cases h) rfl) ?_
  refine WL.p rfl rfl rfl (PV.as rfl) ?_
  refine WL.next [(2, _)] ⟨rfl, trivial⟩ ?_
  refine W.ret ?_
  rotate_left
  refine K.fin (vs := [_]) x7 ⟨rfl, trivial⟩ rfl ?_
  refine Ent.take 0 rfl ?_
  refine Ent.take 0 rfl ?_
  exact Ent.refl _
theorem c267 {p : SP} {b : Bytes} : Spec P 112 [p.v b.length] [sl Kb p b] (fun _ : Unit => .int .i64 (if b.head? = some 2 then 2 else if b.head? = some 105 then 1 else 0)) (fun _ => [sl Kb p b]) := by
  cases b with
  | nil =>
    refine Spec.intro Tryz.func112 rfl rfl rfl fun F => ?_
    refine W.rseq ?_
    refine WL.p rfl rfl rfl (PV.as rfl) ?_
    refine WL.next [(2, _), (0, _)] ⟨rfl, rfl, trivial⟩ ?_
    refine W.bseq ?_
    refine W.rseq ?_
    refine WL.p rfl rfl rfl (PV.mv rfl) ?_
    refine WL.p rfl rfl rfl (PV.lenL ul62 rfl rfl) ?_
    refine WL.p rfl rfl rfl (PV.eqI rfl rfl) ?_
    refine WL.p rfl rfl rfl (PV.as rfl) ?_
    refine WL.next [(3, _), (2, _), (0, _)] ⟨rfl, rfl, rfl, trivial⟩ ?_
    refine W.cT rfl ?_
    refine W.rseq ?_
    refine WL.p rfl rfl rfl (PV.as rfl) ?_
    refine WL.next [(2, _)] ⟨rfl, trivial⟩ ?_
    refine W.ret ?_
    refine K.retB ?_
    refine K.retT ?_
    rotate_left
    refine K.fin (vs := [_]) () ⟨rfl, trivial⟩ rfl ?_
    refine Ent.keep 0 rfl (sl_pers _ _ _) ?_
    exact Ent.tail (Ent.refl _)
  | cons c l =>
    refine Spec.intro Tryz.func112 rfl rfl rfl fun F => ?_
    refine W.rseq ?_
    refine WL.p rfl rfl rfl (PV.as rfl) ?_
    refine WL.next [(2, _), (0, _)] ⟨rfl, rfl, trivial⟩ ?_
    refine W.bseq ?_
    refine W.rseq ?_
    refine WL.p rfl rfl rfl (PV.mv rfl) ?_
    refine WL.p rfl rfl rfl (PV.lenL ul62 rfl rfl) ?_
    refine WL.p rfl rfl rfl (PV.eqI rfl rfl) ?_
    refine WL.p rfl rfl rfl (PV.as rfl) ?_
    refine WL.next [(3, _), (2, _), (0, _)] ⟨rfl, rfl, rfl, trivial⟩ ?_
    refine W.condD rfl (fun h0 => ?_) (fun h0 => ?_)
    refine W.rseq ?_
    refine WL.p rfl rfl rfl (PV.as rfl) ?_
    refine WL.next [(2, _)] ⟨rfl, trivial⟩ ?_
    refine W.ret ?_
    refine K.retB ?_
    refine K.retT ?_
    rotate_left
    refine W.rseq ?_
    refine WL.p rfl rfl rfl (PV.mv rfl) ?_
    refine WL.fact (sl_fact 0 rfl) fun hs1 => ?_
    refine WL.p rfl rfl rfl (PV.ixN (j := 0) (by assumption) ul62 sz5 rfl rfl (by omega)) ?_
    refine WL.f rfl rfl rfl (FV.ld (LdD.sl1B 0 sc5 rfl rfl rfl (by omega))) ?_
    refine WL.p rfl rfl rfl (PV.eqI rfl rfl) ?_
    refine WL.p rfl rfl rfl (PV.as rfl) ?_
    refine WL.next [(7, _), (2, _), (0, _)] ⟨rfl, rfl, rfl, trivial⟩ ?_
    refine W.condD rfl (fun h2 => ?_) (fun h2 => ?_)
    refine W.rseq ?_
    refine WL.p rfl rfl rfl (PV.as rfl) ?_
    refine WL.next [(2, _)] ⟨rfl, trivial⟩ ?_
    refine W.ret ?_
    refine K.retB ?_
    refine K.retT ?_
    rotate_left
    refine W.rseq ?_
    refine WL.p rfl rfl rfl (PV.mv rfl) ?_
    refine WL.p rfl rfl rfl (PV.ixN (j := 0) (by assumption) ul62 sz5 rfl rfl (by omega)) ?_
    refine WL.f rfl rfl rfl (FV.ld (LdD.sl1B 0 sc5 rfl rfl rfl (by omega))) ?_
    refine WL.p rfl rfl rfl (PV.eqI rfl rfl) ?_
    refine WL.p rfl rfl rfl (PV.as rfl) ?_
    refine WL.next [(12, _), (2, _)] ⟨rfl, rfl, trivial⟩ ?_
    refine W.condD rfl (fun h3 => ?_) (fun h3 => ?_)
    refine W.rseq ?_
    refine WL.p rfl rfl rfl (PV.as rfl) ?_
    refine WL.next [(2, _)] ⟨rfl, trivial⟩ ?_
    refine W.ret ?_
    refine K.retB ?_
    refine K.retT ?_
    rotate_left
    refine W.skip ?_
    refine K.out ?_
    refine K.next [(2, _)] ⟨rfl, trivial⟩ ?_
    refine W.rseq ?_
    refine WL.p rfl rfl rfl (PV.as rfl) ?_
    refine WL.next [(2, _)] ⟨rfl, trivial⟩ ?_
    refine W.ret ?_
    rotate_left
    · exfalso; simp at h0; omega
    · have e : c = 2 := UInt8.toNat_inj.1 (by simp at h2; show c.toNat = 2; omega)
      subst e
      refine K.fin (vs := [_]) () ⟨rfl, trivial⟩ rfl ?_
      refine Ent.keep 0 rfl (sl_pers _ _ _) ?_
      exact Ent.tail (Ent.refl _)
    · have e : c = 105 := UInt8.toNat_inj.1 (by simp at h3; show c.toNat = 105; omega)
      subst e
      refine K.fin (vs := [_]) () ⟨rfl, trivial⟩ rfl ?_
      refine Ent.keep 0 rfl (sl_pers _ _ _) ?_
      exact Ent.tail (Ent.refl _)
    · have e1 : c ≠ 2 := fun e => h2 (by subst e; rfl)
      have e2 : c ≠ 105 := fun e => h3 (by subst e; rfl)
      refine K.fin (vs := [_]) () ⟨rfl, trivial⟩ ?_ ?_
      · simp [e1, e2, resVal]
      · refine Ent.keep 0 rfl (sl_pers _ _ _) ?_
        exact Ent.tail (Ent.refl _)
end Go.Sl
/-! Regions in which an effect may run at any time: by cases on what runs first. -/
namespace Go.Sl
open Go
section
variable {P : Program} {n : Nat} {ops : Array Oper} {Q : Exit → Act → World → Prop} {todo : List Nat} {pP pL : List (Nat × Value)} {ρ : Env} {H : List Res}
theorem DInv.permT {T T' : List Nat} {S : Array Bool} {a : Act} {w : World} (hp : T.Perm T') (hi : DInv P n ops T pP pL ρ H S a w) : DInv P n ops T' pP pL ρ H S a w :=
  ⟨hi.ex, hi.hw, hi.size, fun i h1 h2 => (hi.cov i h1 h2).imp (hp.mem_iff.1) id, fun i h => hi.tod i (hp.mem_iff.2 h), hi.down, hp.nodup_iff.1 hi.nd, fun i h => hi.dis i (hp.mem_iff.2 h), hi.vP, hi.vL⟩
theorem DP.permT {T T' : List Nat} (hp : T.Perm T') (h : DP P n ops Q T pP pL ρ H) : DP P n ops Q T' pP pL ρ H := fun fuel S a w hi hf => h fuel S a w (hi.permT hp.symm) hf
/-- A step that changes memory, taken. -/
theorem eff_step (hR : OkR ops) {j : Nat} {o : Oper} {X : Type} {vx : X → Value} {Hx : X → List Res} {pL' : X → List (Nat × Value)} (ho : ops[j]? = some o)
    (hd : match o.dst with | some d => Nat.blt d n = true ∧ lk ρ d = none | none => True) (hx : OpX P o ρ H vx Hx) (hg : ∀ a, EnvOk n ρ a → Region.wanted o (yielded ops a.tmps) = true)
    (hk : ∀ x, KeepL P n ops j (putE o.dst (vx x) ρ) (Hx x) pL (pL' x))
    (k : ∀ x, DP P n ops Q todo pP (pL' x) (putE o.dst (vx x) ρ) (Hx x)) {fuel : Nat} {S : Array Bool} {a : Act} {w : World} (hi : DInv P n ops (j :: todo) pP pL ρ H S a w) (hf : unX S ≤ fuel + 1)
    (hj : j ∈ Region.ready .any ops S) : wpOp P ops Q j (wpAny P .any ops Q fuel (S.setIfInBounds j true)) a w := by
  have hdn : ∀ d, o.dst = some d → d < n ∧ lk ρ d = none := by
    intro d h
    have hd2 : Nat.blt d n = true ∧ lk ρ d = none := by simp only [h] at hd; exact hd
    exact ⟨Nat.le_of_ble_eq_true hd2.1, hd2.2⟩
  have less : ∀ (v : Value) (a : Act), EnvOk n (putE o.dst v ρ) a → EnvOk n ρ a := by
    intro v a h
    cases hod : o.dst with
    | none => rw [hod] at h; exact h
    | some d => rw [hod] at h; exact h.less (hdn d hod).2
  have more : ∀ (v : Value) (t : Nat) (u : Value), lk ρ t = some u → lk (putE o.dst v ρ) t = some u := by
    intro v t u h
    cases hod : o.dst with
    | none => exact h
    | some d => exact lk_cons_of (hdn d hod).2 h
  have hnd := List.nodup_cons.1 hi.nd
  obtain ⟨oj, hoj, hu, hp⟩ := (ready_iff hi.size).1 hj
  have hjs : j < ops.size := (Array.getElem?_eq_some_iff.1 hoj).1
  rw [ho] at hoj; cases hoj
  obtain ⟨b, g1, g2, g3, g4⟩ := hi.ex
  have hsz : a.tmps.size = b.tmps.size := by rw [g3, g1.sz]
  have same := exec_same hR ho hp g4 hsz
  unfold wpOp
  simp only [ho]
  rw [same.2, hg b g1]
  simp only [if_true]
  refine .inl ?_
  unfold Oper.wp
  rw [same.1]
  refine upon_move hx g1 hi.hw (fun d h => (hdn d h).1) fun x w' hw' => ?_
  refine k x fuel _ _ _ ?_ (unX_set hf (by rw [hi.size]; exact hjs) hu)
  have hkx := (hk x).spec
  have hbx : EnvOk n (putE o.dst (vx x) ρ) (b.put o.dst (vx x)) := by
    cases hod : o.dst with
    | none => exact g1
    | some d => exact g1.put (by simp only [hod] at hd; exact hd.1) _
  refine ⟨⟨b.put o.dst (vx x), hbx, by cases o.dst <;> exact g2, by cases o.dst <;> simp [Act.put, g3], fun t ht => ?_⟩, hw', by simp [hi.size], ?_, ?_, ?_, hnd.2, ?_, ?_, ?_⟩
  · have hold : (∀ p, p ∈ pP ++ pL → S.getD p.1 false = false → ∀ o, ops[p.1]? = some o → o.dst ≠ some t) := by
      intro p hpm hun o' ho' hdt
      have hne : p.1 ≠ j := fun e => hi.dis j (by simp) p.2 (by rw [← e]; exact hpm)
      have hun' : (S.setIfInBounds j true).getD p.1 false = false := by rw [getD_set, if_neg (fun e => hne e.1)]; exact hun
      rcases List.mem_append.1 hpm with hpm | hpm
      · exact ht p (by simp [hpm]) hun' o' ho' hdt
      · rcases hkx.1 p hpm with hx' | hx'
        · exact ht p (by simp [hx']) hun' o' ho' hdt
        · have := anc_run hi.down _ _ _ hx' (fun o2 ho2 => by rw [ho] at ho2; cases ho2; exact hp)
          rw [this] at hun; cases hun
    have hab := g4 t hold
    cases hod : o.dst with
    | none => exact hab
    | some d =>
      by_cases e : d = t
      · subst e
        simp [Act.put, (hdn d hod).1, g3, g1.sz]
      · have e1 : ∀ c : Act, (c.put (some d) (vx x)).tmps.getD t undef = c.tmps.getD t undef := fun c => by simp [Act.put, e]
        rw [e1, e1]; exact hab
  · intro i' hl hun
    rw [getD_set] at hun
    by_cases e : i' = j ∧ j < S.size
    · simp [e] at hun
    · rw [if_neg e] at hun
      rcases hi.cov i' hl hun with h | ⟨u, h⟩
      · rcases List.mem_cons.1 h with rfl | h
        · exact (e ⟨rfl, by rw [hi.size]; exact hl⟩).elim
        · exact .inl h
      · refine .inr ⟨u, ?_⟩
        rcases List.mem_append.1 h with h | h
        · simp [h]
        · rcases hkx.1 _ h with hx' | hx'
          · simp [hx']
          · have := anc_run hi.down _ _ _ hx' (fun o2 ho2 => by rw [ho] at ho2; cases ho2; exact hp)
            rw [this] at hun; cases hun
  · intro i' hit
    have hne : i' ≠ j := fun e => hnd.1 (by rw [← e]; exact hit)
    have := hi.tod i' (by simp [hit])
    exact ⟨by rw [getD_set, if_neg (fun e => hne e.1)]; exact this.1, this.2⟩
  · intro i' hiS o' ho' e he
    rw [getD_set] at hiS ⊢
    by_cases ei : i' = j ∧ j < S.size
    · rw [ei.1, ho] at ho'; cases ho'
      have := hp e he
      by_cases e2 : e = j ∧ j < S.size
      · simp [e2]
      · rw [if_neg e2]; exact this
    · rw [if_neg ei] at hiS
      have := hi.down i' hiS o' ho' e he
      by_cases e2 : e = j ∧ j < S.size
      · simp [e2]
      · rw [if_neg e2]; exact this
  · intro i' hit u hm
    refine hi.dis i' (by simp [hit]) u ?_
    rcases List.mem_append.1 hm with hm | hm
    · simp [hm]
    · simp [(hkx.2 _ hm).1]
  · intro p hpm
    obtain ⟨o', d', k1, k2, k3, k4, k5⟩ := hi.vP p hpm
    exact ⟨o', d', k1, k2, k3, more _ _ _ k4, fun a w ha => k5 a w (less _ _ ha)⟩
  · intro p hpm
    obtain ⟨k0, o2, k6, k7⟩ := hkx.2 p hpm
    obtain ⟨o', d', k1, k2, k3, k4, k5⟩ := hi.vL p k0
    rw [k6] at k1; cases k1
    exact ⟨o2, d', k6, k2, k3, more _ _ _ k4, k7⟩
/-- What may run first, each with what follows. -/
def Way (P : Program) (n : Nat) (ops : Array Oper) (Q : Exit → Act → World → Prop) (pP pL : List (Nat × Value)) (ρ : Env) (H : List Res) (T : List Nat) (j : Nat) : Prop :=
  ∃ (o : Oper) (X : Type) (vx : X → Value) (Hx : X → List Res) (pL' : X → List (Nat × Value)) (T' : List Nat), ops[j]? = some o ∧ (match o.dst with | some d => Nat.blt d n = true ∧ lk ρ d = none | none => True) ∧ OpX P o ρ H vx Hx ∧
    (∀ a, EnvOk n ρ a → Region.wanted o (yielded ops a.tmps) = true) ∧ (∀ x, KeepL P n ops j (putE o.dst (vx x) ρ) (Hx x) pL (pL' x)) ∧ T.Perm (j :: T') ∧ ∀ x, DP P n ops Q T' pP (pL' x) (putE o.dst (vx x) ρ) (Hx x)
theorem DP.any (hR : OkR ops) {T : List Nat} (hne : T ≠ []) (hall : ∀ j, j ∈ T → (match ops[j]? with | some o => (preds o).any fun e => T.contains e | none => false) = true ∨ Way P n ops Q pP pL ρ H T j) : DP P n ops Q T pP pL ρ H := by
  intro fuel
  induction fuel with
  | zero =>
    intro S a w hi hf
    obtain ⟨i, hiT⟩ := List.exists_mem_of_ne_nil T hne
    have h1 := hi.tod i hiT
    have h2 := unX_zero hf (i := i) (by rw [hi.size]; exact h1.2)
    rw [h1.1] at h2; cases h2
  | succ fuel ih =>
    intro S a w hi hf
    obtain ⟨i, hiT⟩ := List.exists_mem_of_ne_nil T hne
    have h1 := hi.tod i hiT
    refine ⟨fun hnil => (ready_of_un hR hi.size i h1.2 h1.1 hnil).elim, fun j hj => ?_⟩
    obtain ⟨oj, hoj, hu, hp⟩ := (ready_iff hi.size).1 hj
    have hjs : j < ops.size := (Array.getElem?_eq_some_iff.1 hoj).1
    rcases hi.cov j hjs hu with h | ⟨v, hv⟩
    · rcases hall j h with hw | ⟨o, X, vx, Hx, pL', T', g1, g2, g3, g4, g5, g6, g7⟩
      · exfalso
        simp only [hoj, List.any_eq_true] at hw
        obtain ⟨e, he, hc⟩ := hw
        have h3 := (hi.tod e (by simpa using hc)).1
        rw [hp e he] at h3; cases h3
      · exact eff_step hR g1 g2 g3 g4 g5 g7 (hi.permT g6) hf hj
    · exact pend_exec hR hi hj hv fun d hd => ih _ _ _ hd (unX_set hf (by rw [hi.size]; exact hjs) hu)
/-- Two of them; what is left waits. -/
theorem DP.two (hR : OkR ops) {i j : Nat} {T : List Nat} (hw : waits ops (i :: j :: T) T = true) (h1 : Way P n ops Q pP pL ρ H (i :: j :: T) i) (h2 : Way P n ops Q pP pL ρ H (i :: j :: T) j) : DP P n ops Q (i :: j :: T) pP pL ρ H := by
  refine DP.any hR (by simp) fun k hk => ?_
  rcases List.mem_cons.1 hk with rfl | hk
  · exact .inr h1
  · rcases List.mem_cons.1 hk with rfl | hk
    · exact .inr h2
    · unfold waits at hw
      rw [List.all_eq_true] at hw
      exact .inl (hw k hk)
/-- The first of two. -/
theorem Way.fst {i j d : Nat} {T : List Nat} {o : Oper} {X : Type} {vx : X → Value} {Hx : X → List Res} (pL' : List (Nat × Value)) (ho : ops[i]? = some o) (hg : o.guard = none) (hd : o.dst = some d) (hn : Nat.blt d n = true) (hf : lk ρ d = none) (hx : OpX P o ρ H vx Hx)
    (hk : ∀ x, KeepL P n ops i ((d, vx x) :: ρ) (Hx x) pL pL') (k : ∀ x, DP P n ops Q (j :: T) pP pL' ((d, vx x) :: ρ) (Hx x)) : Way P n ops Q pP pL ρ H (i :: j :: T) i := by
  refine ⟨o, X, vx, Hx, fun _ => pL', j :: T, ho, by rw [hd]; exact ⟨hn, hf⟩, hx, fun _ _ => wanted_none hg _, ?_, List.Perm.refl _, ?_⟩
  · rw [hd]; exact hk
  · rw [hd]; exact k
/-- The second of two. -/
theorem Way.snd {i j d : Nat} {T : List Nat} {o : Oper} {X : Type} {vx : X → Value} {Hx : X → List Res} (pL' : List (Nat × Value)) (ho : ops[j]? = some o) (hg : o.guard = none) (hd : o.dst = some d) (hn : Nat.blt d n = true) (hf : lk ρ d = none) (hx : OpX P o ρ H vx Hx)
    (hk : ∀ x, KeepL P n ops j ((d, vx x) :: ρ) (Hx x) pL pL') (k : ∀ x, DP P n ops Q (i :: T) pP pL' ((d, vx x) :: ρ) (Hx x)) : Way P n ops Q pP pL ρ H (i :: j :: T) j := by
  refine ⟨o, X, vx, Hx, fun _ => pL', i :: T, ho, by rw [hd]; exact ⟨hn, hf⟩, hx, fun _ _ => wanted_none hg _, ?_, List.Perm.swap _ _ _, ?_⟩
  · rw [hd]; exact hk
  · rw [hd]; exact k
end
end Go.Sl
/-! Messages of bytes. -/
namespace Go.Sl
open Go Go.Proofs
set_option maxRecDepth 20000
theorem beN6 {n : Int} (h : 0 ≤ n ∧ n ≤ 1099511627776) : (beN (numB n 6) : Int) = n := by
  obtain ⟨k, rfl⟩ : ∃ k : Nat, n = k := ⟨n.toNat, by omega⟩
  rw [numB_inv (by omega) (by omega)]
theorem c335 {m : Msg} {p : SP} (hF : Fine m) : Spec P 137 [p.v (binM m).length] [sl Kb p (binM m)]
    (fun q : SP × SP × SP => .tuple #[.agg #[.int .i64 m.id, .int .i64 m.gen, .int .i64 m.born, .int .i64 m.tries, .int .i64 m.due, str m.frm, q.1.v m.rcpts.length, q.2.1.v m.marks.length, q.2.2.v m.body.length], .int .i64 0])
    (fun q => [sl Kstr q.1 m.rcpts, sl (Kint .i64) q.2.1 m.marks, sl Kstr q.2.2 m.body, sl Kb p (binM m)]) := by
  have hN := hF.bin
  have hg := fine_good hF
  obtain ⟨R12, e12⟩ : ∃ R, R = txs m.body ++ [] := ⟨_, rfl⟩
  obtain ⟨R11, e11⟩ : ∃ R, R = numB m.body.length 4 ++ (txs m.body ++ []) := ⟨_, rfl⟩
  obtain ⟨R9, e9⟩ : ∃ R, R = numB m.marks.length 2 ++ (mks m.marks ++ R11) := ⟨_, rfl⟩
  obtain ⟨R7, e7⟩ : ∃ R, R = numB m.rcpts.length 2 ++ (txs m.rcpts ++ R9) := ⟨_, rfl⟩
  obtain ⟨R6, e6⟩ : ∃ R, R = txB m.frm ++ R7 := ⟨_, rfl⟩
  obtain ⟨R5, e5⟩ : ∃ R, R = numB m.due 6 ++ R6 := ⟨_, rfl⟩
  obtain ⟨R4, e4⟩ : ∃ R, R = numB m.tries 6 ++ R5 := ⟨_, rfl⟩
  obtain ⟨R3, e3⟩ : ∃ R, R = numB m.born 6 ++ R4 := ⟨_, rfl⟩
  obtain ⟨R2, e2⟩ : ∃ R, R = numB m.gen 6 ++ R3 := ⟨_, rfl⟩
  obtain ⟨R1, e1⟩ : ∃ R, R = numB m.id 6 ++ R2 := ⟨_, rfl⟩
  have e0 : binM m = [2] ++ R1 := by rw [binM_right, e1, e2, e3, e4, e5, e6, e7, e9, e11]
  have l0 : (binM m).length = 1 + R1.length := by rw [e0, List.length_append]; rfl
  have l1 : R1.length = 6 + R2.length := by rw [e1, List.length_append, numB_len]
  have l2 : R2.length = 6 + R3.length := by rw [e2, List.length_append, numB_len]
  have l3 : R3.length = 6 + R4.length := by rw [e3, List.length_append, numB_len]
  have l4 : R4.length = 6 + R5.length := by rw [e4, List.length_append, numB_len]
  have l5 : R5.length = 6 + R6.length := by rw [e5, List.length_append, numB_len]
  have l6 : R6.length = (txB m.frm).length + R7.length := by rw [e6, List.length_append]
  have l7 : R7.length = 2 + ((txs m.rcpts).length + R9.length) := by rw [e7, List.length_append, List.length_append, numB_len]
  have l9 : R9.length = 2 + ((mks m.marks).length + R11.length) := by rw [e9, List.length_append, List.length_append, numB_len]
  have l11 : R11.length = 4 + ((txs m.body).length + 0) := by rw [e11, List.length_append, List.length_append, numB_len]; rfl
  have b1 := hF.rl.2; have b2 := hF.ml; have b3 := hF.frl; have b4 := body_len m.body; have b5 := hF.bs
  have c407h : ∀ r, Spec P 168 [.pointer (some ⟨r, 0, none⟩), .int .i64 1] [rdr r (binM m)] (fun _ : Unit => .int .i64 2) (fun _ => [rdr r R1]) := by
    intro r; rw [e0]; exact c407 (r := r) (n := 1) (a := [2]) (b := R1) rfl (by omega) (by rw [← e0]; omega)
  have c407i : ∀ r, Spec P 168 [.pointer (some ⟨r, 0, none⟩), .int .i64 6] [rdr r R1] (fun _ : Unit => .int .i64 m.id) (fun _ => [rdr r R2]) := by
    intro r; have := c407 (r := r) (n := 6) (a := numB m.id 6) (b := R2) (numB_len _ _) (by omega) (by rw [← e1]; omega)
    rw [beN6 (hF.nums _ (by simp [Msg.nums]))] at this; rw [e1]; exact this
  have c407j : ∀ r, Spec P 168 [.pointer (some ⟨r, 0, none⟩), .int .i64 6] [rdr r R2] (fun _ : Unit => .int .i64 m.gen) (fun _ => [rdr r R3]) := by
    intro r; have := c407 (r := r) (n := 6) (a := numB m.gen 6) (b := R3) (numB_len _ _) (by omega) (by rw [← e2]; omega)
    rw [beN6 (hF.nums _ (by simp [Msg.nums]))] at this; rw [e2]; exact this
  have c407k : ∀ r, Spec P 168 [.pointer (some ⟨r, 0, none⟩), .int .i64 6] [rdr r R3] (fun _ : Unit => .int .i64 m.born) (fun _ => [rdr r R4]) := by
    intro r; have := c407 (r := r) (n := 6) (a := numB m.born 6) (b := R4) (numB_len _ _) (by omega) (by rw [← e3]; omega)
    rw [beN6 (hF.nums _ (by simp [Msg.nums]))] at this; rw [e3]; exact this
  have c407l : ∀ r, Spec P 168 [.pointer (some ⟨r, 0, none⟩), .int .i64 6] [rdr r R4] (fun _ : Unit => .int .i64 m.tries) (fun _ => [rdr r R5]) := by
    intro r; have := c407 (r := r) (n := 6) (a := numB m.tries 6) (b := R5) (numB_len _ _) (by omega) (by rw [← e4]; omega)
    rw [beN6 (hF.nums _ (by simp [Msg.nums]))] at this; rw [e4]; exact this
  have c407m : ∀ r, Spec P 168 [.pointer (some ⟨r, 0, none⟩), .int .i64 6] [rdr r R5] (fun _ : Unit => .int .i64 m.due) (fun _ => [rdr r R6]) := by
    intro r; have := c407 (r := r) (n := 6) (a := numB m.due 6) (b := R6) (numB_len _ _) (by omega) (by rw [← e5]; omega)
    rw [beN6 (hF.nums _ (by simp [Msg.nums]))] at this; rw [e5]; exact this
  have c408h : ∀ r, Spec P 169 [.pointer (some ⟨r, 0, none⟩)] [rdr r R6] (fun _ : Unit => str m.frm) (fun _ => [rdr r R7]) := by
    intro r; rw [e6]; exact c408 (r := r) (s := m.frm) (b := R7) (by omega) (by rw [← e6]; omega)
  have c409h : ∀ r, Spec P 170 [.pointer (some ⟨r, 0, none⟩), .int .i64 2, .func (.func 169) #[.pointer (some ⟨r, 0, none⟩)] #[]] [rdr r R7] (fun q : SP => q.v m.rcpts.length) (fun q => [sl Kstr q m.rcpts, rdr r R9]) := by
    intro r; rw [e7]; exact c409 (r := r) (n := 2) (xs := m.rcpts) (b := R9) (by omega) (by omega) (by omega) (fun x hx => by have := mbox_len (hF.rb x hx); omega) (by rw [← e7]; omega)
  have c410h : ∀ r c, Spec P 171 [.pointer (some ⟨r, 0, none⟩), .int .i64 2, .func (.func 172) #[] #[.pointer (some ⟨c, 0, none⟩)]] [pt c 0 [.pointer (some ⟨r, 0, none⟩)], rdr r R9] (fun q : SP => q.v m.marks.length) (fun q => [sl (Kint .i64) q m.marks, pt c 0 [.pointer (some ⟨r, 0, none⟩)], rdr r R11]) := by
    intro r c; rw [e9]; exact c410 (r := r) (c := c) (n := 2) (xs := m.marks) (b := R11) (by omega) (by omega) (by omega) (fun x hx => by have := hF.mrk x hx; omega) (by rw [← e9]; omega)
  have c409i : ∀ r, Spec P 170 [.pointer (some ⟨r, 0, none⟩), .int .i64 4, .func (.func 169) #[.pointer (some ⟨r, 0, none⟩)] #[]] [rdr r R11] (fun q : SP => q.v m.body.length) (fun q => [sl Kstr q m.body, rdr r []]) := by
    intro r; rw [e11]; exact c409 (r := r) (n := 4) (xs := m.body) (b := []) (by omega) (by omega) (by omega) (fun x hx => by have := badB_len (hF.bb x hx); omega) (by rw [← e11]; omega)
  refine Spec.intro Tryz.func137 rfl rfl rfl fun F => ?_
  have c124h := fun p1 p2 p3 => c124 (m := m) (p1 := p1) (p2 := p2) (p3 := p3) hF.ok
  rw [hg] at c124h
  refine W.rseq ?_
  refine WL.putX rfl rfl rfl (OpX.alloc zr52) fun x2 => ?_
  refine WL.nm (H' := pt _ _ [_, _, _, _, _, _, _, _, _] :: _ :: _) rfl ?_
  refine WL.p rfl rfl rfl (PV.as rfl) ?_
  refine WL.next [(3, _), (2, _), (0, _)] ⟨rfl, rfl, rfl, trivial⟩ ?_
  refine W.rseq ?_
  refine WL.p rfl rfl rfl (PV.mv rfl) ?_
  refine WL.p rfl rfl rfl (PV.bld (cs := [_, _]) bt430 rfl rfl) ?_
  refine WL.putX rfl rfl rfl (OpX.box rfl) fun x9 => ?_
  refine WL.nm (H' := pt _ _ [_, _] :: pt _ _ [_, _, _, _, _, _, _, _, _] :: _ :: _) rfl ?_
  refine WL.putX rfl rfl rfl (OpX.alloc zr428) fun x4 => ?_
  refine WL.nm (H' := pt _ _ [_] :: pt _ _ [_, _] :: pt _ _ [_, _, _, _, _, _, _, _, _] :: _ :: _) rfl ?_
  refine WL.done rfl rfl (OpD.st 0 0 sz428 rfl rfl rfl rfl rfl rfl (NA.one (NA.ptr _))) ?_
  refine WL.nm (H' := pt _ _ [_] :: pt _ _ [_, _] :: pt _ _ [_, _, _, _, _, _, _, _, _] :: _ :: _) rfl ?_
  refine WL.next [(4, _), (3, _), (2, _)] ⟨rfl, rfl, rfl, trivial⟩ ?_
  refine W.rseq ?_
  refine WL.f rfl rfl rfl (FV.ld (LdD.sc 0 0 sc428 rfl rfl rfl rfl)) ?_
  rotate_left
  refine WL.entA (.cons (i := 3) rfl .nil) (Ent.dup (sl_pers _ _ _)) ?_
  refine WL.entA (.cons (i := 3) rfl (.cons (i := 0) rfl .nil)) (Ent.exI (f := rdF x9 (binM m)) p) ?_
  refine WL.nm (H' := rdr x9 (binM m) :: sl Kb p (binM m) :: pt _ _ [_] :: pt x2 0 [_, _, _, _, _, _, _, _, _] :: F) rfl ?_
  have stop : True := trivial
  refine WL.putX rfl rfl rfl (OpX.call cb407 (c407h _) rfl (.cons (i := 0) rfl .nil)) fun x11 => ?_
  refine WL.nm (H' := _ :: _ :: pt _ _ [_] :: pt _ _ [_, _, _, _, _, _, _, _, _] :: _) rfl ?_
  refine WL.p rfl rfl rfl (PV.as rfl) ?_
  refine WL.next [(5, _), (4, _), (3, _), (2, _)] ⟨rfl, rfl, rfl, rfl, trivial⟩ ?_
  rotate_left
  clear stop
  refine W.cut (X := Nat) (fun x13 => [(6, .pointer (some ⟨x13, 0, none⟩)), (5, .int .i64 2), (4, .pointer (some ⟨x4, 0, none⟩)), (2, .pointer (some ⟨x2, 0, none⟩))])
    (fun x13 => rdr x9 R7 :: pt x4 0 [.pointer (some ⟨x9, 0, none⟩)] :: pt x13 0 [.int .i64 m.id, .int .i64 m.gen, .int .i64 m.born, .int .i64 m.tries, .int .i64 m.due, str m.frm, .slice none 0 0, .slice none 0 0, .slice none 0 0] :: pt x2 0 [.int .i64 0, .int .i64 0, .int .i64 0, .int .i64 0, .int .i64 0, str [], .slice none 0 0, .slice none 0 0, .slice none 0 0] :: sl Kb p (binM m) :: F) ?_ fun x13 => ?_
  · refine W.draw [0, 2, 4, 6, 8, 10, 1, 3, 5, 7, 9, 11, 12, 13, 14] mixedOrders rfl rfl fun hR => ?_
    refine DP.f rfl rfl rfl rfl rfl (FV.ld (LdD.sc 2 0 sc428 rfl rfl rfl rfl)) ?_
    refine DP.f rfl rfl rfl rfl rfl (FV.ld (LdD.sc 2 0 sc428 rfl rfl rfl rfl)) ?_
    refine DP.f rfl rfl rfl rfl rfl (FV.ld (LdD.sc 2 0 sc428 rfl rfl rfl rfl)) ?_
    refine DP.f rfl rfl rfl rfl rfl (FV.ld (LdD.sc 2 0 sc428 rfl rfl rfl rfl)) ?_
    refine DP.f rfl rfl rfl rfl rfl (FV.ld (LdD.sc 2 0 sc428 rfl rfl rfl rfl)) ?_
    refine DP.f rfl rfl rfl rfl rfl (FV.ld (LdD.sc 2 0 sc428 rfl rfl rfl rfl)) ?_
    refine DP.permT (T := [1, 13, 3, 5, 7, 9, 11, 12, 14]) (by decide) (DP.two hR rfl (Way.fst [(10, _), (8, _), (6, _), (4, _), (2, _)] rfl rfl rfl rfl rfl (OpX.call cb407 (c407i _) rfl (.cons (i := 0) rfl .nil)) (fun _ => (KeepL.keep rfl (FloatAt.of rfl (by first | exact FV.ld (LdD.sc 2 0 sc428 rfl rfl rfl rfl) | exact FV.ld (LdD.ag (us := _) 2 0 ag428 rfl rfl rfl rfl rfl) | exact FV.ld (LdD.sc 3 0 sc428 rfl rfl rfl rfl) | exact FV.ld (LdD.ag (us := _) 3 0 ag428 rfl rfl rfl rfl rfl) | exact FV.ld (LdD.sc 4 0 sc428 rfl rfl rfl rfl) | exact FV.ld (LdD.ag (us := _) 4 0 ag428 rfl rfl rfl rfl rfl) | exact FV.ld (LdD.sc 5 0 sc428 rfl rfl rfl rfl) | exact FV.ld (LdD.ag (us := _) 5 0 ag428 rfl rfl rfl rfl rfl) | exact FV.ld (LdD.sc 6 0 sc428 rfl rfl rfl rfl) | exact FV.ld (LdD.ag (us := _) 6 0 ag428 rfl rfl rfl rfl rfl))) (KeepL.keep rfl (FloatAt.of rfl (by first | exact FV.ld (LdD.sc 2 0 sc428 rfl rfl rfl rfl) | exact FV.ld (LdD.ag (us := _) 2 0 ag428 rfl rfl rfl rfl rfl) | exact FV.ld (LdD.sc 3 0 sc428 rfl rfl rfl rfl) | exact FV.ld (LdD.ag (us := _) 3 0 ag428 rfl rfl rfl rfl rfl) | exact FV.ld (LdD.sc 4 0 sc428 rfl rfl rfl rfl) | exact FV.ld (LdD.ag (us := _) 4 0 ag428 rfl rfl rfl rfl rfl) | exact FV.ld (LdD.sc 5 0 sc428 rfl rfl rfl rfl) | exact FV.ld (LdD.ag (us := _) 5 0 ag428 rfl rfl rfl rfl rfl) | exact FV.ld (LdD.sc 6 0 sc428 rfl rfl rfl rfl) | exact FV.ld (LdD.ag (us := _) 6 0 ag428 rfl rfl rfl rfl rfl))) (KeepL.keep rfl (FloatAt.of rfl (by first | exact FV.ld (LdD.sc 2 0 sc428 rfl rfl rfl rfl) | exact FV.ld (LdD.ag (us := _) 2 0 ag428 rfl rfl rfl rfl rfl) | exact FV.ld (LdD.sc 3 0 sc428 rfl rfl rfl rfl) | exact FV.ld (LdD.ag (us := _) 3 0 ag428 rfl rfl rfl rfl rfl) | exact FV.ld (LdD.sc 4 0 sc428 rfl rfl rfl rfl) | exact FV.ld (LdD.ag (us := _) 4 0 ag428 rfl rfl rfl rfl rfl) | exact FV.ld (LdD.sc 5 0 sc428 rfl rfl rfl rfl) | exact FV.ld (LdD.ag (us := _) 5 0 ag428 rfl rfl rfl rfl rfl) | exact FV.ld (LdD.sc 6 0 sc428 rfl rfl rfl rfl) | exact FV.ld (LdD.ag (us := _) 6 0 ag428 rfl rfl rfl rfl rfl))) (KeepL.keep rfl (FloatAt.of rfl (by first | exact FV.ld (LdD.sc 2 0 sc428 rfl rfl rfl rfl) | exact FV.ld (LdD.ag (us := _) 2 0 ag428 rfl rfl rfl rfl rfl) | exact FV.ld (LdD.sc 3 0 sc428 rfl rfl rfl rfl) | exact FV.ld (LdD.ag (us := _) 3 0 ag428 rfl rfl rfl rfl rfl) | exact FV.ld (LdD.sc 4 0 sc428 rfl rfl rfl rfl) | exact FV.ld (LdD.ag (us := _) 4 0 ag428 rfl rfl rfl rfl rfl) | exact FV.ld (LdD.sc 5 0 sc428 rfl rfl rfl rfl) | exact FV.ld (LdD.ag (us := _) 5 0 ag428 rfl rfl rfl rfl rfl) | exact FV.ld (LdD.sc 6 0 sc428 rfl rfl rfl rfl) | exact FV.ld (LdD.ag (us := _) 6 0 ag428 rfl rfl rfl rfl rfl))) (KeepL.keep rfl (FloatAt.of rfl (by first | exact FV.ld (LdD.sc 2 0 sc428 rfl rfl rfl rfl) | exact FV.ld (LdD.ag (us := _) 2 0 ag428 rfl rfl rfl rfl rfl) | exact FV.ld (LdD.sc 3 0 sc428 rfl rfl rfl rfl) | exact FV.ld (LdD.ag (us := _) 3 0 ag428 rfl rfl rfl rfl rfl) | exact FV.ld (LdD.sc 4 0 sc428 rfl rfl rfl rfl) | exact FV.ld (LdD.ag (us := _) 4 0 ag428 rfl rfl rfl rfl rfl) | exact FV.ld (LdD.sc 5 0 sc428 rfl rfl rfl rfl) | exact FV.ld (LdD.ag (us := _) 5 0 ag428 rfl rfl rfl rfl rfl) | exact FV.ld (LdD.sc 6 0 sc428 rfl rfl rfl rfl) | exact FV.ld (LdD.ag (us := _) 6 0 ag428 rfl rfl rfl rfl rfl))) (KeepL.drop rfl KeepL.nil))))))) fun x13 => ?_) (Way.snd [(10, _), (8, _), (6, _), (4, _), (2, _), (0, _)] rfl rfl rfl rfl rfl (OpX.alloc zr52) (fun _ => (KeepL.keep rfl (FloatAt.of rfl (by first | exact FV.ld (LdD.sc 2 0 sc428 rfl rfl rfl rfl) | exact FV.ld (LdD.ag (us := _) 2 0 ag428 rfl rfl rfl rfl rfl) | exact FV.ld (LdD.sc 3 0 sc428 rfl rfl rfl rfl) | exact FV.ld (LdD.ag (us := _) 3 0 ag428 rfl rfl rfl rfl rfl) | exact FV.ld (LdD.sc 4 0 sc428 rfl rfl rfl rfl) | exact FV.ld (LdD.ag (us := _) 4 0 ag428 rfl rfl rfl rfl rfl) | exact FV.ld (LdD.sc 5 0 sc428 rfl rfl rfl rfl) | exact FV.ld (LdD.ag (us := _) 5 0 ag428 rfl rfl rfl rfl rfl) | exact FV.ld (LdD.sc 6 0 sc428 rfl rfl rfl rfl) | exact FV.ld (LdD.ag (us := _) 6 0 ag428 rfl rfl rfl rfl rfl))) (KeepL.keep rfl (FloatAt.of rfl (by first | exact FV.ld (LdD.sc 2 0 sc428 rfl rfl rfl rfl) | exact FV.ld (LdD.ag (us := _) 2 0 ag428 rfl rfl rfl rfl rfl) | exact FV.ld (LdD.sc 3 0 sc428 rfl rfl rfl rfl) | exact FV.ld (LdD.ag (us := _) 3 0 ag428 rfl rfl rfl rfl rfl) | exact FV.ld (LdD.sc 4 0 sc428 rfl rfl rfl rfl) | exact FV.ld (LdD.ag (us := _) 4 0 ag428 rfl rfl rfl rfl rfl) | exact FV.ld (LdD.sc 5 0 sc428 rfl rfl rfl rfl) | exact FV.ld (LdD.ag (us := _) 5 0 ag428 rfl rfl rfl rfl rfl) | exact FV.ld (LdD.sc 6 0 sc428 rfl rfl rfl rfl) | exact FV.ld (LdD.ag (us := _) 6 0 ag428 rfl rfl rfl rfl rfl))) (KeepL.keep rfl (FloatAt.of rfl (by first | exact FV.ld (LdD.sc 2 0 sc428 rfl rfl rfl rfl) | exact FV.ld (LdD.ag (us := _) 2 0 ag428 rfl rfl rfl rfl rfl) | exact FV.ld (LdD.sc 3 0 sc428 rfl rfl rfl rfl) | exact FV.ld (LdD.ag (us := _) 3 0 ag428 rfl rfl rfl rfl rfl) | exact FV.ld (LdD.sc 4 0 sc428 rfl rfl rfl rfl) | exact FV.ld (LdD.ag (us := _) 4 0 ag428 rfl rfl rfl rfl rfl) | exact FV.ld (LdD.sc 5 0 sc428 rfl rfl rfl rfl) | exact FV.ld (LdD.ag (us := _) 5 0 ag428 rfl rfl rfl rfl rfl) | exact FV.ld (LdD.sc 6 0 sc428 rfl rfl rfl rfl) | exact FV.ld (LdD.ag (us := _) 6 0 ag428 rfl rfl rfl rfl rfl))) (KeepL.keep rfl (FloatAt.of rfl (by first | exact FV.ld (LdD.sc 2 0 sc428 rfl rfl rfl rfl) | exact FV.ld (LdD.ag (us := _) 2 0 ag428 rfl rfl rfl rfl rfl) | exact FV.ld (LdD.sc 3 0 sc428 rfl rfl rfl rfl) | exact FV.ld (LdD.ag (us := _) 3 0 ag428 rfl rfl rfl rfl rfl) | exact FV.ld (LdD.sc 4 0 sc428 rfl rfl rfl rfl) | exact FV.ld (LdD.ag (us := _) 4 0 ag428 rfl rfl rfl rfl rfl) | exact FV.ld (LdD.sc 5 0 sc428 rfl rfl rfl rfl) | exact FV.ld (LdD.ag (us := _) 5 0 ag428 rfl rfl rfl rfl rfl) | exact FV.ld (LdD.sc 6 0 sc428 rfl rfl rfl rfl) | exact FV.ld (LdD.ag (us := _) 6 0 ag428 rfl rfl rfl rfl rfl))) (KeepL.keep rfl (FloatAt.of rfl (by first | exact FV.ld (LdD.sc 2 0 sc428 rfl rfl rfl rfl) | exact FV.ld (LdD.ag (us := _) 2 0 ag428 rfl rfl rfl rfl rfl) | exact FV.ld (LdD.sc 3 0 sc428 rfl rfl rfl rfl) | exact FV.ld (LdD.ag (us := _) 3 0 ag428 rfl rfl rfl rfl rfl) | exact FV.ld (LdD.sc 4 0 sc428 rfl rfl rfl rfl) | exact FV.ld (LdD.ag (us := _) 4 0 ag428 rfl rfl rfl rfl rfl) | exact FV.ld (LdD.sc 5 0 sc428 rfl rfl rfl rfl) | exact FV.ld (LdD.ag (us := _) 5 0 ag428 rfl rfl rfl rfl rfl) | exact FV.ld (LdD.sc 6 0 sc428 rfl rfl rfl rfl) | exact FV.ld (LdD.ag (us := _) 6 0 ag428 rfl rfl rfl rfl rfl))) (KeepL.keep rfl (FloatAt.of rfl (by first | exact FV.ld (LdD.sc 2 0 sc428 rfl rfl rfl rfl) | exact FV.ld (LdD.ag (us := _) 2 0 ag428 rfl rfl rfl rfl rfl) | exact FV.ld (LdD.sc 3 0 sc428 rfl rfl rfl rfl) | exact FV.ld (LdD.ag (us := _) 3 0 ag428 rfl rfl rfl rfl rfl) | exact FV.ld (LdD.sc 4 0 sc428 rfl rfl rfl rfl) | exact FV.ld (LdD.ag (us := _) 4 0 ag428 rfl rfl rfl rfl rfl) | exact FV.ld (LdD.sc 5 0 sc428 rfl rfl rfl rfl) | exact FV.ld (LdD.ag (us := _) 5 0 ag428 rfl rfl rfl rfl rfl) | exact FV.ld (LdD.sc 6 0 sc428 rfl rfl rfl rfl) | exact FV.ld (LdD.ag (us := _) 6 0 ag428 rfl rfl rfl rfl rfl))) KeepL.nil))))))) fun x6 => ?_))
    refine DP.nm (H' := _ :: _ :: pt _ _ [_] :: pt _ _ [_, _, _, _, _, _, _, _, _] :: _) rfl ?_
    refine DP.permT (T := [13, 3, 5, 7, 9, 11, 12, 14]) (by decide) (DP.two hR rfl (Way.fst [(10, _), (8, _), (6, _), (4, _), (2, _)] rfl rfl rfl rfl rfl (OpX.alloc zr52) (fun _ => (KeepL.keep rfl (FloatAt.of rfl (by first | exact FV.ld (LdD.sc 2 0 sc428 rfl rfl rfl rfl) | exact FV.ld (LdD.ag (us := _) 2 0 ag428 rfl rfl rfl rfl rfl) | exact FV.ld (LdD.sc 3 0 sc428 rfl rfl rfl rfl) | exact FV.ld (LdD.ag (us := _) 3 0 ag428 rfl rfl rfl rfl rfl) | exact FV.ld (LdD.sc 4 0 sc428 rfl rfl rfl rfl) | exact FV.ld (LdD.ag (us := _) 4 0 ag428 rfl rfl rfl rfl rfl) | exact FV.ld (LdD.sc 5 0 sc428 rfl rfl rfl rfl) | exact FV.ld (LdD.ag (us := _) 5 0 ag428 rfl rfl rfl rfl rfl) | exact FV.ld (LdD.sc 6 0 sc428 rfl rfl rfl rfl) | exact FV.ld (LdD.ag (us := _) 6 0 ag428 rfl rfl rfl rfl rfl))) (KeepL.keep rfl (FloatAt.of rfl (by first | exact FV.ld (LdD.sc 2 0 sc428 rfl rfl rfl rfl) | exact FV.ld (LdD.ag (us := _) 2 0 ag428 rfl rfl rfl rfl rfl) | exact FV.ld (LdD.sc 3 0 sc428 rfl rfl rfl rfl) | exact FV.ld (LdD.ag (us := _) 3 0 ag428 rfl rfl rfl rfl rfl) | exact FV.ld (LdD.sc 4 0 sc428 rfl rfl rfl rfl) | exact FV.ld (LdD.ag (us := _) 4 0 ag428 rfl rfl rfl rfl rfl) | exact FV.ld (LdD.sc 5 0 sc428 rfl rfl rfl rfl) | exact FV.ld (LdD.ag (us := _) 5 0 ag428 rfl rfl rfl rfl rfl) | exact FV.ld (LdD.sc 6 0 sc428 rfl rfl rfl rfl) | exact FV.ld (LdD.ag (us := _) 6 0 ag428 rfl rfl rfl rfl rfl))) (KeepL.keep rfl (FloatAt.of rfl (by first | exact FV.ld (LdD.sc 2 0 sc428 rfl rfl rfl rfl) | exact FV.ld (LdD.ag (us := _) 2 0 ag428 rfl rfl rfl rfl rfl) | exact FV.ld (LdD.sc 3 0 sc428 rfl rfl rfl rfl) | exact FV.ld (LdD.ag (us := _) 3 0 ag428 rfl rfl rfl rfl rfl) | exact FV.ld (LdD.sc 4 0 sc428 rfl rfl rfl rfl) | exact FV.ld (LdD.ag (us := _) 4 0 ag428 rfl rfl rfl rfl rfl) | exact FV.ld (LdD.sc 5 0 sc428 rfl rfl rfl rfl) | exact FV.ld (LdD.ag (us := _) 5 0 ag428 rfl rfl rfl rfl rfl) | exact FV.ld (LdD.sc 6 0 sc428 rfl rfl rfl rfl) | exact FV.ld (LdD.ag (us := _) 6 0 ag428 rfl rfl rfl rfl rfl))) (KeepL.keep rfl (FloatAt.of rfl (by first | exact FV.ld (LdD.sc 2 0 sc428 rfl rfl rfl rfl) | exact FV.ld (LdD.ag (us := _) 2 0 ag428 rfl rfl rfl rfl rfl) | exact FV.ld (LdD.sc 3 0 sc428 rfl rfl rfl rfl) | exact FV.ld (LdD.ag (us := _) 3 0 ag428 rfl rfl rfl rfl rfl) | exact FV.ld (LdD.sc 4 0 sc428 rfl rfl rfl rfl) | exact FV.ld (LdD.ag (us := _) 4 0 ag428 rfl rfl rfl rfl rfl) | exact FV.ld (LdD.sc 5 0 sc428 rfl rfl rfl rfl) | exact FV.ld (LdD.ag (us := _) 5 0 ag428 rfl rfl rfl rfl rfl) | exact FV.ld (LdD.sc 6 0 sc428 rfl rfl rfl rfl) | exact FV.ld (LdD.ag (us := _) 6 0 ag428 rfl rfl rfl rfl rfl))) (KeepL.keep rfl (FloatAt.of rfl (by first | exact FV.ld (LdD.sc 2 0 sc428 rfl rfl rfl rfl) | exact FV.ld (LdD.ag (us := _) 2 0 ag428 rfl rfl rfl rfl rfl) | exact FV.ld (LdD.sc 3 0 sc428 rfl rfl rfl rfl) | exact FV.ld (LdD.ag (us := _) 3 0 ag428 rfl rfl rfl rfl rfl) | exact FV.ld (LdD.sc 4 0 sc428 rfl rfl rfl rfl) | exact FV.ld (LdD.ag (us := _) 4 0 ag428 rfl rfl rfl rfl rfl) | exact FV.ld (LdD.sc 5 0 sc428 rfl rfl rfl rfl) | exact FV.ld (LdD.ag (us := _) 5 0 ag428 rfl rfl rfl rfl rfl) | exact FV.ld (LdD.sc 6 0 sc428 rfl rfl rfl rfl) | exact FV.ld (LdD.ag (us := _) 6 0 ag428 rfl rfl rfl rfl rfl))) KeepL.nil)))))) fun x6 => ?_) (Way.snd [(10, _), (8, _), (6, _), (4, _)] rfl rfl rfl rfl rfl (OpX.call cb407 (c407j _) rfl (.cons (i := 0) rfl .nil)) (fun _ => (KeepL.keep rfl (FloatAt.of rfl (by first | exact FV.ld (LdD.sc 2 0 sc428 rfl rfl rfl rfl) | exact FV.ld (LdD.ag (us := _) 2 0 ag428 rfl rfl rfl rfl rfl) | exact FV.ld (LdD.sc 3 0 sc428 rfl rfl rfl rfl) | exact FV.ld (LdD.ag (us := _) 3 0 ag428 rfl rfl rfl rfl rfl) | exact FV.ld (LdD.sc 4 0 sc428 rfl rfl rfl rfl) | exact FV.ld (LdD.ag (us := _) 4 0 ag428 rfl rfl rfl rfl rfl) | exact FV.ld (LdD.sc 5 0 sc428 rfl rfl rfl rfl) | exact FV.ld (LdD.ag (us := _) 5 0 ag428 rfl rfl rfl rfl rfl) | exact FV.ld (LdD.sc 6 0 sc428 rfl rfl rfl rfl) | exact FV.ld (LdD.ag (us := _) 6 0 ag428 rfl rfl rfl rfl rfl))) (KeepL.keep rfl (FloatAt.of rfl (by first | exact FV.ld (LdD.sc 2 0 sc428 rfl rfl rfl rfl) | exact FV.ld (LdD.ag (us := _) 2 0 ag428 rfl rfl rfl rfl rfl) | exact FV.ld (LdD.sc 3 0 sc428 rfl rfl rfl rfl) | exact FV.ld (LdD.ag (us := _) 3 0 ag428 rfl rfl rfl rfl rfl) | exact FV.ld (LdD.sc 4 0 sc428 rfl rfl rfl rfl) | exact FV.ld (LdD.ag (us := _) 4 0 ag428 rfl rfl rfl rfl rfl) | exact FV.ld (LdD.sc 5 0 sc428 rfl rfl rfl rfl) | exact FV.ld (LdD.ag (us := _) 5 0 ag428 rfl rfl rfl rfl rfl) | exact FV.ld (LdD.sc 6 0 sc428 rfl rfl rfl rfl) | exact FV.ld (LdD.ag (us := _) 6 0 ag428 rfl rfl rfl rfl rfl))) (KeepL.keep rfl (FloatAt.of rfl (by first | exact FV.ld (LdD.sc 2 0 sc428 rfl rfl rfl rfl) | exact FV.ld (LdD.ag (us := _) 2 0 ag428 rfl rfl rfl rfl rfl) | exact FV.ld (LdD.sc 3 0 sc428 rfl rfl rfl rfl) | exact FV.ld (LdD.ag (us := _) 3 0 ag428 rfl rfl rfl rfl rfl) | exact FV.ld (LdD.sc 4 0 sc428 rfl rfl rfl rfl) | exact FV.ld (LdD.ag (us := _) 4 0 ag428 rfl rfl rfl rfl rfl) | exact FV.ld (LdD.sc 5 0 sc428 rfl rfl rfl rfl) | exact FV.ld (LdD.ag (us := _) 5 0 ag428 rfl rfl rfl rfl rfl) | exact FV.ld (LdD.sc 6 0 sc428 rfl rfl rfl rfl) | exact FV.ld (LdD.ag (us := _) 6 0 ag428 rfl rfl rfl rfl rfl))) (KeepL.keep rfl (FloatAt.of rfl (by first | exact FV.ld (LdD.sc 2 0 sc428 rfl rfl rfl rfl) | exact FV.ld (LdD.ag (us := _) 2 0 ag428 rfl rfl rfl rfl rfl) | exact FV.ld (LdD.sc 3 0 sc428 rfl rfl rfl rfl) | exact FV.ld (LdD.ag (us := _) 3 0 ag428 rfl rfl rfl rfl rfl) | exact FV.ld (LdD.sc 4 0 sc428 rfl rfl rfl rfl) | exact FV.ld (LdD.ag (us := _) 4 0 ag428 rfl rfl rfl rfl rfl) | exact FV.ld (LdD.sc 5 0 sc428 rfl rfl rfl rfl) | exact FV.ld (LdD.ag (us := _) 5 0 ag428 rfl rfl rfl rfl rfl) | exact FV.ld (LdD.sc 6 0 sc428 rfl rfl rfl rfl) | exact FV.ld (LdD.ag (us := _) 6 0 ag428 rfl rfl rfl rfl rfl))) (KeepL.drop rfl KeepL.nil)))))) fun x15 => ?_))
    refine DP.nm (H' := pt _ _ [_, _, _, _, _, _, _, _, _] :: _ :: _ :: pt _ _ [_] :: pt _ _ [_, _, _, _, _, _, _, _, _] :: _) rfl ?_
    refine DP.e hR [(10, _), (8, _), (6, _), (4, _)] rfl rfl rfl rfl rfl (OpX.call cb407 (c407j _) rfl (.cons (i := 1) rfl .nil)) rfl (fun _ => (KeepL.keep rfl (FloatAt.of rfl (by first | exact FV.ld (LdD.sc 3 0 sc428 rfl rfl rfl rfl) | exact FV.ld (LdD.ag (us := _) 3 0 ag428 rfl rfl rfl rfl rfl) | exact FV.ld (LdD.sc 4 0 sc428 rfl rfl rfl rfl) | exact FV.ld (LdD.ag (us := _) 4 0 ag428 rfl rfl rfl rfl rfl) | exact FV.ld (LdD.sc 5 0 sc428 rfl rfl rfl rfl) | exact FV.ld (LdD.ag (us := _) 5 0 ag428 rfl rfl rfl rfl rfl) | exact FV.ld (LdD.sc 6 0 sc428 rfl rfl rfl rfl) | exact FV.ld (LdD.ag (us := _) 6 0 ag428 rfl rfl rfl rfl rfl) | exact FV.ld (LdD.sc 7 0 sc428 rfl rfl rfl rfl) | exact FV.ld (LdD.ag (us := _) 7 0 ag428 rfl rfl rfl rfl rfl))) (KeepL.keep rfl (FloatAt.of rfl (by first | exact FV.ld (LdD.sc 3 0 sc428 rfl rfl rfl rfl) | exact FV.ld (LdD.ag (us := _) 3 0 ag428 rfl rfl rfl rfl rfl) | exact FV.ld (LdD.sc 4 0 sc428 rfl rfl rfl rfl) | exact FV.ld (LdD.ag (us := _) 4 0 ag428 rfl rfl rfl rfl rfl) | exact FV.ld (LdD.sc 5 0 sc428 rfl rfl rfl rfl) | exact FV.ld (LdD.ag (us := _) 5 0 ag428 rfl rfl rfl rfl rfl) | exact FV.ld (LdD.sc 6 0 sc428 rfl rfl rfl rfl) | exact FV.ld (LdD.ag (us := _) 6 0 ag428 rfl rfl rfl rfl rfl) | exact FV.ld (LdD.sc 7 0 sc428 rfl rfl rfl rfl) | exact FV.ld (LdD.ag (us := _) 7 0 ag428 rfl rfl rfl rfl rfl))) (KeepL.keep rfl (FloatAt.of rfl (by first | exact FV.ld (LdD.sc 3 0 sc428 rfl rfl rfl rfl) | exact FV.ld (LdD.ag (us := _) 3 0 ag428 rfl rfl rfl rfl rfl) | exact FV.ld (LdD.sc 4 0 sc428 rfl rfl rfl rfl) | exact FV.ld (LdD.ag (us := _) 4 0 ag428 rfl rfl rfl rfl rfl) | exact FV.ld (LdD.sc 5 0 sc428 rfl rfl rfl rfl) | exact FV.ld (LdD.ag (us := _) 5 0 ag428 rfl rfl rfl rfl rfl) | exact FV.ld (LdD.sc 6 0 sc428 rfl rfl rfl rfl) | exact FV.ld (LdD.ag (us := _) 6 0 ag428 rfl rfl rfl rfl rfl) | exact FV.ld (LdD.sc 7 0 sc428 rfl rfl rfl rfl) | exact FV.ld (LdD.ag (us := _) 7 0 ag428 rfl rfl rfl rfl rfl))) (KeepL.keep rfl (FloatAt.of rfl (by first | exact FV.ld (LdD.sc 3 0 sc428 rfl rfl rfl rfl) | exact FV.ld (LdD.ag (us := _) 3 0 ag428 rfl rfl rfl rfl rfl) | exact FV.ld (LdD.sc 4 0 sc428 rfl rfl rfl rfl) | exact FV.ld (LdD.ag (us := _) 4 0 ag428 rfl rfl rfl rfl rfl) | exact FV.ld (LdD.sc 5 0 sc428 rfl rfl rfl rfl) | exact FV.ld (LdD.ag (us := _) 5 0 ag428 rfl rfl rfl rfl rfl) | exact FV.ld (LdD.sc 6 0 sc428 rfl rfl rfl rfl) | exact FV.ld (LdD.ag (us := _) 6 0 ag428 rfl rfl rfl rfl rfl) | exact FV.ld (LdD.sc 7 0 sc428 rfl rfl rfl rfl) | exact FV.ld (LdD.ag (us := _) 7 0 ag428 rfl rfl rfl rfl rfl))) (KeepL.drop rfl KeepL.nil)))))) fun x15 => ?_
    refine DP.nm (H' := _ :: pt _ _ [_, _, _, _, _, _, _, _, _] :: _ :: pt _ _ [_] :: pt _ _ [_, _, _, _, _, _, _, _, _] :: _) rfl ?_
    refine DP.e hR [(10, _), (8, _), (6, _)] rfl rfl rfl rfl rfl (OpX.call cb407 (c407k _) rfl (.cons (i := 0) rfl .nil)) rfl (fun _ => (KeepL.keep rfl (FloatAt.of rfl (by first | exact FV.ld (LdD.sc 3 0 sc428 rfl rfl rfl rfl) | exact FV.ld (LdD.ag (us := _) 3 0 ag428 rfl rfl rfl rfl rfl) | exact FV.ld (LdD.sc 4 0 sc428 rfl rfl rfl rfl) | exact FV.ld (LdD.ag (us := _) 4 0 ag428 rfl rfl rfl rfl rfl) | exact FV.ld (LdD.sc 5 0 sc428 rfl rfl rfl rfl) | exact FV.ld (LdD.ag (us := _) 5 0 ag428 rfl rfl rfl rfl rfl) | exact FV.ld (LdD.sc 6 0 sc428 rfl rfl rfl rfl) | exact FV.ld (LdD.ag (us := _) 6 0 ag428 rfl rfl rfl rfl rfl) | exact FV.ld (LdD.sc 7 0 sc428 rfl rfl rfl rfl) | exact FV.ld (LdD.ag (us := _) 7 0 ag428 rfl rfl rfl rfl rfl))) (KeepL.keep rfl (FloatAt.of rfl (by first | exact FV.ld (LdD.sc 3 0 sc428 rfl rfl rfl rfl) | exact FV.ld (LdD.ag (us := _) 3 0 ag428 rfl rfl rfl rfl rfl) | exact FV.ld (LdD.sc 4 0 sc428 rfl rfl rfl rfl) | exact FV.ld (LdD.ag (us := _) 4 0 ag428 rfl rfl rfl rfl rfl) | exact FV.ld (LdD.sc 5 0 sc428 rfl rfl rfl rfl) | exact FV.ld (LdD.ag (us := _) 5 0 ag428 rfl rfl rfl rfl rfl) | exact FV.ld (LdD.sc 6 0 sc428 rfl rfl rfl rfl) | exact FV.ld (LdD.ag (us := _) 6 0 ag428 rfl rfl rfl rfl rfl) | exact FV.ld (LdD.sc 7 0 sc428 rfl rfl rfl rfl) | exact FV.ld (LdD.ag (us := _) 7 0 ag428 rfl rfl rfl rfl rfl))) (KeepL.keep rfl (FloatAt.of rfl (by first | exact FV.ld (LdD.sc 3 0 sc428 rfl rfl rfl rfl) | exact FV.ld (LdD.ag (us := _) 3 0 ag428 rfl rfl rfl rfl rfl) | exact FV.ld (LdD.sc 4 0 sc428 rfl rfl rfl rfl) | exact FV.ld (LdD.ag (us := _) 4 0 ag428 rfl rfl rfl rfl rfl) | exact FV.ld (LdD.sc 5 0 sc428 rfl rfl rfl rfl) | exact FV.ld (LdD.ag (us := _) 5 0 ag428 rfl rfl rfl rfl rfl) | exact FV.ld (LdD.sc 6 0 sc428 rfl rfl rfl rfl) | exact FV.ld (LdD.ag (us := _) 6 0 ag428 rfl rfl rfl rfl rfl) | exact FV.ld (LdD.sc 7 0 sc428 rfl rfl rfl rfl) | exact FV.ld (LdD.ag (us := _) 7 0 ag428 rfl rfl rfl rfl rfl))) (KeepL.drop rfl KeepL.nil))))) fun x17 => ?_
    refine DP.nm (H' := _ :: pt _ _ [_, _, _, _, _, _, _, _, _] :: _ :: pt _ _ [_] :: pt _ _ [_, _, _, _, _, _, _, _, _] :: _) rfl ?_
    refine DP.e hR [(10, _), (8, _)] rfl rfl rfl rfl rfl (OpX.call cb407 (c407l _) rfl (.cons (i := 0) rfl .nil)) rfl (fun _ => (KeepL.keep rfl (FloatAt.of rfl (by first | exact FV.ld (LdD.sc 3 0 sc428 rfl rfl rfl rfl) | exact FV.ld (LdD.ag (us := _) 3 0 ag428 rfl rfl rfl rfl rfl) | exact FV.ld (LdD.sc 4 0 sc428 rfl rfl rfl rfl) | exact FV.ld (LdD.ag (us := _) 4 0 ag428 rfl rfl rfl rfl rfl) | exact FV.ld (LdD.sc 5 0 sc428 rfl rfl rfl rfl) | exact FV.ld (LdD.ag (us := _) 5 0 ag428 rfl rfl rfl rfl rfl) | exact FV.ld (LdD.sc 6 0 sc428 rfl rfl rfl rfl) | exact FV.ld (LdD.ag (us := _) 6 0 ag428 rfl rfl rfl rfl rfl) | exact FV.ld (LdD.sc 7 0 sc428 rfl rfl rfl rfl) | exact FV.ld (LdD.ag (us := _) 7 0 ag428 rfl rfl rfl rfl rfl))) (KeepL.keep rfl (FloatAt.of rfl (by first | exact FV.ld (LdD.sc 3 0 sc428 rfl rfl rfl rfl) | exact FV.ld (LdD.ag (us := _) 3 0 ag428 rfl rfl rfl rfl rfl) | exact FV.ld (LdD.sc 4 0 sc428 rfl rfl rfl rfl) | exact FV.ld (LdD.ag (us := _) 4 0 ag428 rfl rfl rfl rfl rfl) | exact FV.ld (LdD.sc 5 0 sc428 rfl rfl rfl rfl) | exact FV.ld (LdD.ag (us := _) 5 0 ag428 rfl rfl rfl rfl rfl) | exact FV.ld (LdD.sc 6 0 sc428 rfl rfl rfl rfl) | exact FV.ld (LdD.ag (us := _) 6 0 ag428 rfl rfl rfl rfl rfl) | exact FV.ld (LdD.sc 7 0 sc428 rfl rfl rfl rfl) | exact FV.ld (LdD.ag (us := _) 7 0 ag428 rfl rfl rfl rfl rfl))) (KeepL.drop rfl KeepL.nil)))) fun x19 => ?_
    refine DP.nm (H' := _ :: pt _ _ [_, _, _, _, _, _, _, _, _] :: _ :: pt _ _ [_] :: pt _ _ [_, _, _, _, _, _, _, _, _] :: _) rfl ?_
    refine DP.e hR [(10, _)] rfl rfl rfl rfl rfl (OpX.call cb407 (c407m _) rfl (.cons (i := 0) rfl .nil)) rfl (fun _ => (KeepL.keep rfl (FloatAt.of rfl (by first | exact FV.ld (LdD.sc 3 0 sc428 rfl rfl rfl rfl) | exact FV.ld (LdD.ag (us := _) 3 0 ag428 rfl rfl rfl rfl rfl) | exact FV.ld (LdD.sc 4 0 sc428 rfl rfl rfl rfl) | exact FV.ld (LdD.ag (us := _) 4 0 ag428 rfl rfl rfl rfl rfl) | exact FV.ld (LdD.sc 5 0 sc428 rfl rfl rfl rfl) | exact FV.ld (LdD.ag (us := _) 5 0 ag428 rfl rfl rfl rfl rfl) | exact FV.ld (LdD.sc 6 0 sc428 rfl rfl rfl rfl) | exact FV.ld (LdD.ag (us := _) 6 0 ag428 rfl rfl rfl rfl rfl) | exact FV.ld (LdD.sc 7 0 sc428 rfl rfl rfl rfl) | exact FV.ld (LdD.ag (us := _) 7 0 ag428 rfl rfl rfl rfl rfl))) (KeepL.drop rfl KeepL.nil))) fun x21 => ?_
    refine DP.nm (H' := _ :: pt _ _ [_, _, _, _, _, _, _, _, _] :: _ :: pt _ _ [_] :: pt _ _ [_, _, _, _, _, _, _, _, _] :: _) rfl ?_
    refine DP.e hR [] rfl rfl rfl rfl rfl (OpX.call cb408 (c408h _) rfl (.cons (i := 0) rfl .nil)) rfl (fun _ => (KeepL.drop rfl KeepL.nil)) fun x23 => ?_
    refine DP.nm (H' := _ :: pt _ _ [_, _, _, _, _, _, _, _, _] :: _ :: pt _ _ [_] :: pt _ _ [_, _, _, _, _, _, _, _, _] :: _) rfl ?_
    refine DP.p rfl rfl rfl rfl rfl (PV.bld (cs := [_, _, _, _, _, _, _, _, _]) bt52 rfl rfl) ?_
    refine DP.e0 hR [] rfl rfl rfl (OpD.st 1 0 sz52 rfl rfl rfl rfl rfl rfl (NAs.mem (vs := [_, _, _, _, _, _, _, _, _]) ⟨NA.int _ _, NA.int _ _, NA.int _ _, NA.int _ _, NA.int _ _, NA.str _, NA.sl _ _ _, NA.sl _ _ _, NA.sl _ _ _, trivial⟩)) rfl (fun _ => KeepL.nil) fun _ => ?_
    refine DP.nm (H' := _ :: pt _ _ [_, _, _, _, _, _, _, _, _] :: _ :: pt _ _ [_] :: pt _ _ [_, _, _, _, _, _, _, _, _] :: _) rfl ?_
    refine DP.fin hR ?_
    clear hR
    rotate_left
    refine DP.permT (T := [13, 5, 7, 9, 11, 12, 14]) (by decide) (DP.two hR rfl (Way.fst [(10, _), (8, _), (6, _), (4, _)] rfl rfl rfl rfl rfl (OpX.alloc zr52) (fun _ => (KeepL.keep rfl (FloatAt.of rfl (by first | exact FV.ld (LdD.sc 2 0 sc428 rfl rfl rfl rfl) | exact FV.ld (LdD.ag (us := _) 2 0 ag428 rfl rfl rfl rfl rfl) | exact FV.ld (LdD.sc 3 0 sc428 rfl rfl rfl rfl) | exact FV.ld (LdD.ag (us := _) 3 0 ag428 rfl rfl rfl rfl rfl) | exact FV.ld (LdD.sc 4 0 sc428 rfl rfl rfl rfl) | exact FV.ld (LdD.ag (us := _) 4 0 ag428 rfl rfl rfl rfl rfl) | exact FV.ld (LdD.sc 5 0 sc428 rfl rfl rfl rfl) | exact FV.ld (LdD.ag (us := _) 5 0 ag428 rfl rfl rfl rfl rfl) | exact FV.ld (LdD.sc 6 0 sc428 rfl rfl rfl rfl) | exact FV.ld (LdD.ag (us := _) 6 0 ag428 rfl rfl rfl rfl rfl))) (KeepL.keep rfl (FloatAt.of rfl (by first | exact FV.ld (LdD.sc 2 0 sc428 rfl rfl rfl rfl) | exact FV.ld (LdD.ag (us := _) 2 0 ag428 rfl rfl rfl rfl rfl) | exact FV.ld (LdD.sc 3 0 sc428 rfl rfl rfl rfl) | exact FV.ld (LdD.ag (us := _) 3 0 ag428 rfl rfl rfl rfl rfl) | exact FV.ld (LdD.sc 4 0 sc428 rfl rfl rfl rfl) | exact FV.ld (LdD.ag (us := _) 4 0 ag428 rfl rfl rfl rfl rfl) | exact FV.ld (LdD.sc 5 0 sc428 rfl rfl rfl rfl) | exact FV.ld (LdD.ag (us := _) 5 0 ag428 rfl rfl rfl rfl rfl) | exact FV.ld (LdD.sc 6 0 sc428 rfl rfl rfl rfl) | exact FV.ld (LdD.ag (us := _) 6 0 ag428 rfl rfl rfl rfl rfl))) (KeepL.keep rfl (FloatAt.of rfl (by first | exact FV.ld (LdD.sc 2 0 sc428 rfl rfl rfl rfl) | exact FV.ld (LdD.ag (us := _) 2 0 ag428 rfl rfl rfl rfl rfl) | exact FV.ld (LdD.sc 3 0 sc428 rfl rfl rfl rfl) | exact FV.ld (LdD.ag (us := _) 3 0 ag428 rfl rfl rfl rfl rfl) | exact FV.ld (LdD.sc 4 0 sc428 rfl rfl rfl rfl) | exact FV.ld (LdD.ag (us := _) 4 0 ag428 rfl rfl rfl rfl rfl) | exact FV.ld (LdD.sc 5 0 sc428 rfl rfl rfl rfl) | exact FV.ld (LdD.ag (us := _) 5 0 ag428 rfl rfl rfl rfl rfl) | exact FV.ld (LdD.sc 6 0 sc428 rfl rfl rfl rfl) | exact FV.ld (LdD.ag (us := _) 6 0 ag428 rfl rfl rfl rfl rfl))) (KeepL.keep rfl (FloatAt.of rfl (by first | exact FV.ld (LdD.sc 2 0 sc428 rfl rfl rfl rfl) | exact FV.ld (LdD.ag (us := _) 2 0 ag428 rfl rfl rfl rfl rfl) | exact FV.ld (LdD.sc 3 0 sc428 rfl rfl rfl rfl) | exact FV.ld (LdD.ag (us := _) 3 0 ag428 rfl rfl rfl rfl rfl) | exact FV.ld (LdD.sc 4 0 sc428 rfl rfl rfl rfl) | exact FV.ld (LdD.ag (us := _) 4 0 ag428 rfl rfl rfl rfl rfl) | exact FV.ld (LdD.sc 5 0 sc428 rfl rfl rfl rfl) | exact FV.ld (LdD.ag (us := _) 5 0 ag428 rfl rfl rfl rfl rfl) | exact FV.ld (LdD.sc 6 0 sc428 rfl rfl rfl rfl) | exact FV.ld (LdD.ag (us := _) 6 0 ag428 rfl rfl rfl rfl rfl))) KeepL.nil))))) fun x6 => ?_) (Way.snd [(10, _), (8, _), (6, _)] rfl rfl rfl rfl rfl (OpX.call cb407 (c407k _) rfl (.cons (i := 0) rfl .nil)) (fun _ => (KeepL.keep rfl (FloatAt.of rfl (by first | exact FV.ld (LdD.sc 2 0 sc428 rfl rfl rfl rfl) | exact FV.ld (LdD.ag (us := _) 2 0 ag428 rfl rfl rfl rfl rfl) | exact FV.ld (LdD.sc 3 0 sc428 rfl rfl rfl rfl) | exact FV.ld (LdD.ag (us := _) 3 0 ag428 rfl rfl rfl rfl rfl) | exact FV.ld (LdD.sc 4 0 sc428 rfl rfl rfl rfl) | exact FV.ld (LdD.ag (us := _) 4 0 ag428 rfl rfl rfl rfl rfl) | exact FV.ld (LdD.sc 5 0 sc428 rfl rfl rfl rfl) | exact FV.ld (LdD.ag (us := _) 5 0 ag428 rfl rfl rfl rfl rfl) | exact FV.ld (LdD.sc 6 0 sc428 rfl rfl rfl rfl) | exact FV.ld (LdD.ag (us := _) 6 0 ag428 rfl rfl rfl rfl rfl))) (KeepL.keep rfl (FloatAt.of rfl (by first | exact FV.ld (LdD.sc 2 0 sc428 rfl rfl rfl rfl) | exact FV.ld (LdD.ag (us := _) 2 0 ag428 rfl rfl rfl rfl rfl) | exact FV.ld (LdD.sc 3 0 sc428 rfl rfl rfl rfl) | exact FV.ld (LdD.ag (us := _) 3 0 ag428 rfl rfl rfl rfl rfl) | exact FV.ld (LdD.sc 4 0 sc428 rfl rfl rfl rfl) | exact FV.ld (LdD.ag (us := _) 4 0 ag428 rfl rfl rfl rfl rfl) | exact FV.ld (LdD.sc 5 0 sc428 rfl rfl rfl rfl) | exact FV.ld (LdD.ag (us := _) 5 0 ag428 rfl rfl rfl rfl rfl) | exact FV.ld (LdD.sc 6 0 sc428 rfl rfl rfl rfl) | exact FV.ld (LdD.ag (us := _) 6 0 ag428 rfl rfl rfl rfl rfl))) (KeepL.keep rfl (FloatAt.of rfl (by first | exact FV.ld (LdD.sc 2 0 sc428 rfl rfl rfl rfl) | exact FV.ld (LdD.ag (us := _) 2 0 ag428 rfl rfl rfl rfl rfl) | exact FV.ld (LdD.sc 3 0 sc428 rfl rfl rfl rfl) | exact FV.ld (LdD.ag (us := _) 3 0 ag428 rfl rfl rfl rfl rfl) | exact FV.ld (LdD.sc 4 0 sc428 rfl rfl rfl rfl) | exact FV.ld (LdD.ag (us := _) 4 0 ag428 rfl rfl rfl rfl rfl) | exact FV.ld (LdD.sc 5 0 sc428 rfl rfl rfl rfl) | exact FV.ld (LdD.ag (us := _) 5 0 ag428 rfl rfl rfl rfl rfl) | exact FV.ld (LdD.sc 6 0 sc428 rfl rfl rfl rfl) | exact FV.ld (LdD.ag (us := _) 6 0 ag428 rfl rfl rfl rfl rfl))) (KeepL.drop rfl KeepL.nil))))) fun x17 => ?_))
    refine DP.nm (H' := pt _ _ [_, _, _, _, _, _, _, _, _] :: _ :: _ :: pt _ _ [_] :: pt _ _ [_, _, _, _, _, _, _, _, _] :: _) rfl ?_
    refine DP.e hR [(10, _), (8, _), (6, _)] rfl rfl rfl rfl rfl (OpX.call cb407 (c407k _) rfl (.cons (i := 1) rfl .nil)) rfl (fun _ => (KeepL.keep rfl (FloatAt.of rfl (by first | exact FV.ld (LdD.sc 3 0 sc428 rfl rfl rfl rfl) | exact FV.ld (LdD.ag (us := _) 3 0 ag428 rfl rfl rfl rfl rfl) | exact FV.ld (LdD.sc 4 0 sc428 rfl rfl rfl rfl) | exact FV.ld (LdD.ag (us := _) 4 0 ag428 rfl rfl rfl rfl rfl) | exact FV.ld (LdD.sc 5 0 sc428 rfl rfl rfl rfl) | exact FV.ld (LdD.ag (us := _) 5 0 ag428 rfl rfl rfl rfl rfl) | exact FV.ld (LdD.sc 6 0 sc428 rfl rfl rfl rfl) | exact FV.ld (LdD.ag (us := _) 6 0 ag428 rfl rfl rfl rfl rfl) | exact FV.ld (LdD.sc 7 0 sc428 rfl rfl rfl rfl) | exact FV.ld (LdD.ag (us := _) 7 0 ag428 rfl rfl rfl rfl rfl))) (KeepL.keep rfl (FloatAt.of rfl (by first | exact FV.ld (LdD.sc 3 0 sc428 rfl rfl rfl rfl) | exact FV.ld (LdD.ag (us := _) 3 0 ag428 rfl rfl rfl rfl rfl) | exact FV.ld (LdD.sc 4 0 sc428 rfl rfl rfl rfl) | exact FV.ld (LdD.ag (us := _) 4 0 ag428 rfl rfl rfl rfl rfl) | exact FV.ld (LdD.sc 5 0 sc428 rfl rfl rfl rfl) | exact FV.ld (LdD.ag (us := _) 5 0 ag428 rfl rfl rfl rfl rfl) | exact FV.ld (LdD.sc 6 0 sc428 rfl rfl rfl rfl) | exact FV.ld (LdD.ag (us := _) 6 0 ag428 rfl rfl rfl rfl rfl) | exact FV.ld (LdD.sc 7 0 sc428 rfl rfl rfl rfl) | exact FV.ld (LdD.ag (us := _) 7 0 ag428 rfl rfl rfl rfl rfl))) (KeepL.keep rfl (FloatAt.of rfl (by first | exact FV.ld (LdD.sc 3 0 sc428 rfl rfl rfl rfl) | exact FV.ld (LdD.ag (us := _) 3 0 ag428 rfl rfl rfl rfl rfl) | exact FV.ld (LdD.sc 4 0 sc428 rfl rfl rfl rfl) | exact FV.ld (LdD.ag (us := _) 4 0 ag428 rfl rfl rfl rfl rfl) | exact FV.ld (LdD.sc 5 0 sc428 rfl rfl rfl rfl) | exact FV.ld (LdD.ag (us := _) 5 0 ag428 rfl rfl rfl rfl rfl) | exact FV.ld (LdD.sc 6 0 sc428 rfl rfl rfl rfl) | exact FV.ld (LdD.ag (us := _) 6 0 ag428 rfl rfl rfl rfl rfl) | exact FV.ld (LdD.sc 7 0 sc428 rfl rfl rfl rfl) | exact FV.ld (LdD.ag (us := _) 7 0 ag428 rfl rfl rfl rfl rfl))) (KeepL.drop rfl KeepL.nil))))) fun x17 => ?_
    refine DP.nm (H' := _ :: pt _ _ [_, _, _, _, _, _, _, _, _] :: _ :: pt _ _ [_] :: pt _ _ [_, _, _, _, _, _, _, _, _] :: _) rfl ?_
    refine DP.e hR [(10, _), (8, _)] rfl rfl rfl rfl rfl (OpX.call cb407 (c407l _) rfl (.cons (i := 0) rfl .nil)) rfl (fun _ => (KeepL.keep rfl (FloatAt.of rfl (by first | exact FV.ld (LdD.sc 3 0 sc428 rfl rfl rfl rfl) | exact FV.ld (LdD.ag (us := _) 3 0 ag428 rfl rfl rfl rfl rfl) | exact FV.ld (LdD.sc 4 0 sc428 rfl rfl rfl rfl) | exact FV.ld (LdD.ag (us := _) 4 0 ag428 rfl rfl rfl rfl rfl) | exact FV.ld (LdD.sc 5 0 sc428 rfl rfl rfl rfl) | exact FV.ld (LdD.ag (us := _) 5 0 ag428 rfl rfl rfl rfl rfl) | exact FV.ld (LdD.sc 6 0 sc428 rfl rfl rfl rfl) | exact FV.ld (LdD.ag (us := _) 6 0 ag428 rfl rfl rfl rfl rfl) | exact FV.ld (LdD.sc 7 0 sc428 rfl rfl rfl rfl) | exact FV.ld (LdD.ag (us := _) 7 0 ag428 rfl rfl rfl rfl rfl))) (KeepL.keep rfl (FloatAt.of rfl (by first | exact FV.ld (LdD.sc 3 0 sc428 rfl rfl rfl rfl) | exact FV.ld (LdD.ag (us := _) 3 0 ag428 rfl rfl rfl rfl rfl) | exact FV.ld (LdD.sc 4 0 sc428 rfl rfl rfl rfl) | exact FV.ld (LdD.ag (us := _) 4 0 ag428 rfl rfl rfl rfl rfl) | exact FV.ld (LdD.sc 5 0 sc428 rfl rfl rfl rfl) | exact FV.ld (LdD.ag (us := _) 5 0 ag428 rfl rfl rfl rfl rfl) | exact FV.ld (LdD.sc 6 0 sc428 rfl rfl rfl rfl) | exact FV.ld (LdD.ag (us := _) 6 0 ag428 rfl rfl rfl rfl rfl) | exact FV.ld (LdD.sc 7 0 sc428 rfl rfl rfl rfl) | exact FV.ld (LdD.ag (us := _) 7 0 ag428 rfl rfl rfl rfl rfl))) (KeepL.drop rfl KeepL.nil)))) fun x19 => ?_
    refine DP.nm (H' := _ :: pt _ _ [_, _, _, _, _, _, _, _, _] :: _ :: pt _ _ [_] :: pt _ _ [_, _, _, _, _, _, _, _, _] :: _) rfl ?_
    refine DP.e hR [(10, _)] rfl rfl rfl rfl rfl (OpX.call cb407 (c407m _) rfl (.cons (i := 0) rfl .nil)) rfl (fun _ => (KeepL.keep rfl (FloatAt.of rfl (by first | exact FV.ld (LdD.sc 3 0 sc428 rfl rfl rfl rfl) | exact FV.ld (LdD.ag (us := _) 3 0 ag428 rfl rfl rfl rfl rfl) | exact FV.ld (LdD.sc 4 0 sc428 rfl rfl rfl rfl) | exact FV.ld (LdD.ag (us := _) 4 0 ag428 rfl rfl rfl rfl rfl) | exact FV.ld (LdD.sc 5 0 sc428 rfl rfl rfl rfl) | exact FV.ld (LdD.ag (us := _) 5 0 ag428 rfl rfl rfl rfl rfl) | exact FV.ld (LdD.sc 6 0 sc428 rfl rfl rfl rfl) | exact FV.ld (LdD.ag (us := _) 6 0 ag428 rfl rfl rfl rfl rfl) | exact FV.ld (LdD.sc 7 0 sc428 rfl rfl rfl rfl) | exact FV.ld (LdD.ag (us := _) 7 0 ag428 rfl rfl rfl rfl rfl))) (KeepL.drop rfl KeepL.nil))) fun x21 => ?_
    refine DP.nm (H' := _ :: pt _ _ [_, _, _, _, _, _, _, _, _] :: _ :: pt _ _ [_] :: pt _ _ [_, _, _, _, _, _, _, _, _] :: _) rfl ?_
    refine DP.e hR [] rfl rfl rfl rfl rfl (OpX.call cb408 (c408h _) rfl (.cons (i := 0) rfl .nil)) rfl (fun _ => (KeepL.drop rfl KeepL.nil)) fun x23 => ?_
    refine DP.nm (H' := _ :: pt _ _ [_, _, _, _, _, _, _, _, _] :: _ :: pt _ _ [_] :: pt _ _ [_, _, _, _, _, _, _, _, _] :: _) rfl ?_
    refine DP.p rfl rfl rfl rfl rfl (PV.bld (cs := [_, _, _, _, _, _, _, _, _]) bt52 rfl rfl) ?_
    refine DP.e0 hR [] rfl rfl rfl (OpD.st 1 0 sz52 rfl rfl rfl rfl rfl rfl (NAs.mem (vs := [_, _, _, _, _, _, _, _, _]) ⟨NA.int _ _, NA.int _ _, NA.int _ _, NA.int _ _, NA.int _ _, NA.str _, NA.sl _ _ _, NA.sl _ _ _, NA.sl _ _ _, trivial⟩)) rfl (fun _ => KeepL.nil) fun _ => ?_
    refine DP.nm (H' := _ :: pt _ _ [_, _, _, _, _, _, _, _, _] :: _ :: pt _ _ [_] :: pt _ _ [_, _, _, _, _, _, _, _, _] :: _) rfl ?_
    refine DP.fin hR ?_
    clear hR
    rotate_left
    refine DP.permT (T := [13, 7, 9, 11, 12, 14]) (by decide) (DP.two hR rfl (Way.fst [(10, _), (8, _), (6, _)] rfl rfl rfl rfl rfl (OpX.alloc zr52) (fun _ => (KeepL.keep rfl (FloatAt.of rfl (by first | exact FV.ld (LdD.sc 2 0 sc428 rfl rfl rfl rfl) | exact FV.ld (LdD.ag (us := _) 2 0 ag428 rfl rfl rfl rfl rfl) | exact FV.ld (LdD.sc 3 0 sc428 rfl rfl rfl rfl) | exact FV.ld (LdD.ag (us := _) 3 0 ag428 rfl rfl rfl rfl rfl) | exact FV.ld (LdD.sc 4 0 sc428 rfl rfl rfl rfl) | exact FV.ld (LdD.ag (us := _) 4 0 ag428 rfl rfl rfl rfl rfl) | exact FV.ld (LdD.sc 5 0 sc428 rfl rfl rfl rfl) | exact FV.ld (LdD.ag (us := _) 5 0 ag428 rfl rfl rfl rfl rfl) | exact FV.ld (LdD.sc 6 0 sc428 rfl rfl rfl rfl) | exact FV.ld (LdD.ag (us := _) 6 0 ag428 rfl rfl rfl rfl rfl))) (KeepL.keep rfl (FloatAt.of rfl (by first | exact FV.ld (LdD.sc 2 0 sc428 rfl rfl rfl rfl) | exact FV.ld (LdD.ag (us := _) 2 0 ag428 rfl rfl rfl rfl rfl) | exact FV.ld (LdD.sc 3 0 sc428 rfl rfl rfl rfl) | exact FV.ld (LdD.ag (us := _) 3 0 ag428 rfl rfl rfl rfl rfl) | exact FV.ld (LdD.sc 4 0 sc428 rfl rfl rfl rfl) | exact FV.ld (LdD.ag (us := _) 4 0 ag428 rfl rfl rfl rfl rfl) | exact FV.ld (LdD.sc 5 0 sc428 rfl rfl rfl rfl) | exact FV.ld (LdD.ag (us := _) 5 0 ag428 rfl rfl rfl rfl rfl) | exact FV.ld (LdD.sc 6 0 sc428 rfl rfl rfl rfl) | exact FV.ld (LdD.ag (us := _) 6 0 ag428 rfl rfl rfl rfl rfl))) (KeepL.keep rfl (FloatAt.of rfl (by first | exact FV.ld (LdD.sc 2 0 sc428 rfl rfl rfl rfl) | exact FV.ld (LdD.ag (us := _) 2 0 ag428 rfl rfl rfl rfl rfl) | exact FV.ld (LdD.sc 3 0 sc428 rfl rfl rfl rfl) | exact FV.ld (LdD.ag (us := _) 3 0 ag428 rfl rfl rfl rfl rfl) | exact FV.ld (LdD.sc 4 0 sc428 rfl rfl rfl rfl) | exact FV.ld (LdD.ag (us := _) 4 0 ag428 rfl rfl rfl rfl rfl) | exact FV.ld (LdD.sc 5 0 sc428 rfl rfl rfl rfl) | exact FV.ld (LdD.ag (us := _) 5 0 ag428 rfl rfl rfl rfl rfl) | exact FV.ld (LdD.sc 6 0 sc428 rfl rfl rfl rfl) | exact FV.ld (LdD.ag (us := _) 6 0 ag428 rfl rfl rfl rfl rfl))) KeepL.nil)))) fun x6 => ?_) (Way.snd [(10, _), (8, _)] rfl rfl rfl rfl rfl (OpX.call cb407 (c407l _) rfl (.cons (i := 0) rfl .nil)) (fun _ => (KeepL.keep rfl (FloatAt.of rfl (by first | exact FV.ld (LdD.sc 2 0 sc428 rfl rfl rfl rfl) | exact FV.ld (LdD.ag (us := _) 2 0 ag428 rfl rfl rfl rfl rfl) | exact FV.ld (LdD.sc 3 0 sc428 rfl rfl rfl rfl) | exact FV.ld (LdD.ag (us := _) 3 0 ag428 rfl rfl rfl rfl rfl) | exact FV.ld (LdD.sc 4 0 sc428 rfl rfl rfl rfl) | exact FV.ld (LdD.ag (us := _) 4 0 ag428 rfl rfl rfl rfl rfl) | exact FV.ld (LdD.sc 5 0 sc428 rfl rfl rfl rfl) | exact FV.ld (LdD.ag (us := _) 5 0 ag428 rfl rfl rfl rfl rfl) | exact FV.ld (LdD.sc 6 0 sc428 rfl rfl rfl rfl) | exact FV.ld (LdD.ag (us := _) 6 0 ag428 rfl rfl rfl rfl rfl))) (KeepL.keep rfl (FloatAt.of rfl (by first | exact FV.ld (LdD.sc 2 0 sc428 rfl rfl rfl rfl) | exact FV.ld (LdD.ag (us := _) 2 0 ag428 rfl rfl rfl rfl rfl) | exact FV.ld (LdD.sc 3 0 sc428 rfl rfl rfl rfl) | exact FV.ld (LdD.ag (us := _) 3 0 ag428 rfl rfl rfl rfl rfl) | exact FV.ld (LdD.sc 4 0 sc428 rfl rfl rfl rfl) | exact FV.ld (LdD.ag (us := _) 4 0 ag428 rfl rfl rfl rfl rfl) | exact FV.ld (LdD.sc 5 0 sc428 rfl rfl rfl rfl) | exact FV.ld (LdD.ag (us := _) 5 0 ag428 rfl rfl rfl rfl rfl) | exact FV.ld (LdD.sc 6 0 sc428 rfl rfl rfl rfl) | exact FV.ld (LdD.ag (us := _) 6 0 ag428 rfl rfl rfl rfl rfl))) (KeepL.drop rfl KeepL.nil)))) fun x19 => ?_))
    refine DP.nm (H' := pt _ _ [_, _, _, _, _, _, _, _, _] :: _ :: _ :: pt _ _ [_] :: pt _ _ [_, _, _, _, _, _, _, _, _] :: _) rfl ?_
    refine DP.e hR [(10, _), (8, _)] rfl rfl rfl rfl rfl (OpX.call cb407 (c407l _) rfl (.cons (i := 1) rfl .nil)) rfl (fun _ => (KeepL.keep rfl (FloatAt.of rfl (by first | exact FV.ld (LdD.sc 3 0 sc428 rfl rfl rfl rfl) | exact FV.ld (LdD.ag (us := _) 3 0 ag428 rfl rfl rfl rfl rfl) | exact FV.ld (LdD.sc 4 0 sc428 rfl rfl rfl rfl) | exact FV.ld (LdD.ag (us := _) 4 0 ag428 rfl rfl rfl rfl rfl) | exact FV.ld (LdD.sc 5 0 sc428 rfl rfl rfl rfl) | exact FV.ld (LdD.ag (us := _) 5 0 ag428 rfl rfl rfl rfl rfl) | exact FV.ld (LdD.sc 6 0 sc428 rfl rfl rfl rfl) | exact FV.ld (LdD.ag (us := _) 6 0 ag428 rfl rfl rfl rfl rfl) | exact FV.ld (LdD.sc 7 0 sc428 rfl rfl rfl rfl) | exact FV.ld (LdD.ag (us := _) 7 0 ag428 rfl rfl rfl rfl rfl))) (KeepL.keep rfl (FloatAt.of rfl (by first | exact FV.ld (LdD.sc 3 0 sc428 rfl rfl rfl rfl) | exact FV.ld (LdD.ag (us := _) 3 0 ag428 rfl rfl rfl rfl rfl) | exact FV.ld (LdD.sc 4 0 sc428 rfl rfl rfl rfl) | exact FV.ld (LdD.ag (us := _) 4 0 ag428 rfl rfl rfl rfl rfl) | exact FV.ld (LdD.sc 5 0 sc428 rfl rfl rfl rfl) | exact FV.ld (LdD.ag (us := _) 5 0 ag428 rfl rfl rfl rfl rfl) | exact FV.ld (LdD.sc 6 0 sc428 rfl rfl rfl rfl) | exact FV.ld (LdD.ag (us := _) 6 0 ag428 rfl rfl rfl rfl rfl) | exact FV.ld (LdD.sc 7 0 sc428 rfl rfl rfl rfl) | exact FV.ld (LdD.ag (us := _) 7 0 ag428 rfl rfl rfl rfl rfl))) (KeepL.drop rfl KeepL.nil)))) fun x19 => ?_
    refine DP.nm (H' := _ :: pt _ _ [_, _, _, _, _, _, _, _, _] :: _ :: pt _ _ [_] :: pt _ _ [_, _, _, _, _, _, _, _, _] :: _) rfl ?_
    refine DP.e hR [(10, _)] rfl rfl rfl rfl rfl (OpX.call cb407 (c407m _) rfl (.cons (i := 0) rfl .nil)) rfl (fun _ => (KeepL.keep rfl (FloatAt.of rfl (by first | exact FV.ld (LdD.sc 3 0 sc428 rfl rfl rfl rfl) | exact FV.ld (LdD.ag (us := _) 3 0 ag428 rfl rfl rfl rfl rfl) | exact FV.ld (LdD.sc 4 0 sc428 rfl rfl rfl rfl) | exact FV.ld (LdD.ag (us := _) 4 0 ag428 rfl rfl rfl rfl rfl) | exact FV.ld (LdD.sc 5 0 sc428 rfl rfl rfl rfl) | exact FV.ld (LdD.ag (us := _) 5 0 ag428 rfl rfl rfl rfl rfl) | exact FV.ld (LdD.sc 6 0 sc428 rfl rfl rfl rfl) | exact FV.ld (LdD.ag (us := _) 6 0 ag428 rfl rfl rfl rfl rfl) | exact FV.ld (LdD.sc 7 0 sc428 rfl rfl rfl rfl) | exact FV.ld (LdD.ag (us := _) 7 0 ag428 rfl rfl rfl rfl rfl))) (KeepL.drop rfl KeepL.nil))) fun x21 => ?_
    refine DP.nm (H' := _ :: pt _ _ [_, _, _, _, _, _, _, _, _] :: _ :: pt _ _ [_] :: pt _ _ [_, _, _, _, _, _, _, _, _] :: _) rfl ?_
    refine DP.e hR [] rfl rfl rfl rfl rfl (OpX.call cb408 (c408h _) rfl (.cons (i := 0) rfl .nil)) rfl (fun _ => (KeepL.drop rfl KeepL.nil)) fun x23 => ?_
    refine DP.nm (H' := _ :: pt _ _ [_, _, _, _, _, _, _, _, _] :: _ :: pt _ _ [_] :: pt _ _ [_, _, _, _, _, _, _, _, _] :: _) rfl ?_
    refine DP.p rfl rfl rfl rfl rfl (PV.bld (cs := [_, _, _, _, _, _, _, _, _]) bt52 rfl rfl) ?_
    refine DP.e0 hR [] rfl rfl rfl (OpD.st 1 0 sz52 rfl rfl rfl rfl rfl rfl (NAs.mem (vs := [_, _, _, _, _, _, _, _, _]) ⟨NA.int _ _, NA.int _ _, NA.int _ _, NA.int _ _, NA.int _ _, NA.str _, NA.sl _ _ _, NA.sl _ _ _, NA.sl _ _ _, trivial⟩)) rfl (fun _ => KeepL.nil) fun _ => ?_
    refine DP.nm (H' := _ :: pt _ _ [_, _, _, _, _, _, _, _, _] :: _ :: pt _ _ [_] :: pt _ _ [_, _, _, _, _, _, _, _, _] :: _) rfl ?_
    refine DP.fin hR ?_
    clear hR
    rotate_left
    refine DP.permT (T := [13, 9, 11, 12, 14]) (by decide) (DP.two hR rfl (Way.fst [(10, _), (8, _)] rfl rfl rfl rfl rfl (OpX.alloc zr52) (fun _ => (KeepL.keep rfl (FloatAt.of rfl (by first | exact FV.ld (LdD.sc 2 0 sc428 rfl rfl rfl rfl) | exact FV.ld (LdD.ag (us := _) 2 0 ag428 rfl rfl rfl rfl rfl) | exact FV.ld (LdD.sc 3 0 sc428 rfl rfl rfl rfl) | exact FV.ld (LdD.ag (us := _) 3 0 ag428 rfl rfl rfl rfl rfl) | exact FV.ld (LdD.sc 4 0 sc428 rfl rfl rfl rfl) | exact FV.ld (LdD.ag (us := _) 4 0 ag428 rfl rfl rfl rfl rfl) | exact FV.ld (LdD.sc 5 0 sc428 rfl rfl rfl rfl) | exact FV.ld (LdD.ag (us := _) 5 0 ag428 rfl rfl rfl rfl rfl) | exact FV.ld (LdD.sc 6 0 sc428 rfl rfl rfl rfl) | exact FV.ld (LdD.ag (us := _) 6 0 ag428 rfl rfl rfl rfl rfl))) (KeepL.keep rfl (FloatAt.of rfl (by first | exact FV.ld (LdD.sc 2 0 sc428 rfl rfl rfl rfl) | exact FV.ld (LdD.ag (us := _) 2 0 ag428 rfl rfl rfl rfl rfl) | exact FV.ld (LdD.sc 3 0 sc428 rfl rfl rfl rfl) | exact FV.ld (LdD.ag (us := _) 3 0 ag428 rfl rfl rfl rfl rfl) | exact FV.ld (LdD.sc 4 0 sc428 rfl rfl rfl rfl) | exact FV.ld (LdD.ag (us := _) 4 0 ag428 rfl rfl rfl rfl rfl) | exact FV.ld (LdD.sc 5 0 sc428 rfl rfl rfl rfl) | exact FV.ld (LdD.ag (us := _) 5 0 ag428 rfl rfl rfl rfl rfl) | exact FV.ld (LdD.sc 6 0 sc428 rfl rfl rfl rfl) | exact FV.ld (LdD.ag (us := _) 6 0 ag428 rfl rfl rfl rfl rfl))) KeepL.nil))) fun x6 => ?_) (Way.snd [(10, _)] rfl rfl rfl rfl rfl (OpX.call cb407 (c407m _) rfl (.cons (i := 0) rfl .nil)) (fun _ => (KeepL.keep rfl (FloatAt.of rfl (by first | exact FV.ld (LdD.sc 2 0 sc428 rfl rfl rfl rfl) | exact FV.ld (LdD.ag (us := _) 2 0 ag428 rfl rfl rfl rfl rfl) | exact FV.ld (LdD.sc 3 0 sc428 rfl rfl rfl rfl) | exact FV.ld (LdD.ag (us := _) 3 0 ag428 rfl rfl rfl rfl rfl) | exact FV.ld (LdD.sc 4 0 sc428 rfl rfl rfl rfl) | exact FV.ld (LdD.ag (us := _) 4 0 ag428 rfl rfl rfl rfl rfl) | exact FV.ld (LdD.sc 5 0 sc428 rfl rfl rfl rfl) | exact FV.ld (LdD.ag (us := _) 5 0 ag428 rfl rfl rfl rfl rfl) | exact FV.ld (LdD.sc 6 0 sc428 rfl rfl rfl rfl) | exact FV.ld (LdD.ag (us := _) 6 0 ag428 rfl rfl rfl rfl rfl))) (KeepL.drop rfl KeepL.nil))) fun x21 => ?_))
    refine DP.nm (H' := pt _ _ [_, _, _, _, _, _, _, _, _] :: _ :: _ :: pt _ _ [_] :: pt _ _ [_, _, _, _, _, _, _, _, _] :: _) rfl ?_
    refine DP.e hR [(10, _)] rfl rfl rfl rfl rfl (OpX.call cb407 (c407m _) rfl (.cons (i := 1) rfl .nil)) rfl (fun _ => (KeepL.keep rfl (FloatAt.of rfl (by first | exact FV.ld (LdD.sc 3 0 sc428 rfl rfl rfl rfl) | exact FV.ld (LdD.ag (us := _) 3 0 ag428 rfl rfl rfl rfl rfl) | exact FV.ld (LdD.sc 4 0 sc428 rfl rfl rfl rfl) | exact FV.ld (LdD.ag (us := _) 4 0 ag428 rfl rfl rfl rfl rfl) | exact FV.ld (LdD.sc 5 0 sc428 rfl rfl rfl rfl) | exact FV.ld (LdD.ag (us := _) 5 0 ag428 rfl rfl rfl rfl rfl) | exact FV.ld (LdD.sc 6 0 sc428 rfl rfl rfl rfl) | exact FV.ld (LdD.ag (us := _) 6 0 ag428 rfl rfl rfl rfl rfl) | exact FV.ld (LdD.sc 7 0 sc428 rfl rfl rfl rfl) | exact FV.ld (LdD.ag (us := _) 7 0 ag428 rfl rfl rfl rfl rfl))) (KeepL.drop rfl KeepL.nil))) fun x21 => ?_
    refine DP.nm (H' := _ :: pt _ _ [_, _, _, _, _, _, _, _, _] :: _ :: pt _ _ [_] :: pt _ _ [_, _, _, _, _, _, _, _, _] :: _) rfl ?_
    refine DP.e hR [] rfl rfl rfl rfl rfl (OpX.call cb408 (c408h _) rfl (.cons (i := 0) rfl .nil)) rfl (fun _ => (KeepL.drop rfl KeepL.nil)) fun x23 => ?_
    refine DP.nm (H' := _ :: pt _ _ [_, _, _, _, _, _, _, _, _] :: _ :: pt _ _ [_] :: pt _ _ [_, _, _, _, _, _, _, _, _] :: _) rfl ?_
    refine DP.p rfl rfl rfl rfl rfl (PV.bld (cs := [_, _, _, _, _, _, _, _, _]) bt52 rfl rfl) ?_
    refine DP.e0 hR [] rfl rfl rfl (OpD.st 1 0 sz52 rfl rfl rfl rfl rfl rfl (NAs.mem (vs := [_, _, _, _, _, _, _, _, _]) ⟨NA.int _ _, NA.int _ _, NA.int _ _, NA.int _ _, NA.int _ _, NA.str _, NA.sl _ _ _, NA.sl _ _ _, NA.sl _ _ _, trivial⟩)) rfl (fun _ => KeepL.nil) fun _ => ?_
    refine DP.nm (H' := _ :: pt _ _ [_, _, _, _, _, _, _, _, _] :: _ :: pt _ _ [_] :: pt _ _ [_, _, _, _, _, _, _, _, _] :: _) rfl ?_
    refine DP.fin hR ?_
    clear hR
    rotate_left
    refine DP.permT (T := [13, 11, 12, 14]) (by decide) (DP.two hR rfl (Way.fst [(10, _)] rfl rfl rfl rfl rfl (OpX.alloc zr52) (fun _ => (KeepL.keep rfl (FloatAt.of rfl (by first | exact FV.ld (LdD.sc 2 0 sc428 rfl rfl rfl rfl) | exact FV.ld (LdD.ag (us := _) 2 0 ag428 rfl rfl rfl rfl rfl) | exact FV.ld (LdD.sc 3 0 sc428 rfl rfl rfl rfl) | exact FV.ld (LdD.ag (us := _) 3 0 ag428 rfl rfl rfl rfl rfl) | exact FV.ld (LdD.sc 4 0 sc428 rfl rfl rfl rfl) | exact FV.ld (LdD.ag (us := _) 4 0 ag428 rfl rfl rfl rfl rfl) | exact FV.ld (LdD.sc 5 0 sc428 rfl rfl rfl rfl) | exact FV.ld (LdD.ag (us := _) 5 0 ag428 rfl rfl rfl rfl rfl) | exact FV.ld (LdD.sc 6 0 sc428 rfl rfl rfl rfl) | exact FV.ld (LdD.ag (us := _) 6 0 ag428 rfl rfl rfl rfl rfl))) KeepL.nil)) fun x6 => ?_) (Way.snd [] rfl rfl rfl rfl rfl (OpX.call cb408 (c408h _) rfl (.cons (i := 0) rfl .nil)) (fun _ => (KeepL.drop rfl KeepL.nil)) fun x23 => ?_))
    refine DP.nm (H' := pt _ _ [_, _, _, _, _, _, _, _, _] :: _ :: _ :: pt _ _ [_] :: pt _ _ [_, _, _, _, _, _, _, _, _] :: _) rfl ?_
    refine DP.e hR [] rfl rfl rfl rfl rfl (OpX.call cb408 (c408h _) rfl (.cons (i := 1) rfl .nil)) rfl (fun _ => (KeepL.drop rfl KeepL.nil)) fun x23 => ?_
    refine DP.nm (H' := _ :: pt _ _ [_, _, _, _, _, _, _, _, _] :: _ :: pt _ _ [_] :: pt _ _ [_, _, _, _, _, _, _, _, _] :: _) rfl ?_
    refine DP.p rfl rfl rfl rfl rfl (PV.bld (cs := [_, _, _, _, _, _, _, _, _]) bt52 rfl rfl) ?_
    refine DP.e0 hR [] rfl rfl rfl (OpD.st 1 0 sz52 rfl rfl rfl rfl rfl rfl (NAs.mem (vs := [_, _, _, _, _, _, _, _, _]) ⟨NA.int _ _, NA.int _ _, NA.int _ _, NA.int _ _, NA.int _ _, NA.str _, NA.sl _ _ _, NA.sl _ _ _, NA.sl _ _ _, trivial⟩)) rfl (fun _ => KeepL.nil) fun _ => ?_
    refine DP.nm (H' := _ :: pt _ _ [_, _, _, _, _, _, _, _, _] :: _ :: pt _ _ [_] :: pt _ _ [_, _, _, _, _, _, _, _, _] :: _) rfl ?_
    refine DP.fin hR ?_
    clear hR
    rotate_left
    refine DP.permT (T := [12, 13, 14]) (by decide) ?_
    refine DP.p rfl rfl rfl rfl rfl (PV.bld (cs := [_, _, _, _, _, _, _, _, _]) bt52 rfl rfl) ?_
    refine DP.e hR [] rfl rfl rfl rfl rfl (OpX.alloc zr52) rfl (fun _ => KeepL.nil) fun x6 => ?_
    refine DP.nm (H' := pt _ _ [_, _, _, _, _, _, _, _, _] :: _ :: _ :: pt _ _ [_] :: pt _ _ [_, _, _, _, _, _, _, _, _] :: _) rfl ?_
    refine DP.e0 hR [] rfl rfl rfl (OpD.st 0 0 sz52 rfl rfl rfl rfl rfl rfl (NAs.mem (vs := [_, _, _, _, _, _, _, _, _]) ⟨NA.int _ _, NA.int _ _, NA.int _ _, NA.int _ _, NA.int _ _, NA.str _, NA.sl _ _ _, NA.sl _ _ _, NA.sl _ _ _, trivial⟩)) rfl (fun _ => KeepL.nil) fun _ => ?_
    refine DP.nm (H' := pt _ _ [_, _, _, _, _, _, _, _, _] :: _ :: _ :: pt _ _ [_] :: pt _ _ [_, _, _, _, _, _, _, _, _] :: _) rfl ?_
    refine DP.fin hR ?_
    clear hR
    rotate_left
    refine DP.e hR [(10, _), (8, _), (6, _), (4, _), (2, _)] rfl rfl rfl rfl rfl (OpX.call cb407 (c407i _) rfl (.cons (i := 1) rfl .nil)) rfl (fun _ => (KeepL.keep rfl (FloatAt.of rfl (by first | exact FV.ld (LdD.sc 3 0 sc428 rfl rfl rfl rfl) | exact FV.ld (LdD.ag (us := _) 3 0 ag428 rfl rfl rfl rfl rfl) | exact FV.ld (LdD.sc 4 0 sc428 rfl rfl rfl rfl) | exact FV.ld (LdD.ag (us := _) 4 0 ag428 rfl rfl rfl rfl rfl) | exact FV.ld (LdD.sc 5 0 sc428 rfl rfl rfl rfl) | exact FV.ld (LdD.ag (us := _) 5 0 ag428 rfl rfl rfl rfl rfl) | exact FV.ld (LdD.sc 6 0 sc428 rfl rfl rfl rfl) | exact FV.ld (LdD.ag (us := _) 6 0 ag428 rfl rfl rfl rfl rfl) | exact FV.ld (LdD.sc 7 0 sc428 rfl rfl rfl rfl) | exact FV.ld (LdD.ag (us := _) 7 0 ag428 rfl rfl rfl rfl rfl))) (KeepL.keep rfl (FloatAt.of rfl (by first | exact FV.ld (LdD.sc 3 0 sc428 rfl rfl rfl rfl) | exact FV.ld (LdD.ag (us := _) 3 0 ag428 rfl rfl rfl rfl rfl) | exact FV.ld (LdD.sc 4 0 sc428 rfl rfl rfl rfl) | exact FV.ld (LdD.ag (us := _) 4 0 ag428 rfl rfl rfl rfl rfl) | exact FV.ld (LdD.sc 5 0 sc428 rfl rfl rfl rfl) | exact FV.ld (LdD.ag (us := _) 5 0 ag428 rfl rfl rfl rfl rfl) | exact FV.ld (LdD.sc 6 0 sc428 rfl rfl rfl rfl) | exact FV.ld (LdD.ag (us := _) 6 0 ag428 rfl rfl rfl rfl rfl) | exact FV.ld (LdD.sc 7 0 sc428 rfl rfl rfl rfl) | exact FV.ld (LdD.ag (us := _) 7 0 ag428 rfl rfl rfl rfl rfl))) (KeepL.keep rfl (FloatAt.of rfl (by first | exact FV.ld (LdD.sc 3 0 sc428 rfl rfl rfl rfl) | exact FV.ld (LdD.ag (us := _) 3 0 ag428 rfl rfl rfl rfl rfl) | exact FV.ld (LdD.sc 4 0 sc428 rfl rfl rfl rfl) | exact FV.ld (LdD.ag (us := _) 4 0 ag428 rfl rfl rfl rfl rfl) | exact FV.ld (LdD.sc 5 0 sc428 rfl rfl rfl rfl) | exact FV.ld (LdD.ag (us := _) 5 0 ag428 rfl rfl rfl rfl rfl) | exact FV.ld (LdD.sc 6 0 sc428 rfl rfl rfl rfl) | exact FV.ld (LdD.ag (us := _) 6 0 ag428 rfl rfl rfl rfl rfl) | exact FV.ld (LdD.sc 7 0 sc428 rfl rfl rfl rfl) | exact FV.ld (LdD.ag (us := _) 7 0 ag428 rfl rfl rfl rfl rfl))) (KeepL.keep rfl (FloatAt.of rfl (by first | exact FV.ld (LdD.sc 3 0 sc428 rfl rfl rfl rfl) | exact FV.ld (LdD.ag (us := _) 3 0 ag428 rfl rfl rfl rfl rfl) | exact FV.ld (LdD.sc 4 0 sc428 rfl rfl rfl rfl) | exact FV.ld (LdD.ag (us := _) 4 0 ag428 rfl rfl rfl rfl rfl) | exact FV.ld (LdD.sc 5 0 sc428 rfl rfl rfl rfl) | exact FV.ld (LdD.ag (us := _) 5 0 ag428 rfl rfl rfl rfl rfl) | exact FV.ld (LdD.sc 6 0 sc428 rfl rfl rfl rfl) | exact FV.ld (LdD.ag (us := _) 6 0 ag428 rfl rfl rfl rfl rfl) | exact FV.ld (LdD.sc 7 0 sc428 rfl rfl rfl rfl) | exact FV.ld (LdD.ag (us := _) 7 0 ag428 rfl rfl rfl rfl rfl))) (KeepL.keep rfl (FloatAt.of rfl (by first | exact FV.ld (LdD.sc 3 0 sc428 rfl rfl rfl rfl) | exact FV.ld (LdD.ag (us := _) 3 0 ag428 rfl rfl rfl rfl rfl) | exact FV.ld (LdD.sc 4 0 sc428 rfl rfl rfl rfl) | exact FV.ld (LdD.ag (us := _) 4 0 ag428 rfl rfl rfl rfl rfl) | exact FV.ld (LdD.sc 5 0 sc428 rfl rfl rfl rfl) | exact FV.ld (LdD.ag (us := _) 5 0 ag428 rfl rfl rfl rfl rfl) | exact FV.ld (LdD.sc 6 0 sc428 rfl rfl rfl rfl) | exact FV.ld (LdD.ag (us := _) 6 0 ag428 rfl rfl rfl rfl rfl) | exact FV.ld (LdD.sc 7 0 sc428 rfl rfl rfl rfl) | exact FV.ld (LdD.ag (us := _) 7 0 ag428 rfl rfl rfl rfl rfl))) (KeepL.drop rfl KeepL.nil))))))) fun x13 => ?_
    refine DP.nm (H' := _ :: pt _ _ [_, _, _, _, _, _, _, _, _] :: _ :: pt _ _ [_] :: pt _ _ [_, _, _, _, _, _, _, _, _] :: _) rfl ?_
    refine DP.e hR [(10, _), (8, _), (6, _), (4, _)] rfl rfl rfl rfl rfl (OpX.call cb407 (c407j _) rfl (.cons (i := 0) rfl .nil)) rfl (fun _ => (KeepL.keep rfl (FloatAt.of rfl (by first | exact FV.ld (LdD.sc 3 0 sc428 rfl rfl rfl rfl) | exact FV.ld (LdD.ag (us := _) 3 0 ag428 rfl rfl rfl rfl rfl) | exact FV.ld (LdD.sc 4 0 sc428 rfl rfl rfl rfl) | exact FV.ld (LdD.ag (us := _) 4 0 ag428 rfl rfl rfl rfl rfl) | exact FV.ld (LdD.sc 5 0 sc428 rfl rfl rfl rfl) | exact FV.ld (LdD.ag (us := _) 5 0 ag428 rfl rfl rfl rfl rfl) | exact FV.ld (LdD.sc 6 0 sc428 rfl rfl rfl rfl) | exact FV.ld (LdD.ag (us := _) 6 0 ag428 rfl rfl rfl rfl rfl) | exact FV.ld (LdD.sc 7 0 sc428 rfl rfl rfl rfl) | exact FV.ld (LdD.ag (us := _) 7 0 ag428 rfl rfl rfl rfl rfl))) (KeepL.keep rfl (FloatAt.of rfl (by first | exact FV.ld (LdD.sc 3 0 sc428 rfl rfl rfl rfl) | exact FV.ld (LdD.ag (us := _) 3 0 ag428 rfl rfl rfl rfl rfl) | exact FV.ld (LdD.sc 4 0 sc428 rfl rfl rfl rfl) | exact FV.ld (LdD.ag (us := _) 4 0 ag428 rfl rfl rfl rfl rfl) | exact FV.ld (LdD.sc 5 0 sc428 rfl rfl rfl rfl) | exact FV.ld (LdD.ag (us := _) 5 0 ag428 rfl rfl rfl rfl rfl) | exact FV.ld (LdD.sc 6 0 sc428 rfl rfl rfl rfl) | exact FV.ld (LdD.ag (us := _) 6 0 ag428 rfl rfl rfl rfl rfl) | exact FV.ld (LdD.sc 7 0 sc428 rfl rfl rfl rfl) | exact FV.ld (LdD.ag (us := _) 7 0 ag428 rfl rfl rfl rfl rfl))) (KeepL.keep rfl (FloatAt.of rfl (by first | exact FV.ld (LdD.sc 3 0 sc428 rfl rfl rfl rfl) | exact FV.ld (LdD.ag (us := _) 3 0 ag428 rfl rfl rfl rfl rfl) | exact FV.ld (LdD.sc 4 0 sc428 rfl rfl rfl rfl) | exact FV.ld (LdD.ag (us := _) 4 0 ag428 rfl rfl rfl rfl rfl) | exact FV.ld (LdD.sc 5 0 sc428 rfl rfl rfl rfl) | exact FV.ld (LdD.ag (us := _) 5 0 ag428 rfl rfl rfl rfl rfl) | exact FV.ld (LdD.sc 6 0 sc428 rfl rfl rfl rfl) | exact FV.ld (LdD.ag (us := _) 6 0 ag428 rfl rfl rfl rfl rfl) | exact FV.ld (LdD.sc 7 0 sc428 rfl rfl rfl rfl) | exact FV.ld (LdD.ag (us := _) 7 0 ag428 rfl rfl rfl rfl rfl))) (KeepL.keep rfl (FloatAt.of rfl (by first | exact FV.ld (LdD.sc 3 0 sc428 rfl rfl rfl rfl) | exact FV.ld (LdD.ag (us := _) 3 0 ag428 rfl rfl rfl rfl rfl) | exact FV.ld (LdD.sc 4 0 sc428 rfl rfl rfl rfl) | exact FV.ld (LdD.ag (us := _) 4 0 ag428 rfl rfl rfl rfl rfl) | exact FV.ld (LdD.sc 5 0 sc428 rfl rfl rfl rfl) | exact FV.ld (LdD.ag (us := _) 5 0 ag428 rfl rfl rfl rfl rfl) | exact FV.ld (LdD.sc 6 0 sc428 rfl rfl rfl rfl) | exact FV.ld (LdD.ag (us := _) 6 0 ag428 rfl rfl rfl rfl rfl) | exact FV.ld (LdD.sc 7 0 sc428 rfl rfl rfl rfl) | exact FV.ld (LdD.ag (us := _) 7 0 ag428 rfl rfl rfl rfl rfl))) (KeepL.drop rfl KeepL.nil)))))) fun x15 => ?_
    refine DP.nm (H' := _ :: pt _ _ [_, _, _, _, _, _, _, _, _] :: _ :: pt _ _ [_] :: pt _ _ [_, _, _, _, _, _, _, _, _] :: _) rfl ?_
    refine DP.e hR [(10, _), (8, _), (6, _)] rfl rfl rfl rfl rfl (OpX.call cb407 (c407k _) rfl (.cons (i := 0) rfl .nil)) rfl (fun _ => (KeepL.keep rfl (FloatAt.of rfl (by first | exact FV.ld (LdD.sc 3 0 sc428 rfl rfl rfl rfl) | exact FV.ld (LdD.ag (us := _) 3 0 ag428 rfl rfl rfl rfl rfl) | exact FV.ld (LdD.sc 4 0 sc428 rfl rfl rfl rfl) | exact FV.ld (LdD.ag (us := _) 4 0 ag428 rfl rfl rfl rfl rfl) | exact FV.ld (LdD.sc 5 0 sc428 rfl rfl rfl rfl) | exact FV.ld (LdD.ag (us := _) 5 0 ag428 rfl rfl rfl rfl rfl) | exact FV.ld (LdD.sc 6 0 sc428 rfl rfl rfl rfl) | exact FV.ld (LdD.ag (us := _) 6 0 ag428 rfl rfl rfl rfl rfl) | exact FV.ld (LdD.sc 7 0 sc428 rfl rfl rfl rfl) | exact FV.ld (LdD.ag (us := _) 7 0 ag428 rfl rfl rfl rfl rfl))) (KeepL.keep rfl (FloatAt.of rfl (by first | exact FV.ld (LdD.sc 3 0 sc428 rfl rfl rfl rfl) | exact FV.ld (LdD.ag (us := _) 3 0 ag428 rfl rfl rfl rfl rfl) | exact FV.ld (LdD.sc 4 0 sc428 rfl rfl rfl rfl) | exact FV.ld (LdD.ag (us := _) 4 0 ag428 rfl rfl rfl rfl rfl) | exact FV.ld (LdD.sc 5 0 sc428 rfl rfl rfl rfl) | exact FV.ld (LdD.ag (us := _) 5 0 ag428 rfl rfl rfl rfl rfl) | exact FV.ld (LdD.sc 6 0 sc428 rfl rfl rfl rfl) | exact FV.ld (LdD.ag (us := _) 6 0 ag428 rfl rfl rfl rfl rfl) | exact FV.ld (LdD.sc 7 0 sc428 rfl rfl rfl rfl) | exact FV.ld (LdD.ag (us := _) 7 0 ag428 rfl rfl rfl rfl rfl))) (KeepL.keep rfl (FloatAt.of rfl (by first | exact FV.ld (LdD.sc 3 0 sc428 rfl rfl rfl rfl) | exact FV.ld (LdD.ag (us := _) 3 0 ag428 rfl rfl rfl rfl rfl) | exact FV.ld (LdD.sc 4 0 sc428 rfl rfl rfl rfl) | exact FV.ld (LdD.ag (us := _) 4 0 ag428 rfl rfl rfl rfl rfl) | exact FV.ld (LdD.sc 5 0 sc428 rfl rfl rfl rfl) | exact FV.ld (LdD.ag (us := _) 5 0 ag428 rfl rfl rfl rfl rfl) | exact FV.ld (LdD.sc 6 0 sc428 rfl rfl rfl rfl) | exact FV.ld (LdD.ag (us := _) 6 0 ag428 rfl rfl rfl rfl rfl) | exact FV.ld (LdD.sc 7 0 sc428 rfl rfl rfl rfl) | exact FV.ld (LdD.ag (us := _) 7 0 ag428 rfl rfl rfl rfl rfl))) (KeepL.drop rfl KeepL.nil))))) fun x17 => ?_
    refine DP.nm (H' := _ :: pt _ _ [_, _, _, _, _, _, _, _, _] :: _ :: pt _ _ [_] :: pt _ _ [_, _, _, _, _, _, _, _, _] :: _) rfl ?_
    refine DP.e hR [(10, _), (8, _)] rfl rfl rfl rfl rfl (OpX.call cb407 (c407l _) rfl (.cons (i := 0) rfl .nil)) rfl (fun _ => (KeepL.keep rfl (FloatAt.of rfl (by first | exact FV.ld (LdD.sc 3 0 sc428 rfl rfl rfl rfl) | exact FV.ld (LdD.ag (us := _) 3 0 ag428 rfl rfl rfl rfl rfl) | exact FV.ld (LdD.sc 4 0 sc428 rfl rfl rfl rfl) | exact FV.ld (LdD.ag (us := _) 4 0 ag428 rfl rfl rfl rfl rfl) | exact FV.ld (LdD.sc 5 0 sc428 rfl rfl rfl rfl) | exact FV.ld (LdD.ag (us := _) 5 0 ag428 rfl rfl rfl rfl rfl) | exact FV.ld (LdD.sc 6 0 sc428 rfl rfl rfl rfl) | exact FV.ld (LdD.ag (us := _) 6 0 ag428 rfl rfl rfl rfl rfl) | exact FV.ld (LdD.sc 7 0 sc428 rfl rfl rfl rfl) | exact FV.ld (LdD.ag (us := _) 7 0 ag428 rfl rfl rfl rfl rfl))) (KeepL.keep rfl (FloatAt.of rfl (by first | exact FV.ld (LdD.sc 3 0 sc428 rfl rfl rfl rfl) | exact FV.ld (LdD.ag (us := _) 3 0 ag428 rfl rfl rfl rfl rfl) | exact FV.ld (LdD.sc 4 0 sc428 rfl rfl rfl rfl) | exact FV.ld (LdD.ag (us := _) 4 0 ag428 rfl rfl rfl rfl rfl) | exact FV.ld (LdD.sc 5 0 sc428 rfl rfl rfl rfl) | exact FV.ld (LdD.ag (us := _) 5 0 ag428 rfl rfl rfl rfl rfl) | exact FV.ld (LdD.sc 6 0 sc428 rfl rfl rfl rfl) | exact FV.ld (LdD.ag (us := _) 6 0 ag428 rfl rfl rfl rfl rfl) | exact FV.ld (LdD.sc 7 0 sc428 rfl rfl rfl rfl) | exact FV.ld (LdD.ag (us := _) 7 0 ag428 rfl rfl rfl rfl rfl))) (KeepL.drop rfl KeepL.nil)))) fun x19 => ?_
    refine DP.nm (H' := _ :: pt _ _ [_, _, _, _, _, _, _, _, _] :: _ :: pt _ _ [_] :: pt _ _ [_, _, _, _, _, _, _, _, _] :: _) rfl ?_
    refine DP.e hR [(10, _)] rfl rfl rfl rfl rfl (OpX.call cb407 (c407m _) rfl (.cons (i := 0) rfl .nil)) rfl (fun _ => (KeepL.keep rfl (FloatAt.of rfl (by first | exact FV.ld (LdD.sc 3 0 sc428 rfl rfl rfl rfl) | exact FV.ld (LdD.ag (us := _) 3 0 ag428 rfl rfl rfl rfl rfl) | exact FV.ld (LdD.sc 4 0 sc428 rfl rfl rfl rfl) | exact FV.ld (LdD.ag (us := _) 4 0 ag428 rfl rfl rfl rfl rfl) | exact FV.ld (LdD.sc 5 0 sc428 rfl rfl rfl rfl) | exact FV.ld (LdD.ag (us := _) 5 0 ag428 rfl rfl rfl rfl rfl) | exact FV.ld (LdD.sc 6 0 sc428 rfl rfl rfl rfl) | exact FV.ld (LdD.ag (us := _) 6 0 ag428 rfl rfl rfl rfl rfl) | exact FV.ld (LdD.sc 7 0 sc428 rfl rfl rfl rfl) | exact FV.ld (LdD.ag (us := _) 7 0 ag428 rfl rfl rfl rfl rfl))) (KeepL.drop rfl KeepL.nil))) fun x21 => ?_
    refine DP.nm (H' := _ :: pt _ _ [_, _, _, _, _, _, _, _, _] :: _ :: pt _ _ [_] :: pt _ _ [_, _, _, _, _, _, _, _, _] :: _) rfl ?_
    refine DP.e hR [] rfl rfl rfl rfl rfl (OpX.call cb408 (c408h _) rfl (.cons (i := 0) rfl .nil)) rfl (fun _ => (KeepL.drop rfl KeepL.nil)) fun x23 => ?_
    refine DP.nm (H' := _ :: pt _ _ [_, _, _, _, _, _, _, _, _] :: _ :: pt _ _ [_] :: pt _ _ [_, _, _, _, _, _, _, _, _] :: _) rfl ?_
    refine DP.p rfl rfl rfl rfl rfl (PV.bld (cs := [_, _, _, _, _, _, _, _, _]) bt52 rfl rfl) ?_
    refine DP.e0 hR [] rfl rfl rfl (OpD.st 1 0 sz52 rfl rfl rfl rfl rfl rfl (NAs.mem (vs := [_, _, _, _, _, _, _, _, _]) ⟨NA.int _ _, NA.int _ _, NA.int _ _, NA.int _ _, NA.int _ _, NA.str _, NA.sl _ _ _, NA.sl _ _ _, NA.sl _ _ _, trivial⟩)) rfl (fun _ => KeepL.nil) fun _ => ?_
    refine DP.nm (H' := _ :: pt _ _ [_, _, _, _, _, _, _, _, _] :: _ :: pt _ _ [_] :: pt _ _ [_, _, _, _, _, _, _, _, _] :: _) rfl ?_
    refine DP.fin hR ?_
    clear hR
    rotate_left
    all_goals
      refine K.mid x6 ⟨rfl, rfl, rfl, rfl, trivial⟩ ?_
      (first | refine Ent.take 0 rfl ?_ | refine Ent.take 1 rfl ?_ | refine Ent.take 2 rfl ?_ | refine Ent.take 3 rfl ?_ | refine Ent.take 4 rfl ?_ | refine Ent.take 5 rfl ?_)
      (first | refine Ent.take 0 rfl ?_ | refine Ent.take 1 rfl ?_ | refine Ent.take 2 rfl ?_ | refine Ent.take 3 rfl ?_ | refine Ent.take 4 rfl ?_ | refine Ent.take 5 rfl ?_)
      (first | refine Ent.take 0 rfl ?_ | refine Ent.take 1 rfl ?_ | refine Ent.take 2 rfl ?_ | refine Ent.take 3 rfl ?_ | refine Ent.take 4 rfl ?_ | refine Ent.take 5 rfl ?_)
      (first | refine Ent.take 0 rfl ?_ | refine Ent.take 1 rfl ?_ | refine Ent.take 2 rfl ?_ | refine Ent.take 3 rfl ?_ | refine Ent.take 4 rfl ?_ | refine Ent.take 5 rfl ?_)
      (first | refine Ent.take 0 rfl ?_ | refine Ent.take 1 rfl ?_ | refine Ent.take 2 rfl ?_ | refine Ent.take 3 rfl ?_ | refine Ent.take 4 rfl ?_ | refine Ent.take 5 rfl ?_)
      exact Ent.refl _
  · refine W.rseq ?_
    refine WL.f rfl rfl rfl (FV.ld (LdD.sc 1 0 sc428 rfl rfl rfl rfl)) ?_
    refine WL.f rfl rfl rfl (FV.ld (LdD.sc 1 0 sc428 rfl rfl rfl rfl)) ?_
    refine WL.p rfl rfl rfl (PV.mkF rfl rfl) ?_
    refine WL.putX rfl rfl rfl (OpX.call cb409 (c409h _) rfl (.cons (i := 0) rfl .nil)) fun x28 => ?_
    refine WL.nm (H' := _ :: _ :: pt _ _ [_] :: pt _ _ [_, _, _, _, _, _, _, _, _] :: pt _ _ [_, _, _, _, _, _, _, _, _] :: _ :: _) rfl ?_
    refine WL.p rfl rfl rfl (PV.fa fo52_6 rfl rfl) ?_
    refine WL.done rfl rfl (OpD.st 3 6 sz33 rfl rfl rfl rfl rfl rfl (NA.one (NA.sl _ _ _))) ?_
    refine WL.nm (H' := _ :: _ :: pt _ _ [_] :: pt _ _ [_, _, _, _, _, _, _, _, _] :: pt _ _ [_, _, _, _, _, _, _, _, _] :: _ :: _) rfl ?_
    refine WL.next [(6, _), (5, _), (4, _), (2, _)] ⟨rfl, rfl, rfl, rfl, trivial⟩ ?_
    refine W.rseq ?_
    refine WL.f rfl rfl rfl (FV.ld (LdD.sc 2 0 sc428 rfl rfl rfl rfl)) ?_
    refine WL.p rfl rfl rfl (PV.mkF rfl rfl) ?_
    refine WL.putX rfl rfl rfl (OpX.call cb410 (c410h _ _) rfl (.cons (i := 2) rfl (.cons (i := 1) rfl .nil))) fun x32 => ?_
    refine WL.nm (H' := _ :: pt _ _ [_] :: _ :: _ :: pt _ _ [_, _, _, _, _, _, _, _, _] :: pt _ _ [_, _, _, _, _, _, _, _, _] :: _ :: _) rfl ?_
    refine WL.p rfl rfl rfl (PV.fa fo52_7 rfl rfl) ?_
    refine WL.done rfl rfl (OpD.st 4 7 sz32 rfl rfl rfl rfl rfl rfl (NA.one (NA.sl _ _ _))) ?_
    refine WL.nm (H' := _ :: pt _ _ [_] :: _ :: _ :: pt _ _ [_, _, _, _, _, _, _, _, _] :: pt _ _ [_, _, _, _, _, _, _, _, _] :: _ :: _) rfl ?_
    refine WL.next [(6, _), (5, _), (4, _), (2, _)] ⟨rfl, rfl, rfl, rfl, trivial⟩ ?_
    refine W.rseq ?_
    refine WL.f rfl rfl rfl (FV.ld (LdD.sc 1 0 sc428 rfl rfl rfl rfl)) ?_
    refine WL.f rfl rfl rfl (FV.ld (LdD.sc 1 0 sc428 rfl rfl rfl rfl)) ?_
    refine WL.p rfl rfl rfl (PV.mkF rfl rfl) ?_
    refine WL.putX rfl rfl rfl (OpX.call cb409 (c409i _) rfl (.cons (i := 2) rfl .nil)) fun x37 => ?_
    refine WL.nm (H' := _ :: _ :: _ :: pt _ _ [_] :: _ :: pt _ _ [_, _, _, _, _, _, _, _, _] :: pt _ _ [_, _, _, _, _, _, _, _, _] :: _ :: _) rfl ?_
    refine WL.p rfl rfl rfl (PV.fa fo52_8 rfl rfl) ?_
    refine WL.done rfl rfl (OpD.st 5 8 sz33 rfl rfl rfl rfl rfl rfl (NA.one (NA.sl _ _ _))) ?_
    refine WL.nm (H' := _ :: _ :: _ :: pt _ _ [_] :: _ :: pt _ _ [_, _, _, _, _, _, _, _, _] :: pt _ _ [_, _, _, _, _, _, _, _, _] :: _ :: _) rfl ?_
    refine WL.next [(6, _), (5, _), (4, _), (2, _)] ⟨rfl, rfl, rfl, rfl, trivial⟩ ?_
    refine W.seq ?_
    refine W.rseq ?_
    refine WL.f rfl rfl rfl (FV.ld (LdD.sc 3 0 sc428 rfl rfl rfl rfl)) ?_
    refine WL.p rfl rfl rfl (PV.nck rfl) ?_
    refine WL.p rfl rfl rfl (PV.fa fo430_1 rfl rfl) ?_
    rotate_left
    refine WL.ex 1 rfl fun q => ?_
    refine WL.nm (H' := pt _ _ [_, _] :: sl _ _ _ :: sl _ _ _ :: sl _ _ _ :: pt _ _ [_] :: sl _ _ _ :: pt x13 0 [_, _, _, _, _, _, _, _, _] :: pt x2 0 [_, _, _, _, _, _, _, _, _] :: _ :: F) rfl ?_
    refine WL.f rfl rfl rfl (FV.ld (LdD.sc 0 1 sc4 rfl rfl rfl rfl)) ?_
    refine WL.p rfl rfl rfl (PV.mv rfl) ?_
    refine WL.yes (dj := 43) rfl rfl rfl rfl rfl rfl (OpD.fv (PV.fv (PV.mv rfl))) ?_
    refine WL.yes (dj := 43) rfl rfl rfl rfl rfl rfl (OpD.fv (PV.fv (PV.neI rfl rfl))) ?_
    refine WL.p rfl rfl rfl (PV.pickF rfl rfl rfl) ?_
    refine WL.p rfl rfl rfl (PV.mv rfl) ?_
    refine WL.yes (dj := 47) rfl rfl rfl rfl rfl rfl (OpD.fv (FV.ld (LdD.sc 4 0 sc428 rfl rfl rfl rfl))) ?_
    refine WL.yes (dj := 47) rfl rfl rfl rfl rfl rfl (OpD.fv (PV.fv (PV.nck rfl))) ?_
    refine WL.yes (dj := 47) rfl rfl rfl rfl rfl rfl (OpD.fv (PV.fv (PV.fa fo430_0 rfl rfl))) ?_
    refine WL.yes (dj := 47) rfl rfl rfl rfl rfl rfl (OpD.fv (FV.ld (LdD.sc 0 0 sc62 rfl rfl rfl rfl))) ?_
    refine WL.yes (dj := 47) rfl rfl rfl rfl rfl rfl (OpD.fv (PV.fv (PV.lenL ul62 rfl rfl))) ?_
    refine WL.yes (dj := 47) rfl rfl rfl rfl rfl rfl (OpD.fv (PV.fv (PV.gt rfl rfl))) ?_
    refine WL.p rfl rfl rfl (PV.pickF rfl rfl rfl) ?_
    refine WL.p rfl rfl rfl (PV.mv rfl) ?_
    refine WL.yes (dj := 55) rfl rfl rfl rfl rfl rfl (OpD.fv (FV.ld (LdD.ag (us := [_, _, _, _, _, _, _, _, _]) 6 0 ag52 rfl rfl rfl rfl rfl))) ?_
    refine WL.yesX (dj := 55) rfl rfl rfl rfl rfl rfl (OpX.call cb124 (c124h _ _ _) rfl (.cons (i := 5) rfl (.cons (i := 3) rfl (.cons (i := 2) rfl .nil)))) fun x57 => ?_
    refine WL.nm (H' := _ :: _ :: _ :: pt _ _ [_, _] :: _ :: pt _ _ [_] :: pt _ _ [_, _, _, _, _, _, _, _, _] :: pt _ _ [_, _, _, _, _, _, _, _, _] :: _ :: _) rfl ?_
    refine WL.yes (dj := 55) rfl rfl rfl rfl rfl rfl (OpD.fv (PV.fv (PV.not rfl))) ?_
    refine WL.p rfl rfl rfl (PV.pickF rfl rfl rfl) ?_
    refine WL.next [(59, _), (6, _), (2, _)] ⟨rfl, rfl, rfl, trivial⟩ ?_
    refine W.cF rfl ?_
    refine W.skip ?_
    refine K.next [(6, _), (2, _)] ⟨rfl, rfl, trivial⟩ ?_
    refine W.rseq ?_
    refine WL.f rfl rfl rfl (FV.ld (LdD.ag (us := [_, _, _, _, _, _, _, _, _]) 6 0 ag52 rfl rfl rfl rfl rfl)) ?_
    refine WL.done rfl rfl (OpD.st 7 0 sz52 rfl rfl rfl rfl rfl rfl (NAs.mem (vs := [_, _, _, _, _, _, _, _, _]) ⟨NA.int _ _, NA.int _ _, NA.int _ _, NA.int _ _, NA.int _ _, NA.str _, NA.sl _ _ _, NA.sl _ _ _, NA.sl _ _ _, trivial⟩)) ?_
    refine WL.nm (H' := _ :: _ :: _ :: pt _ _ [_, _] :: _ :: pt _ _ [_] :: pt _ _ [_, _, _, _, _, _, _, _, _] :: pt _ _ [_, _, _, _, _, _, _, _, _] :: _ :: _) rfl ?_
    refine WL.p rfl rfl rfl (PV.as rfl) ?_
    refine WL.next [(3, _), (2, _)] ⟨rfl, rfl, trivial⟩ ?_
    refine W.ret ?_
    rotate_left
    refine K.fin (vs := [_, _]) (x28, x32, x37) ⟨LdD.ag (us := [_, _, _, _, _, _, _, _, _]) 7 0 ag52 rfl rfl rfl rfl rfl, rfl, trivial⟩ rfl ?_
    refine Ent.keep 0 rfl (sl_pers _ _ _) (Ent.keep 1 rfl (sl_pers _ _ _) (Ent.keep 2 rfl (sl_pers _ _ _) (Ent.keep 8 rfl (sl_pers _ _ _) ?_)))
    exact Ent.tail (Ent.tail (Ent.tail (Ent.tail (Ent.tail (Ent.tail (Ent.tail (Ent.tail (Ent.tail (Ent.refl _)))))))))
end Go.Sl
/-! Numbers asx bytes. -/
namespace Go.Sl
open Go Go.Proofs
set_option maxRecDepth 20000
theorem c130 {n : Int} : Spec P 59 [.int .i64 n] [] (fun q : SP => q.v (numB n 6).length) (fun q => [sl Kb q (numB n 6), tl 1 q (numB n 6).length]) := by
  refine Spec.intro Tryz.func59 rfl rfl rfl fun F => ?_
  refine W.rseq ?_
  refine WL.p rfl rfl rfl (PV.as rfl) ?_
  refine WL.next [(2, _), (0, _)] ⟨rfl, rfl, trivial⟩ ?_
  refine W.rseq ?_
  refine WL.p rfl rfl rfl (PV.as rfl) ?_
  refine WL.next [(3, _), (2, _), (0, _)] ⟨rfl, rfl, rfl, trivial⟩ ?_
  refine W.seq ?_
  refine W.rseq ?_
  refine WL.p rfl rfl rfl (PV.as rfl) ?_
  refine WL.next [(4, _), (3, _), (2, _), (0, _)] ⟨rfl, rfl, rfl, rfl, trivial⟩ ?_
  refine W.block ?_
  rotate_left
  refine W.loopP2 (fun (k : Nat) (_ : SP) => k ≤ 6) (fun k q => [(4, .int .i64 (5 - k : Int)), (3, q.v ((numB n 6).take k).length), (0, .int .i64 n)])
    (fun k q => sl Kb q ((numB n 6).take k) :: tl 1 q ((numB n 6).take k).length :: F) (fun k _ => 6 - k) 0 SP.nil (Nat.zero_le _)
    ⟨rfl, rfl, rfl, trivial⟩ ?_ fun k q hk => ?_
  · refine Ent.add (Ent.nil_sl _) (Ent.take 0 rfl ?_)
    refine Ent.add (Ent.nil_tl _) (Ent.take 0 rfl ?_)
    exact Ent.refl _
  · have hl6 : (numB n 6).length = 6 := rfl
    by_cases hk6 : k < 6
    · refine W.seq ?_
      refine W.rseq ?_
      refine WL.p rfl rfl rfl (PV.mv rfl) ?_
      refine WL.p rfl rfl rfl (PV.ge rfl rfl) ?_
      refine WL.next [(6, _), (4, _), (3, _), (0, _)] ⟨rfl, rfl, rfl, rfl, trivial⟩ ?_
      refine W.condD rfl (fun h0 => ?_) (fun h0 => ?_)
      refine W.skip ?_
      refine K.next [(4, _), (3, _), (0, _)] ⟨rfl, rfl, rfl, trivial⟩ ?_
      refine W.bseq ?_
      refine W.region ?_
      refine WL.p rfl rfl rfl (PV.mv rfl) ?_
      refine WL.p rfl rfl rfl (PV.mv rfl) ?_
      refine WL.p rfl rfl rfl (PV.mv rfl) ?_
      refine WL.p rfl rfl rfl (PV.mul64 rfl rfl (by omega)) ?_
      refine WL.p rfl rfl rfl (PV.shr rfl rfl (by omega)) ?_
      refine WL.p rfl rfl rfl (PV.cv8 ul5 us3 rfl) ?_
      refine WL.putX rfl rfl rfl (OpX.rowS (K := Kb) [_] [()] slt62 ⟨_, zr5, rfl⟩ rfl rfl rfl rfl rfl rfl (fun _ h => by first | (simp [innerL, Kb, Kint, Kstr, Kbool] at h; done) | (simp [innerL, Ksl, Kwr, Kmsg] at h; rcases h with h | h | h <;> subst h <;> simp [Sl.rem]) | (simp [innerL, Ksl, Kwr] at h; subst h; simp [Sl.rem]))) fun x15 => ?_
      refine WL.nm (H' := _ :: _ :: _ :: _ :: _) rfl ?_
      refine WL.putX rfl rfl rfl (OpX.app 3 2 slt62 ni62 rfl rfl rfl rfl (SrcV.atSl 0 rfl) (by first | omega | (simp only [List.length_append, List.length_cons, List.length_nil, List.length_take]; omega) | assumption) (by first | omega | (simp only [List.length_append, List.length_cons, List.length_nil, List.length_take]; omega) | assumption)) fun x16 => ?_
      refine WL.nm (H' := _ :: _ :: _ :: _ :: _ :: _) rfl ?_
      refine WL.p rfl rfl rfl (PV.as rfl) ?_
      refine WL.nil ?_
      refine K.out ?_
      refine K.next [(3, _), (4, _), (0, _)] ⟨rfl, rfl, rfl, trivial⟩ ?_
      refine W.region ?_
      refine WL.p rfl rfl rfl (PV.mv rfl) ?_
      refine WL.p rfl rfl rfl (PV.sub64 rfl rfl (by omega)) ?_
      refine WL.p rfl rfl rfl (PV.as rfl) ?_
      refine WL.nil ?_
      rotate_left
      refine W.exit ?_
      refine K.exitT ?_
      refine K.exitT ?_
      refine K.exit ?_
      refine K.next [(3, _)] ⟨rfl, trivial⟩ ?_
      refine W.rseq ?_
      refine WL.p rfl rfl rfl (PV.mv rfl) ?_
      refine WL.p rfl rfl rfl (PV.as rfl) ?_
      refine WL.next [(2, _)] ⟨rfl, trivial⟩ ?_
      refine W.ret ?_
      rotate_left
      · have e : (numB n 6).take (k + 1) = (numB n 6).take k ++ [b8 (n.fdiv (2 ^ min (8 * (5 - (k : Int))).toNat IntKind.i64.bits))] := by
          rw [numB_take_succ n hk6, show (8 * (5 - (k : Int))).toNat = 8 * (6 - 1 - k) by omega]; rfl
        rw [← e]
        refine K.againP (k + 1, x16) (show k + 1 ≤ 6 by omega) (show 6 - (k + 1) < 6 - k by omega) ⟨by rw [show ((k + 1 : Nat) : Int) = (k : Int) + 1 by omega, show (5 : Int) - (k + 1) = 5 - k - 1 by omega]; rfl, rfl, rfl, trivial⟩ ?_
        refine Ent.keep 0 rfl (sl_pers _ _ _) ?_
        refine Ent.take 1 rfl ?_
        exact Ent.tail (Ent.tail (Ent.tail (Ent.tail (Ent.refl _))))
      · exfalso; omega
    · refine W.seq ?_
      refine W.rseq ?_
      refine WL.p rfl rfl rfl (PV.mv rfl) ?_
      refine WL.p rfl rfl rfl (PV.ge rfl rfl) ?_
      refine WL.next [(6, _), (4, _), (3, _), (0, _)] ⟨rfl, rfl, rfl, rfl, trivial⟩ ?_
      refine W.condD rfl (fun h0 => ?_) (fun h0 => ?_)
      refine W.skip ?_
      refine K.next [(4, _), (3, _), (0, _)] ⟨rfl, rfl, rfl, trivial⟩ ?_
      refine W.bseq ?_
      refine W.region ?_
      refine WL.p rfl rfl rfl (PV.mv rfl) ?_
      refine WL.p rfl rfl rfl (PV.mv rfl) ?_
      refine WL.p rfl rfl rfl (PV.mv rfl) ?_
      refine WL.p rfl rfl rfl (PV.mul64 rfl rfl (by omega)) ?_
      refine WL.p rfl rfl rfl (PV.shr rfl rfl (by omega)) ?_
      refine WL.p rfl rfl rfl (PV.cv8 ul5 us3 rfl) ?_
      refine WL.putX rfl rfl rfl (OpX.rowS (K := Kb) [_] [()] slt62 ⟨_, zr5, rfl⟩ rfl rfl rfl rfl rfl rfl (fun _ h => by first | (simp [innerL, Kb, Kint, Kstr, Kbool] at h; done) | (simp [innerL, Ksl, Kwr, Kmsg] at h; rcases h with h | h | h <;> subst h <;> simp [Sl.rem]) | (simp [innerL, Ksl, Kwr] at h; subst h; simp [Sl.rem]))) fun x15 => ?_
      refine WL.nm (H' := _ :: _ :: _ :: _ :: _) rfl ?_
      refine WL.putX rfl rfl rfl (OpX.app 3 2 slt62 ni62 rfl rfl rfl rfl (SrcV.atSl 0 rfl) (by first | omega | (simp only [List.length_append, List.length_cons, List.length_nil, List.length_take]; omega) | assumption) (by first | omega | (simp only [List.length_append, List.length_cons, List.length_nil, List.length_take]; omega) | assumption)) fun x16 => ?_
      refine WL.nm (H' := _ :: _ :: _ :: _ :: _ :: _) rfl ?_
      refine WL.p rfl rfl rfl (PV.as rfl) ?_
      refine WL.nil ?_
      refine K.out ?_
      refine K.next [(3, _), (4, _), (0, _)] ⟨rfl, rfl, rfl, trivial⟩ ?_
      refine W.region ?_
      refine WL.p rfl rfl rfl (PV.mv rfl) ?_
      refine WL.p rfl rfl rfl (PV.sub64 rfl rfl (by omega)) ?_
      refine WL.p rfl rfl rfl (PV.as rfl) ?_
      refine WL.nil ?_
      rotate_left
      refine W.exit ?_
      refine K.exitT ?_
      refine K.exitT ?_
      refine K.exit ?_
      refine K.next [(3, _)] ⟨rfl, trivial⟩ ?_
      refine W.rseq ?_
      refine WL.p rfl rfl rfl (PV.mv rfl) ?_
      refine WL.p rfl rfl rfl (PV.as rfl) ?_
      refine WL.next [(2, _)] ⟨rfl, trivial⟩ ?_
      refine W.ret ?_
      rotate_left
      · exfalso; omega
      · rw [show (numB n 6).take k = numB n 6 from List.take_of_length_le (by omega)]
        refine K.fin (vs := [_]) q ⟨rfl, trivial⟩ rfl ?_
        refine Ent.keep 0 rfl (sl_pers _ _ _) ?_
        refine Ent.take 1 rfl ?_
        exact Ent.tail (Ent.refl _)
theorem c195 {p : SP} {b : Bytes} (hb : b.length ≤ 6) : Spec P 80 [p.v b.length] [sl Kb p b] (fun _ : Unit => .int .i64 (beN b)) (fun _ => [sl Kb p b]) := by
  refine Spec.intro Tryz.func80 rfl rfl rfl fun F => ?_
  refine W.fact (sl_fact 0 rfl) fun hp => ?_
  refine W.rseq ?_
  refine WL.p rfl rfl rfl (PV.as rfl) ?_
  refine WL.next [(2, _), (0, _)] ⟨rfl, rfl, trivial⟩ ?_
  refine W.rseq ?_
  refine WL.p rfl rfl rfl (PV.as rfl) ?_
  refine WL.next [(3, _), (2, _), (0, _)] ⟨rfl, rfl, rfl, trivial⟩ ?_
  refine W.seq ?_
  refine W.rseq ?_
  refine WL.p rfl rfl rfl (PV.mv rfl) ?_
  refine WL.p rfl rfl rfl (PV.lenL ul62 rfl rfl) ?_
  refine WL.p rfl rfl rfl (PV.mv rfl) ?_
  refine WL.next [(8, _), (7, _), (6, _), (3, _), (2, _)] ⟨rfl, rfl, rfl, rfl, rfl, trivial⟩ ?_
  refine W.block ?_
  rotate_left
  refine W.loopP (X := Nat) (fun k => k ≤ b.length) (fun k => [(8, .int .i64 k), (7, .int .i64 b.length), (6, p.v b.length), (3, .int .i64 (beN (b.take k)))])
    (fun _ => sl Kb p b :: F) (fun k => b.length - k) 0 (Nat.zero_le _) ⟨rfl, rfl, rfl, rfl, trivial⟩ (Ent.refl _) fun k hk => ?_
  have hbk : beN (b.take k) < 36028797018963968 := by
    have h1 := beN_lt (b.take k)
    have h3 : 256 ^ (b.take k).length ≤ 256 ^ 6 := Nat.pow_le_pow_right (by omega) (by rw [List.length_take]; omega)
    omega
  refine W.rseq ?_
  refine WL.p rfl rfl rfl (PV.lt rfl rfl) ?_
  refine WL.next [(9, _), (8, _), (7, _), (6, _), (3, _)] ⟨rfl, rfl, rfl, rfl, rfl, trivial⟩ ?_
  refine W.seq ?_
  refine W.condD rfl (fun h0 => ?_) (fun h0 => ?_)
  refine W.skip ?_
  refine K.next [(8, _), (7, _), (6, _), (3, _)] ⟨rfl, rfl, rfl, rfl, trivial⟩ ?_
  refine W.bseq ?_
  refine W.rseq ?_
  refine WL.p rfl rfl rfl (PV.ixN (by assumption) ul62 sz5 rfl rfl (by omega)) ?_
  refine WL.f rfl rfl rfl (FV.ld (LdD.sl1B 0 sc5 rfl rfl rfl (by omega))) ?_
  refine WL.p rfl rfl rfl (PV.as rfl) ?_
  refine WL.next [(5, _), (8, _), (7, _), (6, _), (3, _)] ⟨rfl, rfl, rfl, rfl, rfl, trivial⟩ ?_
  refine W.region ?_
  refine WL.p rfl rfl rfl (PV.mv rfl) ?_
  refine WL.p rfl rfl rfl (PV.shl rfl rfl (by omega)) ?_
  refine WL.p rfl rfl rfl (PV.mv rfl) ?_
  refine WL.p rfl rfl rfl (PV.cvI ul3 us5 rfl) ?_
  refine WL.p rfl rfl rfl (PV.or rfl rfl) ?_
  refine WL.p rfl rfl rfl (PV.as rfl) ?_
  refine WL.nil ?_
  refine K.out ?_
  refine K.next [(3, _), (8, _), (7, _), (6, _)] ⟨rfl, rfl, rfl, rfl, trivial⟩ ?_
  refine W.region ?_
  refine WL.p rfl rfl rfl (PV.add64 rfl rfl (by omega)) ?_
  refine WL.p rfl rfl rfl (PV.mv rfl) ?_
  refine WL.nil ?_
  rotate_left
  refine W.exit ?_
  refine K.exitT ?_
  refine K.exitT ?_
  refine K.exit ?_
  refine K.next [(3, _)] ⟨rfl, trivial⟩ ?_
  refine W.rseq ?_
  refine WL.p rfl rfl rfl (PV.mv rfl) ?_
  refine WL.p rfl rfl rfl (PV.as rfl) ?_
  refine WL.next [(2, _)] ⟨rfl, trivial⟩ ?_
  refine W.ret ?_
  rotate_left
  · have e : IntKind.i64.wrap (BitVec.ofInt IntKind.i64.bits (IntKind.i64.wrap ((beN (b.take k) : Int) * 2 ^ min (Int.toNat 8) IntKind.i64.bits)) ||| BitVec.ofInt IntKind.i64.bits (IntKind.i64.wrap ((b[k]'(by omega)).toNat : Int))).toNat = ((beN (b.take (k + 1)) : Nat) : Int) := by
      rw [or64 hbk (UInt8.toNat_lt _), beN_take_succ (by omega)]
    refine K.againP (k + 1) (by omega) (by omega) ⟨rfl, rfl, rfl, by rw [← e]; rfl, trivial⟩ ?_
    refine Ent.keep 0 rfl (sl_pers _ _ _) ?_
    exact Ent.tail (Ent.refl _)
  · rw [List.take_of_length_le (by omega)]
    refine K.fin (vs := [_]) () ⟨rfl, trivial⟩ rfl ?_
    refine Ent.keep 0 rfl (sl_pers _ _ _) ?_
    exact Ent.tail (Ent.refl _)
end Go.Sl
/-! Either format; records of the queue. -/
namespace Go.Sl
open Go Go.Proofs
set_option maxRecDepth 20000
/-- A message that can be written in a format. -/
def Can (f : Int) (m : Msg) : Prop := f = 2 ∧ Fine m
def encM (f : Int) (m : Msg) : Bytes := if f = 2 then binM m else []
theorem Can.fine {f : Int} {m : Msg} (h : Can f m) : Fine m := h.2
theorem Can.len {f : Int} {m : Msg} (h : Can f m) : (encM f m).length ≤ 200000 := by
  unfold encM; rw [if_pos h.1]; have := h.2.bin; omega
theorem Can.rng {f : Int} {m : Msg} (h : Can f m) : 0 ≤ f ∧ f ≤ 2 := by rw [h.1]; omega
theorem c206 {f : Int} {m : Msg} {p1 p2 p3 : SP} (hC : Can f m) :
    Spec P 91 [.agg #[.int .i64 m.id, .int .i64 m.gen, .int .i64 m.born, .int .i64 m.tries, .int .i64 m.due, str m.frm, p1.v m.rcpts.length, p2.v m.marks.length, p3.v m.body.length], .int .i64 f] [sl Kstr p1 m.rcpts, sl (Kint .i64) p2 m.marks, sl Kstr p3 m.body]
    (fun q : SP => .tuple #[q.v (encM f m).length, .int .i64 0]) (fun q => [sl Kb q (encM f m), tl 1 q (encM f m).length, sl Kstr p1 m.rcpts, sl (Kint .i64) p2 m.marks, sl Kstr p3 m.body]) := by
  obtain ⟨rfl, hF⟩ := hC
  have hN := hF.bin
  have c277h := c277 (m := m) (p1 := p1) (p2 := p2) (p3 := p3) hF.ok (fine_good hF) (by omega) (fun b hb => by have := mbox_len (hF.rb b hb); omega) (fun b hb => by have := badB_len (hF.bb b hb); omega)
  refine Spec.intro Tryz.func91 rfl rfl rfl fun F => ?_
  refine W.rseq ?_
  refine WL.putX rfl rfl rfl (OpX.box rfl) fun x2 => ?_
  refine WL.nm (H' := pt _ _ [_, _, _, _, _, _, _, _, _] :: _ :: _ :: _ :: _) rfl ?_
  refine WL.p rfl rfl rfl (PV.as rfl) ?_
  refine WL.p rfl rfl rfl (PV.as rfl) ?_
  refine WL.next [(5, _), (4, _), (2, _), (1, _)] ⟨rfl, rfl, rfl, rfl, trivial⟩ ?_
  refine W.seq ?_
  refine W.rseq ?_
  refine WL.p rfl rfl rfl (PV.mv rfl) ?_
  refine WL.next [(6, _), (5, _), (4, _), (2, _)] ⟨rfl, rfl, rfl, rfl, trivial⟩ ?_
  refine W.block ?_
  refine W.rseq ?_
  refine WL.p rfl rfl rfl (PV.eqI rfl rfl) ?_
  refine WL.p rfl rfl rfl (PV.as rfl) ?_
  refine WL.next [(7, _), (6, _), (5, _), (4, _), (2, _)] ⟨rfl, rfl, rfl, rfl, rfl, trivial⟩ ?_
  refine W.cF rfl ?_
  refine W.rseq ?_
  refine WL.p rfl rfl rfl (PV.eqI rfl rfl) ?_
  refine WL.p rfl rfl rfl (PV.as rfl) ?_
  refine WL.next [(13, _), (5, _), (4, _), (2, _)] ⟨rfl, rfl, rfl, rfl, trivial⟩ ?_
  refine W.cT rfl ?_
  refine W.rseq ?_
  refine WL.f rfl rfl rfl (FV.ld (LdD.ag (us := [_, _, _, _, _, _, _, _, _]) 0 0 ag52 rfl rfl rfl rfl rfl)) ?_
  refine WL.putX rfl rfl rfl (OpX.call cb277 (c277h) rfl (.cons (i := 1) rfl (.cons (i := 1) rfl (.cons (i := 1) rfl .nil)))) fun x16 => ?_
  refine WL.nm (H' := _ :: _ :: _ :: _ :: _ :: pt _ _ [_, _, _, _, _, _, _, _, _] :: _) rfl ?_
  refine WL.p rfl rfl rfl (PV.ext0 rfl) ?_
  refine WL.p rfl rfl rfl (PV.ext1 rfl) ?_
  refine WL.p rfl rfl rfl (PV.as rfl) ?_
  refine WL.p rfl rfl rfl (PV.as rfl) ?_
  refine WL.next [(5, _), (4, _)] ⟨rfl, rfl, trivial⟩ ?_
  refine W.ret ?_
  refine K.retB ?_
  refine K.retT ?_
  rotate_left
  refine K.fin (vs := [_, _]) x16 ⟨rfl, rfl, trivial⟩ rfl ?_
  unfold encM
  rw [if_pos rfl]
  refine Ent.keep 0 rfl (sl_pers _ _ _) ?_
  refine Ent.take 1 rfl ?_
  refine Ent.keep 1 rfl (sl_pers _ _ _) ?_
  refine Ent.keep 2 rfl (sl_pers _ _ _) ?_
  refine Ent.keep 3 rfl (sl_pers _ _ _) ?_
  exact Ent.tail (Ent.tail (Ent.tail (Ent.tail (Ent.tail (Ent.refl _)))))
theorem c126 {f : Int} {m : Msg} {p1 p2 p3 pa : SP} {kd : UInt8} {ah : Bytes} (hC : Can f m) (ha : ah.length ≤ 100) :
    Spec P 54 [.int .u8 kd.toNat, pa.v ah.length, .agg #[.int .i64 m.id, .int .i64 m.gen, .int .i64 m.born, .int .i64 m.tries, .int .i64 m.due, str m.frm, p1.v m.rcpts.length, p2.v m.marks.length, p3.v m.body.length], .int .i64 f] [sl Kb pa ah, sl Kstr p1 m.rcpts, sl (Kint .i64) p2 m.marks, sl Kstr p3 m.body]
    (fun q : SP => q.v ([kd] ++ ah ++ encM f m).length) (fun q => [sl Kb q ([kd] ++ ah ++ encM f m), tl 1 q ([kd] ++ ah ++ encM f m).length, sl Kb pa ah, sl Kstr p1 m.rcpts, sl (Kint .i64) p2 m.marks, sl Kstr p3 m.body]) := by
  have hN := hC.len
  have c206h := c206 (m := m) (p1 := p1) (p2 := p2) (p3 := p3) hC
  refine Spec.intro Tryz.func54 rfl rfl rfl fun F => ?_
  refine W.rseq ?_
  refine WL.putX rfl rfl rfl (OpX.box rfl) fun x6 => ?_
  refine WL.nm (H' := pt _ _ [_, _, _, _, _, _, _, _, _] :: _ :: _ :: _ :: _ :: _) rfl ?_
  refine WL.p rfl rfl rfl (PV.as rfl) ?_
  refine WL.next [(8, _), (6, _), (0, _), (1, _), (3, _)] ⟨rfl, rfl, rfl, rfl, rfl, trivial⟩ ?_
  refine W.rseq ?_
  refine WL.f rfl rfl rfl (FV.ld (LdD.ag (us := [_, _, _, _, _, _, _, _, _]) 0 0 ag52 rfl rfl rfl rfl rfl)) ?_
  refine WL.p rfl rfl rfl (PV.mv rfl) ?_
  refine WL.putX rfl rfl rfl (OpX.call cb206 (c206h) rfl (.cons (i := 2) rfl (.cons (i := 2) rfl (.cons (i := 2) rfl .nil)))) fun x14 => ?_
  refine WL.nm (H' := _ :: _ :: _ :: _ :: _ :: pt _ _ [_, _, _, _, _, _, _, _, _] :: _ :: _) rfl ?_
  refine WL.p rfl rfl rfl (PV.mv rfl) ?_
  refine WL.p rfl rfl rfl (PV.ext0 rfl) ?_
  refine WL.p rfl rfl rfl (PV.ext1 rfl) ?_
  refine WL.p rfl rfl rfl (PV.as rfl) ?_
  refine WL.p rfl rfl rfl (PV.as rfl) ?_
  refine WL.next [(9, _), (8, _), (0, _), (1, _)] ⟨rfl, rfl, rfl, rfl, trivial⟩ ?_
  refine W.rseq ?_
  refine WL.p rfl rfl rfl (PV.mv rfl) ?_
  refine WL.putX rfl rfl rfl (OpX.rowS (K := Kb) [_] [()] slt62 ⟨_, zr5, rfl⟩ rfl rfl rfl rfl rfl rfl (fun _ h => by first | (simp [innerL, Kb, Kint, Kstr, Kbool] at h; done) | (simp [innerL, Ksl, Kwr, Kmsg] at h; rcases h with h | h | h <;> subst h <;> simp [Sl.rem]) | (simp [innerL, Ksl, Kwr] at h; subst h; simp [Sl.rem]))) fun x18 => ?_
  refine WL.nm (H' := _ :: _ :: _ :: _ :: _ :: _ :: _ :: pt _ _ [_, _, _, _, _, _, _, _, _] :: _ :: _) rfl ?_
  refine WL.p rfl rfl rfl (PV.mv rfl) ?_
  refine WL.putX rfl rfl rfl (OpX.app 1 0 slt62 ni62 rfl rfl rfl rfl (SrcV.atSl 7 rfl) (by first | omega | (simp only [List.length_append, List.length_cons, List.length_nil, List.length_take, numB_len]; omega) | assumption) (by first | omega | (simp only [List.length_append, List.length_cons, List.length_nil, List.length_take, numB_len]; omega) | assumption)) fun x20 => ?_
  refine WL.nm (H' := _ :: _ :: _ :: _ :: _ :: _ :: _ :: _ :: pt _ _ [_, _, _, _, _, _, _, _, _] :: _ :: _) rfl ?_
  refine WL.p rfl rfl rfl (PV.mv rfl) ?_
  refine WL.putX rfl rfl rfl (OpX.app 1 0 slt62 ni62 rfl rfl rfl rfl (SrcV.atSl 2 rfl) (by first | omega | (simp only [List.length_append, List.length_cons, List.length_nil, List.length_take, numB_len]; omega) | assumption) (by first | omega | (simp only [List.length_append, List.length_cons, List.length_nil, List.length_take, numB_len]; omega) | assumption)) fun x22 => ?_
  refine WL.nm (H' := _ :: _ :: _ :: _ :: _ :: _ :: _ :: _ :: _ :: pt _ _ [_, _, _, _, _, _, _, _, _] :: _ :: _) rfl ?_
  refine WL.p rfl rfl rfl (PV.as rfl) ?_
  refine WL.next [(8, _)] ⟨rfl, trivial⟩ ?_
  refine W.ret ?_
  rotate_left
  refine K.fin (vs := [_]) x22 ⟨rfl, trivial⟩ rfl ?_
  refine Ent.keep 0 rfl (sl_pers _ _ _) (Ent.take 1 rfl ?_)
  refine Ent.keep 9 rfl (sl_pers _ _ _) (Ent.keep 5 rfl (sl_pers _ _ _) (Ent.keep 6 rfl (sl_pers _ _ _) (Ent.keep 7 rfl (sl_pers _ _ _) ?_)))
  exact Ent.tail (Ent.tail (Ent.tail (Ent.tail (Ent.tail (Ent.tail (Ent.tail (Ent.tail (Ent.tail (Ent.tail (Ent.refl _))))))))))
theorem c265 {f : Int} {m : Msg} {p : SP} (hC : Can f m) : Spec P 110 [p.v (encM f m).length] [sl Kb p (encM f m)]
    (fun q : SP × SP × SP => .tuple #[.agg #[.int .i64 m.id, .int .i64 m.gen, .int .i64 m.born, .int .i64 m.tries, .int .i64 m.due, str m.frm, q.1.v m.rcpts.length, q.2.1.v m.marks.length, q.2.2.v m.body.length], .int .i64 0])
    (fun q => [sl Kstr q.1 m.rcpts, sl (Kint .i64) q.2.1 m.marks, sl Kstr q.2.2 m.body, sl Kb p (encM f m)]) := by
  obtain ⟨rfl, hF⟩ := hC
  have e : encM 2 m = binM m := by unfold encM; rw [if_pos rfl]
  rw [e]
  have c335h := c335 (m := m) (p := p) hF
  have c267h := c267 (p := p) (b := binM m)
  have hh : (binM m).head? = some 2 := by rw [binM_right]; rfl
  rw [if_pos hh] at c267h
  refine Spec.intro Tryz.func110 rfl rfl rfl fun F => ?_
  refine W.rseq ?_
  refine WL.putX rfl rfl rfl (OpX.alloc zr52) fun x2 => ?_
  refine WL.nm (H' := pt _ _ [_, _, _, _, _, _, _, _, _] :: _ :: _) rfl ?_
  refine WL.p rfl rfl rfl (PV.as rfl) ?_
  refine WL.next [(3, _), (2, _), (0, _)] ⟨rfl, rfl, rfl, trivial⟩ ?_
  refine W.seq ?_
  refine W.rseq ?_
  refine WL.p rfl rfl rfl (PV.mv rfl) ?_
  refine WL.putX rfl rfl rfl (OpX.call cb267 (c267h) rfl (.cons (i := 1) rfl .nil)) fun x5 => ?_
  refine WL.nm (H' := _ :: pt _ _ [_, _, _, _, _, _, _, _, _] :: _) rfl ?_
  refine WL.next [(5, _), (3, _), (2, _), (0, _)] ⟨rfl, rfl, rfl, rfl, trivial⟩ ?_
  refine W.block ?_
  refine W.rseq ?_
  refine WL.p rfl rfl rfl (PV.eqI rfl rfl) ?_
  refine WL.p rfl rfl rfl (PV.as rfl) ?_
  refine WL.next [(6, _), (5, _), (3, _), (2, _), (0, _)] ⟨rfl, rfl, rfl, rfl, rfl, trivial⟩ ?_
  refine W.cF rfl ?_
  refine W.rseq ?_
  refine WL.p rfl rfl rfl (PV.eqI rfl rfl) ?_
  refine WL.p rfl rfl rfl (PV.as rfl) ?_
  refine WL.next [(12, _), (3, _), (2, _), (0, _)] ⟨rfl, rfl, rfl, rfl, trivial⟩ ?_
  refine W.cT rfl ?_
  refine W.rseq ?_
  refine WL.p rfl rfl rfl (PV.mv rfl) ?_
  refine WL.putX rfl rfl rfl (OpX.call cb335 (c335h) rfl (.cons (i := 0) rfl .nil)) fun x15 => ?_
  refine WL.nm (H' := _ :: _ :: _ :: _ :: pt _ _ [_, _, _, _, _, _, _, _, _] :: _) rfl ?_
  refine WL.p rfl rfl rfl (PV.ext0 rfl) ?_
  refine WL.p rfl rfl rfl (PV.ext1 rfl) ?_
  refine WL.done rfl rfl (OpD.st 4 0 sz52 rfl rfl rfl rfl rfl rfl (NAs.mem (vs := [_, _, _, _, _, _, _, _, _]) ⟨NA.int _ _, NA.int _ _, NA.int _ _, NA.int _ _, NA.int _ _, NA.str _, NA.sl _ _ _, NA.sl _ _ _, NA.sl _ _ _, trivial⟩)) ?_
  refine WL.nm (H' := _ :: _ :: _ :: _ :: pt _ _ [_, _, _, _, _, _, _, _, _] :: _) rfl ?_
  refine WL.p rfl rfl rfl (PV.as rfl) ?_
  refine WL.next [(3, _), (2, _)] ⟨rfl, rfl, trivial⟩ ?_
  refine W.ret ?_
  refine K.retB ?_
  refine K.retT ?_
  rotate_left
  refine K.fin (vs := [_, _]) x15 ⟨LdD.ag (us := [_, _, _, _, _, _, _, _, _]) 4 0 ag52 rfl rfl rfl rfl rfl, rfl, trivial⟩ rfl ?_
  refine Ent.keep 0 rfl (sl_pers _ _ _) (Ent.keep 1 rfl (sl_pers _ _ _) (Ent.keep 2 rfl (sl_pers _ _ _) (Ent.keep 3 rfl (sl_pers _ _ _) ?_)))
  exact Ent.tail (Ent.tail (Ent.tail (Ent.tail (Ent.tail (Ent.refl _)))))
theorem c267f {f : Int} {m : Msg} {p : SP} (hC : Can f m) : Spec P 112 [p.v (encM f m).length] [sl Kb p (encM f m)] (fun _ : Unit => .int .i64 f) (fun _ => [sl Kb p (encM f m)]) := by
  obtain ⟨rfl, hF⟩ := hC
  have e : encM 2 m = binM m := by unfold encM; rw [if_pos rfl]
  rw [e]
  have c267h := c267 (p := p) (b := binM m)
  have hh : (binM m).head? = some 2 := by rw [binM_right]; rfl
  rw [if_pos hh] at c267h
  exact c267h
end Go.Sl
/-! A message of its own memory. -/
namespace Go.Sl
open Go Go.Proofs
set_option maxRecDepth 20000
theorem c128 {m : Msg} {p1 p2 p3 : SP} (hr : m.rcpts.length ≤ 2 ^ 40) (hk : m.marks.length ≤ 2 ^ 40) (hb : m.body.length ≤ 2 ^ 40) :
    Spec P 56 [.agg #[.int .i64 m.id, .int .i64 m.gen, .int .i64 m.born, .int .i64 m.tries, .int .i64 m.due, str m.frm, p1.v m.rcpts.length, p2.v m.marks.length, p3.v m.body.length]] [sl Kstr p1 m.rcpts, sl (Kint .i64) p2 m.marks, sl Kstr p3 m.body]
    (fun q : SP × SP × SP => .agg #[.int .i64 m.id, .int .i64 m.gen, .int .i64 m.born, .int .i64 m.tries, .int .i64 m.due, str m.frm, q.1.v m.rcpts.length, q.2.1.v m.marks.length, q.2.2.v m.body.length])
    (fun q => [sl Kstr q.1 m.rcpts, sl (Kint .i64) q.2.1 m.marks, sl Kstr q.2.2 m.body, sl Kstr p1 m.rcpts, sl (Kint .i64) p2 m.marks, sl Kstr p3 m.body]) := by
  refine Spec.intro Tryz.func56 rfl rfl rfl fun F => ?_
  refine W.rseq ?_
  refine WL.putX rfl rfl rfl (OpX.box rfl) fun x1 => ?_
  refine WL.nm (H' := pt _ _ [_, _, _, _, _, _, _, _, _] :: _ :: _ :: _ :: _) rfl ?_
  refine WL.putX rfl rfl rfl (OpX.alloc zr52) fun x2 => ?_
  refine WL.nm (H' := pt _ _ [_, _, _, _, _, _, _, _, _] :: pt _ _ [_, _, _, _, _, _, _, _, _] :: _ :: _ :: _ :: _) rfl ?_
  refine WL.next [(2, _), (1, _)] ⟨rfl, rfl, trivial⟩ ?_
  refine W.dseq [0, 1, 4, 5, 8, 9, 2, 3, 12, 6, 7, 10, 11, 13, 14, 15, 16, 17] mixedOrders rfl rfl fun hR => ?_
  refine DP.p rfl rfl rfl rfl rfl (PV.fa fo52_6 rfl rfl) ?_
  refine DP.f rfl rfl rfl rfl rfl (FV.ld (LdD.sc 1 6 sc33 rfl rfl rfl rfl)) ?_
  refine DP.p rfl rfl rfl rfl rfl (PV.fa fo52_7 rfl rfl) ?_
  refine DP.f rfl rfl rfl rfl rfl (FV.ld (LdD.sc 1 7 sc32 rfl rfl rfl rfl)) ?_
  refine DP.p rfl rfl rfl rfl rfl (PV.fa fo52_8 rfl rfl) ?_
  refine DP.f rfl rfl rfl rfl rfl (FV.ld (LdD.sc 1 8 sc33 rfl rfl rfl rfl)) ?_
  refine DP.e hR [(9, _), (5, _)] rfl rfl rfl rfl rfl (OpX.call cb208 (c208 (by first | omega | (simp only [List.length_append, List.length_cons, List.length_nil, List.length_take]; omega) | assumption)) rfl (.cons (i := 2) rfl .nil)) rfl (fun _ => (KeepL.keep rfl (FloatAt.of rfl (by first | exact FV.ld (LdD.sc 1 8 sc33 rfl rfl rfl rfl) | exact FV.ld (LdD.ag (us := _) 1 8 ag33 rfl rfl rfl rfl rfl) | exact FV.ld (LdD.sc 2 8 sc33 rfl rfl rfl rfl) | exact FV.ld (LdD.ag (us := _) 2 8 ag33 rfl rfl rfl rfl rfl) | exact FV.ld (LdD.sc 3 8 sc33 rfl rfl rfl rfl) | exact FV.ld (LdD.ag (us := _) 3 8 ag33 rfl rfl rfl rfl rfl) | exact FV.ld (LdD.sc 4 8 sc33 rfl rfl rfl rfl) | exact FV.ld (LdD.ag (us := _) 4 8 ag33 rfl rfl rfl rfl rfl) | exact FV.ld (LdD.sc 5 8 sc33 rfl rfl rfl rfl) | exact FV.ld (LdD.ag (us := _) 5 8 ag33 rfl rfl rfl rfl rfl))) (KeepL.keep rfl (FloatAt.of rfl (by first | exact FV.ld (LdD.sc 1 7 sc32 rfl rfl rfl rfl) | exact FV.ld (LdD.ag (us := _) 1 7 ag32 rfl rfl rfl rfl rfl) | exact FV.ld (LdD.sc 2 7 sc32 rfl rfl rfl rfl) | exact FV.ld (LdD.ag (us := _) 2 7 ag32 rfl rfl rfl rfl rfl) | exact FV.ld (LdD.sc 3 7 sc32 rfl rfl rfl rfl) | exact FV.ld (LdD.ag (us := _) 3 7 ag32 rfl rfl rfl rfl rfl) | exact FV.ld (LdD.sc 4 7 sc32 rfl rfl rfl rfl) | exact FV.ld (LdD.ag (us := _) 4 7 ag32 rfl rfl rfl rfl rfl) | exact FV.ld (LdD.sc 5 7 sc32 rfl rfl rfl rfl) | exact FV.ld (LdD.ag (us := _) 5 7 ag32 rfl rfl rfl rfl rfl))) (KeepL.drop rfl KeepL.nil)))) fun x5 => ?_
  refine DP.nm (H' := _ :: _ :: pt _ _ [_, _, _, _, _, _, _, _, _] :: pt _ _ [_, _, _, _, _, _, _, _, _] :: _ :: _ :: _) rfl ?_
  refine DP.e hR [(9, _), (5, _)] rfl rfl rfl rfl rfl (OpX.call cb207 (c207 (by first | omega | (simp only [List.length_append, List.length_cons, List.length_nil, List.length_take]; omega) | assumption)) rfl (.cons (i := 0) rfl .nil)) rfl (fun _ => (KeepL.keep rfl (FloatAt.of rfl (by first | exact FV.ld (LdD.sc 3 8 sc33 rfl rfl rfl rfl) | exact FV.ld (LdD.ag (us := _) 3 8 ag33 rfl rfl rfl rfl rfl) | exact FV.ld (LdD.sc 4 8 sc33 rfl rfl rfl rfl) | exact FV.ld (LdD.ag (us := _) 4 8 ag33 rfl rfl rfl rfl rfl) | exact FV.ld (LdD.sc 5 8 sc33 rfl rfl rfl rfl) | exact FV.ld (LdD.ag (us := _) 5 8 ag33 rfl rfl rfl rfl rfl) | exact FV.ld (LdD.sc 6 8 sc33 rfl rfl rfl rfl) | exact FV.ld (LdD.ag (us := _) 6 8 ag33 rfl rfl rfl rfl rfl) | exact FV.ld (LdD.sc 7 8 sc33 rfl rfl rfl rfl) | exact FV.ld (LdD.ag (us := _) 7 8 ag33 rfl rfl rfl rfl rfl))) (KeepL.keep rfl (FloatAt.of rfl (by first | exact FV.ld (LdD.sc 3 7 sc32 rfl rfl rfl rfl) | exact FV.ld (LdD.ag (us := _) 3 7 ag32 rfl rfl rfl rfl rfl) | exact FV.ld (LdD.sc 4 7 sc32 rfl rfl rfl rfl) | exact FV.ld (LdD.ag (us := _) 4 7 ag32 rfl rfl rfl rfl rfl) | exact FV.ld (LdD.sc 5 7 sc32 rfl rfl rfl rfl) | exact FV.ld (LdD.ag (us := _) 5 7 ag32 rfl rfl rfl rfl rfl) | exact FV.ld (LdD.sc 6 7 sc32 rfl rfl rfl rfl) | exact FV.ld (LdD.ag (us := _) 6 7 ag32 rfl rfl rfl rfl rfl) | exact FV.ld (LdD.sc 7 7 sc32 rfl rfl rfl rfl) | exact FV.ld (LdD.ag (us := _) 7 7 ag32 rfl rfl rfl rfl rfl))) KeepL.nil))) fun x6 => ?_
  refine DP.nm (H' := _ :: _ :: _ :: pt _ _ [_, _, _, _, _, _, _, _, _] :: pt _ _ [_, _, _, _, _, _, _, _, _] :: _ :: _ :: _) rfl ?_
  refine DP.p rfl rfl rfl rfl rfl (PV.fa fo52_6 rfl rfl) ?_
  refine DP.e hR [(9, _)] rfl rfl rfl rfl rfl (OpX.call cb210 (c210 (by first | omega | (simp only [List.length_append, List.length_cons, List.length_nil, List.length_take]; omega) | assumption)) rfl (.cons (i := 5) rfl .nil)) rfl (fun _ => (KeepL.keep rfl (FloatAt.of rfl (by first | exact FV.ld (LdD.sc 4 8 sc33 rfl rfl rfl rfl) | exact FV.ld (LdD.ag (us := _) 4 8 ag33 rfl rfl rfl rfl rfl) | exact FV.ld (LdD.sc 5 8 sc33 rfl rfl rfl rfl) | exact FV.ld (LdD.ag (us := _) 5 8 ag33 rfl rfl rfl rfl rfl) | exact FV.ld (LdD.sc 6 8 sc33 rfl rfl rfl rfl) | exact FV.ld (LdD.ag (us := _) 6 8 ag33 rfl rfl rfl rfl rfl) | exact FV.ld (LdD.sc 7 8 sc33 rfl rfl rfl rfl) | exact FV.ld (LdD.ag (us := _) 7 8 ag33 rfl rfl rfl rfl rfl) | exact FV.ld (LdD.sc 8 8 sc33 rfl rfl rfl rfl) | exact FV.ld (LdD.ag (us := _) 8 8 ag33 rfl rfl rfl rfl rfl))) (KeepL.drop rfl KeepL.nil))) fun x9 => ?_
  refine DP.nm (H' := _ :: _ :: _ :: _ :: _ :: pt _ _ [_, _, _, _, _, _, _, _, _] :: pt _ _ [_, _, _, _, _, _, _, _, _] :: _ :: _) rfl ?_
  refine DP.e hR [(9, _)] rfl rfl rfl rfl rfl (OpX.call cb209 (c209 (by first | omega | (simp only [List.length_append, List.length_cons, List.length_nil, List.length_take]; omega) | assumption)) rfl (.cons (i := 0) rfl .nil)) rfl (fun _ => (KeepL.keep rfl (FloatAt.of rfl (by first | exact FV.ld (LdD.sc 6 8 sc33 rfl rfl rfl rfl) | exact FV.ld (LdD.ag (us := _) 6 8 ag33 rfl rfl rfl rfl rfl) | exact FV.ld (LdD.sc 7 8 sc33 rfl rfl rfl rfl) | exact FV.ld (LdD.ag (us := _) 7 8 ag33 rfl rfl rfl rfl rfl) | exact FV.ld (LdD.sc 8 8 sc33 rfl rfl rfl rfl) | exact FV.ld (LdD.ag (us := _) 8 8 ag33 rfl rfl rfl rfl rfl) | exact FV.ld (LdD.sc 9 8 sc33 rfl rfl rfl rfl) | exact FV.ld (LdD.ag (us := _) 9 8 ag33 rfl rfl rfl rfl rfl) | exact FV.ld (LdD.sc 10 8 sc33 rfl rfl rfl rfl) | exact FV.ld (LdD.ag (us := _) 10 8 ag33 rfl rfl rfl rfl rfl))) KeepL.nil)) fun x10 => ?_
  refine DP.nm (H' := _ :: _ :: _ :: _ :: _ :: _ :: pt _ _ [_, _, _, _, _, _, _, _, _] :: pt _ _ [_, _, _, _, _, _, _, _, _] :: _ :: _) rfl ?_
  refine DP.e hR [] rfl rfl rfl rfl rfl (OpX.call cb208 (c208 (by first | omega | (simp only [List.length_append, List.length_cons, List.length_nil, List.length_take]; omega) | assumption)) rfl (.cons (i := 8) rfl .nil)) rfl (fun _ => (KeepL.drop rfl KeepL.nil)) fun x13 => ?_
  refine DP.nm (H' := _ :: _ :: _ :: _ :: _ :: _ :: _ :: _ :: pt _ _ [_, _, _, _, _, _, _, _, _] :: pt _ _ [_, _, _, _, _, _, _, _, _] :: _) rfl ?_
  refine DP.e hR [] rfl rfl rfl rfl rfl (OpX.call cb207 (c207 (by first | omega | (simp only [List.length_append, List.length_cons, List.length_nil, List.length_take]; omega) | assumption)) rfl (.cons (i := 0) rfl .nil)) rfl (fun _ => KeepL.nil) fun x14 => ?_
  refine DP.nm (H' := _ :: _ :: _ :: _ :: _ :: _ :: _ :: _ :: _ :: pt _ _ [_, _, _, _, _, _, _, _, _] :: pt _ _ [_, _, _, _, _, _, _, _, _] :: _) rfl ?_
  refine DP.e0 hR [] rfl rfl rfl (OpD.st 10 6 sz33 rfl rfl rfl rfl rfl rfl (NA.one (NA.sl _ _ _))) rfl (fun _ => KeepL.nil) fun _ => ?_
  refine DP.nm (H' := _ :: _ :: _ :: _ :: _ :: _ :: _ :: _ :: _ :: pt _ _ [_, _, _, _, _, _, _, _, _] :: pt _ _ [_, _, _, _, _, _, _, _, _] :: _) rfl ?_
  refine DP.p rfl rfl rfl rfl rfl (PV.fa fo52_7 rfl rfl) ?_
  refine DP.e0 hR [] rfl rfl rfl (OpD.st 10 7 sz32 rfl rfl rfl rfl rfl rfl (NA.one (NA.sl _ _ _))) rfl (fun _ => KeepL.nil) fun _ => ?_
  refine DP.nm (H' := _ :: _ :: _ :: _ :: _ :: _ :: _ :: _ :: _ :: pt _ _ [_, _, _, _, _, _, _, _, _] :: pt _ _ [_, _, _, _, _, _, _, _, _] :: _) rfl ?_
  refine DP.p rfl rfl rfl rfl rfl (PV.fa fo52_8 rfl rfl) ?_
  refine DP.e0 hR [] rfl rfl rfl (OpD.st 10 8 sz33 rfl rfl rfl rfl rfl rfl (NA.one (NA.sl _ _ _))) rfl (fun _ => KeepL.nil) fun _ => ?_
  refine DP.nm (H' := _ :: _ :: _ :: _ :: _ :: _ :: _ :: _ :: _ :: pt _ _ [_, _, _, _, _, _, _, _, _] :: pt _ _ [_, _, _, _, _, _, _, _, _] :: _) rfl ?_
  refine DP.fin hR ?_
  clear hR
  refine K.next [(2, _), (1, _)] ⟨rfl, rfl, trivial⟩ ?_
  refine W.rseq ?_
  refine WL.f rfl rfl rfl (FV.ld (LdD.ag (us := [_, _, _, _, _, _, _, _, _]) 10 0 ag52 rfl rfl rfl rfl rfl)) ?_
  refine WL.done rfl rfl (OpD.st 9 0 sz52 rfl rfl rfl rfl rfl rfl (NAs.mem (vs := [_, _, _, _, _, _, _, _, _]) ⟨NA.int _ _, NA.int _ _, NA.int _ _, NA.int _ _, NA.int _ _, NA.str _, NA.sl _ _ _, NA.sl _ _ _, NA.sl _ _ _, trivial⟩)) ?_
  refine WL.nm (H' := _ :: _ :: _ :: _ :: _ :: _ :: _ :: _ :: _ :: pt _ _ [_, _, _, _, _, _, _, _, _] :: pt _ _ [_, _, _, _, _, _, _, _, _] :: _) rfl ?_
  refine WL.next [(2, _)] ⟨rfl, trivial⟩ ?_
  refine W.ret ?_
  rotate_left
  refine K.fin (vs := [_]) (x6, x10, x14) ⟨LdD.ag (us := [_, _, _, _, _, _, _, _, _]) 9 0 ag52 rfl rfl rfl rfl rfl, trivial⟩ rfl ?_
  refine Ent.keep 6 rfl (sl_pers _ _ _) (Ent.keep 3 rfl (sl_pers _ _ _) (Ent.keep 0 rfl (sl_pers _ _ _) (Ent.keep 8 rfl (sl_pers _ _ _) (Ent.keep 5 rfl (sl_pers _ _ _) (Ent.keep 2 rfl (sl_pers _ _ _) ?_)))))
  exact Ent.tail (Ent.tail (Ent.tail (Ent.tail (Ent.tail (Ent.tail (Ent.tail (Ent.tail (Ent.tail (Ent.tail (Ent.tail (Ent.refl _)))))))))))
end Go.Sl
