/- A library for the proof (part 8): Sl23 Lg3 Lg4 Su2 Lp Lg5 Qs0 Qs1 Qt0. -/
import Derived.Test.YtoapkonigbkcgaaGreatDoorL07
set_option linter.unusedVariables false
set_option linter.unusedSimpArgs false
set_option linter.unusedSectionVars false
/-! Entries of maps that are set in two steps. -/
namespace Go.Sl
open Go
section
variable {P : Program} {ρ : Env} {H : List Res} {d : Option Tmp} {ty : TypeId} {pos : String} {af : Array Edge} {g : Option (Nat × Bool)} {x y z : Operand}
variable {κ α : Type} [BEq κ] [LawfulBEq κ] {kv : κ → Value} {K : Kd α}
/-- A map, and the stamp of the entry at k. -/
def mpe (kv : κ → Value) (K : Kd α) (r : Nat) (m : List (κ × α)) (k : κ) (st : Nat) : Res where
  holds w O R := mpH kv K r m w O R ∧ ∃ es clock j e, w.heap[r]? = some (.map es clock) ∧ midx m k = some j ∧ es[j]? = some e ∧ e.born = st
  loc := by
    rintro w w' O R ⟨h, es, clock, j, e, h1, h2, h3, h4⟩ ha
    refine ⟨(mp kv K r m).loc h ha, es, clock, j, e, ?_, h2, h3, h4⟩
    exact lookO_heap (ha.own r 0 ((h.1 _ _).2 rfl)) h1 (by intro _ _ _ hc; cases hc)
  bd := fun h => (mp kv K r m).bd h.1
  rd := fun h => (mp kv K r m).rd h.1
def mres (m : List (κ × α)) (k : κ) (z0 : α) : List (κ × α) := match midx m k with | some _ => m | none => mset m k z0
theorem mset_mres {m : List (κ × α)} {k : κ} {z0 a0 : α} : mset (mres m k z0) k a0 = mset m k a0 := by
  unfold mres
  cases h : midx m k with
  | some j => rfl
  | none =>
    obtain ⟨h1, h2, _⟩ := midx_none h
    simp only
    rw [h2, h2]
    have key : ∀ (l : List (κ × α)), mget l k = none → mset (l ++ [(k, z0)]) k a0 = l ++ [(k, a0)] := by
      intro l
      induction l with
      | nil => intro _; simp [mset]
      | cons x l ih =>
        intro hg
        unfold mget at hg
        by_cases e : (x.1 == k) = true
        · rw [if_pos e] at hg; cases hg
        · rw [if_neg e] at hg
          show mset (x :: (l ++ [(k, z0)])) k a0 = x :: (l ++ [(k, a0)])
          unfold mset
          rw [if_neg e, ih hg]
    exact key m h1
theorem mp_mpe {r : Nat} {m : List (κ × α)} {k : κ} {st : Nat} {F : List Res} {w : World} (h : Holds (mp kv K r m :: F) w) (hf : ∃ es clock j e, w.heap[r]? = some (.map es clock) ∧ midx m k = some j ∧ es[j]? = some e ∧ e.born = st) : Holds (mpe kv K r m k st :: F) w := by
  obtain ⟨O, R, O1, R1, O2, R2, h1, h2⟩ := h
  exact ⟨O, R, O1, R1, O2, R2, ⟨h1, hf⟩, h2⟩
theorem midx_app {m : List (κ × α)} {k : κ} {a0 : α} (h : midx m k = none) : midx (m ++ [(k, a0)]) k = some m.length := by
  induction m with
  | nil => simp [midx]
  | cons x l ih =>
    unfold midx at h
    by_cases e : (x.1 == k) = true
    · rw [if_pos e] at h; cases h
    · rw [if_neg e] at h
      have h' : midx l k = none := by cases hm : midx l k with | none => rfl | some _ => rw [hm] at h; cases h
      show midx (x :: (l ++ [(k, a0)])) k = _
      unfold midx
      rw [if_neg e, ih h']; rfl
/-- The entry at m[k] is made ready. -/
theorem OpX.mEnt {t kt et r : Nat} {m : List (κ × α)} {k : κ} {z0 : α} {q0 : K.π} (i : Nat) (ht : MapT P t kt et) (hk : KeyT P kt kv) (hz : Zr P et (K.val z0 q0)) (h0 : Ent [] (K.inner z0 q0)) (hx : ev ρ x = some (.map (some r))) (hy : ev ρ y = some (kv k)) (hi : H[i]? = some (mp kv K r m)) :
    OpX P ⟨d, .mapEntry t x y, ty, pos, af, g⟩ ρ H (fun s : Value × Nat => .tuple #[s.1, .int .i64 s.2]) (fun s => setR H i (mpe kv K r (mres m k z0) k s.2)) := by
  intro n a w ha hw next Q kk
  obtain ⟨O, R, O1, R1, OF, RF, h, hF, d1, d2, eo, er⟩ := hw.pick hi
  have h' := h
  obtain ⟨h1, h2, es, clock, h3, h4, h5, h6, h7⟩ := h
  have hin : ∀ s, s ∈ K.inner z0 q0 → ∃ R', s.holds w none0 R' ∧ ∀ b i, R' b i → False := by
    obtain ⟨O', R', hs, s1, s2⟩ := h0 w none0 none0 ⟨fun _ _ h => h, fun _ _ h => h⟩
    intro s hs'
    obtain ⟨O3, R3, k1, k2, k3⟩ := Sep.mem hs hs'
    have e : O3 = none0 := funext fun b => funext fun i => propext ⟨fun hb => s1 b i (k2 b i hb), fun hb => hb.elim⟩
    rw [e] at k1
    exact ⟨R3, k1, fun b i hb => (s2 b i (k3 b i hb)).elim id id⟩
  have hfk := run_findKey (P := P) (w := w) hk k h4 (fun j x hx => let ⟨e, e1, e2, _⟩ := h7 j x hx; ⟨e, e1, e2⟩)
  have main : ∃ (s : Value × Nat) (w' : World), (Instr.mapEntry t (.map (some r)) (kv k)).run P w = .ok (.tuple #[s.1, .int .i64 s.2]) w' ∧ Holds (mpe kv K r (mres m k z0) k s.2 :: Sl.rem H i) w' := by
    cases hm : midx m k with
    | some j =>
      obtain ⟨a1, m1, m2, m3, _⟩ := midx_some hm
      obtain ⟨e, e1, e2, q1, e3, e4⟩ := h7 j _ m1
      have hes : (es.modify j fun e => { e with key := kv k }) = es := by
        apply Array.ext_getElem?
        intro l
        rw [Array.getElem?_modify]
        split
        · next hl =>
          subst hl
          rw [e1]
          simp only [Option.map_some, Option.some.injEq]
          rw [← e2]
        · rfl
      have hrun : (Instr.mapEntry t (.map (some r)) (kv k)).run P w = .ok (.tuple #[e.val, .int .i64 e.born]) { w with heap := w.heap.setIfInBounds r (.map es clock) } := by
        unfold Instr.mapEntry
        rw [run_bind (run_underlying ht w)]
        simp only
        rw [run_bind (run_getObj h3)]
        simp only
        rw [run_bind (run_checkKey hk 9999), run_bind hfk, hm]
        simp only [e1, Option.map_some, Option.getD_some, e2]
        have hstay : (Instr.keyThatStays (kv k) (kv k)).run P w = .ok (kv k) w := by
          unfold Instr.keyThatStays
          obtain ⟨_, _, _, _, _, _, hsb⟩ := hk
          rw [if_pos (hsb k _)]; rfl
        rw [run_bind hstay, hes, run_bind (run_setObj h3)]
        rfl
      refine ⟨(e.val, e.born), _, hrun, ?_⟩
      have hmr : mres m k z0 = m := by unfold mres; rw [hm]
      rw [hmr]
      refine mp_mpe (Trans.map h' hF d1 d2 (R2 := none0) (fun _ _ h => h.elim) h4 h5 h6 fun l x hx => ?_) ⟨es, clock, j, e, ?_, hm, e1, rfl⟩
      · obtain ⟨e', f1, f2, q', f3, f4⟩ := h7 l x hx
        exact ⟨e', f1, f2, q', f3, fun s hs => let ⟨R', k1, k2⟩ := f4 s hs; ⟨R', k1, fun b i hb => .inl (k2 b i hb)⟩⟩
      · show (w.heap.setIfInBounds r (.map es clock))[r]? = _
        rw [Array.getElem?_setIfInBounds]; simp [(Array.getElem?_eq_some_iff.1 h3).1]
    | none =>
      obtain ⟨m1, m2, _⟩ := midx_none hm
      have hrun : (Instr.mapEntry t (.map (some r)) (kv k)).run P w = .ok (.tuple #[K.val z0 q0, .int .i64 clock]) { w with heap := w.heap.setIfInBounds r (.map (es.push { key := kv k, val := K.val z0 q0, born := clock }) (clock + 1)) } := by
        unfold Instr.mapEntry
        rw [run_bind (run_underlying ht w)]
        simp only
        rw [run_bind (run_getObj h3)]
        simp only
        rw [run_bind (run_checkKey hk 9999), run_bind hfk, hm]
        simp only
        rw [run_bind (run_zero hz), run_bind (run_setObj h3)]
        rfl
      refine ⟨(K.val z0 q0, clock), _, hrun, ?_⟩
      have hmr : mres m k z0 = m ++ [(k, z0)] := by unfold mres; rw [hm]; exact m2 _
      rw [hmr]
      refine mp_mpe (Trans.map h' hF d1 d2 (R2 := none0) (fun _ _ h => h.elim) (by simp [h4]) ?_ ?_ ?_) ⟨_, clock + 1, m.length, { key := kv k, val := K.val z0 q0, born := clock }, ?_, midx_app hm, by rw [Array.getElem?_push, if_pos h4.symm], rfl⟩
      · simp only [Array.toList_push, List.map_append, List.map_cons, List.map_nil]
        refine List.nodup_append.2 ⟨h5, by simp, fun a ha b hb => ?_⟩
        simp only [List.mem_singleton] at hb
        simp only [List.mem_map] at ha
        obtain ⟨e, he, rfl⟩ := ha
        have := h6 e he
        omega
      · intro e' he'
        simp only [Array.toList_push, List.mem_append, List.mem_singleton] at he'
        rcases he' with he' | rfl
        · have := h6 e' he'; omega
        · show clock < clock + 1; omega
      · intro l x hx
        by_cases hl : l < m.length
        · rw [List.getElem?_append_left hl] at hx
          obtain ⟨e', f1, f2, q', f3, f4⟩ := h7 l x hx
          refine ⟨e', by rw [Array.getElem?_push, if_neg (by omega)]; exact f1, f2, q', f3, fun s hs => ?_⟩
          obtain ⟨R', k1, k2⟩ := f4 s hs
          exact ⟨R', k1, fun b i hb => .inl (k2 b i hb)⟩
        · rw [List.getElem?_append_right (by omega)] at hx
          have hl0 : l - m.length = 0 := by
            have := (List.getElem?_eq_some_iff.1 hx).1
            simp at this; omega
          rw [hl0] at hx
          simp only [List.getElem?_cons_zero, Option.some.injEq] at hx
          subst hx
          refine ⟨{ key := kv k, val := K.val z0 q0, born := clock }, by rw [Array.getElem?_push, if_pos (by omega)], rfl, q0, rfl, fun s hs => ?_⟩
          obtain ⟨R', k1, k2⟩ := hin s hs
          exact ⟨R', k1, fun b i hb => (k2 b i hb).elim⟩
      · show (w.heap.setIfInBounds r _)[r]? = _
        rw [Array.getElem?_setIfInBounds]; simp [(Array.getElem?_eq_some_iff.1 h3).1]
  obtain ⟨s, w', k1, k2⟩ := main
  have hexec : (execOp a.eval ⟨d, .mapEntry t x y, ty, pos, af, g⟩).run P w = .ok (.value (.tuple #[s.1, .int .i64 s.2])) w' := by
    have e0 : execOp a.eval ⟨d, .mapEntry t x y, ty, pos, af, g⟩ = (Instr.mapEntry t (.map (some r)) (kv k) >>= fun x => pure (Next.value x)) := by
      simp only [execOp, ha.ev hx, ha.ev hy]
    rw [e0, run_bind k1]; rfl
  rw [hexec]
  exact kk s w' (k2.perm (perm_setR hi))
/-- What was made ready is set. -/
theorem OpD.mSt {t r st : Nat} {m : List (κ × α)} {k : κ} {a0 : α} {q : K.π} {s : Operand} (i : Nat) (hx : ev ρ x = some (.map (some r))) (hs : ev ρ s = some (.int .i64 st)) (hz : ev ρ z = some (K.val a0 q)) (hi : H[i]? = some (mpe kv K r m k st))
    (hin : ∀ s, s ∈ K.inner a0 q → s ∈ Sl.rem H i) : OpD P ⟨d, .entryStore t x s z, ty, pos, af, g⟩ ρ H undef (setR H i (mp kv K r (mset m k a0))) := by
  intro n a w ha hw next Q kk
  obtain ⟨O, R, hs0⟩ := hw.pick hi
  have hs1 := hs0
  obtain ⟨O1, R1, OF, RF, ⟨h, es, clock, j, e, f1, hm, f3, f4⟩, hF, d1, d2, eo, er⟩ := hs0
  have h' := h
  obtain ⟨h1, h2, es2, clock2, h3, h4, h5, h6, h7⟩ := h
  rw [f1] at h3; cases h3
  have h3 := f1
  obtain ⟨R2, g1, g2⟩ := Holds.membersR hs1 (rs := K.inner a0 q) (fun r hr => by simp [hin r hr]) (K.pers a0 q)
  have r2 : ∀ b i, R2 b i → (w.cell? ⟨b, i, none⟩).isSome = true ∧ ¬ O1 b i ∧ ¬ OF b i := fun b i hb => ⟨(g2 b i hb).1, fun h => (g2 b i hb).2 ((eo b i).2 (.inl h)), fun h => (g2 b i hb).2 ((eo b i).2 (.inr h))⟩
  obtain ⟨a1, m1, m2, m3, _⟩ := midx_some hm
  have hfi : es.findIdx? (fun e => (e.born : Int) == (st : Int)) = some j := by
    rw [Array.findIdx?_eq_some_iff_getElem]
    obtain ⟨hj, hje⟩ := Array.getElem?_eq_some_iff.1 f3
    refine ⟨hj, by rw [hje, f4]; simp, fun l hl => ?_⟩
    have hne : (es[l]'(by omega)).born ≠ st := by
      intro e0
      have e1 : (es.toList.map (·.born))[l]? = some st := by simp [List.getElem?_map, Array.getElem?_eq_getElem (show l < es.size by omega), e0]
      have e2 : (es.toList.map (·.born))[j]? = some st := by simp [List.getElem?_map, f3, f4]
      have := (List.getElem?_inj (i := l) (by simp; omega) h5).1 (e1.trans e2.symm)
      omega
    simp; omega
  have hrun : (Instr.entryStore t (.map (some r)) (.int .i64 st) (K.val a0 q)).run P w = .ok () { w with heap := w.heap.setIfInBounds r (.map (es.modify j fun e => { e with val := K.val a0 q }) clock) } := by
    unfold Instr.entryStore
    simp only
    rw [run_bind (run_getObj h3)]
    simp only
    have has : (asInt (.int .i64 (st : Int))).run P w = .ok (st : Int) w := rfl
    rw [run_bind has]
    simp only [hfi]
    exact run_setObj h3
  have hexec : (execOp a.eval ⟨d, .entryStore t x s z, ty, pos, af, g⟩).run P w = .ok .skip { w with heap := w.heap.setIfInBounds r (.map (es.modify j fun e => { e with val := K.val a0 q }) clock) } := by
    have e0 : execOp a.eval ⟨d, .entryStore t x s z, ty, pos, af, g⟩ = (Instr.entryStore t (.map (some r)) (.int .i64 st) (K.val a0 q) >>= fun _ => pure Next.skip) := by
      simp only [execOp, ha.ev hx, ha.ev hs, ha.ev hz]
    rw [e0, run_bind hrun]; rfl
  rw [hexec]
  refine kk () _ (Holds.perm (perm_setR hi) ?_)
  rw [m3]
  refine Trans.map h' hF d1 d2 r2 (by simp [h4]) ?_ ?_ ?_
  · have : (es.modify j fun e => { e with val := K.val a0 q }).toList.map (·.born) = es.toList.map (·.born) := by
      apply List.ext_getElem?
      intro l
      simp only [List.getElem?_map, Array.getElem?_toList, Array.getElem?_modify]
      split
      · cases es[l]? <;> rfl
      · rfl
    rw [this]; exact h5
  · intro e' he'
    obtain ⟨l, hl⟩ := List.getElem?_of_mem he'
    rw [Array.getElem?_toList, Array.getElem?_modify] at hl
    split at hl
    · cases hel : es[l]? with
      | none => rw [hel] at hl; cases hl
      | some e0 =>
        rw [hel] at hl
        simp only [Option.map_some, Option.some.injEq] at hl
        subst hl
        exact h6 e0 (List.mem_of_getElem? (i := l) (by simpa using hel))
    · exact h6 e' (List.mem_of_getElem? (i := l) (by simpa using hl))
  · intro l x hx
    by_cases hlj : j = l
    · subst hlj
      have hjl : j < m.length := (List.getElem?_eq_some_iff.1 m1).1
      rw [List.getElem?_set_self hjl] at hx
      cases hx
      obtain ⟨e9, g5, g6, _⟩ := h7 j _ m1
      rw [f3] at g5; cases g5
      refine ⟨{ e with val := K.val a0 q }, by rw [Array.getElem?_modify]; simp [f3], g6, q, rfl, fun s hs => ?_⟩
      obtain ⟨R', k1, k2⟩ := g1 s hs
      exact ⟨R', k1, fun b i hb => .inr (k2 b i hb)⟩
    · rw [List.getElem?_set_ne hlj] at hx
      obtain ⟨e', f1, f2, q', f3, f4⟩ := h7 l x hx
      refine ⟨e', by rw [Array.getElem?_modify, if_neg hlj]; exact f1, f2, q', f3, fun s hs => ?_⟩
      obtain ⟨R', k1, k2⟩ := f4 s hs
      exact ⟨R', k1, fun b i hb => .inl (k2 b i hb)⟩
end
end Go.Sl
namespace Go.Sl
open Go Go.Proofs
set_option maxRecDepth 20000
theorem c260 {p : SP} {xs : List Bytes} {f : Nat} {c1 c2 : Array Value} (pred : Bytes → Bool) (hl : xs.length ≤ 2 ^ 40) (hcb : Cb P f) (hf : ∀ q b, Spec P f (c1.toList ++ [SP.v q b.length] ++ c2.toList) [sl Kb q b] (fun _ : Unit => .bool (pred b)) (fun _ => [sl Kb q b])) :
    Spec P 177 [p.v xs.length, .func (.func f) c1 c2] [sl (Ksl Kb) p xs] (fun _ : Unit => .bool (xs.any pred)) (fun _ => [sl (Ksl Kb) p xs]) := by
  refine Spec.intro Tryz.func177 rfl rfl rfl fun F => ?_
  refine W.rseq ?_
  refine WL.p rfl rfl rfl (PV.as rfl) ?_
  refine WL.next [(4, _), (0, _), (1, _)] ⟨rfl, rfl, rfl, trivial⟩ ?_
  refine W.rseq ?_
  refine WL.p rfl rfl rfl (PV.mv rfl) ?_
  refine WL.p rfl rfl rfl (PV.mv rfl) ?_
  refine WL.putX rfl rfl rfl (OpX.call cb333 (c333 _ (by first | omega | (simp only [List.length_append, List.length_cons, List.length_nil, List.length_take]; omega) | assumption) (by first | omega | (simp only [List.length_append, List.length_cons, List.length_nil, List.length_take]; omega) | assumption) (by first | omega | (simp only [List.length_append, List.length_cons, List.length_nil, List.length_take]; omega) | assumption)) rfl (.cons (i := 0) rfl .nil)) fun x7 => ?_
  refine WL.nm (H' := _ :: _) rfl ?_
  refine WL.p rfl rfl rfl (PV.ge rfl rfl) ?_
  refine WL.p rfl rfl rfl (PV.as rfl) ?_
  refine WL.next [(4, _)] ⟨rfl, trivial⟩ ?_
  refine W.ret ?_
  rotate_left
  refine K.fin (vs := [_]) () ⟨rfl, trivial⟩ ?_ ?_
  · show Value.bool _ = Value.bool _
    rw [← findI_any]
  · refine Ent.keep 0 rfl (sl_pers _ _ _) ?_
    exact Ent.tail (Ent.refl _)
theorem c260n {p : SP} {xs : List Bytes} (hl : xs.length ≤ 2 ^ 40) :
    Spec P 177 [p.v xs.length, .func (.func 178) #[] #[]] [sl (Ksl Kb) p xs] (fun _ : Unit => .bool (xs.any fun b => decide (262144 < (b.length : Int)))) (fun _ => [sl (Ksl Kb) p xs]) :=
  c260 (fun b => decide (262144 < (b.length : Int))) hl cb261 (fun _ _ => c261)
/-- May they be written? -/
def mayL (down : Bool) (xs : List Bytes) : Int := if xs.any (fun b => decide (262144 < (b.length : Int))) then 9 else if down then 6 else 0
theorem c186 {l : Nat} {c0 c1 c2 : Value} {down : Bool} {p : SP} {xs : List Bytes} (hl : xs.length ≤ 2 ^ 40) : Spec P 142 [.pointer (some ⟨l, 0, none⟩), p.v xs.length] [pt l 0 [c0, c1, c2, .bool down], sl (Ksl Kb) p xs] (fun _ : Unit => .int .i64 (mayL down xs)) (fun _ => [pt l 0 [c0, c1, c2, .bool down], sl (Ksl Kb) p xs]) := by
  refine Spec.intro Tryz.func142 rfl rfl rfl fun F => ?_
  refine W.rseq ?_
  refine WL.p rfl rfl rfl (PV.as rfl) ?_
  refine WL.next [(4, _), (0, _), (1, _)] ⟨rfl, rfl, rfl, trivial⟩ ?_
  refine W.bseq ?_
  refine W.rseq ?_
  refine WL.p rfl rfl rfl (PV.mv rfl) ?_
  refine WL.p rfl rfl rfl (PV.eqV rfl rfl rfl (EqIs.p0 ul176)) ?_
  refine WL.p rfl rfl rfl (PV.as rfl) ?_
  refine WL.next [(5, _), (4, _), (0, _), (1, _)] ⟨rfl, rfl, rfl, rfl, trivial⟩ ?_
  refine W.cF rfl ?_
  refine W.rseq ?_
  refine WL.p rfl rfl rfl (PV.mv rfl) ?_
  refine WL.putX rfl rfl rfl (OpX.call cb260 (c260n (by first | omega | (simp only [List.length_append, List.length_cons, List.length_nil, List.length_take]; omega) | assumption)) rfl (.cons (i := 1) rfl .nil)) fun x10 => ?_
  refine WL.nm (H' := _ :: pt _ _ [_, _, _, _] :: _) rfl ?_
  refine WL.p rfl rfl rfl (PV.as rfl) ?_
  refine WL.next [(8, _), (4, _), (0, _)] ⟨rfl, rfl, rfl, trivial⟩ ?_
  refine W.cond rfl (fun h0 => ?_) (fun h0 => ?_)
  refine W.rseq ?_
  refine WL.p rfl rfl rfl (PV.as rfl) ?_
  refine WL.next [(4, _)] ⟨rfl, trivial⟩ ?_
  refine W.ret ?_
  refine K.retB ?_
  refine K.retT ?_
  rotate_left
  refine W.rseq ?_
  refine WL.p rfl rfl rfl (PV.mv rfl) ?_
  refine WL.p rfl rfl rfl (PV.nck rfl) ?_
  refine WL.p rfl rfl rfl (PV.fa fo271_3 rfl rfl) ?_
  refine WL.f rfl rfl rfl (FV.ld (LdD.sc 1 3 sc4 rfl rfl rfl rfl)) ?_
  refine WL.p rfl rfl rfl (PV.as rfl) ?_
  refine WL.next [(11, _), (4, _)] ⟨rfl, rfl, trivial⟩ ?_
  refine W.cond rfl (fun h1 => ?_) (fun h1 => ?_)
  refine W.rseq ?_
  refine WL.p rfl rfl rfl (PV.as rfl) ?_
  refine WL.next [(4, _)] ⟨rfl, trivial⟩ ?_
  refine W.ret ?_
  refine K.retB ?_
  refine K.retT ?_
  rotate_left
  refine W.skip ?_
  refine K.out ?_
  refine K.next [(4, _)] ⟨rfl, trivial⟩ ?_
  refine W.rseq ?_
  refine WL.p rfl rfl rfl (PV.as rfl) ?_
  refine WL.next [(4, _)] ⟨rfl, trivial⟩ ?_
  refine W.ret ?_
  rotate_left
  · have e : mayL down xs = 9 := by unfold mayL; rw [if_pos h0]
    rw [e]
    refine K.fin (vs := [_]) () ⟨rfl, trivial⟩ rfl ?_
    refine Ent.take 1 rfl ?_
    refine Ent.keep 0 rfl (sl_pers _ _ _) ?_
    exact Ent.tail (Ent.refl _)
  · have e : mayL down xs = 6 := by unfold mayL; rw [if_neg (by rw [h0]; simp), if_pos h1]
    rw [e]
    refine K.fin (vs := [_]) () ⟨rfl, trivial⟩ rfl ?_
    refine Ent.take 1 rfl ?_
    refine Ent.keep 0 rfl (sl_pers _ _ _) ?_
    exact Ent.tail (Ent.refl _)
  · have e : mayL down xs = 0 := by unfold mayL; rw [if_neg (by rw [h0]; simp), if_neg (by rw [h1]; simp)]
    rw [e]
    refine K.fin (vs := [_]) () ⟨rfl, trivial⟩ rfl ?_
    refine Ent.take 1 rfl ?_
    refine Ent.keep 0 rfl (sl_pers _ _ _) ?_
    exact Ent.tail (Ent.refl _)
end Go.Sl
namespace Go.Sl
open Go Go.Proofs
set_option maxRecDepth 20000
/-- A log and its disk. -/
structure LM where
  D : DM
  nm : Bytes
  recs : List Bytes
  down : Bool
def LM.append (L : LM) (b : Bytes) : Int × LM :=
  if mayL L.down [b] ≠ 0 then (mayL L.down [b], L)
  else if (L.D.append L.nm (frame b)).1 ≠ 0 then ((L.D.append L.nm (frame b)).1, { L with D := (L.D.append L.nm (frame b)).2, down := L.down || decide ((L.D.append L.nm (frame b)).1 = 6) })
  else if (L.D.append L.nm (frame b)).2.sync.1 ≠ 0 then ((L.D.append L.nm (frame b)).2.sync.1, { L with D := (L.D.append L.nm (frame b)).2.sync.2, down := L.down || decide ((L.D.append L.nm (frame b)).2.sync.1 = 6) })
  else (0, { L with D := (L.D.append L.nm (frame b)).2.sync.2, recs := L.recs ++ [b] })
theorem c116 {l g : Nat} {L : LM} {p : SP} {b : Bytes} (hD : L.D.Ok) (hD2 : (L.D.append L.nm (frame b)).2.Ok) (hn : L.nm.length < 2 ^ 40) (hr : L.recs.length ≤ 2 ^ 40) (hb : b.length ≤ 2 ^ 44) (hfb : (frame b).length ≤ 2 ^ 45) :
    Spec P 120 [.pointer (some ⟨l, 0, none⟩), p.v b.length] [lg l g L.nm L.recs L.down, dsk g L.D, sl Kb p b] (fun _ : Unit => .int .i64 (L.append b).1) (fun _ => [lg l g (L.append b).2.nm (L.append b).2.recs (L.append b).2.down, dsk g (L.append b).2.D, sl Kb p b]) := by
  refine Spec.exI fun q => ?_
  refine Spec.intro Tryz.func120 rfl rfl rfl fun F => ?_
  refine W.rseq ?_
  refine WL.p rfl rfl rfl (PV.as rfl) ?_
  refine WL.next [(4, _), (0, _), (1, _)] ⟨rfl, rfl, rfl, trivial⟩ ?_
  refine W.seq ?_
  refine W.rseq ?_
  refine WL.p rfl rfl rfl (PV.mv rfl) ?_
  refine WL.p rfl rfl rfl (PV.mv rfl) ?_
  refine WL.putX rfl rfl rfl (OpX.rowS (K := (Ksl Kb)) [_] [_] slt182 ⟨_, zr62, rfl⟩ rfl rfl rfl rfl rfl rfl (fun _ h => by first | (simp [innerL, Kb, Kint, Kstr, Kbool] at h; done) | (simp [innerL, Ksl, Kwr, Kmsg] at h; rcases h with h | h | h <;> subst h <;> simp [Sl.rem]) | (simp [innerL, Ksl, Kwr] at h; subst h; simp [Sl.rem]))) fun x10 => ?_
  refine WL.nm (H' := _ :: _ :: pt _ _ [_, _, _, _] :: _ :: _ :: _ :: _ :: _) rfl ?_
  refine WL.putX rfl rfl rfl (OpX.call cb186 (c186 (by first | omega | (simp only [List.length_append, List.length_cons, List.length_nil, List.length_take]; omega) | assumption)) rfl (.cons (i := 2) rfl (.cons (i := 0) rfl .nil))) fun x11 => ?_
  refine WL.nm (H' := pt _ _ [_, _, _, _] :: _ :: _ :: _ :: _ :: _ :: _ :: _) rfl ?_
  refine WL.p rfl rfl rfl (PV.as rfl) ?_
  refine WL.next [(5, _), (4, _), (0, _), (1, _)] ⟨rfl, rfl, rfl, rfl, trivial⟩ ?_
  refine W.rseq ?_
  refine WL.p rfl rfl rfl (PV.mv rfl) ?_
  refine WL.p rfl rfl rfl (PV.neI rfl rfl) ?_
  refine WL.next [(13, _), (5, _), (4, _), (0, _), (1, _)] ⟨rfl, rfl, rfl, rfl, rfl, trivial⟩ ?_
  refine W.condD rfl (fun h0 => ?_) (fun h0 => ?_)
  refine W.rseq ?_
  refine WL.p rfl rfl rfl (PV.mv rfl) ?_
  refine WL.p rfl rfl rfl (PV.as rfl) ?_
  refine WL.next [(4, _), (0, _), (1, _)] ⟨rfl, rfl, rfl, trivial⟩ ?_
  refine W.ret ?_
  refine K.retT ?_
  rotate_left
  refine W.skip ?_
  refine K.next [(4, _), (0, _), (1, _)] ⟨rfl, rfl, rfl, trivial⟩ ?_
  refine W.seq ?_
  refine W.dseq [0, 1, 2, 3, 4, 5, 6, 7, 8, 9, 10, 11] mixedOrders rfl rfl fun hR => ?_
  refine DP.p rfl rfl rfl rfl rfl (PV.mv rfl) ?_
  refine DP.p rfl rfl rfl rfl rfl (PV.nck rfl) ?_
  refine DP.p rfl rfl rfl rfl rfl (PV.fa fo271_0 rfl rfl) ?_
  refine DP.f rfl rfl rfl rfl rfl (FV.ld (LdD.sc 0 0 sc24 rfl rfl rfl rfl)) ?_
  refine DP.p rfl rfl rfl rfl rfl (PV.mv rfl) ?_
  refine DP.p rfl rfl rfl rfl rfl (PV.nck rfl) ?_
  refine DP.p rfl rfl rfl rfl rfl (PV.fa fo271_1 rfl rfl) ?_
  refine DP.f rfl rfl rfl rfl rfl (FV.ld (LdD.sc 0 1 sc9 rfl rfl rfl rfl)) ?_
  refine DP.p rfl rfl rfl rfl rfl (PV.mv rfl) ?_
  refine DP.e hR [(7, _), (3, _)] rfl rfl rfl rfl rfl (OpX.call cb192 (c192 (by first | omega | (simp only [List.length_append, List.length_cons, List.length_nil, List.length_take]; omega) | assumption)) rfl (.cons (i := 6) rfl .nil)) rfl (fun _ => (KeepL.keep rfl (FloatAt.of rfl (by first | exact FV.ld (LdD.sc 0 1 sc9 rfl rfl rfl rfl) | exact FV.ld (LdD.ag (us := _) 0 1 ag9 rfl rfl rfl rfl rfl) | exact FV.ld (LdD.sc 1 1 sc9 rfl rfl rfl rfl) | exact FV.ld (LdD.ag (us := _) 1 1 ag9 rfl rfl rfl rfl rfl) | exact FV.ld (LdD.sc 2 1 sc9 rfl rfl rfl rfl) | exact FV.ld (LdD.ag (us := _) 2 1 ag9 rfl rfl rfl rfl rfl) | exact FV.ld (LdD.sc 3 1 sc9 rfl rfl rfl rfl) | exact FV.ld (LdD.ag (us := _) 3 1 ag9 rfl rfl rfl rfl rfl) | exact FV.ld (LdD.sc 4 1 sc9 rfl rfl rfl rfl) | exact FV.ld (LdD.ag (us := _) 4 1 ag9 rfl rfl rfl rfl rfl))) (KeepL.keep rfl (FloatAt.of rfl (by first | exact FV.ld (LdD.sc 0 0 sc24 rfl rfl rfl rfl) | exact FV.ld (LdD.ag (us := _) 0 0 ag24 rfl rfl rfl rfl rfl) | exact FV.ld (LdD.sc 1 0 sc24 rfl rfl rfl rfl) | exact FV.ld (LdD.ag (us := _) 1 0 ag24 rfl rfl rfl rfl rfl) | exact FV.ld (LdD.sc 2 0 sc24 rfl rfl rfl rfl) | exact FV.ld (LdD.ag (us := _) 2 0 ag24 rfl rfl rfl rfl rfl) | exact FV.ld (LdD.sc 3 0 sc24 rfl rfl rfl rfl) | exact FV.ld (LdD.ag (us := _) 3 0 ag24 rfl rfl rfl rfl rfl) | exact FV.ld (LdD.sc 4 0 sc24 rfl rfl rfl rfl) | exact FV.ld (LdD.ag (us := _) 4 0 ag24 rfl rfl rfl rfl rfl))) KeepL.nil))) fun x24 => ?_
  refine DP.nm (H' := _ :: _ :: _ :: pt _ _ [_, _, _, _] :: _ :: _ :: _ :: _ :: _ :: _) rfl ?_
  refine DP.e hR [] rfl rfl rfl rfl rfl (OpX.call cb191 (c191 (by first | omega | (simp only [List.length_append, List.length_cons, List.length_nil, List.length_take]; omega) | assumption) (by first | omega | (simp only [List.length_append, List.length_cons, List.length_nil, List.length_take]; omega) | assumption) (by first | omega | (simp only [List.length_append, List.length_cons, List.length_nil, List.length_take]; omega) | assumption)) rfl (.cons (i := 8) rfl (.cons (i := 0) rfl .nil))) rfl (fun _ => (KeepL.drop rfl (KeepL.drop rfl KeepL.nil))) fun x25 => ?_
  refine DP.nm (H' := _ :: _ :: _ :: _ :: pt _ _ [_, _, _, _] :: _ :: _ :: _ :: _ :: _) rfl ?_
  refine DP.p rfl rfl rfl rfl rfl (PV.as rfl) ?_
  refine DP.fin hR ?_
  clear hR
  refine K.next [(6, _), (4, _), (0, _), (1, _)] ⟨rfl, rfl, rfl, rfl, trivial⟩ ?_
  refine W.rseq ?_
  refine WL.p rfl rfl rfl (PV.mv rfl) ?_
  refine WL.p rfl rfl rfl (PV.neI rfl rfl) ?_
  refine WL.next [(27, _), (6, _), (4, _), (0, _), (1, _)] ⟨rfl, rfl, rfl, rfl, rfl, trivial⟩ ?_
  refine W.condD rfl (fun h1 => ?_) (fun h1 => ?_)
  refine W.rseq ?_
  refine WL.p rfl rfl rfl (PV.mv rfl) ?_
  refine WL.p rfl rfl rfl (PV.mv rfl) ?_
  refine WL.putX rfl rfl rfl (OpX.call cb187 (c187) rfl (.cons (i := 4) rfl .nil)) fun x30 => ?_
  refine WL.nm (H' := pt _ _ [_, _, _, _] :: _ :: _ :: _ :: _ :: _ :: _ :: _ :: _ :: _) rfl ?_
  refine WL.p rfl rfl rfl (PV.as rfl) ?_
  refine WL.next [(4, _), (0, _), (1, _)] ⟨rfl, rfl, rfl, trivial⟩ ?_
  refine W.ret ?_
  refine K.retT ?_
  rotate_left
  refine W.skip ?_
  refine K.next [(4, _), (0, _), (1, _)] ⟨rfl, rfl, rfl, trivial⟩ ?_
  refine W.seq ?_
  refine W.rseq ?_
  refine WL.p rfl rfl rfl (PV.mv rfl) ?_
  refine WL.p rfl rfl rfl (PV.nck rfl) ?_
  refine WL.p rfl rfl rfl (PV.fa fo271_0 rfl rfl) ?_
  refine WL.f rfl rfl rfl (FV.ld (LdD.sc 4 0 sc24 rfl rfl rfl rfl)) ?_
  refine WL.putX rfl rfl rfl (OpX.call cb193 (c193 (by first | omega | (simp only [List.length_append, List.length_cons, List.length_nil, List.length_take]; omega) | assumption)) rfl (.cons (i := 0) rfl .nil)) fun x35 => ?_
  refine WL.nm (H' := _ :: _ :: _ :: _ :: pt _ _ [_, _, _, _] :: _ :: _ :: _ :: _ :: _) rfl ?_
  refine WL.p rfl rfl rfl (PV.as rfl) ?_
  refine WL.next [(7, _), (4, _), (0, _), (1, _)] ⟨rfl, rfl, rfl, rfl, trivial⟩ ?_
  refine W.rseq ?_
  refine WL.p rfl rfl rfl (PV.mv rfl) ?_
  refine WL.p rfl rfl rfl (PV.neI rfl rfl) ?_
  refine WL.next [(37, _), (7, _), (4, _), (0, _), (1, _)] ⟨rfl, rfl, rfl, rfl, rfl, trivial⟩ ?_
  refine W.condD rfl (fun h2 => ?_) (fun h2 => ?_)
  refine W.rseq ?_
  refine WL.p rfl rfl rfl (PV.mv rfl) ?_
  refine WL.p rfl rfl rfl (PV.mv rfl) ?_
  refine WL.putX rfl rfl rfl (OpX.call cb187 (c187) rfl (.cons (i := 4) rfl .nil)) fun x40 => ?_
  refine WL.nm (H' := pt _ _ [_, _, _, _] :: _ :: _ :: _ :: _ :: _ :: _ :: _ :: _ :: _) rfl ?_
  refine WL.p rfl rfl rfl (PV.as rfl) ?_
  refine WL.next [(4, _), (0, _), (1, _)] ⟨rfl, rfl, rfl, trivial⟩ ?_
  refine W.ret ?_
  refine K.retT ?_
  rotate_left
  refine W.skip ?_
  refine K.next [(4, _), (0, _), (1, _)] ⟨rfl, rfl, rfl, trivial⟩ ?_
  refine W.dseq [0, 1, 2, 3, 4, 5, 6, 7, 8, 9, 10, 11] mixedOrders rfl rfl fun hR => ?_
  refine DP.p rfl rfl rfl rfl rfl (PV.mv rfl) ?_
  refine DP.p rfl rfl rfl rfl rfl (PV.mv rfl) ?_
  refine DP.p rfl rfl rfl rfl rfl (PV.nck rfl) ?_
  refine DP.p rfl rfl rfl rfl rfl (PV.fa fo271_2 rfl rfl) ?_
  refine DP.f rfl rfl rfl rfl rfl (FV.ld (LdD.sc 4 2 sc182 rfl rfl rfl rfl)) ?_
  refine DP.p rfl rfl rfl rfl rfl (PV.mv rfl) ?_
  refine DP.e hR [(4, _)] rfl rfl rfl rfl rfl (OpX.call cb179 (c179 (by first | omega | (simp only [List.length_append, List.length_cons, List.length_nil, List.length_take]; omega) | assumption)) rfl (.cons (i := 3) rfl .nil)) rfl (fun _ => (KeepL.keep rfl (FloatAt.of rfl (by first | exact FV.ld (LdD.sc 4 2 sc182 rfl rfl rfl rfl) | exact FV.ld (LdD.ag (us := _) 4 2 ag182 rfl rfl rfl rfl rfl) | exact FV.ld (LdD.sc 5 2 sc182 rfl rfl rfl rfl) | exact FV.ld (LdD.ag (us := _) 5 2 ag182 rfl rfl rfl rfl rfl) | exact FV.ld (LdD.sc 6 2 sc182 rfl rfl rfl rfl) | exact FV.ld (LdD.ag (us := _) 6 2 ag182 rfl rfl rfl rfl rfl) | exact FV.ld (LdD.sc 7 2 sc182 rfl rfl rfl rfl) | exact FV.ld (LdD.ag (us := _) 7 2 ag182 rfl rfl rfl rfl rfl) | exact FV.ld (LdD.sc 8 2 sc182 rfl rfl rfl rfl) | exact FV.ld (LdD.ag (us := _) 8 2 ag182 rfl rfl rfl rfl rfl))) KeepL.nil)) fun x47 => ?_
  refine DP.nm (H' := _ :: _ :: _ :: _ :: _ :: _ :: pt _ _ [_, _, _, _] :: _ :: _ :: _ :: _ :: _) rfl ?_
  refine DP.e hR [(4, _)] rfl rfl rfl rfl rfl (OpX.rowS (K := (Ksl Kb)) [_] [_] slt182 ⟨_, zr62, rfl⟩ rfl rfl rfl rfl rfl rfl (fun _ h => by first | (simp [innerL, Kb, Kint, Kstr, Kbool] at h; done) | (simp [innerL, Ksl, Kwr, Kmsg] at h; rcases h with h | h | h <;> subst h <;> simp [Sl.rem]) | (simp [innerL, Ksl, Kwr] at h; subst h; simp [Sl.rem]))) rfl (fun _ => (KeepL.keep rfl (FloatAt.of rfl (by first | exact FV.ld (LdD.sc 6 2 sc182 rfl rfl rfl rfl) | exact FV.ld (LdD.ag (us := _) 6 2 ag182 rfl rfl rfl rfl rfl) | exact FV.ld (LdD.sc 7 2 sc182 rfl rfl rfl rfl) | exact FV.ld (LdD.ag (us := _) 7 2 ag182 rfl rfl rfl rfl rfl) | exact FV.ld (LdD.sc 8 2 sc182 rfl rfl rfl rfl) | exact FV.ld (LdD.ag (us := _) 8 2 ag182 rfl rfl rfl rfl rfl) | exact FV.ld (LdD.sc 9 2 sc182 rfl rfl rfl rfl) | exact FV.ld (LdD.ag (us := _) 9 2 ag182 rfl rfl rfl rfl rfl) | exact FV.ld (LdD.sc 10 2 sc182 rfl rfl rfl rfl) | exact FV.ld (LdD.ag (us := _) 10 2 ag182 rfl rfl rfl rfl rfl))) KeepL.nil)) fun x48 => ?_
  refine DP.nm (H' := _ :: _ :: _ :: _ :: _ :: _ :: _ :: _ :: pt _ _ [_, _, _, _] :: _ :: _ :: _ :: _ :: _) rfl ?_
  refine DP.e hR [] rfl rfl rfl rfl rfl (OpX.app 12 11 slt182 ni182 rfl rfl rfl rfl (SrcV.atSl 0 rfl) (by first | omega | (simp only [List.length_append, List.length_cons, List.length_nil, List.length_take]; omega) | assumption) (by first | omega | (simp only [List.length_append, List.length_cons, List.length_nil, List.length_take]; omega) | assumption)) rfl (fun _ => (KeepL.drop rfl KeepL.nil)) fun x49 => ?_
  refine DP.nm (H' := _ :: _ :: _ :: _ :: _ :: _ :: _ :: _ :: _ :: _ :: pt _ _ [_, _, _, _] :: _ :: _ :: _ :: _) rfl ?_
  refine DP.p rfl rfl rfl rfl rfl (PV.nck rfl) ?_
  refine DP.p rfl rfl rfl rfl rfl (PV.fa fo271_2 rfl rfl) ?_
  refine DP.e0 hR [] rfl rfl rfl (OpD.st 10 2 sz182 rfl rfl rfl rfl rfl rfl (NA.one (NA.sl _ _ _))) rfl (fun _ => KeepL.nil) fun _ => ?_
  refine DP.nm (H' := _ :: _ :: _ :: _ :: _ :: _ :: _ :: _ :: _ :: _ :: pt _ _ [_, _, _, _] :: _ :: _ :: _ :: _) rfl ?_
  refine DP.fin hR ?_
  clear hR
  refine K.next [(4, _)] ⟨rfl, trivial⟩ ?_
  refine W.rseq ?_
  refine WL.p rfl rfl rfl (PV.as rfl) ?_
  refine WL.next [(4, _)] ⟨rfl, trivial⟩ ?_
  refine W.ret ?_
  rotate_left
  · have e : L.append b = (mayL L.down [b], L) := by
      unfold LM.append; rw [if_pos h0]
    rw [e]
    refine K.fin (vs := [_]) () ⟨rfl, trivial⟩ rfl (Ent.fold (f := lgF l g L.nm L.recs L.down) q ?_)
    refine Ent.take 0 rfl ?_
    refine Ent.keep 2 rfl (sl_pers _ _ _) ?_
    refine Ent.take 3 rfl ?_
    refine Ent.take 3 rfl ?_
    refine Ent.keep 3 rfl (sl_pers _ _ _) ?_
    exact Ent.tail (Ent.tail (Ent.tail (Ent.tail (Ent.refl _))))
  · have e : L.append b = ((L.D.append L.nm (frame b)).1, { L with D := (L.D.append L.nm (frame b)).2, down := L.down || decide ((L.D.append L.nm (frame b)).1 = 6) }) := by
      unfold LM.append; rw [if_neg h0, if_pos h1]
    rw [e]
    refine K.fin (vs := [_]) () ⟨rfl, trivial⟩ rfl (Ent.fold (f := lgF l g L.nm L.recs (L.down || decide ((L.D.append L.nm (frame b)).1 = 6))) q ?_)
    refine Ent.take 0 rfl ?_
    refine Ent.keep 6 rfl (sl_pers _ _ _) ?_
    refine Ent.take 7 rfl ?_
    refine Ent.take 0 rfl ?_
    refine Ent.keep 2 rfl (sl_pers _ _ _) ?_
    exact Ent.tail (Ent.tail (Ent.tail (Ent.tail (Ent.tail (Ent.tail (Ent.refl _))))))
  · have e : L.append b = ((L.D.append L.nm (frame b)).2.sync.1, { L with D := (L.D.append L.nm (frame b)).2.sync.2, down := L.down || decide ((L.D.append L.nm (frame b)).2.sync.1 = 6) }) := by
      unfold LM.append; rw [if_neg h0, if_neg h1, if_pos h2]
    rw [e]
    refine K.fin (vs := [_]) () ⟨rfl, trivial⟩ rfl (Ent.fold (f := lgF l g L.nm L.recs (L.down || decide ((L.D.append L.nm (frame b)).2.sync.1 = 6))) q ?_)
    refine Ent.take 0 rfl ?_
    refine Ent.keep 6 rfl (sl_pers _ _ _) ?_
    refine Ent.take 7 rfl ?_
    refine Ent.take 0 rfl ?_
    refine Ent.keep 2 rfl (sl_pers _ _ _) ?_
    exact Ent.tail (Ent.tail (Ent.tail (Ent.tail (Ent.tail (Ent.tail (Ent.refl _))))))
  · have e : L.append b = (0, { L with D := (L.D.append L.nm (frame b)).2.sync.2, recs := L.recs ++ [b] }) := by
      unfold LM.append; rw [if_neg h0, if_neg h1, if_neg h2]
    rw [e]
    refine K.fin (vs := [_]) () ⟨rfl, trivial⟩ rfl (Ent.fold (f := lgF l g L.nm (L.recs ++ [b]) L.down) x49 ?_)
    refine Ent.take 10 rfl ?_
    refine Ent.keep 0 rfl (sl_pers _ _ _) ?_
    refine Ent.take 1 rfl ?_
    refine Ent.take 6 rfl ?_
    refine Ent.keep 5 rfl (sl_pers _ _ _) ?_
    exact Ent.tail (Ent.tail (Ent.tail (Ent.tail (Ent.tail (Ent.tail (Ent.tail (Ent.tail (Ent.tail (Ent.tail (Ent.tail (Ent.refl _)))))))))))
end Go.Sl
namespace Go.Sl
open Go Go.Proofs
set_option maxRecDepth 20000
/-- The number of bytes, the lowest first. -/
def leN : Bytes → Nat
  | [] => 0
  | b :: l => b.toNat + 256 * leN l
theorem leN_app : ∀ (l : Bytes) (b : UInt8), leN (l ++ [b]) = leN l + b.toNat * 256 ^ l.length
  | [], b => by simp [leN]
  | a :: l, b => by
    rw [List.cons_append, leN, leN_app l b, leN, List.length_cons, Nat.pow_succ, Nat.mul_add, ← Nat.add_assoc]
    congr 1
    rw [← Nat.mul_assoc, Nat.mul_comm 256, Nat.mul_assoc, Nat.mul_comm 256]
theorem leN_lt : ∀ (l : Bytes), leN l < 256 ^ l.length
  | [] => by simp [leN]
  | a :: l => by
    have := leN_lt l
    have h2 := a.toNat_lt
    rw [leN, List.length_cons, Nat.pow_succ]
    omega
theorem wrap32_of {m : Int} (h : 0 ≤ m ∧ m < 4294967296) : IntKind.u32.wrap m = m := by
  have e1 : (2 : Int) ^ IntKind.u32.bits = 4294967296 := by decide
  unfold IntKind.wrap
  simp only [e1, show IntKind.u32.signed = false from rfl, Bool.false_and, Bool.false_eq_true, if_false]
  omega
theorem wrap32_rng (m : Int) : 0 ≤ IntKind.u32.wrap m ∧ IntKind.u32.wrap m < 4294967296 := by
  have e1 : (2 : Int) ^ IntKind.u32.bits = 4294967296 := by decide
  unfold IntKind.wrap
  simp only [e1, show IntKind.u32.signed = false from rfl, Bool.false_and, Bool.false_eq_true, if_false]
  omega
theorem crc_rng (bs : Bytes) : 0 ≤ crc bs ∧ crc bs < 4294967296 := wrap32_rng _
theorem ofNat_toNat32 {m : Nat} (h : m < 4294967296) : (BitVec.ofInt IntKind.u32.bits (m : Int)).toNat = m := by
  show (BitVec.ofInt 32 (m : Int)).toNat = m
  simp [BitVec.toNat_ofInt]
  omega
theorem or32 {a b k : Nat} (ha : a < 256 ^ k) (hb : b < 256) (hk : k < 4) : IntKind.u32.wrap (BitVec.ofInt IntKind.u32.bits (a : Int) ||| BitVec.ofInt IntKind.u32.bits (IntKind.u32.wrap ((IntKind.u32.wrap (b : Int)) * 2 ^ min (Int.toNat (8 * (k : Int))) IntKind.u32.bits))).toNat = ((a + b * 256 ^ k : Nat) : Int) := by
  have e8 : (256 : Nat) ^ k = 2 ^ (8 * k) := by rw [Nat.pow_mul]
  have hpk : (256 : Nat) ^ k ≤ 256 ^ 3 := Nat.pow_le_pow_right (by omega) (by omega)
  have hbk : b * 256 ^ k + 256 ^ k ≤ 4294967296 := by
    have h1 : b * 256 ^ k + 256 ^ k = (b + 1) * 256 ^ k := by rw [Nat.add_mul, Nat.one_mul]
    rw [h1]
    have : (b + 1) * 256 ^ k ≤ 256 * 256 ^ 3 := Nat.mul_le_mul (by omega) hpk
    exact Nat.le_trans this (by decide)
  have e1 : min (Int.toNat (8 * (k : Int))) IntKind.u32.bits = 8 * k := by
    have : IntKind.u32.bits = 32 := rfl
    omega
  rw [e1, wrap32_of (m := (b : Int)) (by omega)]
  have e2 : ((b : Int) * 2 ^ (8 * k)) = ((b * 256 ^ k : Nat) : Int) := by rw [e8]; push_cast; rfl
  rw [e2, wrap32_of (m := ((b * 256 ^ k : Nat) : Int)) (by constructor <;> omega)]
  rw [BitVec.toNat_or, ofNat_toNat32 (by omega), ofNat_toNat32 (by omega)]
  have e3 : a ||| b * 256 ^ k = a + b * 256 ^ k := by
    rw [e8] at ha ⊢
    rw [Nat.or_comm, Nat.mul_comm, ← Nat.two_pow_add_eq_or_of_lt ha, Nat.add_comm]
  rw [e3, wrap32_of (by constructor <;> omega)]
theorem leN_le4 {n : Int} (h : 0 ≤ n ∧ n < 4294967296) : (leN (le4 n) : Int) = n := by
  have hb : ∀ m : Int, ((b8 m).toNat : Int) = m % 256 := by
    intro m
    unfold b8
    have h0 : 0 ≤ m % 256 := Int.emod_nonneg _ (by omega)
    have h1 : m % 256 < 256 := Int.emod_lt_of_pos _ (by omega)
    rw [UInt8.toNat_ofNat']; omega
  have e1 : min (Int.toNat 8) IntKind.u32.bits = 8 := rfl
  have e2 : min (Int.toNat 16) IntKind.u32.bits = 16 := rfl
  have e3 : min (Int.toNat 24) IntKind.u32.bits = 24 := rfl
  unfold le4
  rw [e1, e2, e3]
  simp only [leN]
  push_cast
  rw [hb, hb, hb, hb]
  rw [Int.fdiv_eq_ediv_of_nonneg _ (by decide), Int.fdiv_eq_ediv_of_nonneg _ (by decide), Int.fdiv_eq_ediv_of_nonneg _ (by decide)]
  omega
/-- Open, of what was sealed. -/
theorem c248 {p : SP} {bs : Bytes} (hl : bs.length ≤ 2 ^ 46 - 8) : Spec P 106 [p.v (seal4 bs).length] [sl Kb p (seal4 bs)] (fun q : SP => .tuple #[q.v bs.length, .bool true]) (fun q => [sl Kb q bs, tl 1 q bs.length, sl Kb p (seal4 bs)]) := by
  refine Spec.intro Tryz.func106 rfl rfl rfl fun F => ?_
  refine W.fact (sl_fact 0 rfl) fun hp => ?_
  have hs : (seal4 bs).length = bs.length + 4 := by unfold seal4; rw [List.length_append]; rfl
  refine W.rseq ?_
  refine WL.p rfl rfl rfl (PV.as rfl) ?_
  refine WL.p rfl rfl rfl (PV.as rfl) ?_
  refine WL.next [(3, _), (2, _), (0, _)] ⟨rfl, rfl, rfl, trivial⟩ ?_
  refine W.seq ?_
  refine W.rseq ?_
  refine WL.p rfl rfl rfl (PV.mv rfl) ?_
  refine WL.p rfl rfl rfl (PV.lenL ul62 rfl rfl) ?_
  refine WL.p rfl rfl rfl (PV.lt rfl rfl) ?_
  refine WL.next [(11, _), (3, _), (2, _), (0, _)] ⟨rfl, rfl, rfl, rfl, trivial⟩ ?_
  refine W.condD rfl (fun h0 => ?_) (fun h0 => ?_)
  refine W.rseq ?_
  refine WL.p rfl rfl rfl (PV.as rfl) ?_
  refine WL.p rfl rfl rfl (PV.as rfl) ?_
  refine WL.next [(3, _), (2, _), (0, _)] ⟨rfl, rfl, rfl, trivial⟩ ?_
  refine W.ret ?_
  refine K.retT ?_
  rotate_left
  refine W.skip ?_
  refine K.next [(3, _), (2, _), (0, _)] ⟨rfl, rfl, rfl, trivial⟩ ?_
  refine W.dseq [0, 1, 2, 3, 4, 5, 6, 7, 8, 9, 10, 11] mixedOrders rfl rfl fun hR => ?_
  refine DP.p rfl rfl rfl rfl rfl (PV.mv rfl) ?_
  refine DP.p rfl rfl rfl rfl rfl (PV.mv rfl) ?_
  refine DP.p rfl rfl rfl rfl rfl (PV.lenL ul62 rfl rfl) ?_
  refine DP.p rfl rfl rfl rfl rfl (PV.sub64 rfl rfl (by omega)) ?_
  refine DP.p rfl rfl rfl rfl rfl (PV.cutL ul62 sz5 rfl rfl rfl (by omega) (by omega) (by omega)) ?_
  refine DP.p rfl rfl rfl rfl rfl (PV.mv rfl) ?_
  refine DP.p rfl rfl rfl rfl rfl (PV.mv rfl) ?_
  refine DP.p rfl rfl rfl rfl rfl (PV.lenL ul62 rfl rfl) ?_
  refine DP.p rfl rfl rfl rfl rfl (PV.sub64 rfl rfl (by omega)) ?_
  refine DP.p rfl rfl rfl rfl rfl (PV.cutL ul62 sz5 rfl rfl rfl (by omega) (by omega) (by omega)) ?_
  refine DP.p rfl rfl rfl rfl rfl (PV.as rfl) ?_
  refine DP.p rfl rfl rfl rfl rfl (PV.as rfl) ?_
  refine DP.fin hR ?_
  clear hR
  refine K.next [(5, _), (4, _), (3, _), (2, _)] ⟨rfl, rfl, rfl, rfl, trivial⟩ ?_
  refine W.rseq ?_
  refine WL.p rfl rfl rfl (PV.as rfl) ?_
  refine WL.next [(6, _), (5, _), (4, _), (3, _), (2, _)] ⟨rfl, rfl, rfl, rfl, rfl, trivial⟩ ?_
  refine W.seq ?_
  refine W.rseq ?_
  refine WL.p rfl rfl rfl (PV.mv rfl) ?_
  refine WL.p rfl rfl rfl (PV.lenL ul62 rfl rfl) ?_
  refine WL.p rfl rfl rfl (PV.mv rfl) ?_
  refine WL.next [(24, _), (23, _), (22, _), (6, _), (4, _), (3, _), (2, _)] ⟨rfl, rfl, rfl, rfl, rfl, rfl, rfl, trivial⟩ ?_
  refine W.block ?_
  rotate_left
  · exfalso; omega
  · have e1 : (((seal4 bs).length : Int) - 4).toNat - Int.toNat 0 = bs.length := by omega
    have e2 : ((seal4 bs).length : Int).toNat - (((seal4 bs).length : Int) - 4).toNat = 4 := by omega
    have e3 : (((seal4 bs).length : Int) - 4).toNat = bs.length := by omega
    rw [e1, e2, e3]
    refine W.cutK 0 bs.length p.c 4 (le4 (crc bs)) rfl (Nat.le_refl _) (by omega) (by simp [seal4, le4]) ?_
    refine W.cutK 1 0 p.c bs.length bs rfl (Nat.le_refl _) (by omega) (by simp [seal4]) ?_
    refine W.nm (H' := sl Kb _ bs :: _ :: sl Kb _ (le4 (crc bs)) :: _) rfl ?_
    obtain ⟨q1, hq1⟩ : ∃ q, q = p.cut 1 (Int.toNat 0) p.c := ⟨_, rfl⟩
    obtain ⟨q2, hq2⟩ : ∃ q, q = p.cut 1 bs.length p.c := ⟨_, rfl⟩
    show W _ _ _ _ [(24, _), (23, _), (22, (p.cut 1 bs.length p.c).v 4), (6, _), (4, (p.cut 1 (Int.toNat 0) p.c).v bs.length), (3, _), (2, _)] (sl Kb (p.cut 1 (Int.toNat 0) p.c) bs :: _ :: sl Kb (p.cut 1 bs.length p.c) _ :: _)
    rw [← hq1, ← hq2]
    have hl4 : (le4 (crc bs)).length = 4 := rfl
    refine W.loopP (X := Nat) (fun k => k ≤ 4) (fun k => [(24, .int .i64 k), (23, .int .i64 (4 : Nat)), (22, q2.v 4), (6, .int .u32 (leN ((le4 (crc bs)).take k))), (4, q1.v bs.length)])
      (fun _ => sl Kb q1 bs :: sl Kb p (seal4 bs) :: sl Kb q2 (le4 (crc bs)) :: F) (fun k => 4 - k) 0 (Nat.zero_le _) ⟨rfl, rfl, rfl, rfl, rfl, trivial⟩ (Ent.refl _) fun k hk => ?_
    refine W.fact (sl_fact 2 rfl) fun hp2 => ?_
    rw [hl4] at hp2
    refine W.rseq ?_
    refine WL.p rfl rfl rfl (PV.lt rfl rfl) ?_
    refine WL.next [(25, _), (24, _), (23, _), (22, _), (6, _), (4, _)] ⟨rfl, rfl, rfl, rfl, rfl, rfl, trivial⟩ ?_
    refine W.seq ?_
    refine W.condD rfl (fun h0 => ?_) (fun h0 => ?_)
    refine W.skip ?_
    refine K.next [(24, _), (23, _), (22, _), (6, _), (4, _)] ⟨rfl, rfl, rfl, rfl, rfl, trivial⟩ ?_
    refine W.bseq ?_
    refine W.rseq ?_
    refine WL.p rfl rfl rfl (PV.mv rfl) ?_
    refine WL.p rfl rfl rfl (PV.ixN (by assumption) ul62 sz5 rfl rfl (by omega)) ?_
    refine WL.f rfl rfl rfl (FV.ld (LdD.sl1B 2 sc5 rfl rfl rfl (by omega))) ?_
    refine WL.p rfl rfl rfl (PV.as rfl) ?_
    refine WL.p rfl rfl rfl (PV.as rfl) ?_
    refine WL.next [(8, _), (7, _), (24, _), (23, _), (22, _), (6, _), (4, _)] ⟨rfl, rfl, rfl, rfl, rfl, rfl, rfl, trivial⟩ ?_
    refine W.region ?_
    refine WL.p rfl rfl rfl (PV.mv rfl) ?_
    refine WL.p rfl rfl rfl (PV.mv rfl) ?_
    refine WL.p rfl rfl rfl (PV.cvI ul370 us5 rfl) ?_
    refine WL.p rfl rfl rfl (PV.mv rfl) ?_
    refine WL.p rfl rfl rfl (PV.mul64 rfl rfl (by omega)) ?_
    refine WL.p rfl rfl rfl (PV.shl rfl rfl (by omega)) ?_
    refine WL.p rfl rfl rfl (PV.or rfl rfl) ?_
    refine WL.p rfl rfl rfl (PV.as rfl) ?_
    refine WL.nil ?_
    refine K.out ?_
    refine K.next [(6, _), (24, _), (23, _), (22, _), (4, _)] ⟨rfl, rfl, rfl, rfl, rfl, trivial⟩ ?_
    refine W.region ?_
    refine WL.p rfl rfl rfl (PV.add64 rfl rfl (by omega)) ?_
    refine WL.p rfl rfl rfl (PV.mv rfl) ?_
    refine WL.nil ?_
    rotate_left
    refine W.exit ?_
    refine K.exitT ?_
    refine K.exitT ?_
    refine K.exit ?_
    refine K.next [(6, _), (4, _)] ⟨rfl, rfl, trivial⟩ ?_
    refine W.seq ?_
    refine W.rseq ?_
    refine WL.p rfl rfl rfl (PV.mv rfl) ?_
    refine WL.p rfl rfl rfl (PV.mv rfl) ?_
    refine WL.putX rfl rfl rfl (OpX.call cb322 (c322 (by first | omega | (simp only [List.length_append, List.length_cons, List.length_nil, List.length_take]; omega) | assumption)) rfl (.cons (i := 0) rfl .nil)) fun x39 => ?_
    refine WL.nm (H' := _ :: _ :: _ :: _) rfl ?_
    refine WL.p rfl rfl rfl (PV.neI rfl rfl) ?_
    refine WL.next [(40, _), (4, _)] ⟨rfl, rfl, trivial⟩ ?_
    refine W.condD rfl (fun h1 => ?_) (fun h1 => ?_)
    refine W.rseq ?_
    refine WL.p rfl rfl rfl (PV.as rfl) ?_
    refine WL.p rfl rfl rfl (PV.as rfl) ?_
    refine WL.next [(3, _), (2, _), (4, _)] ⟨rfl, rfl, rfl, trivial⟩ ?_
    refine W.ret ?_
    refine K.retT ?_
    rotate_left
    refine W.skip ?_
    refine K.next [(4, _)] ⟨rfl, trivial⟩ ?_
    refine W.rseq ?_
    refine WL.p rfl rfl rfl (PV.mv rfl) ?_
    refine WL.putX rfl rfl rfl (OpX.app0 slt62 ni62 rfl rfl (SrcV.atSl 0 rfl) (by first | omega | (simp only [List.length_append, List.length_cons, List.length_nil, List.length_take]; omega) | assumption) (by first | omega | (simp only [List.length_append, List.length_cons, List.length_nil, List.length_take]; omega) | assumption)) fun x42 => ?_
    refine WL.nm (H' := _ :: _ :: _ :: _ :: _ :: _) rfl ?_
    refine WL.p rfl rfl rfl (PV.as rfl) ?_
    refine WL.p rfl rfl rfl (PV.as rfl) ?_
    refine WL.next [(3, _), (2, _)] ⟨rfl, rfl, trivial⟩ ?_
    refine W.ret ?_
    rotate_left
    · have e : IntKind.u32.wrap (BitVec.ofInt IntKind.u32.bits (leN ((le4 (crc bs)).take k) : Int) ||| BitVec.ofInt IntKind.u32.bits (IntKind.u32.wrap ((IntKind.u32.wrap (((le4 (crc bs))[k]'(by omega)).toNat : Int)) * 2 ^ min (Int.toNat (8 * (k : Int))) IntKind.u32.bits))).toNat = ((leN ((le4 (crc bs)).take (k + 1)) : Nat) : Int) := by
        have h1 := leN_lt ((le4 (crc bs)).take k)
        have h2 : ((le4 (crc bs)).take k).length = k := by rw [List.length_take]; omega
        rw [h2] at h1
        rw [or32 h1 (UInt8.toNat_lt _) (by omega), List.take_succ_eq_append_getElem (by omega), leN_app, h2]
      refine K.againP (k + 1) (by omega) (by omega) ⟨rfl, rfl, rfl, by rw [← e]; rfl, rfl, trivial⟩ ?_
      refine Ent.keep 0 rfl (sl_pers _ _ _) ?_
      refine Ent.keep 1 rfl (sl_pers _ _ _) ?_
      refine Ent.keep 2 rfl (sl_pers _ _ _) ?_
      exact Ent.tail (Ent.tail (Ent.tail (Ent.refl _)))
    · exfalso
      have hk4 : k = 4 := by omega
      subst hk4
      exact h1 (leN_le4 (crc_rng bs))
    · refine K.fin (vs := [_, _]) x42 ⟨rfl, rfl, trivial⟩ rfl ?_
      refine Ent.keep 0 rfl (sl_pers _ _ _) ?_
      refine Ent.take 1 rfl ?_
      refine Ent.keep 2 rfl (sl_pers _ _ _) ?_
      exact Ent.tail (Ent.tail (Ent.tail (Ent.tail (Ent.refl _))))
end Go.Sl
/-! Frames, asx bytes. -/
namespace Go.Sl
open Go
/-- The file of records. -/
def flat (recs : List Bytes) : Bytes := (recs.map frame).flatten
theorem be4_numB (n : Nat) : be4 n = numB n 4 := by
  have e : b8 ((n : Int).fdiv (2 ^ min (8 * 0) 64)) = b8 n := by simp
  show [_, _, _, _] = [_, _, _, b8 ((n : Int).fdiv (2 ^ min (8 * 0) 64))]
  rw [e]; rfl
theorem beN_be4 {n : Nat} (h : n < 4294967296) : beN (be4 n) = n := by rw [be4_numB, numB_inv (by omega) h]
theorem be4_len (n : Int) : (be4 n).length = 4 := rfl
theorem seal4_len (b : Bytes) : (seal4 b).length = b.length + 4 := by rw [seal4, List.length_append]; rfl
theorem frame_len (b : Bytes) : (frame b).length = b.length + 8 := by rw [frame, seal4_len, List.length_append, be4_len]; omega
theorem frame_eq (b : Bytes) : frame b = be4 b.length ++ (b ++ le4 (crc (be4 b.length ++ b))) := by rw [frame, seal4, List.append_assoc]
theorem frame_take4 (b : Bytes) : (frame b).take 4 = be4 b.length := by rw [frame_eq, List.take_left' (be4_len _)]
theorem flat_cons (b : Bytes) (l : List Bytes) : flat (b :: l) = frame b ++ flat l := rfl
theorem flat_app (a b : List Bytes) : flat (a ++ b) = flat a ++ flat b := by simp [flat]
theorem flat_take_succ {recs : List Bytes} {k : Nat} (h : k < recs.length) : (flat (recs.take (k + 1))).length = (flat (recs.take k)).length + (recs[k].length + 8) := by
  rw [List.take_succ_eq_append_getElem h, flat_app, List.length_append, flat_cons, List.length_append, frame_len]; simp [flat]
theorem flat_drop {recs : List Bytes} {t : Bytes} (k : Nat) : (flat recs ++ t).drop (flat (recs.take k)).length = flat (recs.drop k) ++ t := by
  conv => lhs; rw [← List.take_append_drop k recs, flat_app, List.append_assoc]
  rw [List.take_append_drop, List.drop_left]
/-- What lies behind some frames: a frame and more, or less than a frame. -/
structure CutP (R b : Bytes) : Prop where
  len : b.length ≤ 262144
  hd : 4 ≤ R.length → R.take 4 = be4 b.length
  cs : (∃ more, R = frame b ++ more) ∨ R.length < b.length + 8
/-- Torn: less than a frame. -/
def Torn (t : Bytes) : Prop := ∃ nx m, nx.length ≤ 262144 ∧ m < nx.length + 8 ∧ t = (frame nx).take m
theorem Torn.nil : Torn [] := ⟨[], 0, by simp, by simp, by simp⟩
theorem cutP_mid {recs : List Bytes} {t : Bytes} (hr : ∀ b, b ∈ recs → b.length ≤ 262144) {k : Nat} (h : k < recs.length) : CutP (flat (recs.drop k) ++ t) recs[k] ∧ flat (recs.drop k) ++ t = frame recs[k] ++ (flat (recs.drop (k + 1)) ++ t) := by
  have e : flat (recs.drop k) ++ t = frame recs[k] ++ (flat (recs.drop (k + 1)) ++ t) := by
    rw [List.drop_eq_getElem_cons h, flat_cons, List.append_assoc]
  refine ⟨⟨hr _ (List.getElem_mem h), fun _ => ?_, .inl ⟨_, e⟩⟩, e⟩
  rw [e, List.take_append_of_le_length (by rw [frame_len]; omega), frame_take4]
theorem cutP_end {recs : List Bytes} {t : Bytes} (ht : Torn t) {k : Nat} (h : ¬ k < recs.length) : ∃ b, CutP (flat (recs.drop k) ++ t) b ∧ (flat (recs.drop k) ++ t).length < b.length + 8 := by
  obtain ⟨nx, m, h1, h2, h3⟩ := ht
  have e : flat (recs.drop k) ++ t = t := by rw [List.drop_eq_nil_of_le (by omega)]; rfl
  have hl : t.length ≤ m := by rw [h3, List.length_take]; omega
  rw [e]
  refine ⟨nx, ⟨h1, fun h4 => ?_, .inr (by omega)⟩, by omega⟩
  rw [h3, List.length_take] at h4
  rw [h3, List.take_take, show min 4 m = 4 by omega, frame_take4]
end Go.Sl
namespace Go.Sl
open Go Go.Proofs
set_option maxRecDepth 20000
/-- split: the records of a file, and how many bytes they are. -/
theorem c177 {p : SP} {recs : List Bytes} {t : Bytes} (hr : ∀ b, b ∈ recs → b.length ≤ 262144) (hn : recs.length ≤ 2 ^ 30) (hN : (flat recs ++ t).length ≤ 2 ^ 50) (ht : Torn t) :
    Spec P 76 [p.v (flat recs ++ t).length] [sl Kb p (flat recs ++ t)] (fun q : SP => .tuple #[q.v recs.length, .int .i64 (flat recs).length]) (fun q => [sl (Ksl Kb) q recs, tl 1 q recs.length, sl Kb p (flat recs ++ t)]) := by
  refine Spec.intro Tryz.func76 rfl rfl rfl fun F => ?_
  refine W.fact (sl_fact 0 rfl) fun hp => ?_
  obtain ⟨A, hA⟩ : ∃ A, A = flat recs ++ t := ⟨_, rfl⟩
  rw [← hA] at hp hN ⊢
  refine W.rseq ?_
  refine WL.p rfl rfl rfl (PV.as rfl) ?_
  refine WL.p rfl rfl rfl (PV.as rfl) ?_
  refine WL.next [(3, _), (2, _), (0, _)] ⟨rfl, rfl, rfl, trivial⟩ ?_
  refine W.rseq ?_
  refine WL.p rfl rfl rfl (PV.as rfl) ?_
  refine WL.next [(4, _), (3, _), (2, _), (0, _)] ⟨rfl, rfl, rfl, rfl, trivial⟩ ?_
  refine W.rseq ?_
  refine WL.p rfl rfl rfl (PV.as rfl) ?_
  refine WL.next [(5, _), (4, _), (3, _), (2, _), (0, _)] ⟨rfl, rfl, rfl, rfl, rfl, trivial⟩ ?_
  refine W.block ?_
  rotate_left
  refine W.loopP2 (fun (k : Nat) (_ : SP) => k ≤ recs.length) (fun k q => [(5, .int .i64 (flat (recs.take k)).length), (4, q.v (recs.take k).length), (0, p.v A.length)])
    (fun k q => sl (Ksl Kb) q (recs.take k) :: tl 1 q (recs.take k).length :: sl Kb p A :: F) (fun k _ => recs.length - k) 0 SP.nil (Nat.zero_le _)
    ⟨rfl, rfl, rfl, trivial⟩ ?_ fun k q hk => ?_
  · refine Ent.add (Ent.nil_sl _) (Ent.take 0 rfl ?_)
    refine Ent.add (Ent.nil_tl _) (Ent.take 0 rfl ?_)
    refine Ent.keep 0 rfl (sl_pers _ _ _) ?_
    exact Ent.tail (Ent.refl _)
  · have hdr := flat_drop (recs := recs) (t := t) k
    rw [← hA] at hdr
    obtain ⟨R, hR⟩ : ∃ R, R = flat (recs.drop k) ++ t := ⟨_, rfl⟩
    rw [← hR] at hdr
    obtain ⟨at0, hat⟩ : ∃ n, n = (flat (recs.take k)).length := ⟨_, rfl⟩
    have hRl : at0 + R.length = A.length := by
      have h1 : R.length = A.length - (flat (recs.take k)).length := by rw [← hdr, List.length_drop]
      have h2 : (flat (recs.take k)).length ≤ A.length := by
        have := congrArg List.length (show flat (recs.take k) ++ (flat (recs.drop k) ++ t) = A by rw [hA, ← List.append_assoc, ← flat_app, List.take_append_drop])
        rw [List.length_append] at this; omega
      omega
    rw [← hat] at hdr ⊢
    obtain ⟨b, hb, hbc⟩ : ∃ b, CutP R b ∧ ((k < recs.length ∧ recs[k]? = some b ∧ R = frame b ++ (flat (recs.drop (k + 1)) ++ t)) ∨ (¬ k < recs.length ∧ R.length < b.length + 8)) := by
      by_cases h : k < recs.length
      · obtain ⟨h1, h2⟩ := cutP_mid (t := t) hr h
        exact ⟨recs[k], by rw [hR]; exact h1, .inl ⟨h, List.getElem?_eq_getElem h, by rw [hR]; exact h2⟩⟩
      · obtain ⟨b, h1, h2⟩ := cutP_end (recs := recs) ht h
        exact ⟨b, by rw [hR]; exact h1, .inr ⟨h, by rw [hR]; exact h2⟩⟩
    have hbl := hb.len
    have eR : part A at0 A.length = R := by
      unfold part
      rw [← hdr]
      exact List.take_of_length_le (by rw [List.length_drop]; omega)
    have done : ∀ {H : List Res}, ¬ k < recs.length → Ent H ((sl (Ksl Kb) q (recs.take k) :: tl 1 q (recs.take k).length :: sl Kb p A :: F)) → Ent H ([sl (Ksl Kb) q recs, tl 1 q recs.length, sl Kb p A] ++ F) ∧ at0 = (flat recs).length ∧ (recs.take k).length = recs.length := by
      intro H h1 h2
      rw [List.take_of_length_le (by omega)] at h2 hat ⊢
      exact ⟨h2, hat, rfl⟩
    refine W.block ?_
    refine W.rseq ?_
    refine WL.p rfl rfl rfl (PV.mv rfl) ?_
    refine WL.p rfl rfl rfl (PV.mv rfl) ?_
    refine WL.putX rfl rfl rfl (OpX.cutS 2 ul62 sz5 rfl rfl rfl rfl (by first | omega | (simp only [List.length_append, List.length_cons, List.length_nil, List.length_take, List.length_drop, Sl.part]; omega)) (by first | omega | (simp only [List.length_append, List.length_cons, List.length_nil, List.length_take, List.length_drop, Sl.part]; omega)) (by first | omega | (simp only [List.length_append, List.length_cons, List.length_nil, List.length_take, List.length_drop, Sl.part]; omega))) fun x15 => ?_
    refine WL.nm (H' := _ :: _ :: _ :: _ :: _) rfl ?_
    refine WL.p rfl rfl rfl (PV.as rfl) ?_
    refine WL.next [(6, _), (5, _), (4, _), (0, _)] ⟨rfl, rfl, rfl, rfl, trivial⟩ ?_
    refine W.seq ?_
    refine W.rseq ?_
    refine WL.p rfl rfl rfl (PV.mv rfl) ?_
    refine WL.p rfl rfl rfl (PV.lenL ul62 rfl rfl) ?_
    refine WL.p rfl rfl rfl (PV.lt rfl rfl) ?_
    refine WL.next [(18, _), (6, _), (5, _), (4, _), (0, _)] ⟨rfl, rfl, rfl, rfl, rfl, trivial⟩ ?_
    refine W.condD rfl (fun h0 => ?_) (fun h0 => ?_)
    refine W.rseq ?_
    refine WL.p rfl rfl rfl (PV.mv rfl) ?_
    refine WL.p rfl rfl rfl (PV.mv rfl) ?_
    refine WL.p rfl rfl rfl (PV.as rfl) ?_
    refine WL.p rfl rfl rfl (PV.as rfl) ?_
    refine WL.next [(3, _), (2, _), (6, _), (5, _), (4, _), (0, _)] ⟨rfl, rfl, rfl, rfl, rfl, rfl, trivial⟩ ?_
    refine W.ret ?_
    refine K.retT ?_
    refine K.retB ?_
    refine K.retT ?_
    refine K.retB ?_
    rotate_left
    refine W.skip ?_
    refine K.next [(6, _), (5, _), (4, _), (0, _)] ⟨rfl, rfl, rfl, rfl, trivial⟩ ?_
    refine W.rseq ?_
    refine WL.p rfl rfl rfl (PV.as rfl) ?_
    refine WL.next [(7, _), (6, _), (5, _), (4, _), (0, _)] ⟨rfl, rfl, rfl, rfl, rfl, trivial⟩ ?_
    refine W.seq ?_
    refine W.rseq ?_
    refine WL.p rfl rfl rfl (PV.mv rfl) ?_
    refine WL.fact (sl_fact 0 rfl) fun hs1 => ?_
    refine WL.putX rfl rfl rfl (OpX.cutS 0 ul62 sz5 rfl rfl rfl rfl (by first | omega | (simp only [List.length_append, List.length_cons, List.length_nil, List.length_take, List.length_drop, Sl.part]; omega)) (by first | omega | (simp only [List.length_append, List.length_cons, List.length_nil, List.length_take, List.length_drop, Sl.part]; omega)) (by first | omega | (simp only [List.length_append, List.length_cons, List.length_nil, List.length_take, List.length_drop, Sl.part]; omega))) fun x22 => ?_
    refine WL.nm (H' := _ :: _ :: _ :: _ :: _ :: _) rfl ?_
    refine WL.p rfl rfl rfl (PV.lenL ul62 rfl rfl) ?_
    refine WL.p rfl rfl rfl (PV.mv rfl) ?_
    refine WL.next [(24, _), (23, _), (22, _), (7, _), (6, _), (5, _), (4, _), (0, _)] ⟨rfl, rfl, rfl, rfl, rfl, rfl, rfl, rfl, trivial⟩ ?_
    refine W.block ?_
    rotate_left
    · have hx : ¬ k < recs.length := by
        intro hx
        rcases hbc with ⟨_, _, h3⟩ | ⟨h3, _⟩
        · rw [eR, h3, List.length_append, frame_len] at h0; omega
        · exact h3 hx
      obtain ⟨d1, d2, d3⟩ := done hx (H := sl Kb x15 (part A at0 A.length) :: sl (Ksl Kb) q (recs.take k) :: tl 1 q (recs.take k).length :: sl Kb p A :: F) (Ent.tail (Ent.refl _))
      refine K.fin (vs := [_, _]) q ⟨rfl, rfl, trivial⟩ ?_ d1
      show Value.tuple #[_, _] = _
      rw [d2, d3]
    · rw [eR] at h0
      have e4 : part (part A at0 A.length) 0 4 = be4 b.length := by
        rw [eR, ← hb.hd (by omega)]; rfl
      rw [e4, eR]
      refine W.loopP (X := Nat) (fun j => j ≤ 4) (fun j => [(24, .int .i64 j), (23, .int .i64 (4 : Nat)), (22, x22.v (be4 b.length).length), (7, .int .i64 (beN ((be4 b.length).take j))), (6, x15.v R.length), (5, .int .i64 at0), (4, q.v (recs.take k).length), (0, p.v A.length)])
        (fun _ => sl Kb x22 (be4 b.length) :: sl Kb x15 R :: sl (Ksl Kb) q (recs.take k) :: tl 1 q (recs.take k).length :: sl Kb p A :: F) (fun j => 4 - j) 0 (Nat.zero_le _) ⟨rfl, rfl, rfl, rfl, rfl, rfl, rfl, rfl, trivial⟩ (Ent.refl _) fun j hj => ?_
      have hl4 : (be4 b.length).length = 4 := rfl
      have hf0 : (frame []).length = 8 := rfl
      have hbj : beN ((be4 b.length).take j) < 36028797018963968 ∧ beN ((be4 b.length).take j) < 4294967296 := by
        have h1 := beN_lt ((be4 b.length).take j)
        have h2 : ((be4 b.length).take j).length ≤ 4 := by rw [List.length_take]; omega
        have h3 : 256 ^ ((be4 b.length).take j).length ≤ 256 ^ 4 := Nat.pow_le_pow_right (by omega) h2
        omega
      refine W.rseq ?_
      refine WL.p rfl rfl rfl (PV.lt rfl rfl) ?_
      refine WL.next [(25, _), (24, _), (23, _), (22, _), (7, _), (6, _), (5, _), (4, _), (0, _)] ⟨rfl, rfl, rfl, rfl, rfl, rfl, rfl, rfl, rfl, trivial⟩ ?_
      refine W.seq ?_
      refine W.condD rfl (fun h0 => ?_) (fun h0 => ?_)
      refine W.skip ?_
      refine K.next [(24, _), (23, _), (22, _), (7, _), (6, _), (5, _), (4, _), (0, _)] ⟨rfl, rfl, rfl, rfl, rfl, rfl, rfl, rfl, trivial⟩ ?_
      refine W.bseq ?_
      refine W.rseq ?_
      refine WL.fact (sl_fact 0 rfl) fun hs1 => ?_
      refine WL.p rfl rfl rfl (PV.ixN (by assumption) ul62 sz5 rfl rfl (by omega)) ?_
      refine WL.f rfl rfl rfl (FV.ld (LdD.sl1B 0 sc5 rfl rfl rfl (by omega))) ?_
      refine WL.p rfl rfl rfl (PV.as rfl) ?_
      refine WL.next [(9, _), (24, _), (23, _), (22, _), (7, _), (6, _), (5, _), (4, _), (0, _)] ⟨rfl, rfl, rfl, rfl, rfl, rfl, rfl, rfl, rfl, trivial⟩ ?_
      refine W.region ?_
      refine WL.p rfl rfl rfl (PV.mv rfl) ?_
      refine WL.p rfl rfl rfl (PV.shl rfl rfl (by omega)) ?_
      refine WL.p rfl rfl rfl (PV.mv rfl) ?_
      refine WL.p rfl rfl rfl (PV.cvI ul3 us5 rfl) ?_
      refine WL.p rfl rfl rfl (PV.or rfl rfl) ?_
      refine WL.p rfl rfl rfl (PV.as rfl) ?_
      refine WL.nil ?_
      refine K.out ?_
      refine K.next [(7, _), (24, _), (23, _), (22, _), (6, _), (5, _), (4, _), (0, _)] ⟨rfl, rfl, rfl, rfl, rfl, rfl, rfl, rfl, trivial⟩ ?_
      refine W.region ?_
      refine WL.p rfl rfl rfl (PV.add64 rfl rfl (by omega)) ?_
      refine WL.p rfl rfl rfl (PV.mv rfl) ?_
      refine WL.nil ?_
      rotate_left
      refine W.exit ?_
      refine K.exitT ?_
      refine K.exitT ?_
      refine K.exit ?_
      refine K.next [(7, _), (6, _), (5, _), (4, _), (0, _)] ⟨rfl, rfl, rfl, rfl, rfl, trivial⟩ ?_
      refine W.rseq ?_
      refine WL.putX rfl rfl rfl (OpX.call cb192 (c192n) rfl .nil) fun x34 => ?_
      refine WL.nm (H' := _ :: _ :: _ :: _ :: _ :: _ :: _ :: _) rfl ?_
      refine WL.p rfl rfl rfl (PV.lenL ul62 rfl rfl) ?_
      refine WL.p rfl rfl rfl (PV.mv rfl) ?_
      refine WL.p rfl rfl rfl (PV.add64 rfl rfl (by omega)) ?_
      refine WL.p rfl rfl rfl (PV.as rfl) ?_
      refine WL.next [(10, _), (7, _), (6, _), (5, _), (4, _), (0, _)] ⟨rfl, rfl, rfl, rfl, rfl, rfl, trivial⟩ ?_
      refine W.seq ?_
      refine W.rseq ?_
      refine WL.p rfl rfl rfl (PV.mv rfl) ?_
      refine WL.p rfl rfl rfl (PV.gt rfl rfl) ?_
      refine WL.p rfl rfl rfl (PV.mv rfl) ?_
      refine WL.splitD (t := 40) rfl (fun h2 => ?_) (fun h2 => ?_)
      refine WL.no (dj := 40) rfl rfl rfl (decide_eq_true (by assumption)) rfl ?_
      refine WL.no (dj := 40) rfl rfl rfl (decide_eq_true (by assumption)) rfl ?_
      refine WL.no (dj := 40) rfl rfl rfl (decide_eq_true (by assumption)) rfl ?_
      refine WL.no (dj := 40) rfl rfl rfl (decide_eq_true (by assumption)) rfl ?_
      refine WL.p rfl rfl rfl (PV.pickT rfl (decide_eq_true (by assumption)) rfl) ?_
      refine WL.next [(45, _), (10, _), (6, _), (5, _), (4, _), (0, _)] ⟨rfl, rfl, rfl, rfl, rfl, rfl, trivial⟩ ?_
      refine W.cT rfl ?_
      refine W.rseq ?_
      refine WL.p rfl rfl rfl (PV.mv rfl) ?_
      refine WL.p rfl rfl rfl (PV.mv rfl) ?_
      refine WL.p rfl rfl rfl (PV.as rfl) ?_
      refine WL.p rfl rfl rfl (PV.as rfl) ?_
      refine WL.next [(3, _), (2, _), (10, _), (6, _), (5, _), (4, _), (0, _)] ⟨rfl, rfl, rfl, rfl, rfl, rfl, rfl, trivial⟩ ?_
      refine W.ret ?_
      refine K.retT ?_
      refine K.retB ?_
      refine K.retT ?_
      refine K.retB ?_
      rotate_left
      refine WL.yes (dj := 40) rfl rfl rfl (decide_eq_false (by assumption)) rfl rfl (OpD.fv (PV.fv (PV.mv rfl))) ?_
      refine WL.yes (dj := 40) rfl rfl rfl (decide_eq_false (by assumption)) rfl rfl (OpD.fv (PV.fv (PV.lenL ul62 rfl rfl))) ?_
      refine WL.yes (dj := 40) rfl rfl rfl (decide_eq_false (by assumption)) rfl rfl (OpD.fv (PV.fv (PV.mv rfl))) ?_
      refine WL.yes (dj := 40) rfl rfl rfl (decide_eq_false (by assumption)) rfl rfl (OpD.fv (PV.fv (PV.lt rfl rfl))) ?_
      refine WL.p rfl rfl rfl (PV.pickF rfl (decide_eq_false (by assumption)) rfl) ?_
      refine WL.next [(45, _), (10, _), (6, _), (5, _), (4, _), (0, _)] ⟨rfl, rfl, rfl, rfl, rfl, rfl, trivial⟩ ?_
      refine W.condD rfl (fun h3 => ?_) (fun h3 => ?_)
      refine W.rseq ?_
      refine WL.p rfl rfl rfl (PV.mv rfl) ?_
      refine WL.p rfl rfl rfl (PV.mv rfl) ?_
      refine WL.p rfl rfl rfl (PV.as rfl) ?_
      refine WL.p rfl rfl rfl (PV.as rfl) ?_
      refine WL.next [(3, _), (2, _), (10, _), (6, _), (5, _), (4, _), (0, _)] ⟨rfl, rfl, rfl, rfl, rfl, rfl, rfl, trivial⟩ ?_
      refine W.ret ?_
      refine K.retT ?_
      refine K.retB ?_
      refine K.retT ?_
      refine K.retB ?_
      rotate_left
      refine W.skip ?_
      refine K.next [(10, _), (6, _), (5, _), (4, _), (0, _)] ⟨rfl, rfl, rfl, rfl, rfl, trivial⟩ ?_
      refine W.rseq ?_
      refine WL.p rfl rfl rfl (PV.mv rfl) ?_
      refine WL.p rfl rfl rfl (PV.mv rfl) ?_
      refine WL.putX rfl rfl rfl (OpX.cutS 3 ul62 sz5 rfl rfl rfl rfl (by first | omega | (simp only [List.length_append, List.length_cons, List.length_nil, List.length_take, List.length_drop, Sl.part]; omega)) (by first | omega | (simp only [List.length_append, List.length_cons, List.length_nil, List.length_take, List.length_drop, Sl.part]; omega)) (by first | omega | (simp only [List.length_append, List.length_cons, List.length_nil, List.length_take, List.length_drop, Sl.part]; omega))) fun x51 => ?_
      refine WL.nm (H' := _ :: _ :: _ :: _ :: _ :: _ :: _ :: _ :: _) rfl ?_
      rotate_left
      · have e : IntKind.i64.wrap (BitVec.ofInt IntKind.i64.bits (IntKind.i64.wrap ((beN ((be4 b.length).take j) : Int) * 2 ^ min (Int.toNat 8) IntKind.i64.bits)) ||| BitVec.ofInt IntKind.i64.bits (IntKind.i64.wrap (((be4 b.length)[j]'(by omega)).toNat : Int))).toNat = ((beN ((be4 b.length).take (j + 1)) : Nat) : Int) := by
          rw [or64 hbj.1 (UInt8.toNat_lt _), beN_take_succ (by omega)]
        refine K.againP (j + 1) (by omega) (by omega) ⟨rfl, rfl, rfl, by rw [← e]; rfl, rfl, rfl, rfl, rfl, trivial⟩ ?_
        refine Ent.keep 0 rfl (sl_pers _ _ _) ?_
        refine Ent.keep 1 rfl (sl_pers _ _ _) ?_
        refine Ent.keep 2 rfl (sl_pers _ _ _) ?_
        refine Ent.take 3 rfl ?_
        refine Ent.keep 3 rfl (sl_pers _ _ _) ?_
        exact Ent.tail (Ent.tail (Ent.tail (Ent.tail (Ent.refl _))))
      · exfalso
        have hj4 : j = 4 := by omega
        subst hj4
        rw [List.take_of_length_le (by omega), beN_be4 (by omega)] at h2
        omega
      · have hj4 : j = 4 := by omega
        subst hj4
        rw [List.take_of_length_le (by omega), beN_be4 (by omega)] at h3
        have hx : ¬ k < recs.length := by
          intro hx
          rcases hbc with ⟨_, _, h4⟩ | ⟨h4, _⟩
          · rw [h4, List.length_append, frame_len] at h3; omega
          · exact h4 hx
        obtain ⟨d1, d2, d3⟩ := done hx (H := sl Kb x34 (frame []) :: tl 1 x34 (frame []).length :: sl Kb x22 (be4 b.length) :: sl Kb x15 R :: sl (Ksl Kb) q (recs.take k) :: tl 1 q (recs.take k).length :: sl Kb p A :: F) (Ent.tail (Ent.tail (Ent.tail (Ent.tail (Ent.refl _)))))
        refine K.fin (vs := [_, _]) q ⟨rfl, rfl, trivial⟩ ?_ d1
        show Value.tuple #[_, _] = _
        rw [d2, d3]
      · have hj4 : j = 4 := by omega
        subst hj4
        have hS : ((frame []).length : Int) + (beN ((be4 b.length).take 4) : Int) = ((b.length + 8 : Nat) : Int) := by
          rw [List.take_of_length_le (by omega), beN_be4 (by omega), hf0]; omega
        rw [hS] at h3 ⊢
        rcases hbc with ⟨hkl, hkb, h4⟩ | ⟨_, h4⟩
        · have eP : part R 0 ((b.length + 8 : Nat) : Int) = seal4 (be4 b.length ++ b) := by
            rw [h4]
            show ((frame b ++ _).drop 0).take (b.length + 8 - 0) = _
            rw [List.drop_zero, List.take_left' (by rw [frame_len]; omega)]; rfl
          rw [eP]
          have hbb : (be4 b.length ++ b).length = b.length + 4 := by rw [List.length_append, hl4]; omega
          have hal : at0 + (b.length + 8) ≤ A.length := by
            rw [h4, List.length_append, frame_len] at hRl; omega
          have eB : part (be4 b.length ++ b) 4 (be4 b.length ++ b).length = b := by
            unfold part
            show List.take _ (List.drop 4 (be4 b.length ++ b)) = b
            rw [List.drop_left' hl4, List.take_of_length_le (by omega)]
          have hkt : recs.take (k + 1) = recs.take k ++ [b] := by
            rw [List.take_add_one, hkb]; rfl
          have hk1 : (recs.take k).length ≤ 2 ^ 30 := by rw [List.length_take]; omega
          refine WL.putX rfl rfl rfl (OpX.call cb248 (c248 (by first | omega | (simp only [List.length_append, List.length_cons, List.length_nil, List.length_take]; omega) | assumption)) rfl (.cons (i := 0) rfl .nil)) fun x52 => ?_
          refine WL.nm (H' := _ :: _ :: _ :: _ :: _ :: _ :: _ :: _ :: _ :: _ :: _) rfl ?_
          refine WL.p rfl rfl rfl (PV.mv rfl) ?_
          refine WL.p rfl rfl rfl (PV.ext0 rfl) ?_
          refine WL.p rfl rfl rfl (PV.ext1 rfl) ?_
          refine WL.p rfl rfl rfl (PV.as rfl) ?_
          refine WL.p rfl rfl rfl (PV.as rfl) ?_
          refine WL.next [(12, _), (11, _), (10, _), (5, _), (4, _), (0, _)] ⟨rfl, rfl, rfl, rfl, rfl, rfl, trivial⟩ ?_
          refine W.seq ?_
          refine W.rseq ?_
          refine WL.p rfl rfl rfl (PV.mv rfl) ?_
          refine WL.p rfl rfl rfl (PV.not rfl) ?_
          refine WL.next [(56, _), (11, _), (10, _), (5, _), (4, _), (0, _)] ⟨rfl, rfl, rfl, rfl, rfl, rfl, trivial⟩ ?_
          refine W.cF rfl ?_
          refine W.skip ?_
          refine K.next [(11, _), (10, _), (5, _), (4, _), (0, _)] ⟨rfl, rfl, rfl, rfl, rfl, trivial⟩ ?_
          refine W.rseq ?_
          refine WL.p rfl rfl rfl (PV.mv rfl) ?_
          refine WL.p rfl rfl rfl (PV.mv rfl) ?_
          refine WL.fact (sl_fact 0 rfl) fun hs0 => ?_
          refine WL.putX rfl rfl rfl (OpX.cutS 0 ul62 sz5 rfl rfl rfl rfl (by first | omega | (simp only [List.length_append, List.length_cons, List.length_nil, List.length_take, List.length_drop, Sl.part]; omega)) (by first | omega | (simp only [List.length_append, List.length_cons, List.length_nil, List.length_take, List.length_drop, Sl.part]; omega)) (by first | omega | (simp only [List.length_append, List.length_cons, List.length_nil, List.length_take, List.length_drop, Sl.part]; omega))) fun x61 => ?_
          refine WL.nm (H' := _ :: _ :: _ :: _ :: _ :: _ :: _ :: _ :: _ :: _ :: _ :: _) rfl ?_
          refine WL.putX rfl rfl rfl (OpX.rowS (K := (Ksl Kb)) [_] [_] slt182 ⟨_, zr62, rfl⟩ rfl rfl rfl rfl rfl rfl (fun _ h => by first | (simp [innerL, Kb, Kint, Kstr, Kbool] at h; done) | (simp [innerL, Ksl, Kwr, Kmsg] at h; rcases h with h | h | h <;> subst h <;> simp [Sl.rem]) | (simp [innerL, Ksl, Kwr] at h; subst h; simp [Sl.rem]))) fun x62 => ?_
          refine WL.nm (H' := _ :: _ :: _ :: _ :: _ :: _ :: _ :: _ :: _ :: _ :: _ :: _ :: _ :: _) rfl ?_
          refine WL.putX rfl rfl rfl (OpX.app 11 10 slt182 ni182 rfl rfl rfl rfl (SrcV.atSl 0 rfl) (by first | omega | (simp only [List.length_append, List.length_cons, List.length_nil, List.length_take]; omega) | assumption) (by first | omega | (simp only [List.length_append, List.length_cons, List.length_nil, List.length_take]; omega) | assumption)) fun x63 => ?_
          refine WL.nm (H' := _ :: _ :: _ :: _ :: _ :: _ :: _ :: _ :: _ :: _ :: _ :: _ :: _ :: _ :: _) rfl ?_
          refine WL.p rfl rfl rfl (PV.as rfl) ?_
          refine WL.next [(4, _), (10, _), (5, _), (0, _)] ⟨rfl, rfl, rfl, rfl, trivial⟩ ?_
          refine W.region ?_
          refine WL.p rfl rfl rfl (PV.mv rfl) ?_
          refine WL.p rfl rfl rfl (PV.mv rfl) ?_
          refine WL.p rfl rfl rfl (PV.add64 rfl rfl (by omega)) ?_
          refine WL.p rfl rfl rfl (PV.as rfl) ?_
          refine WL.nil ?_
          refine K.out ?_
          rotate_left
          rw [eB, ← hkt]
          have e5 : ((flat (recs.take (k + 1))).length : Int) = (at0 : Int) + ((b.length + 8 : Nat) : Int) := by
            have h6 := List.getElem?_eq_some_iff.1 hkb
            rw [flat_take_succ hkl, ← hat, h6.2]; omega
          refine K.againP (k + 1, x63) (show k + 1 ≤ recs.length by omega) (show recs.length - (k + 1) < recs.length - k by omega) ⟨by rw [e5]; rfl, rfl, rfl, trivial⟩ ?_
          refine Ent.keep 0 rfl (sl_pers _ _ _) ?_
          refine Ent.take 1 rfl ?_
          refine Ent.keep 12 rfl (sl_pers _ _ _) ?_
          exact Ent.tail (Ent.tail (Ent.tail (Ent.tail (Ent.tail (Ent.tail (Ent.tail (Ent.tail (Ent.tail (Ent.tail (Ent.tail (Ent.tail (Ent.tail (Ent.refl _)))))))))))))
        · exfalso; omega
end Go.Sl
/-! What the queue has. -/
namespace Go.Sl
open Go Go.Proofs
set_option maxRecDepth 20000
/-- A map up to order. -/
def mx {α : Type} (K : Kd α) (r : Nat) (m : List (Int × α)) : Res := ex (List (Int × α)) fun m' => [pr (m'.Perm m ∧ (m'.map (·.1)).Nodup), mp kvI K r m']
structure QS where
  mail : List (Int × Msg)
  form : List (Int × Int)
  next : Int
  aim : Int
def QS.put (s : QS) (m : Msg) (f : Int) : QS := { s with mail := mset s.mail m.id m, form := mset s.form m.id f, next := max s.next (m.id + 1) }
theorem c266 {q r1 r2 : Nat} {s : QS} {c4 c5 c6 : Value} {m : Msg} {f : Int} {p1 p2 p3 : SP} (hm : Fine m) :
    Spec P 111 [.pointer (some ⟨q, 0, none⟩), .agg #[.int .i64 m.id, .int .i64 m.gen, .int .i64 m.born, .int .i64 m.tries, .int .i64 m.due, str m.frm, p1.v m.rcpts.length, p2.v m.marks.length, p3.v m.body.length], .int .i64 f]
      [pt q 0 [.map (some r1), .map (some r2), .int .i64 s.next, .int .i64 s.aim, c4, c5, c6], mx Kmsg r1 s.mail, mx (Kint .i64) r2 s.form, sl Kstr p1 m.rcpts, sl (Kint .i64) p2 m.marks, sl Kstr p3 m.body]
      (fun _ : Unit => .tuple #[]) (fun _ => [pt q 0 [.map (some r1), .map (some r2), .int .i64 (s.put m f).next, .int .i64 (s.put m f).aim, c4, c5, c6], mx Kmsg r1 (s.put m f).mail, mx (Kint .i64) r2 (s.put m f).form, sl Kstr p1 m.rcpts, sl (Kint .i64) p2 m.marks, sl Kstr p3 m.body]) := by
  have b1 := hm.ok.rl; have b2 := hm.ok.ml; have b3 := hm.ok.bl
  have b4 := hm.nums m.id (by simp [Msg.nums])
  refine Spec.intro Tryz.func111 rfl rfl rfl fun F => ?_
  refine W.ex 1 rfl fun m1 => ?_
  refine W.pr 0 rfl fun hm1 => ?_
  refine W.nm (H' := mp kvI Kmsg r1 m1 :: pt _ _ [_, _, _, _, _, _, _] :: _ :: _ :: _ :: _ :: _) rfl ?_
  refine W.ex 2 rfl fun m2 => ?_
  refine W.pr 0 rfl fun hm2 => ?_
  refine W.nm (H' := mp kvI (Kint .i64) r2 m2 :: mp kvI Kmsg r1 m1 :: pt _ _ [_, _, _, _, _, _, _] :: _ :: _ :: _ :: _) rfl ?_
  refine W.rseq ?_
  refine WL.putX rfl rfl rfl (OpX.box rfl) fun x4 => ?_
  refine WL.nm (H' := pt _ _ [_, _, _, _, _, _, _, _, _] :: _ :: _ :: pt _ _ [_, _, _, _, _, _, _] :: _ :: _ :: _ :: _) rfl ?_
  refine WL.next [(4, _), (0, _), (2, _)] ⟨rfl, rfl, rfl, trivial⟩ ?_
  refine W.dseq [0, 1, 2, 3, 4, 5, 6, 7, 8, 9, 10, 11, 12, 14, 13, 15, 16, 17, 18, 19, 20] mixedOrders rfl rfl fun hR => ?_
  refine DP.p rfl rfl rfl rfl rfl (PV.mv rfl) ?_
  refine DP.p rfl rfl rfl rfl rfl (PV.nck rfl) ?_
  refine DP.p rfl rfl rfl rfl rfl (PV.fa fo200_0 rfl rfl) ?_
  refine DP.f rfl rfl rfl rfl rfl (FV.ld (LdD.sc 3 0 sc197 rfl rfl rfl rfl)) ?_
  refine DP.p rfl rfl rfl rfl rfl (PV.fa fo52_0 rfl rfl) ?_
  refine DP.f rfl rfl rfl rfl rfl (FV.ld (LdD.sc 0 0 sc3 rfl rfl rfl rfl)) ?_
  refine DP.p rfl rfl rfl rfl rfl (PV.mv rfl) ?_
  refine DP.p rfl rfl rfl rfl rfl (PV.nck rfl) ?_
  refine DP.p rfl rfl rfl rfl rfl (PV.fa fo200_1 rfl rfl) ?_
  refine DP.f rfl rfl rfl rfl rfl (FV.ld (LdD.sc 3 1 sc198 rfl rfl rfl rfl)) ?_
  refine DP.p rfl rfl rfl rfl rfl (PV.fa fo52_0 rfl rfl) ?_
  refine DP.f rfl rfl rfl rfl rfl (FV.ld (LdD.sc 0 0 sc3 rfl rfl rfl rfl)) ?_
  refine DP.f rfl rfl rfl rfl rfl (FV.ld (LdD.ag (us := [_, _, _, _, _, _, _, _, _]) 0 0 ag52 rfl rfl rfl rfl rfl)) ?_
  refine DP.p rfl rfl rfl rfl rfl (PV.mv rfl) ?_
  refine DP.e hR [(11, _), (9, _), (5, _), (3, _)] rfl rfl rfl rfl rfl (OpX.call cb128 (c128 (by first | omega | (simp only [List.length_append, List.length_cons, List.length_nil, List.length_take, numB_len]; omega) | assumption) (by first | omega | (simp only [List.length_append, List.length_cons, List.length_nil, List.length_take, numB_len]; omega) | assumption) (by first | omega | (simp only [List.length_append, List.length_cons, List.length_nil, List.length_take, numB_len]; omega) | assumption)) rfl (.cons (i := 4) rfl (.cons (i := 4) rfl (.cons (i := 4) rfl .nil)))) rfl (fun _ => (KeepL.dropC rfl (KeepL.keep rfl (FloatAt.of rfl (by first | exact FV.ld (LdD.sc 0 0 sc3 rfl rfl rfl rfl) | exact FV.ld (LdD.ag (us := _) 0 0 ag3 rfl rfl rfl rfl rfl) | exact FV.ld (LdD.sc 1 0 sc3 rfl rfl rfl rfl) | exact FV.ld (LdD.ag (us := _) 1 0 ag3 rfl rfl rfl rfl rfl) | exact FV.ld (LdD.sc 2 0 sc3 rfl rfl rfl rfl) | exact FV.ld (LdD.ag (us := _) 2 0 ag3 rfl rfl rfl rfl rfl) | exact FV.ld (LdD.sc 3 0 sc3 rfl rfl rfl rfl) | exact FV.ld (LdD.ag (us := _) 3 0 ag3 rfl rfl rfl rfl rfl) | exact FV.ld (LdD.sc 4 0 sc3 rfl rfl rfl rfl) | exact FV.ld (LdD.ag (us := _) 4 0 ag3 rfl rfl rfl rfl rfl) | exact FV.ld (LdD.sc 5 0 sc3 rfl rfl rfl rfl) | exact FV.ld (LdD.ag (us := _) 5 0 ag3 rfl rfl rfl rfl rfl) | exact FV.ld (LdD.sc 6 0 sc3 rfl rfl rfl rfl) | exact FV.ld (LdD.ag (us := _) 6 0 ag3 rfl rfl rfl rfl rfl) | exact FV.ld (LdD.sc 7 0 sc3 rfl rfl rfl rfl) | exact FV.ld (LdD.ag (us := _) 7 0 ag3 rfl rfl rfl rfl rfl) | exact FV.ld (LdD.sc 8 0 sc3 rfl rfl rfl rfl) | exact FV.ld (LdD.ag (us := _) 8 0 ag3 rfl rfl rfl rfl rfl) | exact FV.ld (LdD.sc 9 0 sc3 rfl rfl rfl rfl) | exact FV.ld (LdD.ag (us := _) 9 0 ag3 rfl rfl rfl rfl rfl))) (KeepL.keep rfl (FloatAt.of rfl (by first | exact FV.ld (LdD.sc 3 1 sc198 rfl rfl rfl rfl) | exact FV.ld (LdD.ag (us := _) 3 1 ag198 rfl rfl rfl rfl rfl) | exact FV.ld (LdD.sc 4 1 sc198 rfl rfl rfl rfl) | exact FV.ld (LdD.ag (us := _) 4 1 ag198 rfl rfl rfl rfl rfl) | exact FV.ld (LdD.sc 5 1 sc198 rfl rfl rfl rfl) | exact FV.ld (LdD.ag (us := _) 5 1 ag198 rfl rfl rfl rfl rfl) | exact FV.ld (LdD.sc 6 1 sc198 rfl rfl rfl rfl) | exact FV.ld (LdD.ag (us := _) 6 1 ag198 rfl rfl rfl rfl rfl) | exact FV.ld (LdD.sc 7 1 sc198 rfl rfl rfl rfl) | exact FV.ld (LdD.ag (us := _) 7 1 ag198 rfl rfl rfl rfl rfl) | exact FV.ld (LdD.sc 8 1 sc198 rfl rfl rfl rfl) | exact FV.ld (LdD.ag (us := _) 8 1 ag198 rfl rfl rfl rfl rfl) | exact FV.ld (LdD.sc 9 1 sc198 rfl rfl rfl rfl) | exact FV.ld (LdD.ag (us := _) 9 1 ag198 rfl rfl rfl rfl rfl) | exact FV.ld (LdD.sc 10 1 sc198 rfl rfl rfl rfl) | exact FV.ld (LdD.ag (us := _) 10 1 ag198 rfl rfl rfl rfl rfl) | exact FV.ld (LdD.sc 11 1 sc198 rfl rfl rfl rfl) | exact FV.ld (LdD.ag (us := _) 11 1 ag198 rfl rfl rfl rfl rfl) | exact FV.ld (LdD.sc 12 1 sc198 rfl rfl rfl rfl) | exact FV.ld (LdD.ag (us := _) 12 1 ag198 rfl rfl rfl rfl rfl))) (KeepL.keep rfl (FloatAt.of rfl (by first | exact FV.ld (LdD.sc 0 0 sc3 rfl rfl rfl rfl) | exact FV.ld (LdD.ag (us := _) 0 0 ag3 rfl rfl rfl rfl rfl) | exact FV.ld (LdD.sc 1 0 sc3 rfl rfl rfl rfl) | exact FV.ld (LdD.ag (us := _) 1 0 ag3 rfl rfl rfl rfl rfl) | exact FV.ld (LdD.sc 2 0 sc3 rfl rfl rfl rfl) | exact FV.ld (LdD.ag (us := _) 2 0 ag3 rfl rfl rfl rfl rfl) | exact FV.ld (LdD.sc 3 0 sc3 rfl rfl rfl rfl) | exact FV.ld (LdD.ag (us := _) 3 0 ag3 rfl rfl rfl rfl rfl) | exact FV.ld (LdD.sc 4 0 sc3 rfl rfl rfl rfl) | exact FV.ld (LdD.ag (us := _) 4 0 ag3 rfl rfl rfl rfl rfl) | exact FV.ld (LdD.sc 5 0 sc3 rfl rfl rfl rfl) | exact FV.ld (LdD.ag (us := _) 5 0 ag3 rfl rfl rfl rfl rfl) | exact FV.ld (LdD.sc 6 0 sc3 rfl rfl rfl rfl) | exact FV.ld (LdD.ag (us := _) 6 0 ag3 rfl rfl rfl rfl rfl) | exact FV.ld (LdD.sc 7 0 sc3 rfl rfl rfl rfl) | exact FV.ld (LdD.ag (us := _) 7 0 ag3 rfl rfl rfl rfl rfl) | exact FV.ld (LdD.sc 8 0 sc3 rfl rfl rfl rfl) | exact FV.ld (LdD.ag (us := _) 8 0 ag3 rfl rfl rfl rfl rfl) | exact FV.ld (LdD.sc 9 0 sc3 rfl rfl rfl rfl) | exact FV.ld (LdD.ag (us := _) 9 0 ag3 rfl rfl rfl rfl rfl))) (KeepL.keep rfl (FloatAt.of rfl (by first | exact FV.ld (LdD.sc 3 0 sc197 rfl rfl rfl rfl) | exact FV.ld (LdD.ag (us := _) 3 0 ag197 rfl rfl rfl rfl rfl) | exact FV.ld (LdD.sc 4 0 sc197 rfl rfl rfl rfl) | exact FV.ld (LdD.ag (us := _) 4 0 ag197 rfl rfl rfl rfl rfl) | exact FV.ld (LdD.sc 5 0 sc197 rfl rfl rfl rfl) | exact FV.ld (LdD.ag (us := _) 5 0 ag197 rfl rfl rfl rfl rfl) | exact FV.ld (LdD.sc 6 0 sc197 rfl rfl rfl rfl) | exact FV.ld (LdD.ag (us := _) 6 0 ag197 rfl rfl rfl rfl rfl) | exact FV.ld (LdD.sc 7 0 sc197 rfl rfl rfl rfl) | exact FV.ld (LdD.ag (us := _) 7 0 ag197 rfl rfl rfl rfl rfl) | exact FV.ld (LdD.sc 8 0 sc197 rfl rfl rfl rfl) | exact FV.ld (LdD.ag (us := _) 8 0 ag197 rfl rfl rfl rfl rfl) | exact FV.ld (LdD.sc 9 0 sc197 rfl rfl rfl rfl) | exact FV.ld (LdD.ag (us := _) 9 0 ag197 rfl rfl rfl rfl rfl) | exact FV.ld (LdD.sc 10 0 sc197 rfl rfl rfl rfl) | exact FV.ld (LdD.ag (us := _) 10 0 ag197 rfl rfl rfl rfl rfl) | exact FV.ld (LdD.sc 11 0 sc197 rfl rfl rfl rfl) | exact FV.ld (LdD.ag (us := _) 11 0 ag197 rfl rfl rfl rfl rfl) | exact FV.ld (LdD.sc 12 0 sc197 rfl rfl rfl rfl) | exact FV.ld (LdD.ag (us := _) 12 0 ag197 rfl rfl rfl rfl rfl))) KeepL.nil)))))) fun x19 => ?_
  refine DP.nm (H' := _ :: _ :: _ :: _ :: _ :: _ :: pt _ _ [_, _, _, _, _, _, _, _, _] :: _ :: _ :: pt _ _ [_, _, _, _, _, _, _] :: _) rfl ?_
  refine DP.e hR [(11, _)] rfl rfl rfl rfl rfl (OpX.mEnt (z0 := ⟨0, 0, 0, 0, 0, [], [], [], []⟩) (q0 := (SP.nil, SP.nil, SP.nil)) 8 ul197 ki3 zr52 Ent.nil_msg rfl rfl rfl) rfl (fun _ => (KeepL.keep rfl (FloatAt.of rfl (by first | exact FV.ld (LdD.sc 6 0 sc3 rfl rfl rfl rfl) | exact FV.ld (LdD.ag (us := _) 6 0 ag3 rfl rfl rfl rfl rfl) | exact FV.ld (LdD.sc 7 0 sc3 rfl rfl rfl rfl) | exact FV.ld (LdD.ag (us := _) 7 0 ag3 rfl rfl rfl rfl rfl) | exact FV.ld (LdD.sc 8 0 sc3 rfl rfl rfl rfl) | exact FV.ld (LdD.ag (us := _) 8 0 ag3 rfl rfl rfl rfl rfl) | exact FV.ld (LdD.sc 9 0 sc3 rfl rfl rfl rfl) | exact FV.ld (LdD.ag (us := _) 9 0 ag3 rfl rfl rfl rfl rfl) | exact FV.ld (LdD.sc 10 0 sc3 rfl rfl rfl rfl) | exact FV.ld (LdD.ag (us := _) 10 0 ag3 rfl rfl rfl rfl rfl) | exact FV.ld (LdD.sc 11 0 sc3 rfl rfl rfl rfl) | exact FV.ld (LdD.ag (us := _) 11 0 ag3 rfl rfl rfl rfl rfl) | exact FV.ld (LdD.sc 12 0 sc3 rfl rfl rfl rfl) | exact FV.ld (LdD.ag (us := _) 12 0 ag3 rfl rfl rfl rfl rfl) | exact FV.ld (LdD.sc 13 0 sc3 rfl rfl rfl rfl) | exact FV.ld (LdD.ag (us := _) 13 0 ag3 rfl rfl rfl rfl rfl) | exact FV.ld (LdD.sc 14 0 sc3 rfl rfl rfl rfl) | exact FV.ld (LdD.ag (us := _) 14 0 ag3 rfl rfl rfl rfl rfl) | exact FV.ld (LdD.sc 15 0 sc3 rfl rfl rfl rfl) | exact FV.ld (LdD.ag (us := _) 15 0 ag3 rfl rfl rfl rfl rfl))) (KeepL.drop rfl (KeepL.drop rfl (KeepL.drop rfl KeepL.nil))))) fun x21 => ?_
  refine DP.nm (H' := _ :: _ :: _ :: _ :: _ :: _ :: pt _ _ [_, _, _, _, _, _, _, _, _] :: _ :: _ :: pt _ _ [_, _, _, _, _, _, _] :: _) rfl ?_
  refine DP.p rfl rfl rfl rfl rfl (PV.ext1 rfl) ?_
  refine DP.e0 hR [(11, _)] rfl rfl rfl (OpD.mSt (K := Kmsg) (a0 := ⟨_, _, _, _, _, _, _, _, _⟩) (q := (_, _, _)) 8 rfl rfl rfl rfl (fun _ h => by first | (simp [innerL, Kb, Kint, Kstr, Kbool] at h; done) | (simp [innerL, Ksl, Kwr, Kmsg] at h; rcases h with h | h | h <;> subst h <;> simp [Sl.rem]) | (simp [innerL, Ksl, Kwr] at h; subst h; simp [Sl.rem]))) rfl (fun _ => (KeepL.keep rfl (FloatAt.of rfl (by first | exact FV.ld (LdD.sc 6 0 sc3 rfl rfl rfl rfl) | exact FV.ld (LdD.ag (us := _) 6 0 ag3 rfl rfl rfl rfl rfl) | exact FV.ld (LdD.sc 7 0 sc3 rfl rfl rfl rfl) | exact FV.ld (LdD.ag (us := _) 7 0 ag3 rfl rfl rfl rfl rfl) | exact FV.ld (LdD.sc 8 0 sc3 rfl rfl rfl rfl) | exact FV.ld (LdD.ag (us := _) 8 0 ag3 rfl rfl rfl rfl rfl) | exact FV.ld (LdD.sc 9 0 sc3 rfl rfl rfl rfl) | exact FV.ld (LdD.ag (us := _) 9 0 ag3 rfl rfl rfl rfl rfl) | exact FV.ld (LdD.sc 10 0 sc3 rfl rfl rfl rfl) | exact FV.ld (LdD.ag (us := _) 10 0 ag3 rfl rfl rfl rfl rfl) | exact FV.ld (LdD.sc 11 0 sc3 rfl rfl rfl rfl) | exact FV.ld (LdD.ag (us := _) 11 0 ag3 rfl rfl rfl rfl rfl) | exact FV.ld (LdD.sc 12 0 sc3 rfl rfl rfl rfl) | exact FV.ld (LdD.ag (us := _) 12 0 ag3 rfl rfl rfl rfl rfl) | exact FV.ld (LdD.sc 13 0 sc3 rfl rfl rfl rfl) | exact FV.ld (LdD.ag (us := _) 13 0 ag3 rfl rfl rfl rfl rfl) | exact FV.ld (LdD.sc 14 0 sc3 rfl rfl rfl rfl) | exact FV.ld (LdD.ag (us := _) 14 0 ag3 rfl rfl rfl rfl rfl) | exact FV.ld (LdD.sc 15 0 sc3 rfl rfl rfl rfl) | exact FV.ld (LdD.ag (us := _) 15 0 ag3 rfl rfl rfl rfl rfl))) KeepL.nil)) fun _ => ?_
  refine DP.nm (H' := _ :: _ :: _ :: _ :: _ :: _ :: pt _ _ [_, _, _, _, _, _, _, _, _] :: _ :: _ :: pt _ _ [_, _, _, _, _, _, _] :: _) rfl ?_
  refine DP.e hR [] rfl rfl rfl rfl rfl (OpX.mEnt (z0 := 0) (q0 := ()) 7 ul198 ki3 zr3 (Ent.refl _) rfl rfl rfl) rfl (fun _ => (KeepL.drop rfl KeepL.nil)) fun x23 => ?_
  refine DP.nm (H' := _ :: _ :: _ :: _ :: _ :: _ :: pt _ _ [_, _, _, _, _, _, _, _, _] :: _ :: _ :: pt _ _ [_, _, _, _, _, _, _] :: _) rfl ?_
  refine DP.p rfl rfl rfl rfl rfl (PV.ext1 rfl) ?_
  refine DP.e0 hR [] rfl rfl rfl (OpD.mSt (q := ()) 7 rfl rfl rfl rfl (fun _ h => by first | (simp [innerL, Kb, Kint, Kstr, Kbool] at h; done) | (simp [innerL, Ksl, Kwr, Kmsg] at h; rcases h with h | h | h <;> subst h <;> simp [Sl.rem]) | (simp [innerL, Ksl, Kwr] at h; subst h; simp [Sl.rem]))) rfl (fun _ => KeepL.nil) fun _ => ?_
  refine DP.nm (H' := _ :: _ :: _ :: _ :: _ :: _ :: pt _ _ [_, _, _, _, _, _, _, _, _] :: _ :: _ :: pt _ _ [_, _, _, _, _, _, _] :: _) rfl ?_
  refine DP.fin hR ?_
  clear hR
  refine K.next [(4, _), (0, _)] ⟨rfl, rfl, trivial⟩ ?_
  refine W.draw [0, 1, 2, 3, 4, 5, 6, 7, 8, 9, 10, 11] mixedOrders rfl rfl fun hR => ?_
  refine DP.p rfl rfl rfl rfl rfl (PV.mv rfl) ?_
  refine DP.p rfl rfl rfl rfl rfl (PV.mv rfl) ?_
  refine DP.p rfl rfl rfl rfl rfl (PV.nck rfl) ?_
  refine DP.p rfl rfl rfl rfl rfl (PV.fa fo200_2 rfl rfl) ?_
  refine DP.f rfl rfl rfl rfl rfl (FV.ld (LdD.sc 9 2 sc3 rfl rfl rfl rfl)) ?_
  refine DP.p rfl rfl rfl rfl rfl (PV.fa fo52_0 rfl rfl) ?_
  refine DP.f rfl rfl rfl rfl rfl (FV.ld (LdD.sc 6 0 sc3 rfl rfl rfl rfl)) ?_
  refine DP.p rfl rfl rfl rfl rfl (PV.add64 rfl rfl (by omega)) ?_
  refine DP.p rfl rfl rfl rfl rfl (PV.max2 rfl rfl) ?_
  refine DP.p rfl rfl rfl rfl rfl (PV.nck rfl) ?_
  refine DP.p rfl rfl rfl rfl rfl (PV.fa fo200_2 rfl rfl) ?_
  refine DP.e0 hR [] rfl rfl rfl (OpD.st 9 2 sz3 rfl rfl rfl rfl rfl rfl (NA.one (NA.int _ _))) rfl (fun _ => (KeepL.drop rfl (KeepL.drop rfl KeepL.nil))) fun _ => ?_
  refine DP.nm (H' := _ :: _ :: _ :: _ :: _ :: _ :: pt _ _ [_, _, _, _, _, _, _, _, _] :: _ :: _ :: pt _ _ [_, _, _, _, _, _, _] :: _) rfl ?_
  refine DP.fin hR ?_
  clear hR
  rotate_left
  rw [mset_mres, mset_mres]
  refine K.finN (vs := []) () trivial rfl ?_
  refine Ent.take 9 rfl (Ent.fold (mset m1 m.id m) (Ent.pr ⟨mset_perm hm1.1 hm1.2 _ _, Nk.set hm1.2 _ _⟩ (Ent.take 8 rfl (Ent.fold (mset m2 m.id f) (Ent.pr ⟨mset_perm hm2.1 hm2.2 _ _, Nk.set hm2.2 _ _⟩ (Ent.take 7 rfl ?_))))))
  exact Ent.tail (Ent.tail (Ent.tail (Ent.take 0 rfl (Ent.take 0 rfl (Ent.take 0 rfl (Ent.tail (Ent.refl _)))))))
theorem c194 {q r1 r2 : Nat} {s : QS} {c4 c5 c6 : Value} {m : Msg} {f : Int} {p : SP} (hC : Can f m) :
    Spec P 79 [.pointer (some ⟨q, 0, none⟩), p.v (encM f m).length]
      [pt q 0 [.map (some r1), .map (some r2), .int .i64 s.next, .int .i64 s.aim, c4, c5, c6], mx Kmsg r1 s.mail, mx (Kint .i64) r2 s.form, sl Kb p (encM f m)]
      (fun _ : Unit => .bool true) (fun _ => [pt q 0 [.map (some r1), .map (some r2), .int .i64 (s.put m f).next, .int .i64 (s.put m f).aim, c4, c5, c6], mx Kmsg r1 (s.put m f).mail, mx (Kint .i64) r2 (s.put m f).form, sl Kb p (encM f m)]) := by
  have c265h := c265 (p := p) hC
  have c267h := c267f (p := p) hC
  have c266h := fun p1 p2 p3 => c266 (q := q) (r1 := r1) (r2 := r2) (s := s) (c4 := c4) (c5 := c5) (c6 := c6) (f := f) (p1 := p1) (p2 := p2) (p3 := p3) hC.fine
  refine Spec.intro Tryz.func79 rfl rfl rfl fun F => ?_
  refine W.rseq ?_
  refine WL.p rfl rfl rfl (PV.as rfl) ?_
  refine WL.next [(4, _), (0, _), (1, _)] ⟨rfl, rfl, rfl, trivial⟩ ?_
  refine W.rseq ?_
  refine WL.p rfl rfl rfl (PV.mv rfl) ?_
  refine WL.putX rfl rfl rfl (OpX.call cb265 (c265h) rfl (.cons (i := 3) rfl .nil)) fun x9 => ?_
  refine WL.nm (H' := _ :: _ :: _ :: _ :: pt _ _ [_, _, _, _, _, _, _] :: _ :: _ :: _) rfl ?_
  refine WL.p rfl rfl rfl (PV.mv rfl) ?_
  refine WL.p rfl rfl rfl (PV.ext0 rfl) ?_
  refine WL.p rfl rfl rfl (PV.ext1 rfl) ?_
  refine WL.putX rfl rfl rfl (OpX.alloc zr52) fun x5 => ?_
  refine WL.nm (H' := pt _ _ [_, _, _, _, _, _, _, _, _] :: _ :: _ :: _ :: _ :: pt _ _ [_, _, _, _, _, _, _] :: _ :: _ :: _) rfl ?_
  refine WL.done rfl rfl (OpD.st 0 0 sz52 rfl rfl rfl rfl rfl rfl (NAs.mem (vs := [_, _, _, _, _, _, _, _, _]) ⟨NA.int _ _, NA.int _ _, NA.int _ _, NA.int _ _, NA.int _ _, NA.str _, NA.sl _ _ _, NA.sl _ _ _, NA.sl _ _ _, trivial⟩)) ?_
  refine WL.nm (H' := pt _ _ [_, _, _, _, _, _, _, _, _] :: _ :: _ :: _ :: _ :: pt _ _ [_, _, _, _, _, _, _] :: _ :: _ :: _) rfl ?_
  refine WL.p rfl rfl rfl (PV.as rfl) ?_
  refine WL.next [(6, _), (5, _), (4, _), (0, _), (1, _)] ⟨rfl, rfl, rfl, rfl, rfl, trivial⟩ ?_
  refine W.seq ?_
  refine W.rseq ?_
  refine WL.p rfl rfl rfl (PV.mv rfl) ?_
  refine WL.p rfl rfl rfl (PV.eqI rfl rfl) ?_
  refine WL.next [(13, _), (6, _), (5, _), (4, _), (0, _), (1, _)] ⟨rfl, rfl, rfl, rfl, rfl, rfl, trivial⟩ ?_
  refine W.cT rfl ?_
  refine W.draw [0, 1, 2, 3, 4] mixedOrders rfl rfl fun hR => ?_
  refine DP.p rfl rfl rfl rfl rfl (PV.mv rfl) ?_
  refine DP.f rfl rfl rfl rfl rfl (FV.ld (LdD.ag (us := [_, _, _, _, _, _, _, _, _]) 0 0 ag52 rfl rfl rfl rfl rfl)) ?_
  refine DP.p rfl rfl rfl rfl rfl (PV.mv rfl) ?_
  refine DP.e hR [(1, _)] rfl rfl rfl rfl rfl (OpX.call cb267 (c267h) rfl (.cons (i := 4) rfl .nil)) rfl (fun _ => (KeepL.keep rfl (FloatAt.of rfl (by first | exact FV.ld (LdD.sc 0 0 sc52 rfl rfl rfl rfl) | exact FV.ld (LdD.ag (us := [_, _, _, _, _, _, _, _, _]) 0 0 ag52 rfl rfl rfl rfl rfl) | exact FV.ld (LdD.sc 1 0 sc52 rfl rfl rfl rfl) | exact FV.ld (LdD.ag (us := [_, _, _, _, _, _, _, _, _]) 1 0 ag52 rfl rfl rfl rfl rfl) | exact FV.ld (LdD.sc 2 0 sc52 rfl rfl rfl rfl) | exact FV.ld (LdD.ag (us := [_, _, _, _, _, _, _, _, _]) 2 0 ag52 rfl rfl rfl rfl rfl) | exact FV.ld (LdD.sc 3 0 sc52 rfl rfl rfl rfl) | exact FV.ld (LdD.ag (us := [_, _, _, _, _, _, _, _, _]) 3 0 ag52 rfl rfl rfl rfl rfl) | exact FV.ld (LdD.sc 4 0 sc52 rfl rfl rfl rfl) | exact FV.ld (LdD.ag (us := [_, _, _, _, _, _, _, _, _]) 4 0 ag52 rfl rfl rfl rfl rfl) | exact FV.ld (LdD.sc 5 0 sc52 rfl rfl rfl rfl) | exact FV.ld (LdD.ag (us := [_, _, _, _, _, _, _, _, _]) 5 0 ag52 rfl rfl rfl rfl rfl) | exact FV.ld (LdD.sc 6 0 sc52 rfl rfl rfl rfl) | exact FV.ld (LdD.ag (us := [_, _, _, _, _, _, _, _, _]) 6 0 ag52 rfl rfl rfl rfl rfl) | exact FV.ld (LdD.sc 7 0 sc52 rfl rfl rfl rfl) | exact FV.ld (LdD.ag (us := [_, _, _, _, _, _, _, _, _]) 7 0 ag52 rfl rfl rfl rfl rfl) | exact FV.ld (LdD.sc 8 0 sc52 rfl rfl rfl rfl) | exact FV.ld (LdD.ag (us := [_, _, _, _, _, _, _, _, _]) 8 0 ag52 rfl rfl rfl rfl rfl) | exact FV.ld (LdD.sc 9 0 sc52 rfl rfl rfl rfl) | exact FV.ld (LdD.ag (us := [_, _, _, _, _, _, _, _, _]) 9 0 ag52 rfl rfl rfl rfl rfl))) KeepL.nil)) fun x17 => ?_
  refine DP.nm (H' := _ :: pt _ _ [_, _, _, _, _, _, _, _, _] :: _ :: _ :: _ :: pt _ _ [_, _, _, _, _, _, _] :: _ :: _ :: _) rfl ?_
  refine DP.e hR [] rfl rfl rfl rfl rfl (OpX.call cb266 (c266h _ _ _) rfl (.cons (i := 5) rfl (.cons (i := 5) rfl (.cons (i := 5) rfl (.cons (i := 2) rfl (.cons (i := 2) rfl (.cons (i := 2) rfl .nil))))))) rfl (fun _ => (KeepL.drop rfl KeepL.nil)) fun x18 => ?_
  refine DP.nm (H' := pt _ _ [_, _, _, _, _, _, _] :: _ :: _ :: _ :: _ :: _ :: _ :: pt _ _ [_, _, _, _, _, _, _, _, _] :: _) rfl ?_
  refine DP.fin hR ?_
  clear hR
  refine K.next [(6, _), (4, _)] ⟨rfl, rfl, trivial⟩ ?_
  refine W.rseq ?_
  refine WL.p rfl rfl rfl (PV.mv rfl) ?_
  refine WL.p rfl rfl rfl (PV.eqI rfl rfl) ?_
  refine WL.p rfl rfl rfl (PV.as rfl) ?_
  refine WL.next [(4, _)] ⟨rfl, trivial⟩ ?_
  refine W.ret ?_
  rotate_left
  refine K.fin (vs := [_]) () ⟨rfl, trivial⟩ rfl ?_
  refine Ent.take 0 rfl ?_
  refine Ent.take 0 rfl ?_
  refine Ent.take 0 rfl ?_
  refine Ent.keep 3 rfl (sl_pers _ _ _) ?_
  exact Ent.tail (Ent.tail (Ent.tail (Ent.tail (Ent.tail (Ent.refl _)))))
end Go.Sl
/-! Records of the queue. -/
namespace Go.Sl
open Go Go.Proofs
set_option maxRecDepth 20000
inductive Rec where
  | put (f : Int) (m : Msg)
  | fin (id : Int)
  | back (id : Int) (f : Int) (m : Msg)
  | aim (f : Int)
  | nxt (n : Int)
def recB : Rec → Bytes
  | .put f m => [80] ++ encM f m
  | .fin id => [70] ++ numB id 6
  | .back id f m => [70] ++ numB id 6 ++ encM f m
  | .aim f => [68] ++ [b8 f]
  | .nxt n => [78] ++ numB n 6
def QS.del (s : QS) (id : Int) : QS := { s with mail := mdel s.mail id, form := mdel s.form id }
def QS.app (s : QS) : Rec → QS
  | .put f m => s.put m f
  | .fin id => s.del id
  | .back id f m => (s.del id).put m f
  | .aim f => { s with aim := f }
  | .nxt n => { s with next := max s.next n }
def Rng (n : Int) : Prop := 0 ≤ n ∧ n ≤ 281474976710655
def Rec.Ok : Rec → Prop
  | .put f m => Can f m
  | .fin id => Rng id
  | .back id f m => Rng id ∧ Can f m
  | .aim f => f = 1 ∨ f = 2
  | .nxt n => Rng n
theorem beN6' {n : Int} (h : Rng n) : (beN (numB n 6) : Int) = n := by
  obtain ⟨h1, h2⟩ := h
  obtain ⟨k, rfl⟩ : ∃ k : Nat, n = k := ⟨n.toNat, by omega⟩
  rw [numB_inv (by omega) (by omega)]
theorem part_app {a b : Bytes} : part (a ++ b) (a.length : Int) ((a ++ b).length : Int) = b := part_to rfl
theorem c122p {q r1 r2 : Nat} {s : QS} {c4 c5 c6 : Value} {m : Msg} {f : Int} {p : SP} (hC : Can f m) :
    Spec P 50 [.pointer (some ⟨q, 0, none⟩), p.v ([80] ++ encM f m : Bytes).length]
      [pt q 0 [.map (some r1), .map (some r2), .int .i64 s.next, .int .i64 s.aim, c4, c5, c6], mx Kmsg r1 s.mail, mx (Kint .i64) r2 s.form, sl Kb p ([80] ++ encM f m)]
      (fun _ : Unit => .bool true) (fun _ => [pt q 0 [.map (some r1), .map (some r2), .int .i64 (s.put m f).next, .int .i64 (s.put m f).aim, c4, c5, c6], mx Kmsg r1 (s.put m f).mail, mx (Kint .i64) r2 (s.put m f).form, sl Kb p ([80] ++ encM f m)]) := by
  have c194h := fun p => c194 (q := q) (r1 := r1) (r2 := r2) (s := s) (c4 := c4) (c5 := c5) (c6 := c6) (f := f) (p := p) hC
  have hl : ([80] ++ encM f m : Bytes).length = 1 + (encM f m).length := by rw [List.length_append]; rfl
  refine Spec.intro Tryz.func50 rfl rfl rfl fun F => ?_
  refine W.fact (sl_fact 3 rfl) fun hp => ?_
  refine W.rseq ?_
  refine WL.p rfl rfl rfl (PV.as rfl) ?_
  refine WL.next [(4, _), (0, _), (1, _)] ⟨rfl, rfl, rfl, trivial⟩ ?_
  refine W.seq ?_
  refine W.rseq ?_
  refine WL.p rfl rfl rfl (PV.mv rfl) ?_
  refine WL.p rfl rfl rfl (PV.lenL ul62 rfl rfl) ?_
  refine WL.p rfl rfl rfl (PV.eqI rfl rfl) ?_
  refine WL.next [(10, _), (4, _), (0, _), (1, _)] ⟨rfl, rfl, rfl, rfl, trivial⟩ ?_
  refine W.condD rfl (fun h0 => ?_) (fun h0 => ?_)
  refine W.rseq ?_
  refine WL.p rfl rfl rfl (PV.as rfl) ?_
  refine WL.next [(4, _), (0, _), (1, _)] ⟨rfl, rfl, rfl, trivial⟩ ?_
  refine W.ret ?_
  refine K.retT ?_
  rotate_left
  refine W.skip ?_
  refine K.next [(4, _), (0, _), (1, _)] ⟨rfl, rfl, rfl, trivial⟩ ?_
  refine W.dseq [0, 1, 2, 3, 4, 5, 6] mixedOrders rfl rfl fun hR => ?_
  refine DP.p rfl rfl rfl rfl rfl (PV.mv rfl) ?_
  refine DP.p rfl rfl rfl rfl rfl (PV.ixN (j := 0) (by assumption) ul62 sz5 rfl rfl (by omega)) ?_
  refine DP.f rfl rfl rfl rfl rfl (FV.ld (LdD.sl1B 3 sc5 rfl rfl rfl (by omega))) ?_
  refine DP.p rfl rfl rfl rfl rfl (PV.mv rfl) ?_
  refine DP.p rfl rfl rfl rfl rfl (PV.cutL ul62 sz5 rfl rfl rfl (by omega) (by omega) (by omega)) ?_
  refine DP.p rfl rfl rfl rfl rfl (PV.as rfl) ?_
  refine DP.p rfl rfl rfl rfl rfl (PV.as rfl) ?_
  refine DP.fin hR ?_
  clear hR
  refine K.next [(6, _), (5, _), (4, _), (0, _)] ⟨rfl, rfl, rfl, rfl, trivial⟩ ?_
  refine W.bseq ?_
  refine W.rseq ?_
  refine WL.p rfl rfl rfl (PV.mv rfl) ?_
  refine WL.p rfl rfl rfl (PV.eqI rfl rfl) ?_
  refine WL.p rfl rfl rfl (PV.as rfl) ?_
  refine WL.next [(16, _), (6, _), (5, _), (4, _), (0, _)] ⟨rfl, rfl, rfl, rfl, rfl, trivial⟩ ?_
  refine W.condD rfl (fun h1 => ?_) (fun h1 => ?_)
  refine W.rseq ?_
  refine WL.p rfl rfl rfl (PV.mv rfl) ?_
  refine WL.p rfl rfl rfl (PV.mv rfl) ?_
  rotate_left
  refine W.rseq ?_
  refine WL.p rfl rfl rfl (PV.mv rfl) ?_
  refine WL.p rfl rfl rfl (PV.eqI rfl rfl) ?_
  refine WL.p rfl rfl rfl (PV.mv rfl) ?_
  refine WL.no (dj := 25) rfl rfl rfl rfl rfl ?_
  refine WL.no (dj := 25) rfl rfl rfl rfl rfl ?_
  refine WL.no (dj := 25) rfl rfl rfl rfl rfl ?_
  refine WL.p rfl rfl rfl (PV.pickF rfl rfl rfl) ?_
  refine WL.p rfl rfl rfl (PV.as rfl) ?_
  refine WL.next [(22, _), (6, _), (5, _), (4, _), (0, _)] ⟨rfl, rfl, rfl, rfl, rfl, trivial⟩ ?_
  refine W.cF rfl ?_
  refine W.rseq ?_
  refine WL.p rfl rfl rfl (PV.mv rfl) ?_
  refine WL.p rfl rfl rfl (PV.eqI rfl rfl) ?_
  refine WL.p rfl rfl rfl (PV.mv rfl) ?_
  refine WL.no (dj := 55) rfl rfl rfl rfl rfl ?_
  refine WL.no (dj := 55) rfl rfl rfl rfl rfl ?_
  refine WL.no (dj := 55) rfl rfl rfl rfl rfl ?_
  refine WL.p rfl rfl rfl (PV.pickF rfl rfl rfl) ?_
  refine WL.p rfl rfl rfl (PV.mv rfl) ?_
  refine WL.no (dj := 60) rfl rfl rfl rfl rfl ?_
  refine WL.no (dj := 60) rfl rfl rfl rfl rfl ?_
  refine WL.no (dj := 60) rfl rfl rfl rfl rfl ?_
  refine WL.no (dj := 60) rfl rfl rfl rfl rfl ?_
  refine WL.no (dj := 60) rfl rfl rfl rfl rfl ?_
  refine WL.noU (dj := 65) rfl rfl rfl rfl ?_
  refine WL.noU (dj := 65) rfl rfl rfl rfl ?_
  refine WL.noU (dj := 65) rfl rfl rfl rfl ?_
  refine WL.noU (dj := 65) rfl rfl rfl rfl ?_
  refine WL.no (dj := 60) rfl rfl rfl rfl rfl ?_
  refine WL.p rfl rfl rfl (PV.pickF rfl rfl rfl) ?_
  refine WL.p rfl rfl rfl (PV.as rfl) ?_
  refine WL.next [(52, _), (6, _), (5, _), (4, _), (0, _)] ⟨rfl, rfl, rfl, rfl, rfl, trivial⟩ ?_
  refine W.cF rfl ?_
  refine W.rseq ?_
  refine WL.p rfl rfl rfl (PV.mv rfl) ?_
  refine WL.p rfl rfl rfl (PV.eqI rfl rfl) ?_
  refine WL.p rfl rfl rfl (PV.mv rfl) ?_
  refine WL.no (dj := 82) rfl rfl rfl rfl rfl ?_
  refine WL.no (dj := 82) rfl rfl rfl rfl rfl ?_
  refine WL.no (dj := 82) rfl rfl rfl rfl rfl ?_
  refine WL.p rfl rfl rfl (PV.pickF rfl rfl rfl) ?_
  refine WL.p rfl rfl rfl (PV.as rfl) ?_
  refine WL.next [(79, _), (6, _), (4, _), (0, _)] ⟨rfl, rfl, rfl, rfl, trivial⟩ ?_
  refine W.cF rfl ?_
  refine W.skip ?_
  refine K.out ?_
  refine K.next [(4, _)] ⟨rfl, trivial⟩ ?_
  refine W.rseq ?_
  refine WL.p rfl rfl rfl (PV.as rfl) ?_
  refine WL.next [(4, _)] ⟨rfl, trivial⟩ ?_
  refine W.ret ?_
  rotate_left
  · exfalso; omega
  · rw [show ((([80] ++ encM f m : Bytes).length : Int)).toNat - Int.toNat 1 = (encM f m).length by omega]
    refine WL.cutK 3 1 p.c (encM f m).length (encM f m) rfl (Nat.le_refl _) (by omega) (by simp) ?_
    refine WL.nm (H' := sl Kb (p.cut 1 (Int.toNat 1) p.c) (encM f m) :: sl Kb p ([80] ++ encM f m) :: pt _ _ [_, _, _, _, _, _, _] :: _ :: _ :: F) rfl ?_
    refine WL.putX rfl rfl rfl (OpX.call cb194 (c194h _) rfl (.cons (i := 2) rfl (.cons (i := 2) rfl (.cons (i := 2) rfl (.cons (i := 0) rfl .nil))))) fun x21 => ?_
    refine WL.nm (H' := pt _ _ [_, _, _, _, _, _, _] :: _ :: _ :: _ :: _ :: _) rfl ?_
    refine WL.p rfl rfl rfl (PV.as rfl) ?_
    refine WL.next [(4, _)] ⟨rfl, trivial⟩ ?_
    refine W.ret ?_
    refine K.retB ?_
    refine K.retT ?_
    rotate_left
    refine K.fin (vs := [_]) () ⟨rfl, trivial⟩ rfl ?_
    refine Ent.take 0 rfl ?_
    refine Ent.take 0 rfl ?_
    refine Ent.take 0 rfl ?_
    refine Ent.keep 1 rfl (sl_pers _ _ _) ?_
    exact Ent.tail (Ent.tail (Ent.refl _))
  · exact absurd rfl h1
end Go.Sl
/-! The queue: small methods. -/
namespace Go.Sl
open Go Go.Proofs
set_option maxRecDepth 20000
theorem c123 {q : Nat} {c0 c1 c2 c3 c4 c5 : Value} {down : Bool} : Spec P 51 [.pointer (some ⟨q, 0, none⟩)] [pt q 0 [c0, c1, c2, c3, c4, c5, .bool down]] (fun _ : Unit => .int .i64 (if down then 6 else 0)) (fun _ => [pt q 0 [c0, c1, c2, c3, c4, c5, .bool down]]) := by
  refine Spec.intro Tryz.func51 rfl rfl rfl fun F => ?_
  cases down
  · refine W.rseq ?_
    refine WL.p rfl rfl rfl (PV.as rfl) ?_
    refine WL.next [(2, _), (0, _)] ⟨rfl, rfl, trivial⟩ ?_
    refine W.bseq ?_
    refine W.rseq ?_
    refine WL.p rfl rfl rfl (PV.mv rfl) ?_
    refine WL.p rfl rfl rfl (PV.eqV rfl rfl rfl (EqIs.p0 ul47)) ?_
    refine WL.p rfl rfl rfl (PV.as rfl) ?_
    refine WL.next [(3, _), (2, _), (0, _)] ⟨rfl, rfl, rfl, trivial⟩ ?_
    refine W.cF rfl ?_
    refine W.rseq ?_
    refine WL.p rfl rfl rfl (PV.mv rfl) ?_
    refine WL.p rfl rfl rfl (PV.nck rfl) ?_
    refine WL.p rfl rfl rfl (PV.fa fo202_3 rfl rfl) ?_
    refine WL.f rfl rfl rfl (FV.ld (LdD.sc 0 6 sc4 rfl rfl rfl rfl)) ?_
    refine WL.p rfl rfl rfl (PV.as rfl) ?_
    refine WL.next [(6, _), (2, _)] ⟨rfl, rfl, trivial⟩ ?_
    refine W.cF rfl ?_
    refine W.skip ?_
    refine K.out ?_
    refine K.next [(2, _)] ⟨rfl, trivial⟩ ?_
    refine W.rseq ?_
    refine WL.p rfl rfl rfl (PV.as rfl) ?_
    refine WL.next [(2, _)] ⟨rfl, trivial⟩ ?_
    refine W.ret ?_
    rotate_left
    exact K.fin (vs := [_]) () ⟨rfl, trivial⟩ rfl (Ent.refl _)
  · refine W.rseq ?_
    refine WL.p rfl rfl rfl (PV.as rfl) ?_
    refine WL.next [(2, _), (0, _)] ⟨rfl, rfl, trivial⟩ ?_
    refine W.bseq ?_
    refine W.rseq ?_
    refine WL.p rfl rfl rfl (PV.mv rfl) ?_
    refine WL.p rfl rfl rfl (PV.eqV rfl rfl rfl (EqIs.p0 ul47)) ?_
    refine WL.p rfl rfl rfl (PV.as rfl) ?_
    refine WL.next [(3, _), (2, _), (0, _)] ⟨rfl, rfl, rfl, trivial⟩ ?_
    refine W.cF rfl ?_
    refine W.rseq ?_
    refine WL.p rfl rfl rfl (PV.mv rfl) ?_
    refine WL.p rfl rfl rfl (PV.nck rfl) ?_
    refine WL.p rfl rfl rfl (PV.fa fo202_3 rfl rfl) ?_
    refine WL.f rfl rfl rfl (FV.ld (LdD.sc 0 6 sc4 rfl rfl rfl rfl)) ?_
    refine WL.p rfl rfl rfl (PV.as rfl) ?_
    refine WL.next [(6, _), (2, _)] ⟨rfl, rfl, trivial⟩ ?_
    refine W.cT rfl ?_
    refine W.rseq ?_
    refine WL.p rfl rfl rfl (PV.as rfl) ?_
    refine WL.next [(2, _)] ⟨rfl, trivial⟩ ?_
    refine W.ret ?_
    refine K.retB ?_
    refine K.retT ?_
    rotate_left
    exact K.fin (vs := [_]) () ⟨rfl, trivial⟩ rfl (Ent.refl _)
theorem c123n : Spec P 51 [.pointer none] [] (fun _ : Unit => .int .i64 1) (fun _ => []) := by
  refine Spec.intro Tryz.func51 rfl rfl rfl fun F => ?_
  refine W.rseq ?_
  refine WL.p rfl rfl rfl (PV.as rfl) ?_
  refine WL.next [(2, _), (0, _)] ⟨rfl, rfl, trivial⟩ ?_
  refine W.bseq ?_
  refine W.rseq ?_
  refine WL.p rfl rfl rfl (PV.mv rfl) ?_
  refine WL.p rfl rfl rfl (PV.eqV rfl rfl rfl (EqIs.p00 ul47)) ?_
  refine WL.p rfl rfl rfl (PV.as rfl) ?_
  refine WL.next [(3, _), (2, _), (0, _)] ⟨rfl, rfl, rfl, trivial⟩ ?_
  refine W.cT rfl ?_
  refine W.rseq ?_
  refine WL.p rfl rfl rfl (PV.as rfl) ?_
  refine WL.next [(2, _)] ⟨rfl, trivial⟩ ?_
  refine W.ret ?_
  refine K.retB ?_
  refine K.retT ?_
  rotate_left
  exact K.fin (vs := [_]) () ⟨rfl, trivial⟩ rfl (Ent.refl _)
theorem c274 {q : Nat} {c0 c1 c2 c3 c4 c5 : Value} {down : Bool} {e : Int} : Spec P 121 [.pointer (some ⟨q, 0, none⟩), .int .i64 e] [pt q 0 [c0, c1, c2, c3, c4, c5, .bool down]] (fun _ : Unit => .int .i64 e) (fun _ => [pt q 0 [c0, c1, c2, c3, c4, c5, .bool (down || decide (e = 6))]]) := by
  refine Spec.intro Tryz.func121 rfl rfl rfl fun F => ?_
  cases down
  · refine W.rseq ?_
    refine WL.p rfl rfl rfl (PV.as rfl) ?_
    refine WL.next [(4, _), (0, _), (1, _)] ⟨rfl, rfl, rfl, trivial⟩ ?_
    refine W.rseq ?_
    refine WL.p rfl rfl rfl (PV.mv rfl) ?_
    refine WL.p rfl rfl rfl (PV.mv rfl) ?_
    refine WL.p rfl rfl rfl (PV.nck rfl) ?_
    refine WL.p rfl rfl rfl (PV.fa fo202_3 rfl rfl) ?_
    refine WL.f rfl rfl rfl (FV.ld (LdD.sc 0 6 sc4 rfl rfl rfl rfl)) ?_
    refine WL.p rfl rfl rfl (PV.mv rfl) ?_
    refine WL.yes (dj := 10) rfl rfl rfl rfl rfl rfl (OpD.fv (PV.fv (PV.mv rfl))) ?_
    refine WL.yes (dj := 10) rfl rfl rfl rfl rfl rfl (OpD.fv (PV.fv (PV.eqI rfl rfl))) ?_
    refine WL.p rfl rfl rfl (PV.pickF rfl rfl rfl) ?_
    refine WL.p rfl rfl rfl (PV.nck rfl) ?_
    refine WL.p rfl rfl rfl (PV.fa fo202_3 rfl rfl) ?_
    refine WL.done rfl rfl (OpD.st 0 6 sz4 rfl rfl rfl rfl rfl rfl (NA.one (NA.bool _))) ?_
    refine WL.nm (H' := pt _ _ [_, _, _, _, _, _, _] :: _) rfl ?_
    refine WL.next [(4, _), (1, _)] ⟨rfl, rfl, trivial⟩ ?_
    refine W.rseq ?_
    refine WL.p rfl rfl rfl (PV.mv rfl) ?_
    refine WL.p rfl rfl rfl (PV.as rfl) ?_
    refine WL.next [(4, _)] ⟨rfl, trivial⟩ ?_
    refine W.ret ?_
    rotate_left
    exact K.fin (vs := [_]) () ⟨rfl, trivial⟩ rfl (Ent.refl _)
  · refine W.rseq ?_
    refine WL.p rfl rfl rfl (PV.as rfl) ?_
    refine WL.next [(4, _), (0, _), (1, _)] ⟨rfl, rfl, rfl, trivial⟩ ?_
    refine W.rseq ?_
    refine WL.p rfl rfl rfl (PV.mv rfl) ?_
    refine WL.p rfl rfl rfl (PV.mv rfl) ?_
    refine WL.p rfl rfl rfl (PV.nck rfl) ?_
    refine WL.p rfl rfl rfl (PV.fa fo202_3 rfl rfl) ?_
    refine WL.f rfl rfl rfl (FV.ld (LdD.sc 0 6 sc4 rfl rfl rfl rfl)) ?_
    refine WL.p rfl rfl rfl (PV.mv rfl) ?_
    refine WL.no (dj := 10) rfl rfl rfl rfl rfl ?_
    refine WL.no (dj := 10) rfl rfl rfl rfl rfl ?_
    refine WL.p rfl rfl rfl (PV.pickT rfl rfl rfl) ?_
    refine WL.p rfl rfl rfl (PV.nck rfl) ?_
    refine WL.p rfl rfl rfl (PV.fa fo202_3 rfl rfl) ?_
    refine WL.done rfl rfl (OpD.st 0 6 sz4 rfl rfl rfl rfl rfl rfl (NA.one (NA.bool _))) ?_
    refine WL.nm (H' := pt _ _ [_, _, _, _, _, _, _] :: _) rfl ?_
    refine WL.next [(4, _), (1, _)] ⟨rfl, rfl, trivial⟩ ?_
    refine W.rseq ?_
    refine WL.p rfl rfl rfl (PV.mv rfl) ?_
    refine WL.p rfl rfl rfl (PV.as rfl) ?_
    refine WL.next [(4, _)] ⟨rfl, trivial⟩ ?_
    refine W.ret ?_
    rotate_left
    exact K.fin (vs := [_]) () ⟨rfl, trivial⟩ rfl (Ent.refl _)
theorem c204 {q r1 r2 : Nat} {s : QS} {c4 c5 c6 : Value} : Spec P 89 [.pointer (some ⟨q, 0, none⟩)] [pt q 0 [.map (some r1), .map (some r2), .int .i64 s.next, .int .i64 s.aim, c4, c5, c6], mx Kmsg r1 s.mail, mx (Kint .i64) r2 s.form]
    (fun z : Nat × Nat => .agg #[.map (some z.1), .map (some z.2), .int .i64 s.next, .int .i64 s.aim]) (fun z => [pt q 0 [.map (some r1), .map (some r2), .int .i64 s.next, .int .i64 s.aim, c4, c5, c6], mx Kmsg r1 s.mail, mx (Kint .i64) r2 s.form, mx Kmsg z.1 s.mail, mx (Kint .i64) z.2 s.form]) := by
  refine Spec.intro Tryz.func89 rfl rfl rfl fun F => ?_
  refine W.ex 1 rfl fun m1 => ?_
  refine W.pr 0 rfl fun hm1 => ?_
  refine W.nm (H' := mp kvI Kmsg r1 m1 :: pt _ _ [_, _, _, _, _, _, _] :: _ :: _) rfl ?_
  refine W.ex 2 rfl fun m2 => ?_
  refine W.pr 0 rfl fun hm2 => ?_
  refine W.nm (H' := mp kvI (Kint .i64) r2 m2 :: mp kvI Kmsg r1 m1 :: pt _ _ [_, _, _, _, _, _, _] :: _) rfl ?_
  refine W.rseq ?_
  refine WL.putX rfl rfl rfl (OpX.alloc zr200) fun x2 => ?_
  refine WL.nm (H' := pt _ _ [_, _, _, _] :: _ :: _ :: pt _ _ [_, _, _, _, _, _, _] :: _) rfl ?_
  refine WL.next [(2, _), (0, _)] ⟨rfl, rfl, trivial⟩ ?_
  refine W.dseq [0, 1, 2, 3, 5, 6, 7, 8, 10, 11, 12, 13, 14, 15, 16, 17, 4, 9, 18, 19] mixedOrders rfl rfl fun hR => ?_
  refine DP.p rfl rfl rfl rfl rfl (PV.mv rfl) ?_
  refine DP.p rfl rfl rfl rfl rfl (PV.nck rfl) ?_
  refine DP.p rfl rfl rfl rfl rfl (PV.fa fo200_0 rfl rfl) ?_
  refine DP.f rfl rfl rfl rfl rfl (FV.ld (LdD.sc 3 0 sc197 rfl rfl rfl rfl)) ?_
  refine DP.p rfl rfl rfl rfl rfl (PV.mv rfl) ?_
  refine DP.p rfl rfl rfl rfl rfl (PV.nck rfl) ?_
  refine DP.p rfl rfl rfl rfl rfl (PV.fa fo200_1 rfl rfl) ?_
  refine DP.f rfl rfl rfl rfl rfl (FV.ld (LdD.sc 3 1 sc198 rfl rfl rfl rfl)) ?_
  refine DP.p rfl rfl rfl rfl rfl (PV.mv rfl) ?_
  refine DP.p rfl rfl rfl rfl rfl (PV.nck rfl) ?_
  refine DP.p rfl rfl rfl rfl rfl (PV.fa fo200_2 rfl rfl) ?_
  refine DP.f rfl rfl rfl rfl rfl (FV.ld (LdD.sc 3 2 sc3 rfl rfl rfl rfl)) ?_
  refine DP.p rfl rfl rfl rfl rfl (PV.mv rfl) ?_
  refine DP.p rfl rfl rfl rfl rfl (PV.nck rfl) ?_
  refine DP.p rfl rfl rfl rfl rfl (PV.fa fo200_3 rfl rfl) ?_
  refine DP.f rfl rfl rfl rfl rfl (FV.ld (LdD.sc 3 3 sc3 rfl rfl rfl rfl)) ?_
  refine DP.e hR [(17, _), (13, _), (8, _)] rfl rfl rfl rfl rfl (OpX.call cb272 (c272) rfl (.cons (i := 2) rfl .nil)) rfl (fun _ => (KeepL.keep rfl (FloatAt.of rfl (by first | exact FV.ld (LdD.sc 3 3 sc3 rfl rfl rfl rfl) | exact FV.ld (LdD.ag (us := _) 3 3 ag3 rfl rfl rfl rfl rfl) | exact FV.ld (LdD.sc 4 3 sc3 rfl rfl rfl rfl) | exact FV.ld (LdD.ag (us := _) 4 3 ag3 rfl rfl rfl rfl rfl) | exact FV.ld (LdD.sc 5 3 sc3 rfl rfl rfl rfl) | exact FV.ld (LdD.ag (us := _) 5 3 ag3 rfl rfl rfl rfl rfl) | exact FV.ld (LdD.sc 6 3 sc3 rfl rfl rfl rfl) | exact FV.ld (LdD.ag (us := _) 6 3 ag3 rfl rfl rfl rfl rfl) | exact FV.ld (LdD.sc 7 3 sc3 rfl rfl rfl rfl) | exact FV.ld (LdD.ag (us := _) 7 3 ag3 rfl rfl rfl rfl rfl) | exact FV.ld (LdD.sc 8 3 sc3 rfl rfl rfl rfl) | exact FV.ld (LdD.ag (us := _) 8 3 ag3 rfl rfl rfl rfl rfl) | exact FV.ld (LdD.sc 9 3 sc3 rfl rfl rfl rfl) | exact FV.ld (LdD.ag (us := _) 9 3 ag3 rfl rfl rfl rfl rfl) | exact FV.ld (LdD.sc 10 3 sc3 rfl rfl rfl rfl) | exact FV.ld (LdD.ag (us := _) 10 3 ag3 rfl rfl rfl rfl rfl) | exact FV.ld (LdD.sc 11 3 sc3 rfl rfl rfl rfl) | exact FV.ld (LdD.ag (us := _) 11 3 ag3 rfl rfl rfl rfl rfl) | exact FV.ld (LdD.sc 12 3 sc3 rfl rfl rfl rfl) | exact FV.ld (LdD.ag (us := _) 12 3 ag3 rfl rfl rfl rfl rfl))) (KeepL.keep rfl (FloatAt.of rfl (by first | exact FV.ld (LdD.sc 3 2 sc3 rfl rfl rfl rfl) | exact FV.ld (LdD.ag (us := _) 3 2 ag3 rfl rfl rfl rfl rfl) | exact FV.ld (LdD.sc 4 2 sc3 rfl rfl rfl rfl) | exact FV.ld (LdD.ag (us := _) 4 2 ag3 rfl rfl rfl rfl rfl) | exact FV.ld (LdD.sc 5 2 sc3 rfl rfl rfl rfl) | exact FV.ld (LdD.ag (us := _) 5 2 ag3 rfl rfl rfl rfl rfl) | exact FV.ld (LdD.sc 6 2 sc3 rfl rfl rfl rfl) | exact FV.ld (LdD.ag (us := _) 6 2 ag3 rfl rfl rfl rfl rfl) | exact FV.ld (LdD.sc 7 2 sc3 rfl rfl rfl rfl) | exact FV.ld (LdD.ag (us := _) 7 2 ag3 rfl rfl rfl rfl rfl) | exact FV.ld (LdD.sc 8 2 sc3 rfl rfl rfl rfl) | exact FV.ld (LdD.ag (us := _) 8 2 ag3 rfl rfl rfl rfl rfl) | exact FV.ld (LdD.sc 9 2 sc3 rfl rfl rfl rfl) | exact FV.ld (LdD.ag (us := _) 9 2 ag3 rfl rfl rfl rfl rfl) | exact FV.ld (LdD.sc 10 2 sc3 rfl rfl rfl rfl) | exact FV.ld (LdD.ag (us := _) 10 2 ag3 rfl rfl rfl rfl rfl) | exact FV.ld (LdD.sc 11 2 sc3 rfl rfl rfl rfl) | exact FV.ld (LdD.ag (us := _) 11 2 ag3 rfl rfl rfl rfl rfl) | exact FV.ld (LdD.sc 12 2 sc3 rfl rfl rfl rfl) | exact FV.ld (LdD.ag (us := _) 12 2 ag3 rfl rfl rfl rfl rfl))) (KeepL.keep rfl (FloatAt.of rfl (by first | exact FV.ld (LdD.sc 3 1 sc198 rfl rfl rfl rfl) | exact FV.ld (LdD.ag (us := _) 3 1 ag198 rfl rfl rfl rfl rfl) | exact FV.ld (LdD.sc 4 1 sc198 rfl rfl rfl rfl) | exact FV.ld (LdD.ag (us := _) 4 1 ag198 rfl rfl rfl rfl rfl) | exact FV.ld (LdD.sc 5 1 sc198 rfl rfl rfl rfl) | exact FV.ld (LdD.ag (us := _) 5 1 ag198 rfl rfl rfl rfl rfl) | exact FV.ld (LdD.sc 6 1 sc198 rfl rfl rfl rfl) | exact FV.ld (LdD.ag (us := _) 6 1 ag198 rfl rfl rfl rfl rfl) | exact FV.ld (LdD.sc 7 1 sc198 rfl rfl rfl rfl) | exact FV.ld (LdD.ag (us := _) 7 1 ag198 rfl rfl rfl rfl rfl) | exact FV.ld (LdD.sc 8 1 sc198 rfl rfl rfl rfl) | exact FV.ld (LdD.ag (us := _) 8 1 ag198 rfl rfl rfl rfl rfl) | exact FV.ld (LdD.sc 9 1 sc198 rfl rfl rfl rfl) | exact FV.ld (LdD.ag (us := _) 9 1 ag198 rfl rfl rfl rfl rfl) | exact FV.ld (LdD.sc 10 1 sc198 rfl rfl rfl rfl) | exact FV.ld (LdD.ag (us := _) 10 1 ag198 rfl rfl rfl rfl rfl) | exact FV.ld (LdD.sc 11 1 sc198 rfl rfl rfl rfl) | exact FV.ld (LdD.ag (us := _) 11 1 ag198 rfl rfl rfl rfl rfl) | exact FV.ld (LdD.sc 12 1 sc198 rfl rfl rfl rfl) | exact FV.ld (LdD.ag (us := _) 12 1 ag198 rfl rfl rfl rfl rfl))) (KeepL.drop rfl KeepL.nil))))) fun x7 => ?_
  refine DP.nm (H' := _ :: _ :: pt _ _ [_, _, _, _] :: _ :: pt _ _ [_, _, _, _, _, _, _] :: _) rfl ?_
  refine DP.e hR [(17, _), (13, _)] rfl rfl rfl rfl rfl (OpX.call cb273 (c273) rfl (.cons (i := 3) rfl .nil)) rfl (fun _ => (KeepL.keep rfl (FloatAt.of rfl (by first | exact FV.ld (LdD.sc 4 3 sc3 rfl rfl rfl rfl) | exact FV.ld (LdD.ag (us := _) 4 3 ag3 rfl rfl rfl rfl rfl) | exact FV.ld (LdD.sc 5 3 sc3 rfl rfl rfl rfl) | exact FV.ld (LdD.ag (us := _) 5 3 ag3 rfl rfl rfl rfl rfl) | exact FV.ld (LdD.sc 6 3 sc3 rfl rfl rfl rfl) | exact FV.ld (LdD.ag (us := _) 6 3 ag3 rfl rfl rfl rfl rfl) | exact FV.ld (LdD.sc 7 3 sc3 rfl rfl rfl rfl) | exact FV.ld (LdD.ag (us := _) 7 3 ag3 rfl rfl rfl rfl rfl) | exact FV.ld (LdD.sc 8 3 sc3 rfl rfl rfl rfl) | exact FV.ld (LdD.ag (us := _) 8 3 ag3 rfl rfl rfl rfl rfl) | exact FV.ld (LdD.sc 9 3 sc3 rfl rfl rfl rfl) | exact FV.ld (LdD.ag (us := _) 9 3 ag3 rfl rfl rfl rfl rfl) | exact FV.ld (LdD.sc 10 3 sc3 rfl rfl rfl rfl) | exact FV.ld (LdD.ag (us := _) 10 3 ag3 rfl rfl rfl rfl rfl) | exact FV.ld (LdD.sc 11 3 sc3 rfl rfl rfl rfl) | exact FV.ld (LdD.ag (us := _) 11 3 ag3 rfl rfl rfl rfl rfl) | exact FV.ld (LdD.sc 12 3 sc3 rfl rfl rfl rfl) | exact FV.ld (LdD.ag (us := _) 12 3 ag3 rfl rfl rfl rfl rfl) | exact FV.ld (LdD.sc 13 3 sc3 rfl rfl rfl rfl) | exact FV.ld (LdD.ag (us := _) 13 3 ag3 rfl rfl rfl rfl rfl))) (KeepL.keep rfl (FloatAt.of rfl (by first | exact FV.ld (LdD.sc 4 2 sc3 rfl rfl rfl rfl) | exact FV.ld (LdD.ag (us := _) 4 2 ag3 rfl rfl rfl rfl rfl) | exact FV.ld (LdD.sc 5 2 sc3 rfl rfl rfl rfl) | exact FV.ld (LdD.ag (us := _) 5 2 ag3 rfl rfl rfl rfl rfl) | exact FV.ld (LdD.sc 6 2 sc3 rfl rfl rfl rfl) | exact FV.ld (LdD.ag (us := _) 6 2 ag3 rfl rfl rfl rfl rfl) | exact FV.ld (LdD.sc 7 2 sc3 rfl rfl rfl rfl) | exact FV.ld (LdD.ag (us := _) 7 2 ag3 rfl rfl rfl rfl rfl) | exact FV.ld (LdD.sc 8 2 sc3 rfl rfl rfl rfl) | exact FV.ld (LdD.ag (us := _) 8 2 ag3 rfl rfl rfl rfl rfl) | exact FV.ld (LdD.sc 9 2 sc3 rfl rfl rfl rfl) | exact FV.ld (LdD.ag (us := _) 9 2 ag3 rfl rfl rfl rfl rfl) | exact FV.ld (LdD.sc 10 2 sc3 rfl rfl rfl rfl) | exact FV.ld (LdD.ag (us := _) 10 2 ag3 rfl rfl rfl rfl rfl) | exact FV.ld (LdD.sc 11 2 sc3 rfl rfl rfl rfl) | exact FV.ld (LdD.ag (us := _) 11 2 ag3 rfl rfl rfl rfl rfl) | exact FV.ld (LdD.sc 12 2 sc3 rfl rfl rfl rfl) | exact FV.ld (LdD.ag (us := _) 12 2 ag3 rfl rfl rfl rfl rfl) | exact FV.ld (LdD.sc 13 2 sc3 rfl rfl rfl rfl) | exact FV.ld (LdD.ag (us := _) 13 2 ag3 rfl rfl rfl rfl rfl))) (KeepL.drop rfl KeepL.nil)))) fun x12 => ?_
  refine DP.nm (H' := _ :: _ :: _ :: _ :: pt _ _ [_, _, _, _] :: pt _ _ [_, _, _, _, _, _, _] :: _) rfl ?_
  refine DP.p rfl rfl rfl rfl rfl (PV.bld (cs := [_, _, _, _]) bt200 rfl rfl) ?_
  refine DP.e0 hR [] rfl rfl rfl (OpD.st 4 0 sz200 rfl rfl rfl rfl rfl rfl (NAs.mem (vs := [_, _, _, _]) ⟨NA.map _, NA.map _, NA.int _ _, NA.int _ _, trivial⟩)) rfl (fun _ => (KeepL.drop rfl (KeepL.drop rfl KeepL.nil))) fun _ => ?_
  refine DP.nm (H' := _ :: _ :: _ :: _ :: pt _ _ [_, _, _, _] :: pt _ _ [_, _, _, _, _, _, _] :: _) rfl ?_
  refine DP.fin hR ?_
  clear hR
  refine K.next [(2, _)] ⟨rfl, trivial⟩ ?_
  refine W.ret ?_
  rotate_left
  refine K.fin (vs := [_]) (x7, x12) ⟨LdD.ag (us := [_, _, _, _]) 4 0 ag200 rfl rfl rfl rfl rfl, trivial⟩ rfl ?_
  refine Ent.take 5 rfl (Ent.fold m1 (Ent.pr hm1 (Ent.take 3 rfl (Ent.fold m2 (Ent.pr hm2 (Ent.take 1 rfl (Ent.fold m1 (Ent.pr hm1 (Ent.take 1 rfl (Ent.fold m2 (Ent.pr hm2 (Ent.take 0 rfl ?_))))))))))))
  exact Ent.tail (Ent.refl _)
/-- Get, of none and of one. -/
theorem c45n : Spec P 23 [.pointer none] [] (fun _ : Unit => .int .i64 0) (fun _ => []) := by
  refine Spec.intro Tryz.func23 rfl rfl rfl fun F => ?_
  refine W.rseq ?_
  refine WL.p rfl rfl rfl (PV.as rfl) ?_
  refine WL.next [(2, _), (0, _)] ⟨rfl, rfl, trivial⟩ ?_
  refine W.seq ?_
  refine W.rseq ?_
  refine WL.p rfl rfl rfl (PV.mv rfl) ?_
  refine WL.p rfl rfl rfl (PV.eqV rfl rfl rfl (EqIs.p00 ul47)) ?_
  refine WL.next [(4, _), (2, _), (0, _)] ⟨rfl, rfl, rfl, trivial⟩ ?_
  refine W.cT rfl ?_
  refine W.rseq ?_
  refine WL.p rfl rfl rfl (PV.as rfl) ?_
  refine WL.next [(2, _), (0, _)] ⟨rfl, rfl, trivial⟩ ?_
  refine W.ret ?_
  refine K.retT ?_
  rotate_left
  exact K.fin (vs := [_]) () ⟨rfl, trivial⟩ rfl (Ent.refl _)
theorem c45 {q : Nat} {c0 c1 c3 c4 c5 c6 : Value} {n : Int} : Spec P 23 [.pointer (some ⟨q, 0, none⟩)] [pt q 0 [c0, c1, .int .i64 n, c3, c4, c5, c6]] (fun _ : Unit => .int .i64 n) (fun _ => [pt q 0 [c0, c1, .int .i64 n, c3, c4, c5, c6]]) := by
  refine Spec.intro Tryz.func23 rfl rfl rfl fun F => ?_
  refine W.rseq ?_
  refine WL.p rfl rfl rfl (PV.as rfl) ?_
  refine WL.next [(2, _), (0, _)] ⟨rfl, rfl, trivial⟩ ?_
  refine W.seq ?_
  refine W.rseq ?_
  refine WL.p rfl rfl rfl (PV.mv rfl) ?_
  refine WL.p rfl rfl rfl (PV.eqV rfl rfl rfl (EqIs.p0 ul47)) ?_
  refine WL.next [(4, _), (2, _), (0, _)] ⟨rfl, rfl, rfl, trivial⟩ ?_
  refine W.cF rfl ?_
  refine W.skip ?_
  refine K.next [(2, _), (0, _)] ⟨rfl, rfl, trivial⟩ ?_
  refine W.rseq ?_
  refine WL.p rfl rfl rfl (PV.mv rfl) ?_
  refine WL.p rfl rfl rfl (PV.nck rfl) ?_
  refine WL.p rfl rfl rfl (PV.fa fo202_0 rfl rfl) ?_
  refine WL.p rfl rfl rfl (PV.fa fo200_2 rfl rfl) ?_
  refine WL.f rfl rfl rfl (FV.ld (LdD.sc 0 2 sc3 rfl rfl rfl rfl)) ?_
  refine WL.p rfl rfl rfl (PV.as rfl) ?_
  refine WL.next [(2, _)] ⟨rfl, trivial⟩ ?_
  refine W.ret ?_
  rotate_left
  exact K.fin (vs := [_]) () ⟨rfl, trivial⟩ rfl (Ent.refl _)
end Go.Sl
