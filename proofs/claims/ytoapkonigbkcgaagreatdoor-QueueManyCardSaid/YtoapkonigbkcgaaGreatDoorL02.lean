/- A library for the proof (part 2): Sl11 Sl12 Pu Sl13 Sl14 Sl15 Sl16 Sl17 Pn Sl18. -/
import Derived.Test.YtoapkonigbkcgaaGreatDoorL01
import Derived.KernelRfl
set_option linter.unusedVariables false
set_option linter.unusedSimpArgs false
set_option linter.unusedSectionVars false
/-! Maps. -/
namespace Go.Sl
open Go

section plain
variable {κ α : Type} [BEq κ] [LawfulBEq κ]
def mget : List (κ × α) → κ → Option α
  | [], _ => none
  | (k', a) :: m, k => if k' == k then some a else mget m k
def mset : List (κ × α) → κ → α → List (κ × α)
  | [], k, a => [(k, a)]
  | (k', a') :: m, k, a => if k' == k then (k', a) :: m else (k', a') :: mset m k a
def mdel : List (κ × α) → κ → List (κ × α)
  | [], _ => []
  | (k', a) :: m, k => if k' == k then m else (k', a) :: mdel m k
/-- Where a key stands. -/
def midx : List (κ × α) → κ → Option Nat
  | [], _ => none
  | (k', _) :: m, k => if k' == k then some 0 else (midx m k).map (· + 1)

theorem midx_some : ∀ {m : List (κ × α)} {k : κ} {i : Nat}, midx m k = some i → ∃ a, m[i]? = some (k, a) ∧ mget m k = some a ∧ (∀ b, mset m k b = m.set i (k, b)) ∧ mdel m k = m.eraseIdx i
  | (k', a) :: m, k, i, h => by
    unfold midx at h
    by_cases e : (k' == k) = true
    · rw [if_pos e] at h
      simp only [Option.some.injEq] at h
      subst h
      have e' := eq_of_beq e
      subst e'
      exact ⟨a, rfl, by simp [mget], fun b => by simp [mset], by simp [mdel]⟩
    · rw [if_neg e] at h
      cases hm : midx m k with
      | none => rw [hm] at h; cases h
      | some j =>
        rw [hm] at h
        simp only [Option.map_some, Option.some.injEq] at h
        subst h
        obtain ⟨b, h1, h2, h3, h4⟩ := midx_some hm
        exact ⟨b, by simpa using h1, by simp [mget, e, h2], fun c => by simp [mset, e, h3], by simp [mdel, e, h4]⟩

omit [LawfulBEq κ] in
theorem midx_none : ∀ {m : List (κ × α)} {k : κ}, midx m k = none → mget m k = none ∧ (∀ b, mset m k b = m ++ [(k, b)]) ∧ mdel m k = m
  | [], k, _ => ⟨rfl, fun _ => rfl, rfl⟩
  | (k', a) :: m, k, h => by
    unfold midx at h
    by_cases e : (k' == k) = true
    · rw [if_pos e] at h; cases h
    · rw [if_neg e] at h
      cases hm : midx m k with
      | some j => rw [hm] at h; cases h
      | none =>
        obtain ⟨h1, h2, h3⟩ := midx_none hm
        exact ⟨by simp [mget, e, h1], fun b => by simp [mset, e, h2], by simp [mdel, e, h3]⟩
end plain

/-- Keys of a type are told apart by their values. -/
def KeyT {κ : Type} [BEq κ] (P : Program) (t : TypeId) (kv : κ → Value) : Prop :=
  ∃ ds, P.underlying t = some ds ∧ (∀ a b, Instr.sameNow ds (kv a) (kv b) = some (a == b)) ∧ (∀ ms, ds ≠ .interface ms) ∧ (∀ n e, ds ≠ .array n e) ∧ (∀ fs, ds ≠ .struct fs) ∧ ∀ a n, Instr.sameBits n (kv a) (kv a) = true
def MapT (P : Program) (t kt et : TypeId) : Prop := P.underlying t = some (.map kt et)

section
variable {P : Program} {κ α : Type} [BEq κ] [LawfulBEq κ] {kv : κ → Value} {K : Kd α} {w : World}

theorem findNow_midx {ds : TypeDesc} (hs : ∀ a b, Instr.sameNow ds (kv a) (kv b) = some (a == b)) (k : κ) : ∀ (m : List (κ × α)) (es : List MapEntry) (i : Nat), es.length = m.length → (∀ (j : Nat) (x : κ × α), m[j]? = some x → ∃ e : MapEntry, es[j]? = some e ∧ e.key = kv x.1) →
    Instr.findNow ds (kv k) es i = some (match midx m k with | some j => (es[j]?).map fun e => (i + j, e.val) | none => none)
  | [], [], i, _, _ => rfl
  | x :: m, e :: es, i, hl, h => by
    obtain ⟨k', a⟩ := x
    obtain ⟨e', h1, h2⟩ := h 0 _ rfl
    simp only [List.getElem?_cons_zero, Option.some.injEq] at h1
    subst h1
    unfold Instr.findNow midx
    rw [h2, hs]
    have ih := findNow_midx hs k m es (i + 1) (by simpa using hl) (fun j y hy => by have := h (j + 1) y (by simpa using hy); simpa using this)
    by_cases hk : (k' == k) = true
    · have e' := eq_of_beq hk
      subst e'
      simp
    · have hk2 : (k == k') = false := by
        cases hb : (k == k') with
        | false => rfl
        | true => have := eq_of_beq hb; subst this; simp at hk
      rw [hk2, if_neg hk]
      simp only
      rw [ih]
      cases hm : midx m k with
      | none => rfl
      | some j => simp only [Option.map_some, List.getElem?_cons_succ]; rw [show i + 1 + j = i + (j + 1) from by omega]

omit [LawfulBEq κ] in
theorem run_checkKey {t : TypeId} {b : Bool} {v : Value} (hk : KeyT P t kv) (n : Nat) : (Instr.checkKey b (n + 1) t v).run P w = .ok () w := by
  obtain ⟨ds, h1, _, h3, h4, h5, _⟩ := hk
  unfold Instr.checkKey
  rw [run_bind (run_underlying h1 w)]
  cases ds <;> first | exact (h3 _ rfl).elim | exact (h4 _ _ rfl).elim | exact (h5 _ rfl).elim | rfl

theorem run_findKey {t : TypeId} {m : List (κ × α)} {es : Array MapEntry} (hk : KeyT P t kv) (k : κ) (hl : es.size = m.length) (h : ∀ (j : Nat) (x : κ × α), m[j]? = some x → ∃ e : MapEntry, es[j]? = some e ∧ e.key = kv x.1) :
    (Instr.findKey t (kv k) es.toList).run P w = .ok (match midx m k with | some j => (es[j]?).map fun e => (j, e.val) | none => none) w := by
  obtain ⟨ds, h1, h2, _⟩ := hk
  unfold Instr.findKey
  rw [run_bind (run_underlying h1 w)]
  rw [findNow_midx h2 k m es.toList 0 (by simpa using hl) (fun j x hx => by simpa using h j x hx)]
  simp

variable {ρ : Env} {H : List Res} {d : Option Tmp} {ty : TypeId} {pos : String} {af : Array Edge} {g : Option (Nat × Bool)} {x y z : Operand}

theorem run_getObj {r : Nat} {es : Array MapEntry} {clock : Nat} (h : w.heap[r]? = some (.map es clock)) : (getObj r).run P w = .ok (.map es clock) w := by
  simp [getObj, Sem.run, h]
theorem run_setObj {r : Nat} {es es' : Array MapEntry} {clock clock' : Nat} (h : w.heap[r]? = some (.map es clock)) : (setObj r (.map es' clock')).run P w = .ok () { w with heap := w.heap.setIfInBounds r (.map es' clock') } := by
  simp [setObj, Sem.run, h]

/-- m[k], found. -/
theorem OpX.lkT {t kt et r : Nat} {m : List (κ × α)} {k : κ} {a0 : α} (i : Nat) (ht : MapT P t kt et) (hk : KeyT P kt kv) (hx : ev ρ x = some (.map (some r))) (hy : ev ρ y = some (kv k)) (hi : H[i]? = some (mp kv K r m)) (hg : mget m k = some a0) (c : Bool) :
    OpX P ⟨d, .lookup t x y c, ty, pos, af, g⟩ ρ H (fun q : K.π => if c then .tuple #[K.val a0 q, .bool true] else K.val a0 q) (fun q => K.inner a0 q ++ H) := by
  intro n a w ha hw next Q kk
  obtain ⟨O, R, hs⟩ := hw
  obtain ⟨O1, R1, O2, R2, ⟨h1, h2, es, clock, h3, h4, h5, h6, h7⟩, g2, d1, d2, eo, er⟩ := hs.perm (perm_rem hi)
  cases hm : midx m k with
  | none => rw [(midx_none hm).1] at hg; cases hg
  | some j =>
    obtain ⟨a1, m1, m2, _, _⟩ := midx_some hm
    rw [m2] at hg; cases hg
    obtain ⟨e, e1, e2, q, e3, e4⟩ := h7 j _ m1
    have hrun : (Instr.lookup t (.map (some r)) (kv k) c).run P w = .ok (if c then .tuple #[K.val a0 q, .bool true] else K.val a0 q) w := by
      unfold Instr.lookup
      rw [run_bind (run_underlying ht w)]
      simp only
      rw [run_bind (run_getObj h3)]
      simp only [pure_bind]
      rw [run_bind (run_checkKey hk 9999), run_bind (run_findKey hk k h4 (fun j x hx => let ⟨e, e1, e2, _⟩ := h7 j x hx; ⟨e, e1, e2⟩)), hm]
      simp only [e1, Option.map_some, e3]
      cases c <;> rfl
    have hexec : (execOp a.eval ⟨d, .lookup t x y c, ty, pos, af, g⟩).run P w = .ok (.value (if c then .tuple #[K.val a0 q, .bool true] else K.val a0 q)) w := by
      have e0 : execOp a.eval ⟨d, .lookup t x y c, ty, pos, af, g⟩ = (Instr.lookup t (.map (some r)) (kv k) c >>= fun x => pure (Next.value x)) := by simp only [execOp, ha.ev hx, ha.ev hy]
      rw [e0]; exact run_v hrun
    rw [hexec]
    obtain ⟨R', k1, k2⟩ := Sep.persL _ e4
    exact kk q w (Holds.addPers hs k1 fun b i hb ho => ((eo b i).1 ho).elim (fun h => (h2 b i (k2 b i hb)).2 ((h1 b i).1 h)) fun h => d2 b i h (k2 b i hb))

/-- m[k], not found. -/
theorem FV.lkF {t kt et r : Nat} {m : List (κ × α)} {k : κ} {zv : Value} (i : Nat) (ht : MapT P t kt et) (hk : KeyT P kt kv) (hz : Zr P et zv) (hx : ev ρ x = some (.map (some r))) (hy : ev ρ y = some (kv k)) (hi : H[i]? = some (mp kv K r m)) (hg : mget m k = none) (c : Bool) :
    FV P ⟨d, .lookup t x y c, ty, pos, af, g⟩ ρ H (if c then .tuple #[zv, .bool false] else zv) := by
  refine fun n a w ha hw => ?_
  obtain ⟨O1, R1, h1, h2, es, clock, h3, h4, h5, h6, h7⟩ := hw.at hi
  cases hm : midx m k with
  | some j => obtain ⟨a1, m1, m2, _, _⟩ := midx_some hm; rw [m2] at hg; cases hg
  | none =>
    have hrun : (Instr.lookup t (.map (some r)) (kv k) c).run P w = .ok (if c then .tuple #[zv, .bool false] else zv) w := by
      unfold Instr.lookup
      rw [run_bind (run_underlying ht w)]
      simp only
      rw [run_bind (run_getObj h3)]
      simp only [pure_bind]
      rw [run_bind (run_checkKey hk 9999), run_bind (run_findKey hk k h4 (fun j x hx => let ⟨e, e1, e2, _⟩ := h7 j x hx; ⟨e, e1, e2⟩)), hm]
      simp only
      rw [run_bind (run_zero hz)]
      cases c <;> rfl
    have e0 : execOp a.eval ⟨d, .lookup t x y c, ty, pos, af, g⟩ = (Instr.lookup t (.map (some r)) (kv k) c >>= fun x => pure (Next.value x)) := by simp only [execOp, ha.ev hx, ha.ev hy]
    rw [e0]; exact run_v hrun

omit [BEq κ] [LawfulBEq κ] in
/-- len(m). -/
theorem FV.lenM {t kt et r : Nat} {m : List (κ × α)} {ts : Array TypeId} (i : Nat) (ht : MapT P t kt et) (hts : ts[0]? = some t) (hx : ev ρ x = some (.map (some r))) (hi : H[i]? = some (mp kv K r m)) :
    FV P ⟨d, .call ⟨.builtin .len, #[x], ts⟩, ty, pos, af, g⟩ ρ H (.int .i64 m.length) :=
  fun n a w ha hw => by
    obtain ⟨O1, R1, h1, h2, es, clock, h3, h4, _⟩ := hw.at hi
    have e0 : execOp a.eval ⟨d, .call ⟨.builtin .len, #[x], ts⟩, ty, pos, af, g⟩ = (Builtin.len_ ts ty #[.map (some r)] >>= fun x => pure (Next.value x)) := by
      simp [execOp, resolve, invoke, builtin, ha.ev hx]
    rw [e0]
    refine run_v ?_
    unfold Builtin.len_
    have g3 : (#[Value.map (some r)] : Array Value)[0]? = some (.map (some r)) := rfl
    simp only [hts, g3]
    rw [run_bind (run_underlying ht w)]
    simp only
    rw [run_bind (run_getObj h3)]
    simp only [h4]
    rfl

omit [BEq κ] [LawfulBEq κ] in
/-- A new map. -/
theorem OpX.mkM {t : Nat} : OpX P ⟨d, .makeMap t none, ty, pos, af, g⟩ ρ H (fun r => .map (some r)) (fun r => mp kv K r [] :: H) := by
  intro n a w ha hw next Q kk
  have hexec : (execOp a.eval ⟨d, .makeMap t none, ty, pos, af, g⟩).run P w = .ok (.value (.map (some w.heap.size))) (w.alloc (.map #[] 0)) := rfl
  rw [hexec]
  refine kk w.heap.size _ ?_
  have ht : Trans w (w.alloc (.map #[] 0)) [] [mp kv K w.heap.size ([] : List (κ × α))] := by
    rintro O R ⟨ho, hr⟩
    refine ⟨fun b _ => b = w.heap.size, none0, ⟨_, none0, none0, none0, ⟨fun _ _ => Iff.rfl, fun _ _ h => h.elim, #[], 0, heap_alloc_new .., rfl, by simp, fun e he => by simp at he, fun i x hx => by simp at hx⟩, ⟨fun _ _ h => h, fun _ _ h => h⟩,
      fun _ _ _ => ⟨fun h => h, fun h => h⟩, fun _ _ h => h.elim, fun _ _ => by simp [none0], fun _ _ => by simp [none0]⟩, fun b j hb => .inr (by omega), fun _ _ h => h.elim, fun b j hlt _ => lookO_alloc hlt⟩
  exact Holds.trans (A := []) ht hw

omit [BEq κ] [LawfulBEq κ] in
theorem lookO_setObj {r : Nat} {o' : Obj} {c k : Nat} (h : c ≠ r) : lookO { w with heap := w.heap.setIfInBounds r o' } c k = lookO w c k := by
  have h5 : ({ w with heap := w.heap.setIfInBounds r o' } : World).heap[c]? = w.heap[c]? := by
    show (w.heap.setIfInBounds r o')[c]? = _
    rw [Array.getElem?_setIfInBounds, if_neg (fun e => h e.symm)]
  simp only [lookO, World.cell?, World.frozen?, h5]

omit [BEq κ] [LawfulBEq κ] in
/-- A map's block turns: other entries. -/
theorem Trans.map {r : Nat} {m m' : List (κ × α)} {es' : Array MapEntry} {clock' : Nat} {F : List Res} {O1 R1 OF RF R2 : Fp} (h : mpH kv K r m w O1 R1) (hF : Sep w F OF RF) (d1 : ∀ b i, O1 b i → ¬ OF b i ∧ ¬ RF b i) (d2 : ∀ b i, OF b i → ¬ R1 b i)
    (r2 : ∀ b i, R2 b i → (w.cell? ⟨b, i, none⟩).isSome = true ∧ ¬ O1 b i ∧ ¬ OF b i)
    (hs : es'.size = m'.length) (hb : (es'.toList.map (·.born)).Nodup) (hc : ∀ e, e ∈ es'.toList → e.born < clock')
    (he : ∀ (i : Nat) (x : κ × α), m'[i]? = some x → ∃ e : MapEntry, es'[i]? = some e ∧ e.key = kv x.1 ∧ ∃ q, e.val = K.val x.2 q ∧ ∀ s, s ∈ K.inner x.2 q → ∃ R', s.holds w none0 R' ∧ ∀ b i, R' b i → R1 b i ∨ R2 b i) :
    Holds (mp kv K r m' :: F) { w with heap := w.heap.setIfInBounds r (.map es' clock') } := by
  obtain ⟨h1, h2, es, clock, h3, _⟩ := h
  have hr : r < w.heap.size := (Array.getElem?_eq_some_iff.1 h3).1
  have keep : ∀ c k, ¬ O1 c k → lookO { w with heap := w.heap.setIfInBounds r (.map es' clock') } c k = lookO w c k := fun c k hn => lookO_setObj fun e => hn ((h1 c k).2 e)
  have keepC : ∀ c k, ¬ O1 c k → ({ w with heap := w.heap.setIfInBounds r (.map es' clock') } : World).cell? ⟨c, k, none⟩ = w.cell? ⟨c, k, none⟩ := by
    intro c k hn
    have := keep c k hn
    simp only [lookO, Prod.mk.injEq] at this
    exact this.1
  have hR : ∀ c k, R1 c k ∨ R2 c k → ¬ O1 c k := fun c k hb ho => hb.elim (fun h => (h2 c k h).2 ((h1 c k).1 ho)) fun h => (r2 c k h).2.1 ho
  refine ⟨fun c k => O1 c k ∨ OF c k, fun c k => (R1 c k ∨ R2 c k) ∨ RF c k, O1, fun c k => R1 c k ∨ R2 c k, OF, RF, ⟨h1, fun c k hb => ⟨?_, fun e => hR c k hb ((h1 c k).2 e)⟩, es', clock', ?_, hs, hb, hc, fun i x hx => ?_⟩,
    hF.loc ⟨fun c k hb => keep c k fun h => (d1 c k h).1 hb, fun c k hb => keepC c k fun h => (d1 c k h).2 hb⟩, d1, fun c k hb hb' => hb'.elim (d2 c k hb) fun h => (r2 c k h).2.2 hb, fun _ _ => Iff.rfl, fun _ _ => Iff.rfl⟩
  · rw [keepC c k (hR c k hb)]
    exact hb.elim (fun h => (h2 c k h).1) fun h => (r2 c k h).1
  · show (w.heap.setIfInBounds r (.map es' clock'))[r]? = _
    rw [Array.getElem?_setIfInBounds]; simp [hr]
  · obtain ⟨e, g1, g2, q, g3, g4⟩ := he i x hx
    refine ⟨e, g1, g2, q, g3, fun s hs => ?_⟩
    obtain ⟨R', k1, k2⟩ := g4 s hs
    exact ⟨R', s.loc k1 ⟨fun _ _ h => h.elim, fun c k hb => keepC c k (hR c k (k2 c k hb))⟩, k2⟩

/-- m[k] = v. -/
theorem OpD.upM {t kt et r : Nat} {m : List (κ × α)} {k : κ} {a0 : α} {q : K.π} {ins : Bool} (i : Nat) (ht : MapT P t kt et) (hk : KeyT P kt kv) (hx : ev ρ x = some (.map (some r))) (hy : ev ρ y = some (kv k)) (hz : ev ρ z = some (K.val a0 q)) (hi : H[i]? = some (mp kv K r m))
    (hin : ∀ s, s ∈ K.inner a0 q → s ∈ Sl.rem H i) : OpD P ⟨d, if ins then .insert t x y z else .mapUpdate t x y z, ty, pos, af, g⟩ ρ H undef (setR H i (mp kv K r (mset m k a0))) := by
  intro n a w ha hw next Q kk
  obtain ⟨O, R, hs⟩ := hw.pick hi
  have hs0 := hs
  obtain ⟨O1, R1, OF, RF, h, hF, d1, d2, eo, er⟩ := hs
  have h' := h
  obtain ⟨h1, h2, es, clock, h3, h4, h5, h6, h7⟩ := h
  obtain ⟨R2, g1, g2⟩ := Holds.membersR hs0 (rs := K.inner a0 q) (fun r hr => by simp [hin r hr]) (K.pers a0 q)
  have r2 : ∀ b i, R2 b i → (w.cell? ⟨b, i, none⟩).isSome = true ∧ ¬ O1 b i ∧ ¬ OF b i := fun b i hb => ⟨(g2 b i hb).1, fun h => (g2 b i hb).2 ((eo b i).2 (.inl h)), fun h => (g2 b i hb).2 ((eo b i).2 (.inr h))⟩
  have hfk := run_findKey (P := P) (w := w) hk k h4 (fun j x hx => let ⟨e, e1, e2, _⟩ := h7 j x hx; ⟨e, e1, e2⟩)
  have main : ∃ w', (Instr.mapUpdate t (.map (some r)) (kv k) (K.val a0 q)).run P w = .ok () w' ∧ Holds (mp kv K r (mset m k a0) :: Sl.rem H i) w' := by
    cases hm : midx m k with
    | some j =>
      obtain ⟨a1, m1, m2, m3, _⟩ := midx_some hm
      obtain ⟨e, e1, e2, q1, e3, e4⟩ := h7 j _ m1
      refine ⟨{ w with heap := w.heap.setIfInBounds r (.map (es.modify j fun e => { e with key := kv k, val := K.val a0 q }) clock) }, ?_, ?_⟩
      · unfold Instr.mapUpdate
        rw [run_bind (run_underlying ht w)]
        simp only
        rw [run_bind (run_getObj h3)]
        simp only
        rw [run_bind (run_checkKey hk 9999), run_bind hfk, hm]
        simp only [e1, Option.map_some, Option.getD_some, e2]
        have hstay : (Instr.keyThatStays (kv k) (kv k)).run P w = .ok (kv k) w := by
          unfold Instr.keyThatStays
          obtain ⟨_, _, _, _, _, _, hsb⟩ := hk
          rw [if_pos (hsb k _)]; rfl
        rw [run_bind hstay]
        exact run_setObj h3
      · rw [m3]
        refine Trans.map h' hF d1 d2 r2 (by simp [h4]) ?_ ?_ ?_
        · have : (es.modify j fun e => { e with key := kv k, val := K.val a0 q }).toList.map (·.born) = es.toList.map (·.born) := by
            apply List.ext_getElem?
            intro l
            simp only [List.getElem?_map, Array.getElem?_toList, Array.getElem?_modify]
            split
            · cases es[l]? <;> rfl
            · rfl
          rw [this]; exact h5
        · intro e' he'
          obtain ⟨l, hl⟩ := List.getElem?_of_mem he'
          rw [Array.getElem?_toList, Array.getElem?_modify] at hl
          split at hl
          · cases hel : es[l]? with
            | none => rw [hel] at hl; cases hl
            | some e0 =>
              rw [hel] at hl
              simp only [Option.map_some, Option.some.injEq] at hl
              subst hl
              exact h6 e0 (List.mem_of_getElem? (i := l) (by simpa using hel))
          · exact h6 e' (List.mem_of_getElem? (i := l) (by simpa using hl))
        · intro l x hx
          by_cases hlj : j = l
          · subst hlj
            have hjl : j < m.length := (List.getElem?_eq_some_iff.1 m1).1
            rw [List.getElem?_set_self hjl] at hx
            cases hx
            refine ⟨{ e with key := kv k, val := K.val a0 q }, by rw [Array.getElem?_modify]; simp [e1], rfl, q, rfl, fun s hs => ?_⟩
            obtain ⟨R', k1, k2⟩ := g1 s hs
            exact ⟨R', k1, fun b i hb => .inr (k2 b i hb)⟩
          · rw [List.getElem?_set_ne hlj] at hx
            obtain ⟨e', f1, f2, q', f3, f4⟩ := h7 l x hx
            refine ⟨e', by rw [Array.getElem?_modify, if_neg hlj]; exact f1, f2, q', f3, fun s hs => ?_⟩
            obtain ⟨R', k1, k2⟩ := f4 s hs
            exact ⟨R', k1, fun b i hb => .inl (k2 b i hb)⟩
    | none =>
      obtain ⟨m1, m2, _⟩ := midx_none hm
      refine ⟨{ w with heap := w.heap.setIfInBounds r (.map (es.push { key := kv k, val := K.val a0 q, born := clock }) (clock + 1)) }, ?_, ?_⟩
      · unfold Instr.mapUpdate
        rw [run_bind (run_underlying ht w)]
        simp only
        rw [run_bind (run_getObj h3)]
        simp only
        rw [run_bind (run_checkKey hk 9999), run_bind hfk, hm]
        simp only
        exact run_setObj h3
      · rw [m2]
        refine Trans.map h' hF d1 d2 r2 (by simp [h4]) ?_ ?_ ?_
        · simp only [Array.toList_push, List.map_append, List.map_cons, List.map_nil]
          refine List.nodup_append.2 ⟨h5, by simp, fun a ha b hb => ?_⟩
          simp only [List.mem_singleton] at hb
          simp only [List.mem_map] at ha
          obtain ⟨e, he, rfl⟩ := ha
          have := h6 e he
          omega
        · intro e' he'
          simp only [Array.toList_push, List.mem_append, List.mem_singleton] at he'
          rcases he' with he' | rfl
          · have := h6 e' he'; omega
          · show clock < clock + 1; omega
        · intro l x hx
          by_cases hl : l < m.length
          · rw [List.getElem?_append_left hl] at hx
            obtain ⟨e', f1, f2, q', f3, f4⟩ := h7 l x hx
            refine ⟨e', by rw [Array.getElem?_push, if_neg (by omega)]; exact f1, f2, q', f3, fun s hs => ?_⟩
            obtain ⟨R', k1, k2⟩ := f4 s hs
            exact ⟨R', k1, fun b i hb => .inl (k2 b i hb)⟩
          · rw [List.getElem?_append_right (by omega)] at hx
            have hl0 : l - m.length = 0 := by
              have := (List.getElem?_eq_some_iff.1 hx).1
              simp at this; omega
            rw [hl0] at hx
            simp only [List.getElem?_cons_zero, Option.some.injEq] at hx
            subst hx
            refine ⟨{ key := kv k, val := K.val a0 q, born := clock }, by rw [Array.getElem?_push, if_pos (by omega)], rfl, q, rfl, fun s hs => ?_⟩
            obtain ⟨R', k1, k2⟩ := g1 s hs
            exact ⟨R', k1, fun b i hb => .inr (k2 b i hb)⟩
  obtain ⟨w', k1, k2⟩ := main
  have hexec : (execOp a.eval ⟨d, if ins then .insert t x y z else .mapUpdate t x y z, ty, pos, af, g⟩).run P w = .ok .skip w' := by
    have e0 : execOp a.eval ⟨d, if ins then .insert t x y z else .mapUpdate t x y z, ty, pos, af, g⟩ = (Instr.mapUpdate t (.map (some r)) (kv k) (K.val a0 q) >>= fun _ => pure Next.skip) := by
      cases ins <;> simp only [execOp, ha.ev hx, ha.ev hy, ha.ev hz, if_true, Bool.false_eq_true, if_false]
    rw [e0, run_bind k1]; rfl
  rw [hexec]
  exact kk () w' (k2.perm (perm_setR hi))

/-- delete(m, k). -/
theorem OpD.delM {t kt et r : Nat} {m : List (κ × α)} {k : κ} {ts : Array TypeId} (i : Nat) (ht : MapT P t kt et) (hts : ts[0]? = some t) (hk : KeyT P kt kv) (hx : ev ρ x = some (.map (some r))) (hy : ev ρ y = some (kv k)) (hi : H[i]? = some (mp kv K r m)) :
    OpD P ⟨d, .call ⟨.builtin .delete, #[x, y], ts⟩, ty, pos, af, g⟩ ρ H (.tuple #[]) (setR H i (mp kv K r (mdel m k))) := by
  intro n a w ha hw next Q kk
  obtain ⟨O, R, hs⟩ := hw.pick hi
  have hs0 := hs
  obtain ⟨O1, R1, OF, RF, h, hF, d1, d2, eo, er⟩ := hs
  have h' := h
  obtain ⟨h1, h2, es, clock, h3, h4, h5, h6, h7⟩ := h
  have hfk := run_findKey (P := P) (w := w) hk k h4 (fun j x hx => let ⟨e, e1, e2, _⟩ := h7 j x hx; ⟨e, e1, e2⟩)
  have main : ∃ w', (Builtin.delete_ ts ty #[.map (some r), kv k]).run P w = .ok (.tuple #[]) w' ∧ Holds (mp kv K r (mdel m k) :: Sl.rem H i) w' := by
    have pre : ∀ (fo : Option (Nat × Value)) (w' : World), (Instr.findKey kt (kv k) es.toList).run P w = .ok fo w → (match fo with | some (i, _) => setObj r (.map (es.eraseIdxIfInBounds i) clock) | none => setObj r (.map es clock) : Sem Unit).run P w = .ok () w' →
        (Builtin.delete_ ts ty #[.map (some r), kv k]).run P w = .ok (.tuple #[]) w' := by
      intro fo w' hfo hr
      unfold Builtin.delete_
      have g3 : (#[Value.map (some r), kv k] : Array Value)[0]? = some (.map (some r)) := rfl
      have g4 : (#[Value.map (some r), kv k] : Array Value)[1]? = some (kv k) := rfl
      simp only [hts, g3, g4]
      rw [run_bind (run_underlying ht w)]
      simp only
      rw [run_bind (run_getObj h3)]
      simp only
      rw [run_bind (run_checkKey hk 9999), run_bind hfo]
      cases fo with
      | none => simp only at hr ⊢; rw [run_bind hr]; rfl
      | some p => simp only at hr ⊢; rw [run_bind hr]; rfl
    cases hm : midx m k with
    | some j =>
      obtain ⟨a1, m1, m2, _, m4⟩ := midx_some hm
      obtain ⟨e, e1, _⟩ := h7 j _ m1
      have hjs : j < es.size := (Array.getElem?_eq_some_iff.1 e1).1
      refine ⟨{ w with heap := w.heap.setIfInBounds r (.map (es.eraseIdxIfInBounds j) clock) }, pre (some (j, e.val)) _ (by rw [hfk, hm]; simp [e1]) (run_setObj h3), ?_⟩
      rw [m4]
      have hel : (es.eraseIdxIfInBounds j).toList = es.toList.eraseIdx j := by
        unfold Array.eraseIdxIfInBounds
        rw [dif_pos hjs]; simp
      have hat : ∀ l : Nat, (es.eraseIdxIfInBounds j)[l]? = (es.toList.eraseIdx j)[l]? := fun l => by rw [← hel, Array.getElem?_toList]
      refine Trans.map (R2 := none0) h' hF d1 d2 (fun _ _ h => h.elim) ?_ ?_ ?_ ?_
      · have := congrArg List.length hel
        simp only [Array.length_toList] at this
        have hl : es.toList.length = m.length := by simpa using h4
        rw [this, List.length_eraseIdx, List.length_eraseIdx, hl]
      · rw [hel]; exact (h5.sublist ((List.eraseIdx_sublist ..).map _))
      · intro e' he'; rw [hel] at he'; exact h6 e' ((List.eraseIdx_sublist ..).subset he')
      · intro l x hx
        have hx' : ∃ l' : Nat, m[l']? = some x ∧ (es.toList.eraseIdx j)[l]? = es.toList[l']? := by
          rw [List.getElem?_eraseIdx] at hx
          rw [List.getElem?_eraseIdx]
          split at hx
          · rename_i hlt; exact ⟨l, hx, by rw [if_pos hlt]⟩
          · rename_i hlt; exact ⟨l + 1, hx, by rw [if_neg hlt]⟩
        obtain ⟨l', k1, k2⟩ := hx'
        obtain ⟨e', f1, f2, q', f3, f4⟩ := h7 l' x k1
        refine ⟨e', by rw [hat, k2]; simpa using f1, f2, q', f3, fun s hs => ?_⟩
        obtain ⟨R', p1, p2⟩ := f4 s hs
        exact ⟨R', p1, fun b i hb => .inl (p2 b i hb)⟩
    | none =>
      refine ⟨{ w with heap := w.heap.setIfInBounds r (.map es clock) }, pre none _ (by rw [hfk, hm]) (run_setObj h3), ?_⟩
      rw [(midx_none hm).2.2]
      refine Trans.map (R2 := none0) h' hF d1 d2 (fun _ _ h => h.elim) h4 h5 h6 fun l x hx => ?_
      obtain ⟨e', f1, f2, q', f3, f4⟩ := h7 l x hx
      refine ⟨e', f1, f2, q', f3, fun s hs => ?_⟩
      obtain ⟨R', p1, p2⟩ := f4 s hs
      exact ⟨R', p1, fun b i hb => .inl (p2 b i hb)⟩
  obtain ⟨w', k1, k2⟩ := main
  have hexec : (execOp a.eval ⟨d, .call ⟨.builtin .delete, #[x, y], ts⟩, ty, pos, af, g⟩).run P w = .ok (.value (.tuple #[])) w' := by
    have e0 : execOp a.eval ⟨d, .call ⟨.builtin .delete, #[x, y], ts⟩, ty, pos, af, g⟩ = (Builtin.delete_ ts ty #[.map (some r), kv k] >>= fun x => pure (Next.value x)) := by
      simp [execOp, resolve, invoke, builtin, ha.ev hx, ha.ev hy]
    rw [e0]; exact run_v k1
  rw [hexec]
  exact kk () w' (k2.perm (perm_setR hi))
end
end Go.Sl
/-! What the program says of its types, by looking. -/
namespace Go.Sl
open Go
variable {P : Program}
def sc1b (P : Program) (t : TypeId) : Bool := match P.info? t, P.underlying t with
  | some i, some ds => (match ds with | .struct _ => false | .array _ _ => false | _ => true) && Nat.beq i.size 1
  | _, _ => false
theorem Sc1.of {t : TypeId} (h : sc1b P t = true) : Sc1 P t := by
  unfold sc1b at h
  cases h1 : P.info? t with
  | none => simp [h1] at h
  | some i =>
    cases h2 : P.underlying t with
    | none => simp [h1, h2] at h
    | some ds =>
      simp only [h1, h2, Bool.and_eq_true] at h
      refine ⟨ds, i, h2, ?_, ?_, h1, Nat.eq_of_beq_eq_true h.2⟩
      · intro fs e; subst e; simp at h
      · intro n x e; subst e; simp at h
def agb (P : Program) (t s : Nat) : Bool := match P.info? t, P.underlying t with
  | some i, some ds => (match ds with | .struct _ => true | .array _ _ => true | _ => false) && Nat.beq i.size s
  | _, _ => false
theorem Ag.of {t s : Nat} (h : agb P t s = true) : Ag P t s := by
  unfold agb at h
  cases h1 : P.info? t with
  | none => simp [h1] at h
  | some i =>
    cases h2 : P.underlying t with
    | none => simp [h1, h2] at h
    | some ds =>
      simp only [h1, h2, Bool.and_eq_true] at h
      refine ⟨ds, i, h2, ?_, h1, Nat.eq_of_beq_eq_true h.2⟩
      cases ds <;> simp at h <;> simp
def fob (P : Program) (T i k : Nat) : Bool := match P.underlying T with
  | some (.struct fs) => match fs[i]? with
    | some f => Nat.beq f.offset k && (match P.info? f.type with | some inf => !Nat.beq inf.size 0 | none => false)
    | none => false
  | _ => false
theorem FO.of {T i k : Nat} (h : fob P T i k = true) : FO P T i k := by
  unfold fob at h
  split at h
  · rename_i fs hfs
    cases h1 : fs[i]? with
    | none => simp [h1] at h
    | some f =>
      simp only [h1, Bool.and_eq_true] at h
      cases h2 : P.info? f.type with
      | none => simp [h2] at h
      | some inf =>
        simp only [h2] at h
        refine ⟨fs, f, inf, hfs, h1, Nat.eq_of_beq_eq_true h.1, h2, fun e => ?_⟩
        rw [e] at h; simp at h
  · cases h
def szb (P : Program) (t s : Nat) : Bool := match P.info? t with
  | some i => Nat.beq i.size s
  | none => false
theorem Sz.of {t s : Nat} (h : szb P t s = true) : Sz P t s := by
  unfold szb at h
  cases h1 : P.info? t with
  | none => simp [h1] at h
  | some i => rw [h1] at h; exact ⟨i, h1, Nat.eq_of_beq_eq_true h⟩
theorem Zr.of {t : Nat} {z : Value} (h : (P.info? t).bind (·.zero) = some z) : Zr P t z := by
  cases h1 : P.info? t with
  | none => simp [h1] at h
  | some i => simp only [h1, Option.bind_some] at h; exact ⟨i, h1, h⟩
def byb (P : Program) (t b : Nat) : Bool := match P.info? t with
  | some i => Nat.beq i.bytes b
  | none => false
theorem SlT.of {t e s b : Nat} {z : Value} (h1 : P.underlying t = some (.slice e)) (h2 : szb P e s = true) (h3 : byb P e b = true) (h4 : Zr P e z) (h5 : z.cells.size = s) : SlT P t e s b := by
  obtain ⟨i, g1, g2⟩ := h4
  refine ⟨h1, i, z, g1, ?_, ?_, g2, h5⟩
  · unfold szb at h2; rw [g1] at h2; exact Nat.eq_of_beq_eq_true h2
  · unfold byb at h3; rw [g1] at h3; exact Nat.eq_of_beq_eq_true h3
/-- Its fields' places and sizes. -/
def btb (P : Program) (t : Nat) : List (Nat × Nat) → Bool := fun pl => match P.underlying t with
  | some (.struct fs) => Nat.beq fs.size pl.length && (fs.toList.zip pl).all fun (f, q) => Nat.beq f.offset q.1 && szb P f.type q.2
  | _ => false
theorem BtT.of {t : Nat} {pl : List (Nat × Nat)} {z : Value} (h : btb P t pl = true) (hz : Zr P t z) : BtT P t pl z.cells.toList := by
  unfold btb at h
  split at h
  · rename_i fs hfs
    simp only [Bool.and_eq_true, List.all_eq_true] at h
    refine ⟨fs, z, hfs, hz, rfl, Nat.eq_of_beq_eq_true h.1, fun i f hf => ?_⟩
    have hlen := Nat.eq_of_beq_eq_true h.1
    have hi : i < fs.size := (Array.getElem?_eq_some_iff.1 hf).1
    have hq : pl[i]? = some (pl[i]'(by omega)) := List.getElem?_eq_getElem _
    refine ⟨_, hq, ?_⟩
    have hm : (f, pl[i]'(by omega)) ∈ fs.toList.zip pl := by
      refine List.mem_of_getElem? (i := i) ?_
      rw [List.getElem?_zip_eq_some]
      exact ⟨by simpa using hf, hq⟩
    have := h.2 _ hm
    simp only [Bool.and_eq_true] at this
    exact ⟨Nat.eq_of_beq_eq_true this.1, Sz.of this.2⟩
  · cases h
def ulb (P : Program) (t : Nat) : Bool := (P.underlying t).isSome
theorem ul_some {t : Nat} (h : ulb P t = true) : ∃ ds, P.underlying t = some ds := by unfold ulb at h; exact Option.isSome_iff_exists.1 h
def nib (P : Program) (t : Nat) : Bool := match P.underlying t with
  | some (.int _) => false
  | some _ => true
  | none => false
/-- A type that is no integer's. -/
theorem noInt {t : Nat} (h : nib P t = true) : ∃ ds, P.underlying t = some ds ∧ ∀ k, ds ≠ .int k := by
  unfold nib at h
  cases h1 : P.underlying t with
  | none => simp [h1] at h
  | some ds => exact ⟨ds, rfl, fun k e => by subst e; simp [h1] at h⟩
def cbb (P : Program) (f : Nat) : Bool := match P.funcs[f]? with
  | some fn => !(fn.name == "runtime.NumGoroutine") && !fn.body.isNone
  | none => false
theorem Cb.of {f : Nat} (h : cbb P f = true) : Cb P f := by
  unfold cbb at h
  cases h1 : P.funcs[f]? with
  | none => simp [h1] at h
  | some fn =>
    rw [h1] at h
    simp only [Bool.and_eq_true] at h
    exact ⟨fn, h1, by simpa using h.1, by cases hb : fn.body.isNone with | false => rfl | true => rw [hb] at h; simp at h⟩
/-- Keys that are whole numbers, and texts. -/
def kvI (n : Int) : Value := .int .i64 n
def kvS (s : List UInt8) : Value := str s
theorem KeyT.int {t : Nat} (h : P.underlying t = some (.int .i64)) : KeyT P t kvI :=
  ⟨_, h, fun a b => by simp [Instr.sameNow, kvI], (by intro _ h; cases h), (by intro _ _ h; cases h), (by intro _ h; cases h), fun a n => by cases n <;> simp [kvI, Instr.sameBits]⟩
theorem ba_beq (a b : List UInt8) : ((ByteArray.mk a.toArray == ByteArray.mk b.toArray) = true) ↔ a = b := by
  show ByteArray.beq _ _ = true ↔ _
  unfold ByteArray.beq
  simp
theorem KeyT.str {t : Nat} (h : P.underlying t = some .string) : KeyT P t kvS :=
  ⟨_, h, fun a b => by
    simp only [Instr.sameNow, kvS, Sl.str]
    congr 1
    rw [Bool.eq_iff_iff, ba_beq]
    simp, (by intro _ h; cases h), (by intro _ _ h; cases h), (by intro _ h; cases h), fun a n => by cases n <;> simp only [kvS, Sl.str, Instr.sameBits] <;> exact (ba_beq a a).2 rfl⟩
end Go.Sl
/-! Small facts on lists. -/
namespace Go.Sl
theorem take_all_succ {α : Type} {p : α → Bool} {s : List α} {k : Nat} (h : k < s.length) (ha : (s.take k).all p = true) (hp : p s[k] = true) : (s.take (k + 1)).all p = true := by
  rw [List.take_succ_eq_append_getElem h, List.all_append, ha]
  simp [hp]
theorem all_false_at {α : Type} {p : α → Bool} {s : List α} {k : Nat} (h : k < s.length) (hp : p s[k] = false) : s.all p = false := by
  cases hb : s.all p with
  | false => rfl
  | true => rw [List.all_eq_true] at hb; rw [hb _ (List.getElem_mem h)] at hp; cases hp
theorem all_of_take {α : Type} {p : α → Bool} {s : List α} {k : Nat} (h : ¬ k < s.length) (ha : (s.take k).all p = true) : s.all p = true := by
  rwa [List.take_of_length_le (by omega)] at ha
end Go.Sl
/-! Rules in the form that the printed walks use. -/
namespace Go.Sl
open Go
section
variable {P : Program} {ρ : Env} {H : List Res} {d : Option Tmp} {ty : TypeId} {pos : String} {af : Array Edge} {g : Option (Nat × Bool)}
variable {x y z : Operand} {u v : Value} {n : Nat} {Q : Exit → Act → World → Prop}
theorem W.cseqD {c : Operand} {x y z : Code} {p : Prop} [Decidable p] (hc : ev ρ c = some (.bool (decide p))) (ht : p → W P n x (Exit.then (z.wp P Q) Q) ρ H)
    (hf : ¬ p → W P n y (Exit.then (z.wp P Q) Q) ρ H) : W P n (.seq (.cond c x y) z) Q ρ H := W.seq (W.condD hc ht hf)
theorem W.cT {c : Operand} {x y : Code} (hc : ev ρ c = some (.bool true)) (ht : W P n x Q ρ H) : W P n (.cond c x y) Q ρ H := W.cond hc (fun _ => ht) (fun h => Bool.noConfusion h)
theorem W.cF {c : Operand} {x y : Code} (hc : ev ρ c = some (.bool false)) (hf : W P n y Q ρ H) : W P n (.cond c x y) Q ρ H := W.cond hc (fun h => Bool.noConfusion h) (fun _ => hf)
/-- s[j] of a slice. -/
theorem PV.ixN {t e s m j : Nat} {p : SP} {kk : IntKind} (hp : m ≤ p.c ∧ (p.a = none → p.c = 0)) (ht : P.underlying t = some (.slice e)) (hs : Sz P e s) (hx : ev ρ x = some (p.v m)) (hy : ev ρ y = some (.int kk (j : Int))) (h1 : j < m) :
    PV P ⟨d, .indexAddr t x y, ty, pos, af, g⟩ ρ (p.ptr (j * s)) := PV.ix hp ht hs hx hy (Int.natCast_nonneg j) (by omega) (by simp)
/-- A load of an element that is of one cell. -/
theorem LdD.sl1 {α : Type} {K : Kd α} {p : SP} {xs : List α} {e : α} {t k : Nat} (i j : Nat) (ht : Sc1 P t) (hs : K.sz = 1) (hx : ev ρ x = some (p.ptr k)) (hi : H[i]? = some (sl K p xs)) (hk : j * K.sz = k) (he : xs[j]? = some e)
    (hv : ∀ q, K.val e q = v) (hc : v.cells = #[v]) : LdD P ρ H t x v := by
  intro n a w ha hw
  obtain ⟨O, R, R1, hs', ⟨h0, h1, h2, h3, h4⟩, hd⟩ := hw.atR (sl_pers K p xs) hi
  obtain ⟨b, o, e1, hr, q, hq⟩ := h4 j e he
  have hp : a.eval x = .pointer (some ⟨b, o + k, none⟩) := by rw [ha.ev hx]; simp [SP.ptr, SP.addr, e1]
  rw [hp]
  refine run_loadVar_sc ht ?_
  have := hq.1 0 v (by rw [hv, hc]; rfl)
  rw [← this, ← hk]; rfl
theorem LdD.sl1B {p : SP} {xs : List UInt8} {t j k : Nat} (i : Nat) (ht : Sc1 P t) (hx : ev ρ x = some (p.ptr (j * k))) (hi : H[i]? = some (sl Kb p xs)) (hk : k = 1) (hj : j < xs.length) : LdD P ρ H t x (.int .u8 xs[j].toNat) :=
  LdD.sl1 (K := Kb) i j ht rfl hx hi (by subst hk; rfl) (List.getElem?_eq_getElem hj) (fun _ => rfl) rfl
theorem LdD.sl1I {p : SP} {xs : List Int} {t j k : Nat} {kk : IntKind} (i : Nat) (ht : Sc1 P t) (hx : ev ρ x = some (p.ptr (j * k))) (hi : H[i]? = some (sl (Kint kk) p xs)) (hk : k = 1) (hj : j < xs.length) : LdD P ρ H t x (.int kk xs[j]) :=
  LdD.sl1 (K := Kint kk) i j ht rfl hx hi (by subst hk; rfl) (List.getElem?_eq_getElem hj) (fun _ => rfl) rfl
theorem LdD.sl1S {p : SP} {xs : List (List UInt8)} {t j k : Nat} (i : Nat) (ht : Sc1 P t) (hx : ev ρ x = some (p.ptr (j * k))) (hi : H[i]? = some (sl Kstr p xs)) (hk : k = 1) (hj : j < xs.length) : LdD P ρ H t x (str xs[j]) :=
  LdD.sl1 (K := Kstr) i j ht rfl hx hi (by subst hk; rfl) (List.getElem?_eq_getElem hj) (fun _ => rfl) rfl
/-- What holds when a loop begins again. -/
def Again {X : Type} (n : Nat) (φ : X → Prop) (ρI : X → Env) (HI : X → List Res) (m : X → Nat) (k : Nat) (a : Act) (w : World) : Prop := ∃ x, φ x ∧ EnvOk n (ρI x) a ∧ Holds (HI x) w ∧ m x < k
theorem W.loopP {X : Type} (φ : X → Prop) (ρI : X → Env) (HI : X → List Res) (m : X → Nat) (x0 : X) {body : Code} (h0 : φ x0) (hs : Sub ρ (ρI x0)) (hh : Ent H (HI x0))
    (round : ∀ x, φ x → W P n body (Exit.then (Again n φ ρI HI m (m x)) Q) (ρI x) (HI x)) : W P n (.loop body) Q ρ H := by
  refine W.loop (X := {x : X // φ x}) (fun x => ρI x.1) (fun x => HI x.1) (fun x => m x.1) ⟨x0, h0⟩ hs hh fun x a w ha hw => wp_mono (round x.1 x.2 a w ha hw) ?_
  intro e a' w' hq
  cases e with
  | normal => obtain ⟨y, hy, g1, g2, g3⟩ := hq; exact ⟨⟨y, hy⟩, g1, g2, g3⟩
  | _ => exact hq
theorem K.againP {X : Type} {φ : X → Prop} {ρI : X → Env} {HI : X → List Res} {m : X → Nat} {k : Nat} {Q' : Exit → Act → World → Prop} (x : X) (hφ : φ x) (hm : m x < k) (hs : Sub ρ (ρI x)) (hh : Ent H (HI x)) :
    K n (Exit.then (Again n φ ρI HI m k) Q') .normal ρ H :=
  fun a w ha hw => ⟨x, hφ, ha.sub hs, by have := Holds.ent (F := []) hh (by simpa using hw); simpa using this, hm⟩
/-- s[j]. -/
theorem PV.atN {s : List UInt8} {j : Nat} {t1 : TypeId} (ht : P.underlying t1 = some .string) (hx : ev ρ x = some (str s)) (hy : ev ρ y = some (.int .i64 (j : Int))) (h : j < s.length) :
    PV P ⟨d, .index t1 x y, ty, pos, af, g⟩ ρ (.int .u8 s[j].toNat) := PV.idxS ht hx hy (Int.natCast_nonneg j) (by simp [h])
theorem DP.nm {ops : Array Oper} {H' : List Res} {todo : List Nat} {pP pL : List (Nat × Value)} (e : H = H') (k : DP P n ops Q todo pP pL ρ H') : DP P n ops Q todo pP pL ρ H := e ▸ k
theorem K.nm {e : Exit} {H' : List Res} (h : H = H') (k : K n Q e ρ H') : K n Q e ρ H := h ▸ k
end
end Go.Sl
/-! Resources with something unknown inside; facts asx resources; how what is left is shown. -/
namespace Go.Sl
open Go

/-- A fact. -/
def pr (φ : Prop) : Res where
  holds _ O R := φ ∧ (∀ b i, ¬ O b i) ∧ ∀ b i, ¬ R b i
  loc h _ := h
  bd h b i hb := hb.elim (fun h' => (h.2.1 b i h').elim) fun h' => (h.2.2 b i h').elim
  rd h b i hb := (h.2.2 b i hb).elim

/-- These resources, for some x. -/
def ex (X : Type) (f : X → List Res) : Res where
  holds w O R := ∃ x, Sep w (f x) O R
  loc := fun ⟨x, h⟩ ha => ⟨x, h.loc ha⟩
  bd := fun ⟨_, h⟩ b i hb => h.bd b i hb
  rd := fun ⟨_, h⟩ b i hb => h.rd b i hb

theorem Sep.cons_app {w : World} {r : Res} {A F : List Res} {O R : Fp} (h : Sep w (r :: F) O R) (hr : ∀ O1 R1, r.holds w O1 R1 → Sep w A O1 R1) : Sep w (A ++ F) O R := by
  obtain ⟨O1, R1, O2, R2, h1, h2, d1, d2, eo, er⟩ := h
  exact Sep.append.2 ⟨O1, R1, O2, R2, hr _ _ h1, h2, d1, d2, eo, er⟩

theorem Holds.ex {X : Type} {f : X → List Res} {F : List Res} {w : World} (h : Holds (Sl.ex X f :: F) w) : ∃ x, Holds (f x ++ F) w := by
  obtain ⟨O, R, O1, R1, O2, R2, ⟨x, h1⟩, h2, d1, d2, eo, er⟩ := h
  exact ⟨x, O, R, Sep.append.2 ⟨O1, R1, O2, R2, h1, h2, d1, d2, eo, er⟩⟩

theorem Holds.pr {φ : Prop} {F : List Res} {w : World} (h : Holds (Sl.pr φ :: F) w) : φ ∧ Holds F w := by
  obtain ⟨O, R, O1, R1, O2, R2, h1, h2, _⟩ := h
  exact ⟨h1.1, O2, R2, h2⟩

section
variable {P : Program} {n : Nat} {ρ : Env} {H : List Res} {Q : Exit → Act → World → Prop} {c : Code} {ops : Array Oper} {l : List Oper}
/-- A resource is opened. -/
theorem W.ex {X : Type} {f : X → List Res} (i : Nat) (hi : H[i]? = some (Sl.ex X f)) (k : ∀ x, W P n c Q ρ (f x ++ rem H i)) : W P n c Q ρ H := fun a w ha hw => by
  obtain ⟨x, h⟩ := (hw.pick hi).ex
  exact k x a w ha h
theorem WL.ex {X : Type} {f : X → List Res} (i : Nat) (hi : H[i]? = some (Sl.ex X f)) (k : ∀ x, WL P n ops Q l ρ (f x ++ rem H i)) : WL P n ops Q l ρ H := fun a w ha hw => by
  obtain ⟨x, h⟩ := (hw.pick hi).ex
  exact k x a w ha h
theorem W.pr {φ : Prop} (i : Nat) (hi : H[i]? = some (Sl.pr φ)) (k : φ → W P n c Q ρ (rem H i)) : W P n c Q ρ H := fun a w ha hw => (hw.pick hi).pr.elim fun h h' => k h a w ha h'
theorem WL.pr {φ : Prop} (i : Nat) (hi : H[i]? = some (Sl.pr φ)) (k : φ → WL P n ops Q l ρ (rem H i)) : WL P n ops Q l ρ H := fun a w ha hw => (hw.pick hi).pr.elim fun h h' => k h a w ha h'
/-- What is there entails something else. -/
theorem W.entA {A B : List Res} {is : List Nat} {F : List Res} (hp : Pk is H A F) (he : Ent A B) (k : W P n c Q ρ (B ++ F)) : W P n c Q ρ H := fun a w ha hw => k a w ha ((hw.perm hp.perm).ent he)
theorem WL.entA {A B : List Res} {is : List Nat} {F : List Res} (hp : Pk is H A F) (he : Ent A B) (k : WL P n ops Q l ρ (B ++ F)) : WL P n ops Q l ρ H := fun a w ha hw => k a w ha ((hw.perm hp.perm).ent he)
theorem W.exH {X : Type} {f : X → List Res} (k : ∀ x, W P n c Q ρ (f x ++ H)) : W P n c Q ρ (Sl.ex X f :: H) := W.ex 0 rfl k
end

/-! ### What is left -/
theorem Ent.cons {H G : List Res} {r : Res} (h : Ent H G) : Ent (r :: H) (r :: G) := by
  intro w O R ⟨O1, R1, O2, R2, h1, h2, d1, d2, eo, er⟩
  obtain ⟨O', R', h', s1, s2⟩ := h w O2 R2 h2
  refine ⟨fun b i => O1 b i ∨ O' b i, fun b i => R1 b i ∨ R' b i, ⟨O1, R1, O', R', h1, h', ?_, ?_, fun _ _ => Iff.rfl, fun _ _ => Iff.rfl⟩, ?_, ?_⟩
  · intro b i hb
    refine ⟨fun hx => (d1 b i hb).1 (s1 b i hx), fun hx => ?_⟩
    exact (s2 b i hx).elim (d1 b i hb).1 (d1 b i hb).2
  · intro b i hb hb'; exact d2 b i (s1 b i hb) hb'
  · intro b i hb; exact (eo b i).2 (hb.imp id (s1 b i))
  · intro b i hb
    rcases hb with hb | hb
    · exact .inr ((er b i).2 (.inl hb))
    · exact (s2 b i hb).imp (fun h => (eo b i).2 (.inr h)) fun h => (er b i).2 (.inr h)
theorem Ent.take {H G : List Res} {r : Res} (i : Nat) (hi : H[i]? = some r) (h : Ent (rem H i) G) : Ent H (r :: G) := (Ent.of_perm (perm_rem hi)).trans (Ent.cons h)
/-- A resource that owns nothing stays. -/
theorem Ent.keep {H G : List Res} {r : Res} (i : Nat) (hi : H[i]? = some r) (hp : r.Pers) (h : Ent H G) : Ent H (r :: G) := by
  have h1 : Ent H (r :: r :: rem H i) := (Ent.of_perm (perm_rem hi)).trans (Ent.frame (rem H i) (Ent.dup hp))
  exact h1.trans (Ent.cons ((Ent.of_perm (perm_rem hi).symm).trans h))
theorem Ent.app {A B H G : List Res} {is : List Nat} {F : List Res} (hp : Pk is H A F) (he : Ent A B) (h : Ent (B ++ F) G) : Ent H G := (Ent.of_perm hp.perm).trans ((Ent.frame F he).trans h)
theorem Ent.ofNil {A H : List Res} (h : Ent [] A) : Ent H (A ++ H) := by
  have := Ent.frame H h
  simpa using this
theorem Ent.add {A H G : List Res} (h : Ent [] A) (k : Ent (A ++ H) G) : Ent H G := (Ent.ofNil h).trans k
theorem Ent.prI {φ : Prop} (h : φ) : Ent [] [pr φ] := by
  rintro w O R ⟨ho, hr⟩
  exact ⟨O, R, ⟨none0, none0, O, R, ⟨h, fun _ _ h => h, fun _ _ h => h⟩, ⟨ho, hr⟩, fun _ _ h => h.elim, fun _ _ _ h => h, fun b i => by simp [none0], fun b i => by simp [none0]⟩, fun _ _ h => h, fun _ _ h => .inr h⟩
theorem Ent.pr {H G : List Res} {φ : Prop} (hφ : φ) (h : Ent H G) : Ent H (Sl.pr φ :: G) := by
  have : Ent H (Sl.pr φ :: H) := Ent.ofNil (Ent.prI hφ)
  exact this.trans (Ent.cons h)
theorem Ent.exI {X : Type} {f : X → List Res} (x : X) : Ent (f x) [ex X f] := by
  intro w O R h
  exact ⟨O, R, ⟨O, R, none0, none0, ⟨x, h⟩, ⟨fun _ _ h => h, fun _ _ h => h⟩, fun _ _ _ => ⟨fun h => h, fun h => h⟩, fun _ _ h => h.elim, fun b i => by simp [none0], fun b i => by simp [none0]⟩, fun _ _ h => h, fun _ _ h => .inr h⟩
theorem Ent.fold {H G : List Res} {X : Type} {f : X → List Res} (x : X) (h : Ent H (f x ++ G)) : Ent H (ex X f :: G) := by
  have := Ent.frame G (Ent.exI (f := f) x)
  exact h.trans this
theorem Ent.tail {H G : List Res} {r : Res} (h : Ent H G) : Ent (r :: H) G := (Ent.drop [r] H).trans h
theorem Ent.dropAll {H : List Res} : Ent H [] := by
  have := Ent.drop H []
  simpa using this
/-- Opened on the left. -/
theorem Ent.exE {H G : List Res} {X : Type} {f : X → List Res} (i : Nat) (hi : H[i]? = some (ex X f)) (h : ∀ x, Ent (f x ++ rem H i) G) : Ent H G := by
  refine (Ent.of_perm (perm_rem hi)).trans ?_
  intro w O R hs
  obtain ⟨O1, R1, O2, R2, ⟨x, h1⟩, h2, d1, d2, eo, er⟩ := hs
  exact h x w O R (Sep.append.2 ⟨O1, R1, O2, R2, h1, h2, d1, d2, eo, er⟩)
theorem Ent.prE {H G : List Res} {φ : Prop} (i : Nat) (hi : H[i]? = some (Sl.pr φ)) (h : φ → Ent (rem H i) G) : Ent H G := by
  refine (Ent.of_perm (perm_rem hi)).trans ?_
  intro w O R hs
  have hs0 := hs
  obtain ⟨O1, R1, O2, R2, h1, h2, d1, d2, eo, er⟩ := hs
  obtain ⟨O', R', k1, k2, k3⟩ := h h1.1 w O2 R2 h2
  exact ⟨O', R', k1, fun b i hb => (eo b i).2 (.inr (k2 b i hb)), fun b i hb => (k3 b i hb).imp (fun h => (eo b i).2 (.inr h)) fun h => (er b i).2 (.inr h)⟩
theorem Ent.eqH {H H' G : List Res} (e : H = H') (h : Ent H' G) : Ent H G := e ▸ h
theorem pr_pers (φ : Prop) : (pr φ).Pers := fun _ _ _ h => h.2.1
theorem ex_pers {X : Type} {f : X → List Res} (h : ∀ x r, r ∈ f x → r.Pers) : (ex X f).Pers := by
  rintro w O R ⟨x, hs⟩
  have : ∀ (l : List Res) (O R : Fp), (∀ r, r ∈ l → r.Pers) → Sep w l O R → ∀ b i, ¬ O b i := by
    intro l
    induction l with
    | nil => intro O R _ h; exact h.1
    | cons r l ih =>
      intro O R hp h b i hb
      obtain ⟨O1, R1, O2, R2, h1, h2, d1, d2, eo, er⟩ := h
      rcases (eo b i).1 hb with hb | hb
      · exact hp r (by simp) _ _ _ h1 b i hb
      · exact ih _ _ (fun s hs => hp s (by simp [hs])) h2 b i hb
  exact this _ _ _ (h x) hs
/-- What a list entails lets one assume it. -/
theorem Spec.exI {P : Program} {f : FuncId} {args : List Value} {Y : Type} {Hin : Y → List Res} {G : List Res} {X : Type} {v : X → Value} {Hout : X → List Res}
    (h : ∀ y, Spec P f args (Hin y ++ G) v Hout) : Spec P f args (ex Y Hin :: G) v Hout := by
  intro F w hw
  obtain ⟨y, hy⟩ := Holds.ex (F := G ++ F) hw
  exact h y F w (by rw [List.append_assoc]; exact hy)
theorem Spec.prI {P : Program} {f : FuncId} {args : List Value} {φ : Prop} {G : List Res} {X : Type} {v : X → Value} {Hout : X → List Res}
    (h : φ → Spec P f args G v Hout) : Spec P f args (pr φ :: G) v Hout := by
  intro F w hw
  obtain ⟨h1, h2⟩ := Holds.pr (F := G ++ F) hw
  exact h h1 F w h2
end Go.Sl
/-! Comparisons with nil; a pass over a map. -/
namespace Go.Sl
open Go
section
variable {P : Program} {ρ : Env} {H : List Res} {d : Option Tmp} {ty : TypeId} {pos : String} {af : Array Edge} {g : Option (Nat × Bool)}
variable {x y z : Operand} {u v : Value} {t1 t2 : TypeId}

/-- u == v, of these types. -/
def EqIs (P : Program) (t : TypeId) (u v : Value) (b : Bool) : Prop := ∀ w, (Op.equal t u v).run P w = .ok b w
/-- Neither a struct, nor nil of an interface, nor a number, nor a text. -/
def Cmp (v : Value) : Bool := match v with
  | .pointer _ | .slice .. | .map _ | .bool _ | .func .. | .nilFunc => true
  | _ => false
theorem PV.eqV {b : Bool} (hx : ev ρ x = some u) (hy : ev ρ y = some v) (hc : Cmp u = true) (h : EqIs P t1 u v b) : PV P ⟨d, .binOp .eql t1 x y t2, ty, pos, af, g⟩ ρ (.bool b) :=
  fun n a w ha => by
    simp only [execOp, ha.ev hx, ha.ev hy]
    have e1 : eqGuard .eql t1 x y u v = pure () := by cases u <;> first | rfl | cases hc
    have e2 : binOp .eql t1 u v = (do pure (.bool (← Op.equal t1 u v))) := by cases u <;> first | rfl | cases hc
    rw [e1, e2]
    simp only [pure_bind, bind_assoc]
    rw [run_bind (h w)]; rfl
theorem PV.neV {b : Bool} (hx : ev ρ x = some u) (hy : ev ρ y = some v) (hc : Cmp u = true) (h : EqIs P t1 u v b) : PV P ⟨d, .binOp .neq t1 x y t2, ty, pos, af, g⟩ ρ (.bool !b) :=
  fun n a w ha => by
    simp only [execOp, ha.ev hx, ha.ev hy]
    have e1 : eqGuard .neq t1 x y u v = pure () := by cases u <;> first | rfl | cases hc
    have e2 : binOp .neq t1 u v = (do pure (.bool (!(← Op.equal t1 u v)))) := by cases u <;> first | rfl | cases hc
    rw [e1, e2]
    simp only [pure_bind, bind_assoc]
    rw [run_bind (h w)]; rfl
theorem EqIs.step {t : TypeId} {ds : TypeDesc} {w : World} (ht : P.underlying t = some ds) : (Op.equal t u v).run P w = (Op.equalIn (9999 + 1) t u v).run P w := rfl
theorem EqIs.p0 {e : TypeId} {a : Addr} (ht : P.underlying t1 = some (.pointer e)) : EqIs P t1 (.pointer (some a)) (.pointer none) false := fun w => by
  rw [EqIs.step ht]; unfold Op.equalIn; rw [run_bind (run_underlying ht w)]; rfl
theorem EqIs.p00 {e : TypeId} (ht : P.underlying t1 = some (.pointer e)) : EqIs P t1 (.pointer none) (.pointer none) true := fun w => by
  rw [EqIs.step ht]; unfold Op.equalIn; rw [run_bind (run_underlying ht w)]; rfl
theorem EqIs.m0 {k e : TypeId} {a : Nat} (ht : P.underlying t1 = some (.map k e)) : EqIs P t1 (.map (some a)) (.map none) false := fun w => by
  rw [EqIs.step ht]; unfold Op.equalIn; rw [run_bind (run_underlying ht w)]; rfl
theorem EqIs.m00 {k e : TypeId} (ht : P.underlying t1 = some (.map k e)) : EqIs P t1 (.map none) (.map none) true := fun w => by
  rw [EqIs.step ht]; unfold Op.equalIn; rw [run_bind (run_underlying ht w)]; rfl
theorem EqIs.s0 {e : TypeId} {p : SP} {n : Nat} (ht : P.underlying t1 = some (.slice e)) : EqIs P t1 (p.v n) (.slice none 0 0) p.a.isNone := fun w => by
  rw [EqIs.step ht]; unfold Op.equalIn; rw [run_bind (run_underlying ht w)]
  unfold SP.v SP.addr
  cases p.a <;> rfl
theorem EqIs.b {a b : Bool} (ht : P.underlying t1 = some .bool) : EqIs P t1 (.bool a) (.bool b) (a == b) := fun w => by
  rw [EqIs.step ht]; unfold Op.equalIn; rw [run_bind (run_underlying ht w)]; rfl
end
end Go.Sl
/-! A pass over a map that is not changed meanwhile. -/
namespace Go.Sl
open Go

theorem filter_perm {β : Type} (f : β → Nat) (p : Nat → Bool) : ∀ (L : List β) (y : β), (L.map f).Nodup → y ∈ L → p (f y) = true → (L.filter fun z => p (f z)).Perm (y :: L.filter fun z => p (f z) && !(f z == f y))
  | z :: L, y, hn, hm, hp => by
    rw [List.map_cons, List.nodup_cons] at hn
    by_cases e : z = y
    · subst e
      have hne : ∀ u, u ∈ L → (p (f u) && !(f u == f z)) = p (f u) := by
        intro u hu
        have : f u ≠ f z := fun h => hn.1 (h ▸ List.mem_map_of_mem hu)
        simp [this]
      rw [List.filter_cons_of_pos (by simpa using hp), List.filter_cons_of_neg (by simp)]
      rw [List.filter_congr hne]
    · have hm' : y ∈ L := (List.mem_cons.1 hm).resolve_left fun h => e h.symm
      have hne : f z ≠ f y := fun h => hn.1 (h ▸ List.mem_map_of_mem hm')
      have ih := filter_perm f p L y hn.2 hm' hp
      cases hz : p (f z) with
      | true =>
        rw [List.filter_cons_of_pos (by simpa using hz), List.filter_cons_of_pos (by simp [hz, hne])]
        exact (ih.cons z).trans (List.Perm.swap _ _ _)
      | false =>
        rw [List.filter_cons_of_neg (by simp [hz]), List.filter_cons_of_neg (by simp [hz])]
        exact ih

/-- The entries that were not seen. -/
def unseen {κ α : Type} (m : List (κ × α)) (es : Array MapEntry) (seen : Array Nat) : List (κ × α) :=
  ((m.zip es.toList).filter fun p => !seen.contains p.2.born).map (·.1)

/-- A map, a pass over it, what it has still to see, and what it saw last. -/
def miH {κ α : Type} (kv : κ → Value) (K : Kd α) (r it : Nat) (m todo : List (κ × α)) (cur : Option (κ × α)) (w : World) (O R : Fp) : Prop :=
  (∃ O1, mpH kv K r m w O1 R) ∧ (∀ b i, O b i ↔ b = r ∨ b = it) ∧ it ≠ r ∧ (∀ b i, R b i → b ≠ it) ∧
  ∃ (es : Array MapEntry) (clock : Nat) (seen : Array Nat), w.heap[r]? = some (.map es clock) ∧ w.heap[it]? = some (.mapIter (some r) clock seen clock) ∧ todo = unseen m es seen ∧
    ∀ x, cur = some x → ∃ (i : Nat) (e : MapEntry), m[i]? = some x ∧ es[i]? = some e ∧ seen.back? = some e.born

theorem lookO_heap {w w' : World} {r : Nat} {o : Obj} (h : lookO w' r 0 = lookO w r 0) (hr : w.heap[r]? = some o) (hc : ∀ cs t f, o ≠ .cells cs t f) : w'.heap[r]? = some o := by
  simp only [lookO, Prod.mk.injEq] at h
  have h7 := h.2.2.1
  rw [hr] at h7
  cases hb : w'.heap[r]? with
  | none => rw [hb] at h7; cases o <;> first | exact (hc _ _ _ rfl).elim | cases h7
  | some o' => rw [hb] at h7; cases o <;> first | exact (hc _ _ _ rfl).elim | (cases o' <;> first | exact h7 | cases h7)

def mi {κ α : Type} (kv : κ → Value) (K : Kd α) (r it : Nat) (m todo : List (κ × α)) (cur : Option (κ × α)) : Res where
  holds := miH kv K r it m todo cur
  loc := by
    rintro w w' O R ⟨⟨O1, h1⟩, h2, h3, h4, es, clock, seen, h5, h6, h7, h8⟩ ha
    have e1 : O1 = fun b _ => b = r := funext fun b => funext fun i => propext (h1.1 b i)
    refine ⟨⟨O1, (mp kv K r m).loc h1 ⟨fun b i hb => ha.own b i ((h2 b i).2 (.inl ((h1.1 b i).1 hb))), ha.ro⟩⟩, h2, h3, h4, es, clock, seen, ?_, ?_, h7, h8⟩
    · exact lookO_heap (ha.own r 0 ((h2 _ _).2 (.inl rfl))) h5 (by intro _ _ _ h; cases h)
    · exact lookO_heap (ha.own it 0 ((h2 _ _).2 (.inr rfl))) h6 (by intro _ _ _ h; cases h)
  bd := by
    rintro w O R ⟨⟨O1, h1⟩, h2, h3, h4, es, clock, seen, h5, h6, h7, h8⟩ b i hb
    rcases hb with hb | hb
    · rcases (h2 b i).1 hb with rfl | rfl
      · exact (Array.getElem?_eq_some_iff.1 h5).1
      · exact (Array.getElem?_eq_some_iff.1 h6).1
    · exact (mp kv K r m).bd h1 b i (.inr hb)
  rd := by
    rintro w O R ⟨⟨O1, h1⟩, _⟩ b i hb
    exact (mp kv K r m).rd h1 b i hb

theorem zip_map_fst {α β : Type} : ∀ (l : List α) (l' : List β), l.length = l'.length → (l.zip l').map (·.1) = l
  | [], [], _ => rfl
  | a :: l, b :: l', h => by simp [zip_map_fst l l' (by simpa using h)]
theorem zip_map_snd {α β : Type} : ∀ (l : List α) (l' : List β), l.length = l'.length → (l.zip l').map (·.2) = l'
  | [], [], _ => rfl
  | a :: l, b :: l', h => by simp [zip_map_snd l l' (by simpa using h)]

section
variable {P : Program} {κ α : Type} {kv : κ → Value} {K : Kd α} {w : World} {ρ : Env} {H : List Res} {d : Option Tmp} {ty : TypeId} {pos : String} {af : Array Edge} {g : Option (Nat × Bool)} {x y z : Operand}

/-- The pass begins. -/
theorem OpX.rng {t kt et r : Nat} {m : List (κ × α)} (i : Nat) (ht : MapT P t kt et) (hx : ev ρ x = some (.map (some r))) (hi : H[i]? = some (mp kv K r m)) :
    OpX P ⟨d, .range t x, ty, pos, af, g⟩ ρ H (fun it => .pointer (some ⟨it, 0, none⟩)) (fun it => mi kv K r it m m none :: rem H i) := by
  intro n a w ha hw next Q kk
  have hp := hw.pick hi
  obtain ⟨O, R, O1, R1, O2, R2, h, hF, d1, d2, eo, er⟩ := hp
  have h' := h
  obtain ⟨h1, h2, es, clock, h3, h4, h5, h6, h7⟩ := h
  have hexec : (execOp a.eval ⟨d, .range t x, ty, pos, af, g⟩).run P w = .ok (.value (.pointer (some ⟨w.heap.size, 0, none⟩))) (w.alloc (.mapIter (some r) clock #[] clock)) := by
    simp only [execOp, ha.ev hx, Instr.range]
    rw [bind_assoc, run_bind (run_underlying ht w)]
    simp only [bind_assoc]
    rw [run_bind (run_getObj h3)]
    rfl
  rw [hexec]
  refine kk w.heap.size _ ?_
  have hr : r < w.heap.size := (Array.getElem?_eq_some_iff.1 h3).1
  have keep : ∀ c k, c < w.heap.size → lookO (w.alloc (.mapIter (some r) clock #[] clock)) c k = lookO w c k := fun c k hc => lookO_alloc hc
  have keepC : ∀ c k, c < w.heap.size → (w.alloc (.mapIter (some r) clock #[] clock)).cell? ⟨c, k, none⟩ = w.cell? ⟨c, k, none⟩ := fun c k hc => by
    have := keep c k hc; simp only [lookO, Prod.mk.injEq] at this; exact this.1
  have bd1 : ∀ b k, R1 b k → b < w.heap.size := fun b k hb => isSome_lt (h2 b k hb).1
  have bd2 : ∀ b k, O2 b k ∨ R2 b k → b < w.heap.size := hF.bd
  refine ⟨fun b k => (b = r ∨ b = w.heap.size) ∨ O2 b k, fun b k => R1 b k ∨ R2 b k, fun b _ => b = r ∨ b = w.heap.size, R1, O2, R2, ?_, ?_, ?_, ?_, fun _ _ => Iff.rfl, fun _ _ => Iff.rfl⟩
  · refine ⟨⟨O1, (mp kv K r m).loc h' ⟨fun b k hb => keep b k (by rw [(h1 b k).1 hb]; exact hr), fun b k hb => keepC b k (bd1 b k hb)⟩⟩, fun _ _ => Iff.rfl, by omega, fun b k hb => by have := bd1 b k hb; omega, es, clock, #[], ?_, heap_alloc_new .., ?_, fun x hx => by cases hx⟩
    · exact lookO_heap (keep r 0 hr) h3 (by intro _ _ _ h; cases h)
    · have e0 : (m.zip es.toList).filter (fun p => !(#[] : Array Nat).contains p.2.born) = m.zip es.toList := by
        rw [List.filter_eq_self]; intro p _; simp
      unfold unseen
      rw [e0, zip_map_fst _ _ (by simpa using h4.symm)]
  · exact hF.loc ⟨fun b k hb => keep b k (bd2 b k (.inl hb)), fun b k hb => keepC b k (bd2 b k (.inr hb))⟩
  · rintro b k (rfl | rfl)
    · exact d1 b k ((h1 b k).2 rfl)
    · exact ⟨fun h => by have := bd2 _ _ (.inl h); omega, fun h => by have := bd2 _ _ (.inr h); omega⟩
  · exact d2

theorem run_getObjI {r m : Nat} {s l : Nat} {seen : Array Nat} (h : w.heap[r]? = some (.mapIter (some m) s seen l)) : (getObj r).run P w = .ok (.mapIter (some m) s seen l) w := by
  simp [getObj, Sem.run, h]

theorem run_mapNext {n : Nat} (hn : 0 < n) : ∃ q wc, q < n ∧ (wc.heap = w.heap ∧ wc.os = w.os ∧ wc.output = w.output) ∧ (choose (.mapNext n)).run P w = .ok q wc := by
  by_cases h : n ≤ 1
  · have : n = 1 := by omega
    subst this
    exact ⟨0, w, by omega, ⟨rfl, rfl, rfl⟩, rfl⟩
  · refine ⟨w.tape w.drawn (.mapNext n) % n, w.drew, Nat.mod_lt _ hn, ⟨rfl, rfl, rfl⟩, ?_⟩
    have hf : (Question.mapNext n).forced = false := by simp [Question.forced, h]
    simp only [choose, Sem.run, hf]
    rfl

theorem mi_next {r it : Nat} {m todo : List (κ × α)} {cur : Option (κ × α)} {O R : Fp} (h : miH kv K r it m todo cur w O R) :
    (todo = [] → (Instr.next (.pointer (some ⟨it, 0, none⟩)) false ty).run P w = .ok (.tuple #[.bool false]) w) ∧
    (todo ≠ [] → ∃ (k : κ) (a : α) (q : K.π) (todo' : List (κ × α)) (es : Array MapEntry) (clock : Nat) (seen : Array Nat) (e : MapEntry) (j : Nat) (wc : World), (wc.heap = w.heap ∧ wc.os = w.os ∧ wc.output = w.output) ∧ todo.Perm ((k, a) :: todo') ∧ m[j]? = some (k, a) ∧ es[j]? = some e ∧ e.key = kv k ∧ e.val = K.val a q ∧
      (∀ s, s ∈ K.inner a q → ∃ R', s.holds w none0 R' ∧ ∀ b i, R' b i → R b i) ∧ w.heap[r]? = some (.map es clock) ∧ w.heap[it]? = some (.mapIter (some r) clock seen clock) ∧ todo' = unseen m es (seen.push e.born) ∧
      (Instr.next (.pointer (some ⟨it, 0, none⟩)) false ty).run P w = .ok (.tuple #[.bool true, kv k, K.val a q]) { wc with heap := w.heap.setIfInBounds it (.mapIter (some r) clock (seen.push e.born) clock) }) := by
  obtain ⟨⟨O1, h1, h2, es', clock', g3, g4, g5, g6, g7⟩, h3, h4, h5, es, clock, seen, k1, k2, k3, k4⟩ := h
  rw [k1] at g3
  simp only [Option.some.injEq, Obj.map.injEq] at g3
  obtain ⟨rfl, rfl⟩ := g3
  have hlen : m.length = es.toList.length := by simpa using g4.symm
  -- what there is to see
  have hnew : (es.filter fun e => !seen.contains e.born).filter (fun e => decide (e.born ≥ clock)) = #[] := by
    rw [Array.filter_eq_empty_iff]
    intro e he
    have := g6 e (by simpa using (Array.mem_filter.1 he).1)
    simp; omega
  have hold : (es.filter fun e => !seen.contains e.born).filter (fun e => decide (e.born < clock)) = es.filter fun e => !seen.contains e.born := by
    rw [Array.filter_eq_self]
    intro e he
    have := g6 e (by simpa using (Array.mem_filter.1 he).1)
    simpa using this
  have hchk : (!seen.isEmpty && !es.isEmpty && es.all (fun e => decide (e.born ≥ clock))) = false := by
    cases hes : es.toList with
    | nil =>
      have : es = #[] := by apply Array.ext'; simpa using hes
      subst this; simp
    | cons e l =>
      have he : e ∈ es.toList := by rw [hes]; simp
      have := g6 e he
      have : es.all (fun e => decide (e.born ≥ clock)) = false := by
        rw [← Bool.not_eq_true, Array.all_eq_true]
        intro h
        obtain ⟨i, hi⟩ := List.getElem?_of_mem he
        rw [Array.getElem?_toList] at hi
        obtain ⟨hlt, hq⟩ := Array.getElem?_eq_some_iff.1 hi
        have := h i hlt
        rw [hq] at this
        simp at this; omega
      rw [this]; simp
  have hpre : ∀ (B : Sem Value), True := fun _ => trivial
  let left := es.filter fun e => !seen.contains e.born
  have hrun : ∀ (v : Value) (w' : World), (do
        match ((if left.isEmpty then #[none] else #[]) ++ (left ++ #[]).map some)[← choose (.mapNext ((if left.isEmpty then #[none] else #[]) ++ (left ++ #[]).map some).size)]? with
        | some (some e) =>
          setObj it (.mapIter (some r) clock (seen.push e.born) clock)
          pure (.tuple #[.bool true, e.key, e.val])
        | some none => pure (.tuple #[.bool false])
        | none => stuck "Next: no such candidate" : Sem Value).run P w = .ok v w' → (Instr.next (.pointer (some ⟨it, 0, none⟩)) false ty).run P w = .ok v w' := by
    intro v w' hr
    unfold Instr.next
    simp only
    rw [run_bind (run_getObjI k2)]
    simp only
    rw [run_bind (run_getObj k1)]
    simp only
    rw [hchk]
    simp only [Bool.false_eq_true, if_false, hold, hnew]
    exact hr
  have hL : ((m.zip es.toList).map fun p => p.2.born).Nodup := by
    have : (m.zip es.toList).map (fun p => p.2.born) = es.toList.map (·.born) := by
      have := congrArg (List.map (fun e : MapEntry => e.born)) (zip_map_snd m es.toList hlen)
      rw [List.map_map] at this
      exact this
    rw [this]; exact g5
  have hleft : left.toList = ((m.zip es.toList).filter fun p => !seen.contains p.2.born).map (·.2) := by
    show (es.filter _).toList = _
    rw [Array.toList_filter]
    conv => lhs; rw [← zip_map_snd m es.toList hlen]
    rw [List.filter_map]; rfl
  constructor
  · intro he
    have hl0 : left = #[] := by
      apply Array.ext'
      rw [hleft]
      rw [k3] at he
      unfold unseen at he
      have : (m.zip es.toList).filter (fun p => !seen.contains p.2.born) = [] := by simpa using he
      rw [this]; rfl
    refine hrun _ _ ?_
    rw [hl0]
    have hch : (choose (.mapNext ((if (#[] : Array MapEntry).isEmpty then #[none] else #[]) ++ ((#[] : Array MapEntry) ++ #[]).map some).size)).run P w = .ok 0 w := by
      simp [choose, Sem.run, Question.forced]
    rw [run_bind hch]; simp
  · intro hne
    have hl0 : left ≠ #[] := by
      intro h0
      apply hne
      have := congrArg Array.toList h0
      rw [hleft] at this
      have h1 : (m.zip es.toList).filter (fun p => !seen.contains p.2.born) = [] := by simpa using this
      rw [k3]; unfold unseen; rw [h1]; rfl
    have hsz : 0 < left.size := by
      rcases Nat.eq_zero_or_pos left.size with h0 | h0
      · exact (hl0 (by simpa using h0)).elim
      · exact h0
    have hemp : left.isEmpty = false := by
      simp only [Array.isEmpty, decide_eq_false_iff_not]; omega
    obtain ⟨q0, wc, hq0, hwc, hch⟩ := run_mapNext (P := P) (w := w) hsz
    let e := left[q0]
    have hel : e ∈ left.toList := by simp [e]
    rw [hleft] at hel
    obtain ⟨⟨x, e'⟩, hp1, hp2⟩ := List.mem_map.1 hel
    obtain ⟨hp3, hp4⟩ := List.mem_filter.1 hp1
    simp only at hp2 hp4
    obtain ⟨j, hj⟩ := List.getElem?_of_mem hp3
    rw [List.getElem?_zip_eq_some] at hj
    simp only at hj
    obtain ⟨e2, f1, f2, q, f3, f4⟩ := g7 j x hj.1
    have he2 : e2 = e' := by
      have := hj.2
      rw [Array.getElem?_toList, f1] at this
      exact Option.some.inj this
    subst he2
    refine ⟨x.1, x.2, q, unseen m es (seen.push e2.born), es, clock, seen, e2, j, wc, hwc, ?_, hj.1, f1, f2, f3, f4, k1, k2, rfl, ?_⟩
    · rw [k3]
      have hp := filter_perm (fun p : (κ × α) × MapEntry => p.2.born) (fun n => !seen.contains n) (m.zip es.toList) (x, e2) hL hp3 hp4
      have := hp.map (fun p : (κ × α) × MapEntry => p.1)
      simp only [List.map_cons] at this
      have e1 : ((m.zip es.toList).filter fun z => !seen.contains z.2.born && !(z.2.born == e2.born)) = (m.zip es.toList).filter fun z => !(seen.push e2.born).contains z.2.born := by
        apply List.filter_congr
        intro z _
        rw [Bool.eq_iff_iff]
        simp [Array.mem_push, not_or]
      rw [e1] at this
      exact this
    · refine hrun _ _ ?_
      rw [hemp]
      simp only [Bool.false_eq_true, if_false, Array.append_empty, Array.empty_append, Array.size_map]
      rw [run_bind hch]
      have hat : (left.map some)[q0]? = some (some e) := by simp [e, hq0]
      rw [hat]
      simp only
      have hit : wc.heap[it]? = some (.mapIter (some r) clock seen clock) := by rw [hwc.1]; exact k2
      have hset : (setObj it (.mapIter (some r) clock (seen.push e.born) clock)).run P wc = .ok () { wc with heap := w.heap.setIfInBounds it (.mapIter (some r) clock (seen.push e.born) clock) } := by
        simp only [setObj, Sem.run, hit]; rw [hwc.1]
      rw [run_bind hset, ← hp2, f2, f3]
      rfl
theorem FV.nx0 {r it : Nat} {m : List (κ × α)} {cur : Option (κ × α)} (i : Nat) (hx : ev ρ x = some (.pointer (some ⟨it, 0, none⟩))) (hi : H[i]? = some (mi kv K r it m [] cur)) :
    FV P ⟨d, .next x false, ty, pos, af, g⟩ ρ H (.tuple #[.bool false]) := by
  intro n a w ha hw
  obtain ⟨O, R, h⟩ := hw.at hi
  have := (mi_next (P := P) (ty := ty) h).1 rfl
  simp only [execOp, ha.ev hx]
  exact run_v this

/-- A step to an entry. -/
theorem OpX.nxS {r it : Nat} {m todo : List (κ × α)} {cur : Option (κ × α)} (i : Nat) (hx : ev ρ x = some (.pointer (some ⟨it, 0, none⟩))) (hi : H[i]? = some (mi kv K r it m todo cur)) (hne : todo ≠ []) :
    OpX P ⟨d, .next x false, ty, pos, af, g⟩ ρ H (X := {x : (κ × α × List (κ × α)) × K.π // todo.Perm ((x.1.1, x.1.2.1) :: x.1.2.2)}) (fun x => .tuple #[.bool true, kv x.1.1.1, K.val x.1.1.2.1 x.1.2])
      (fun x => setR H i (mi kv K r it m x.1.1.2.2 (some (x.1.1.1, x.1.1.2.1)))) := by
  intro n a w ha hw next Q kk
  obtain ⟨O, R, O1, R1, O2, R2, h, hF, d1, d2, eo, er⟩ := hw.pick hi
  have h' := h
  obtain ⟨k, al, q, todo', es, clock, seen, e, j, wc, hwc, p1, p2, p3, p4, p5, p6, p7, p8, p9, p10⟩ := (mi_next (P := P) (ty := ty) h).2 hne
  obtain ⟨⟨O3, h1⟩, h2, h3, h4, _⟩ := h
  have hexec : (execOp a.eval ⟨d, .next x false, ty, pos, af, g⟩).run P w = .ok (.value (.tuple #[.bool true, kv k, K.val al q])) { wc with heap := w.heap.setIfInBounds it (.mapIter (some r) clock (seen.push e.born) clock) } := by
    simp only [execOp, ha.ev hx]
    exact run_v p10
  rw [hexec]
  refine kk ⟨((k, al, todo'), q), p1⟩ _ ?_
  have keep : ∀ c l, c ≠ it → lookO { wc with heap := w.heap.setIfInBounds it (.mapIter (some r) clock (seen.push e.born) clock) } c l = lookO w c l := by
    intro c l hc
    have h5 : ({ wc with heap := w.heap.setIfInBounds it (.mapIter (some r) clock (seen.push e.born) clock) } : World).heap[c]? = w.heap[c]? := by
      show (w.heap.setIfInBounds it _)[c]? = _
      rw [Array.getElem?_setIfInBounds, if_neg (fun e => hc e.symm)]
    simp only [lookO, World.cell?, World.frozen?, h5, hwc.2.1, hwc.2.2]
  have keepC : ∀ c l, c ≠ it → ({ wc with heap := w.heap.setIfInBounds it (.mapIter (some r) clock (seen.push e.born) clock) } : World).cell? ⟨c, l, none⟩ = w.cell? ⟨c, l, none⟩ := fun c l hc => by
    have := keep c l hc; simp only [lookO, Prod.mk.injEq] at this; exact this.1
  have hit : it < w.heap.size := (Array.getElem?_eq_some_iff.1 p8).1
  refine (Holds.perm (perm_setR hi) ⟨O, R, O1, R1, O2, R2, ⟨⟨O3, (mp kv K r m).loc h1 ⟨fun b l hb => keep b l (by rw [(h1.1 b l).1 hb]; exact fun e => h3 e.symm), fun b l hb => keepC b l (h4 b l hb)⟩⟩, h2, h3, h4, es, clock, seen.push e.born, ?_, ?_, p9, ?_⟩, ?_, d1, d2, eo, er⟩)
  · exact lookO_heap (keep r 0 fun e => h3 e.symm) p7 (by intro _ _ _ h; cases h)
  · show (w.heap.setIfInBounds it _)[it]? = _
    rw [Array.getElem?_setIfInBounds]; simp [hit]
  · intro x hx
    cases hx
    exact ⟨j, e, p2, p3, by simp⟩
  · refine hF.loc ⟨fun b l hb => keep b l fun e => ?_, fun b l hb => keepC b l fun e => ?_⟩
    · exact (d1 b l ((h2 b l).2 (.inr e))).1 hb
    · exact (d1 b l ((h2 b l).2 (.inr e))).2 hb

/-- The entry that was seen last. -/
theorem OpX.ent {r it : Nat} {m todo : List (κ × α)} {k : κ} {al : α} (i : Nat) (hx : ev ρ x = some (.pointer (some ⟨it, 0, none⟩))) (hi : H[i]? = some (mi kv K r it m todo (some (k, al)))) :
    OpX P ⟨d, .entry x, ty, pos, af, g⟩ ρ H (fun q : K.π => .tuple #[kv k, K.val al q]) (fun q => K.inner al q ++ H) := by
  intro n a w ha hw next Q kk
  obtain ⟨O, R, O1, R1, O2, R2, h, hF, d1, d2, eo, er⟩ := hw.pick hi
  have hs0 : Sep w (mi kv K r it m todo (some (k, al)) :: rem H i) O R := ⟨O1, R1, O2, R2, h, hF, d1, d2, eo, er⟩
  obtain ⟨⟨O3, h1, h2, es', clock', g3, g4, g5, g6, g7⟩, h3, h4, h5, es, clock, seen, k1, k2, k3, k4⟩ := h
  rw [k1] at g3
  simp only [Option.some.injEq, Obj.map.injEq] at g3
  obtain ⟨rfl, rfl⟩ := g3
  obtain ⟨j, e, f1, f2, f3⟩ := k4 _ rfl
  obtain ⟨e', f4, f5, q, f6, f7⟩ := g7 j _ f1
  rw [f2] at f4; cases f4
  have hfind : es.find? (fun e' => e'.born == e.born) = some e := by
    rw [← Array.find?_toList]
    have hm : e ∈ es.toList := List.mem_of_getElem? (i := j) (by simpa using f2)
    cases hf : es.toList.find? (fun e' => e'.born == e.born) with
    | none => rw [List.find?_eq_none] at hf; exact (hf e hm (by simp)).elim
    | some u =>
      have hu := List.find?_some hf
      have hum := List.mem_of_find?_eq_some hf
      have hb : u.born = e.born := by simpa using hu
      congr 1
      have inj : ∀ (l : List MapEntry), (l.map (·.born)).Nodup → ∀ a b, a ∈ l → b ∈ l → a.born = b.born → a = b := by
        intro l
        induction l with
        | nil => intro _ a b ha; simp at ha
        | cons c l ih =>
          intro hn a b ha hb hab
          rw [List.map_cons, List.nodup_cons] at hn
          rcases List.mem_cons.1 ha with e1 | ha' <;> rcases List.mem_cons.1 hb with e2 | hb'
          · rw [e1, e2]
          · exact (hn.1 (by rw [← e1, hab]; exact List.mem_map_of_mem hb')).elim
          · exact (hn.1 (by rw [← e2, ← hab]; exact List.mem_map_of_mem ha')).elim
          · exact ih hn.2 a b ha' hb' hab
      exact inj es.toList g5 u e hum hm hb
  have hexec : (execOp a.eval ⟨d, .entry x, ty, pos, af, g⟩).run P w = .ok (.value (.tuple #[kv k, K.val al q])) w := by
    have he : (Instr.entry (.pointer (some ⟨it, 0, none⟩))).run P w = .ok (.tuple #[kv k, K.val al q]) w := by
      unfold Instr.entry
      simp only
      rw [run_bind (run_getObjI k2)]
      simp only
      rw [f3]
      simp only
      rw [run_bind (run_getObj k1)]
      simp only [bne_self_eq_false, Bool.false_eq_true, if_false]
      rw [hfind]
      simp only
      rw [f5, f6]; rfl
    simp only [execOp, ha.ev hx]
    exact run_v he
  rw [hexec]
  obtain ⟨R', q1, q2⟩ := Sep.persL _ f7
  refine kk q w ?_
  have := Holds.addPers hs0 q1 (fun b l hb ho => ?_)
  · exact this.perm ((perm_rem hi).symm.append_left _)
  · have hb1 := q2 b l hb
    rcases (eo b l).1 ho with ho | ho
    · rcases (h3 b l).1 ho with e | e
      · exact (h2 b l hb1).2 e
      · exact h5 b l hb1 e
    · exact d2 b l ho hb1

/-- The pass is over. -/
theorem Ent.mi {r it : Nat} {m todo : List (κ × α)} {cur : Option (κ × α)} : Ent [Sl.mi kv K r it m todo cur] [mp kv K r m] := by
  rintro w O R ⟨O1, R1, O2, R2, ⟨⟨O3, h1⟩, h2, h3, h4, _⟩, hn, d1, d2, eo, er⟩
  refine ⟨O3, R, ⟨O3, R1, O2, R2, h1, hn, fun b i hb => d1 b i ((h2 b i).2 (.inl ((h1.1 b i).1 hb))), d2, fun b i => ⟨.inl, fun h => h.elim id fun h => (hn.1 b i h).elim⟩, er⟩, fun b i hb => (eo b i).2 (.inl ((h2 b i).2 (.inl ((h1.1 b i).1 hb)))), fun _ _ h => .inr h⟩
end
end Go.Sl
/-! Rows asx slices; bytes; guards in regions that draw. -/
namespace Go.Sl
open Go
theorem Ent.members {H : List Res} : ∀ (rs : List Res), (∀ r, r ∈ rs → r ∈ H ∧ r.Pers) → Ent H (rs ++ H)
  | [], _ => Ent.refl _
  | r :: rs, h => by
    obtain ⟨h1, h2⟩ := h r (by simp)
    obtain ⟨i, hi⟩ := List.getElem?_of_mem h1
    exact Ent.keep i hi h2 (Ent.members rs fun s hs => h s (by simp [hs]))
section
variable {P : Program} {ρ : Env} {H : List Res} {d : Option Tmp} {ty : TypeId} {pos : String} {af : Array Edge} {g : Option (Nat × Bool)} {x y z : Operand}
theorem OpX.mono {o : Oper} {X Y : Type} {vx : X → Value} {Hx : X → List Res} {vy : Y → Value} {Hy : Y → List Res} (h : OpX P o ρ H vx Hx) (k : ∀ x, ∃ y, vx x = vy y ∧ Ent (Hx x) (Hy y)) : OpX P o ρ H vy Hy := by
  intro n a w ha hw next Q kk
  refine h n a w ha hw next Q fun x w' hw' => ?_
  obtain ⟨y, e, he⟩ := k x
  rw [e]
  refine kk y w' ?_
  have := Holds.ent (F := []) he (by simpa using hw')
  simpa using this
theorem PV.ext0 {v : Value} {vs : List Value} (hx : ev ρ x = some (.tuple (v :: vs).toArray)) : PV P ⟨d, .extract x 0, ty, pos, af, g⟩ ρ v := PV.ext hx rfl
theorem PV.ext1 {v u : Value} {vs : List Value} (hx : ev ρ x = some (.tuple (u :: v :: vs).toArray)) : PV P ⟨d, .extract x 1, ty, pos, af, g⟩ ρ v := PV.ext hx rfl
theorem PV.ext2 {v u t : Value} {vs : List Value} (hx : ev ρ x = some (.tuple (u :: t :: v :: vs).toArray)) : PV P ⟨d, .extract x 2, ty, pos, af, g⟩ ρ v := PV.ext hx rfl
theorem OpX.pre {H' : List Res} {o : Oper} {X : Type} {vx : X → Value} {Hx : X → List Res} (he : Ent H H') (h : OpX P o ρ H' vx Hx) : OpX P o ρ H vx Hx :=
  fun n a w ha hw next Q kk => h n a w ha (by have := Holds.ent (F := []) he (by simpa using hw); simpa using this) next Q kk
/-- append(nil, y...). -/
theorem OpX.app0 {α : Type} {K : Kd α} {t t2 e bytes : Nat} {ys : List α} {v : Value} (ht : SlT P t e K.sz bytes) (h2 : ∃ ds, P.underlying t2 = some ds ∧ ∀ k, ds ≠ .int k)
    (hx : ev ρ x = some (.slice none 0 0)) (hy : ev ρ y = some v)
    (hv : ∀ w O R, Sep w H O R → ∃ R2, SrcV P K v ys w R2 ∧ (∀ b k, R2 b k → (w.cell? ⟨b, k, none⟩).isSome = true) ∧ ∀ b k, R2 b k → R b k ∧ ¬ O b k)
    (hb : ys.length * bytes ≤ 140737488355328) (hlen : ys.length ≤ 9223372036854775807) :
    OpX P ⟨d, .call ⟨.builtin .append, #[x, y], #[t, t2]⟩, t, pos, af, g⟩ ρ H (fun p' : SP => p'.v ys.length) (fun p' => sl K p' ys :: tl K.sz p' ys.length :: H) := by
  have he : Ent H (tl K.sz SP.nil 0 :: sl K SP.nil [] :: H) := (Ent.ofNil (Ent.nil_sl K)).trans (Ent.ofNil (Ent.nil_tl K.sz))
  refine OpX.pre he ((OpX.app (K := K) (p := SP.nil) (xs := []) (ys := ys) 0 0 ht h2 hx hy rfl rfl ?_ (by simpa using hb) (by simpa using hlen)).mono fun p' => ⟨p', rfl, ?_⟩)
  · intro w O R hs
    obtain ⟨O1, R1, O2, R2, h1, hs2, d1, d2, eo, er⟩ := hs
    obtain ⟨R3, k1, k2, k3⟩ := hv w O2 R2 hs2
    refine ⟨R3, k1, k2, fun b k hb => ⟨(er b k).2 (.inr (k3 b k hb).1), fun ho => ?_⟩⟩
    rcases (eo b k).1 ho with ho | ho
    · exact sl_pers K _ _ _ _ _ h1 b k ho
    · exact (k3 b k hb).2 ho
  · exact Ent.cons (Ent.cons (Ent.tail (Ent.refl _)))
theorem PV.cpl {k : IntKind} {m : Int} {t : TypeId} (hx : ev ρ x = some (.int k m)) :
    PV P ⟨d, .unOp .xor t x, ty, pos, af, g⟩ ρ (.int k (k.wrap (BitVec.ofInt k.bits (if k.signed then -1 else k.max) ^^^ BitVec.ofInt k.bits m).toNat)) :=
  fun _ a w ha => by simp [execOp, ha.ev hx, Op.unary, Op.intBits]
theorem PV.neg {k : IntKind} {m : Int} {t : TypeId} (hx : ev ρ x = some (.int k m)) :
    PV P ⟨d, .unOp .neg t x, ty, pos, af, g⟩ ρ (.int k (k.wrap (0 - m))) :=
  fun _ a w ha => by simp [execOp, ha.ev hx, Op.unary, Op.intArith]
theorem PV.negE {k : IntKind} {m r : Int} {t : TypeId} (hx : ev ρ x = some (.int k m)) (hr : k.wrap (0 - m) = r) : PV P ⟨d, .unOp .neg t x, ty, pos, af, g⟩ ρ (.int k r) := hr ▸ PV.neg hx
/-- A field's address in an element that is there. -/
theorem PV.faE2 {T i k o o' m : Nat} {p : SP} (hf : FO P T i k) (hx : ev ρ x = some (p.ptr o)) (hp : m ≤ p.c ∧ (p.a = none → p.c = 0)) (hm : 0 < m) (ho : o + k = o') : PV P ⟨d, .fieldAddr T x i, ty, pos, af, g⟩ ρ (p.ptr o') := by
  cases ha : p.a with
  | none => have := hp.2 ha; omega
  | some ad => exact PV.faE hf hx ha ho
/-- A new row, asx a slice. -/
theorem OpX.rowS {α : Type} {K : Kd α} {t e bytes m : Nat} {ps : Array (Nat × Operand)} {zs : List Value} {vs : List (Nat × Value)} (xs : List α) (qs : List K.π) (ht : SlT P t e K.sz bytes) (hz : ∃ z, Zr P e z ∧ z.cells.toList = zs) (hm : Nat.ble (m * K.sz) 16777216 = true) (hs : Nat.beq (m * K.sz) 0 = false) (hp : evp ρ ps.toList = some vs)
    (hc : layL (fun i => some (i * K.sz, K.sz)) ((List.range (m * K.sz)).map fun i => zs.getD (i % zs.length) default) vs = some (cellsL K xs qs)) (hl : qs.length = xs.length) (hx : xs.length = m) (hin : ∀ r, r ∈ innerL K xs qs → r ∈ H) :
    OpX P ⟨d, .buildSlice t m ps, ty, pos, af, g⟩ ρ H (fun p : SP => p.v xs.length) (fun p => sl K p xs :: tl K.sz p xs.length :: H) := by
  refine (OpX.row ht hz hm hs hp hc).mono fun b => ⟨⟨some (b, 0), m⟩, by rw [hx]; rfl, ?_⟩
  have h1 : Ent H (innerL K xs qs ++ H) := Ent.members _ fun r hr => ⟨hin r hr, innerL_pers K xs qs r hr⟩
  have h2 := (Ent.row K b xs qs _ hl rfl).trans (Ent.sealed K ⟨some (b, 0), xs.length⟩ xs)
  rw [hx] at h2 ⊢
  exact (Ent.cons h1).trans (Ent.frame H h2)
/-- An empty row. -/
theorem OpX.row0 {α : Type} (K : Kd α) {t e bytes : Nat} {ps : Array (Nat × Operand)} (ht : SlT P t e K.sz bytes) (hp : evp ρ ps.toList = some []) :
    OpX P ⟨d, .buildSlice t 0 ps, ty, pos, af, g⟩ ρ H (fun p : SP => p.v 0) (fun p => sl K p [] :: tl K.sz p 0 :: H) := by
  intro n a w ha hw next Q kk
  obtain ⟨h1, ie, z0, h3, h4, h5, h6, h7⟩ := ht
  have e1 : ps.map (fun (i, x) => (i, a.eval x)) = #[] := by apply Array.ext'; simpa using ha.evp hp
  have : (execOp a.eval ⟨d, .buildSlice t 0 ps, ty, pos, af, g⟩).run P w = .ok (.value (.slice (some ⟨w.heap.size, 0, none⟩) 0 0)) (w.alloc (.cells #[] e)) := by
    have e0 : execOp a.eval ⟨d, .buildSlice t 0 ps, ty, pos, af, g⟩ = (Instr.buildSlice t 0 #[] >>= fun x => pure (Next.value x)) := by
      simp only [execOp]; rw [e1]
    rw [e0]
    refine run_v ?_
    unfold Instr.buildSlice
    rw [run_bind (run_underlying h1 w)]
    simp only
    rw [run_bind (run_sizeOf h3)]
    rw [if_neg (by omega), if_pos (by omega), pure_bind]
    have hf : Instr.fill (fun i => some (i * ie.size, ie.size)) ((Array.range (0 * ie.size)).map ((#[] : Array Value)[· % (#[] : Array Value).size]!)) (#[] : Array (Nat × Value)).toList = some #[] := by
      have e2 : (Array.range (0 * ie.size)).map ((#[] : Array Value)[· % (#[] : Array Value).size]!) = #[] := by
        apply Array.ext'; simp
      rw [e2]; rfl
    simp only [hf]
    rfl
  rw [this]
  have h := Holds.trans (A := []) (F := H) (Trans.new (w := w) (cs := #[]) (t := e)) hw
  refine kk ⟨some (w.heap.size, 0), 0⟩ _ ?_
  have h2 : Ent (pt w.heap.size 0 [] :: innerL K [] []) [own K ⟨some (w.heap.size, 0), 0⟩ []] := Ent.row K w.heap.size [] [] [] rfl rfl
  have h3 := h2.trans (Ent.sealed K ⟨some (w.heap.size, 0), 0⟩ [])
  exact h.ent h3
section
variable {κ α : Type} [BEq κ] [LawfulBEq κ] {kv : κ → Value} {K : Kd α}
/-- m[k], there or not. -/
theorem OpX.lkD {t kt et r : Nat} {m : List (κ × α)} {k : κ} {z0 : α} {q0 : K.π} (i : Nat) (ht : MapT P t kt et) (hk : KeyT P kt kv) (hz : Zr P et (K.val z0 q0)) (h0 : Ent [] (K.inner z0 q0)) (hx : ev ρ x = some (.map (some r))) (hy : ev ρ y = some (kv k)) (hi : H[i]? = some (mp kv K r m)) :
    OpX P ⟨d, .lookup t x y false, ty, pos, af, g⟩ ρ H (fun q : K.π => K.val ((mget m k).getD z0) q) (fun q => K.inner ((mget m k).getD z0) q ++ H) := by
  cases hg : mget m k with
  | some a0 => exact OpX.lkT i ht hk hx hy hi hg false
  | none =>
    have h1 : OpX P ⟨d, .lookup t x y false, ty, pos, af, g⟩ ρ H (X := Unit) (fun _ => K.val z0 q0) (fun _ => H) := OpD.fv (FV.lkF i ht hk hz hx hy hi hg false)
    exact h1.mono fun _ => ⟨q0, rfl, Ent.ofNil h0⟩
theorem OpX.lkE {t kt et r : Nat} {m : List (κ × α)} {k : κ} {z0 : α} {q0 : K.π} (i : Nat) (ht : MapT P t kt et) (hk : KeyT P kt kv) (hz : Zr P et (K.val z0 q0)) (h0 : Ent [] (K.inner z0 q0)) (hx : ev ρ x = some (.map (some r))) (hy : ev ρ y = some (kv k)) (hi : H[i]? = some (mp kv K r m)) :
    OpX P ⟨d, .lookup t x y true, ty, pos, af, g⟩ ρ H (fun q : K.π => .tuple #[K.val ((mget m k).getD z0) q, .bool (mget m k).isSome]) (fun q => K.inner ((mget m k).getD z0) q ++ H) := by
  cases hg : mget m k with
  | some a0 => exact OpX.lkT i ht hk hx hy hi hg true
  | none =>
    have h1 : OpX P ⟨d, .lookup t x y true, ty, pos, af, g⟩ ρ H (X := Unit) (fun _ => .tuple #[K.val z0 q0, .bool false]) (fun _ => H) := OpD.fv (FV.lkF i ht hk hz hx hy hi hg true)
    exact h1.mono fun _ => ⟨q0, rfl, Ent.ofNil h0⟩
end
/-- A number asx a byte. -/
def b8 (m : Int) : UInt8 := UInt8.ofNat (m % 256).toNat
theorem wrap8 (m : Int) : IntKind.u8.wrap m = (b8 m).toNat := by
  have e1 : (2 : Int) ^ IntKind.u8.bits = 256 := by decide
  unfold IntKind.wrap b8
  simp only [e1, show IntKind.u8.signed = false from rfl, Bool.false_and, Bool.false_eq_true, if_false]
  have h0 : 0 ≤ m % 256 := Int.emod_nonneg _ (by omega)
  have h1 : m % 256 < 256 := Int.emod_lt_of_pos _ (by omega)
  rw [UInt8.toNat_ofNat']
  omega
theorem PV.cv8 {k : IntKind} {m : Int} {t1 t2 : TypeId} (h2 : P.underlying t2 = some (.int .u8)) (h1 : ∃ ds, P.underlying t1 = some ds) (hx : ev ρ x = some (.int k m)) :
    PV P ⟨d, .convert t1 t2 x, ty, pos, af, g⟩ ρ (.int .u8 (b8 m).toNat) := PV.cvIE h2 h1 hx (wrap8 m)
end
section
variable {P : Program} {n : Nat} {ops : Array Oper} {Q : Exit → Act → World → Prop} {todo : List Nat} {pP pL : List (Nat × Value)} {ρ : Env} {H : List Res}
theorem DP.pY {j d jg dj : Nat} {o og : Oper} {v : Value} {b want : Bool} (ho : ops[j]? = some o) (hg : o.guard = some (jg, want)) (hj : ops[jg]? = some og) (hdj : og.dst = some dj) (hl : lk ρ dj = some (.bool b)) (hb : b = want) (hd : o.dst = some d) (hn : Nat.blt d n = true) (hf : lk ρ d = none) (h : PV P o ρ v)
    (k : DP P n ops Q todo ((j, v) :: pP) pL ((d, v) :: ρ) H) : DP P n ops Q (j :: todo) pP pL ρ H := DP.pure ho hd hn hf (PureAt.yes hg hj hdj hl hb h) k
theorem DP.pN {j d jg dj : Nat} {o og : Oper} {b want : Bool} (ho : ops[j]? = some o) (hg : o.guard = some (jg, want)) (hj : ops[jg]? = some og) (hdj : og.dst = some dj) (hl : lk ρ dj = some (.bool b)) (hb : b = !want) (hd : o.dst = some d) (hn : Nat.blt d n = true) (hf : lk ρ d = none)
    (k : DP P n ops Q todo ((j, undef) :: pP) pL ((d, undef) :: ρ) H) : DP P n ops Q (j :: todo) pP pL ρ H := DP.pure ho hd hn hf (PureAt.no hg hj hdj hl hb) k
theorem DP.fY {j d jg dj : Nat} {o og : Oper} {v : Value} {b want : Bool} (ho : ops[j]? = some o) (hg : o.guard = some (jg, want)) (hj : ops[jg]? = some og) (hdj : og.dst = some dj) (hl : lk ρ dj = some (.bool b)) (hb : b = want) (hd : o.dst = some d) (hn : Nat.blt d n = true) (hf : lk ρ d = none) (h : FV P o ρ H v)
    (k : DP P n ops Q todo pP ((j, v) :: pL) ((d, v) :: ρ) H) : DP P n ops Q (j :: todo) pP pL ρ H := DP.float ho hd hn hf (FloatAt.yes hg hj hdj hl hb h) k
theorem DP.eY (hR : OkR ops) {i d jg dj : Nat} {o og : Oper} {X : Type} {vx : X → Value} {Hx : X → List Res} {b want : Bool} (pL' : List (Nat × Value)) (ho : ops[i]? = some o) (hg : o.guard = some (jg, want)) (hj : ops[jg]? = some og) (hdj : og.dst = some dj) (hl : lk ρ dj = some (.bool b)) (hb : b = want) (hd : o.dst = some d) (hn : Nat.blt d n = true) (hf : lk ρ d = none) (hx : OpX P o ρ H vx Hx)
    (hwt : waits ops (i :: todo) todo = true) (hk : ∀ x, KeepL P n ops i ((d, vx x) :: ρ) (Hx x) pL pL') (k : ∀ x, DP P n ops Q todo pP pL' ((d, vx x) :: ρ) (Hx x)) : DP P n ops Q (i :: todo) pP pL ρ H := by
  refine DP.eff hR (pL' := fun _ => pL') ho (by rw [hd]; exact ⟨hn, hf⟩) hx (fun a ha => by rw [guard_wanted hg hj hdj hl ha, hb]; simp) hwt ?_ ?_
  · rw [hd]; exact hk
  · rw [hd]; exact k
end
end Go.Sl
/-! Numbers asx bytes, the highest first. -/
namespace Go.Sl
open Go
/-- The number of bytes, the highest first. -/
def beN : List UInt8 → Nat
  | [] => 0
  | b :: l => b.toNat * 256 ^ l.length + beN l
theorem beN_app : ∀ (l : List UInt8) (b : UInt8), beN (l ++ [b]) = beN l * 256 + b.toNat
  | [], b => by simp [beN]
  | a :: l, b => by
    rw [List.cons_append, beN, beN_app l b, beN, List.length_append, List.length_singleton, Nat.pow_succ, Nat.add_mul, Nat.mul_assoc, Nat.add_assoc]
theorem beN_lt : ∀ (l : List UInt8), beN l < 256 ^ l.length
  | [] => by simp [beN]
  | a :: l => by
    have h := a.toNat_lt
    have h2 := beN_lt l
    rw [beN, List.length_cons, Nat.pow_succ, Nat.mul_comm (256 ^ l.length)]
    have h3 : (a.toNat + 1) * 256 ^ l.length ≤ 256 * 256 ^ l.length := Nat.mul_le_mul_right _ (by omega)
    rw [Nat.add_mul, Nat.one_mul] at h3
    omega
theorem wrap64_of {m : Int} (h : 0 ≤ m ∧ m < 9223372036854775808) : IntKind.i64.wrap m = m := wrap64_in (by omega)
theorem ofNat_toNat64 {m : Nat} (h : m < 18446744073709551616) : (BitVec.ofInt IntKind.i64.bits (m : Int)).toNat = m := by
  show (BitVec.ofInt 64 (m : Int)).toNat = m
  rw [BitVec.toNat_ofInt]
  omega
/-- n<<8 | int(c). -/
theorem or64 {a b : Nat} (ha : a < 36028797018963968) (hb : b < 256) : IntKind.i64.wrap (BitVec.ofInt IntKind.i64.bits (IntKind.i64.wrap ((a : Int) * 2 ^ min (Int.toNat 8) IntKind.i64.bits)) ||| BitVec.ofInt IntKind.i64.bits (IntKind.i64.wrap (b : Int))).toNat = ((a * 256 + b : Nat) : Int) := by
  have e1 : min (Int.toNat 8) IntKind.i64.bits = 8 := rfl
  have e2 : ((a : Int) * 2 ^ 8) = ((a * 256 : Nat) : Int) := by rw [Int.natCast_mul]; rfl
  rw [e1, e2, wrap64_of (m := ((a * 256 : Nat) : Int)) (by omega), wrap64_of (m := (b : Int)) (by omega)]
  rw [BitVec.toNat_or, ofNat_toNat64 (by omega), ofNat_toNat64 (by omega)]
  have e3 : a * 256 ||| b = a * 256 + b := by
    rw [Nat.mul_comm, show (256 : Nat) = 2 ^ 8 from rfl, ← Nat.two_pow_add_eq_or_of_lt (by omega)]
  rw [e3, wrap64_of (by omega)]
theorem b8_toNat (m : Int) : ((b8 m).toNat : Int) = m % 256 := by
  unfold b8
  have h0 : 0 ≤ m % 256 := Int.emod_nonneg _ (by omega)
  have h1 : m % 256 < 256 := Int.emod_lt_of_pos _ (by omega)
  rw [UInt8.toNat_ofNat']; omega
theorem b8_of {m : Nat} (h : m < 256) : (b8 (m : Int)).toNat = m := by
  have := b8_toNat (m : Int)
  omega
theorem b8_byte (b : UInt8) : b8 (b.toNat : Int) = b := by
  apply UInt8.toNat_inj.1
  exact b8_of b.toNat_lt
/-- A number asx k bytes, the highest first. -/
def numB (n : Int) : Nat → List UInt8
  | 0 => []
  | k + 1 => b8 (n.fdiv (2 ^ min (8 * k) 64)) :: numB n k
theorem numB_len (n : Int) : ∀ k, (numB n k).length = k
  | 0 => rfl
  | k + 1 => by rw [numB, List.length_cons, numB_len]
theorem numB_take_succ (n : Int) : ∀ {m k : Nat}, k < m → (numB n m).take (k + 1) = (numB n m).take k ++ [b8 (n.fdiv (2 ^ min (8 * (m - 1 - k)) 64))]
  | m + 1, 0, _ => rfl
  | m + 1, k + 1, h => by
    rw [numB, List.take_succ_cons, List.take_succ_cons, List.cons_append, numB_take_succ n (by omega)]
    rw [show m + 1 - 1 - (k + 1) = m - 1 - k by omega]
theorem b8_fdiv {n k : Nat} (h : 8 * k ≤ 64) : (b8 ((n : Int).fdiv (2 ^ min (8 * k) 64))).toNat = n / 256 ^ k % 256 := by
  have e1 : min (8 * k) 64 = 8 * k := by omega
  have e3 : ((2 : Int) ^ (8 * k)) = ((256 ^ k : Nat) : Int) := by rw [Int.pow_mul, Int.natCast_pow]; rfl
  have := b8_toNat ((n : Int).fdiv (2 ^ min (8 * k) 64))
  rw [e1, Int.fdiv_eq_ediv_of_nonneg _ (Int.pow_nonneg (by omega)), e3] at this
  rw [e1, Int.fdiv_eq_ediv_of_nonneg _ (Int.pow_nonneg (by omega)), e3]
  have e4 : ((n : Int) / ((256 ^ k : Nat) : Int) % 256) = ((n / 256 ^ k % 256 : Nat) : Int) := rfl
  rw [e4] at this
  exact Int.ofNat.inj this
theorem numB_beN {n : Nat} : ∀ {k : Nat}, k ≤ 8 → beN (numB (n : Int) k) = n % 256 ^ k
  | 0, _ => by simp [numB, beN, Nat.mod_one]
  | k + 1, h => by
    rw [numB, beN, numB_len, numB_beN (by omega), b8_fdiv (by omega), Nat.pow_succ, Nat.mod_mul]
    rw [Nat.mul_comm (256 ^ k), Nat.add_comm]
theorem numB_inv {n k : Nat} (hk : k ≤ 8) (h : n < 256 ^ k) : beN (numB (n : Int) k) = n := by rw [numB_beN hk, Nat.mod_eq_of_lt h]
theorem beN_take_succ {l : List UInt8} {j : Nat} (h : j < l.length) : beN (l.take (j + 1)) = beN (l.take j) * 256 + l[j].toNat := by
  rw [List.take_succ_eq_append_getElem h, beN_app]
end Go.Sl
/-! Cuts that keep what was cut. -/
namespace Go.Sl
open Go
theorem Ent.cutK {α : Type} (K : Kd α) (p : SP) (xs : List α) (l m n : Nat) (hm : m ≤ p.c) (hn : l + n ≤ m) : Ent [sl K p xs] [sl K (p.cut K.sz l m) ((xs.drop l).take n), sl K p xs] :=
  (Ent.dup (sl_pers K p xs)).trans (Ent.frame [sl K p xs] (Ent.cut K p xs l m n hm hn))
section
variable {P : Program} {ρ : Env} {H : List Res} {n : Nat} {Q : Exit → Act → World → Prop} {ops : Array Oper} {c : Code} {l : List Oper}
/-- A cut of the i-th resource stands ahead. -/
theorem W.cutK {α : Type} {K : Kd α} {p : SP} {xs : List α} (i a m k : Nat) (ys : List α) (hi : H[i]? = some (sl K p xs)) (hm : m ≤ p.c) (hk : a + k ≤ m) (hy : (xs.drop a).take k = ys)
    (h : W P n c Q ρ (sl K (p.cut K.sz a m) ys :: sl K p xs :: rem H i)) : W P n c Q ρ H := by
  subst hy
  exact W.entA (.cons hi .nil) (Ent.cutK K p xs a m k hm hk) h
theorem WL.cutK {α : Type} {K : Kd α} {p : SP} {xs : List α} (i a m k : Nat) (ys : List α) (hi : H[i]? = some (sl K p xs)) (hm : m ≤ p.c) (hk : a + k ≤ m) (hy : (xs.drop a).take k = ys)
    (h : WL P n ops Q l ρ (sl K (p.cut K.sz a m) ys :: sl K p xs :: rem H i)) : WL P n ops Q l ρ H := by
  subst hy
  exact WL.entA (.cons hi .nil) (Ent.cutK K p xs a m k hm hk) h
theorem W.loopP2 {X Y : Type} (φ : X → Y → Prop) (ρI : X → Y → Env) (HI : X → Y → List Res) (m : X → Y → Nat) (x0 : X) (y0 : Y) {body : Code} (h0 : φ x0 y0) (hs : Sub ρ (ρI x0 y0)) (hh : Ent H (HI x0 y0))
    (round : ∀ x y, φ x y → W P n body (Exit.then (Again (X := X × Y) n (fun z => φ z.1 z.2) (fun z => ρI z.1 z.2) (fun z => HI z.1 z.2) (fun z => m z.1 z.2) (m x y)) Q) (ρI x y) (HI x y)) : W P n (.loop body) Q ρ H :=
  W.loopP (X := X × Y) (fun z => φ z.1 z.2) (fun z => ρI z.1 z.2) (fun z => HI z.1 z.2) (fun z => m z.1 z.2) (x0, y0) h0 hs hh fun x hx => round x.1 x.2 hx
theorem W.loopP3 {X Y Z : Type} (φ : X → Y → Z → Prop) (ρI : X → Y → Z → Env) (HI : X → Y → Z → List Res) (m : X → Y → Z → Nat) (x0 : X) (y0 : Y) (z0 : Z) {body : Code} (h0 : φ x0 y0 z0) (hs : Sub ρ (ρI x0 y0 z0)) (hh : Ent H (HI x0 y0 z0))
    (round : ∀ x y z, φ x y z → W P n body (Exit.then (Again (X := X × Y × Z) n (fun z => φ z.1 z.2.1 z.2.2) (fun z => ρI z.1 z.2.1 z.2.2) (fun z => HI z.1 z.2.1 z.2.2) (fun z => m z.1 z.2.1 z.2.2) (m x y z)) Q) (ρI x y z) (HI x y z)) : W P n (.loop body) Q ρ H :=
  W.loopP (X := X × Y × Z) (fun z => φ z.1 z.2.1 z.2.2) (fun z => ρI z.1 z.2.1 z.2.2) (fun z => HI z.1 z.2.1 z.2.2) (fun z => m z.1 z.2.1 z.2.2) (x0, y0, z0) h0 hs hh fun x hx => round x.1 x.2.1 x.2.2 hx
theorem yielded_undef {ops : Array Oper} {a : Act} {j dj : Nat} {oj : Oper} (ha : EnvOk n ρ a) (hj : ops[j]? = some oj) (hd : oj.dst = some dj) (hl : lk ρ dj = some undef) : yielded ops a.tmps j = none := by
  unfold yielded
  have h1 := ha.val _ _ hl
  have e : ((ops[j]?).bind (·.dst)).bind (a.tmps[·]?) = a.tmps[dj]? := by simp [hj, hd]
  rw [e]
  rw [Array.getD_eq_getD_getElem?] at h1
  cases h3 : a.tmps[dj]? with
  | none => rfl
  | some u => rw [h3] at h1; simp at h1; rw [h1]; rfl
/-- A guard that was not asked. -/
theorem WL.noU {d : Nat} {op : Op} {ty : TypeId} {pos : String} {af : Array Edge} {j dj : Nat} {oj : Oper} {want : Bool} (hj : ops[j]? = some oj) (hdj : oj.dst = some dj) (hl : lk ρ dj = some undef) (hn : Nat.blt d n = true)
    (k : WL P n ops Q l ((d, undef) :: ρ) H) : WL P n ops Q (⟨some d, op, ty, pos, af, some (j, want)⟩ :: l) ρ H := by
  intro a w ha hw
  unfold wpList
  have hy : ¬ Region.wanted ⟨some d, op, ty, pos, af, some (j, want)⟩ (yielded ops a.tmps) = true := by
    simp [Region.wanted, yielded_undef ha hj hdj hl]
  rw [if_neg hy]
  exact k _ _ (ha.put hn _) hw
end
end Go.Sl
