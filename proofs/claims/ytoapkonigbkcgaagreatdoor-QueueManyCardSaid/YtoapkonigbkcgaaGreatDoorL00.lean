/- A library for the proof (part 0): Sl0 Sl1 Sl2 Sl3 Sl4 Sl5 Sl6. -/
import Derived.WalkKit
set_option linter.unusedVariables false
set_option linter.unusedSimpArgs false
set_option linter.unusedSectionVars false
/-! A small separation logic: heap predicates with cell-level footprints (owned, read). -/
namespace Go.Sl
open Go

abbrev Fp := Nat → Nat → Prop

/-- What is at (b, i) for one who owns it. -/
def lookO (w : World) (b i : Nat) : Option Value × Bool × Option Obj × Os × Array (Nat × ByteArray) :=
  (w.cell? ⟨b, i, none⟩, w.frozen? ⟨b, i, none⟩, (match w.heap[b]? with | some (.cells c t f) => some (.cells #[] t (if c.size ≤ i then f else (0, 0))) | o => o), w.os, w.output)

structure Agree (w w' : World) (O R : Fp) : Prop where
  own : ∀ b i, O b i → lookO w' b i = lookO w b i
  ro : ∀ b i, R b i → w'.cell? ⟨b, i, none⟩ = w.cell? ⟨b, i, none⟩

structure Res where
  holds : World → Fp → Fp → Prop
  loc : ∀ {w w' : World} {O R : Fp}, holds w O R → Agree w w' O R → holds w' O R
  bd : ∀ {w : World} {O R : Fp}, holds w O R → ∀ b i, O b i ∨ R b i → b < w.heap.size
  rd : ∀ {w : World} {O R : Fp}, holds w O R → ∀ b i, R b i → (w.cell? ⟨b, i, none⟩).isSome = true

def Sep (w : World) : List Res → Fp → Fp → Prop
  | [], O, R => (∀ b i, ¬ O b i) ∧ (∀ b i, ¬ R b i)
  | r :: H, O, R => ∃ O1 R1 O2 R2, r.holds w O1 R1 ∧ Sep w H O2 R2 ∧ (∀ b i, O1 b i → ¬ O2 b i ∧ ¬ R2 b i) ∧ (∀ b i, O2 b i → ¬ R1 b i) ∧
      (∀ b i, O b i ↔ O1 b i ∨ O2 b i) ∧ (∀ b i, R b i ↔ R1 b i ∨ R2 b i)

def Holds (H : List Res) (w : World) : Prop := ∃ O R, Sep w H O R

theorem Sep.ext {w : World} {H : List Res} {O R O' R' : Fp} (h : Sep w H O R) (ho : ∀ b i, O b i ↔ O' b i) (hr : ∀ b i, R b i ↔ R' b i) : Sep w H O' R' := by
  have e1 : O = O' := funext fun b => funext fun i => propext (ho b i)
  have e2 : R = R' := funext fun b => funext fun i => propext (hr b i)
  rw [← e1, ← e2]; exact h

theorem Sep.loc {w w' : World} : ∀ {H : List Res} {O R : Fp}, Sep w H O R → Agree w w' O R → Sep w' H O R := by
  intro H
  induction H with
  | nil => intro O R h _; exact h
  | cons r H ih =>
    intro O R h ha
    obtain ⟨O1, R1, O2, R2, h1, h2, d1, d2, eo, er⟩ := h
    refine ⟨O1, R1, O2, R2, r.loc h1 ⟨fun b i hb => ha.own b i ((eo b i).2 (.inl hb)), fun b i hb => ha.ro b i ((er b i).2 (.inl hb))⟩,
      ih h2 ⟨fun b i hb => ha.own b i ((eo b i).2 (.inr hb)), fun b i hb => ha.ro b i ((er b i).2 (.inr hb))⟩, d1, d2, eo, er⟩

theorem Sep.bd {w : World} : ∀ {H : List Res} {O R : Fp}, Sep w H O R → ∀ b i, O b i ∨ R b i → b < w.heap.size := by
  intro H
  induction H with
  | nil => intro O R h b i hb; rcases hb with hb | hb; exact (h.1 b i hb).elim; exact (h.2 b i hb).elim
  | cons r H ih =>
    intro O R h b i hb
    obtain ⟨O1, R1, O2, R2, h1, h2, d1, d2, eo, er⟩ := h
    rcases hb with hb | hb
    · rcases (eo b i).1 hb with hb | hb
      · exact r.bd h1 b i (.inl hb)
      · exact ih h2 b i (.inl hb)
    · rcases (er b i).1 hb with hb | hb
      · exact r.bd h1 b i (.inr hb)
      · exact ih h2 b i (.inr hb)

theorem Sep.rd {w : World} : ∀ {H : List Res} {O R : Fp}, Sep w H O R → ∀ b i, R b i → (w.cell? ⟨b, i, none⟩).isSome = true := by
  intro H
  induction H with
  | nil => intro O R h b i hb; exact (h.2 b i hb).elim
  | cons r H ih =>
    intro O R h b i hb
    obtain ⟨O1, R1, O2, R2, h1, h2, d1, d2, eo, er⟩ := h
    rcases (er b i).1 hb with hb | hb
    · exact r.rd h1 b i hb
    · exact ih h2 b i hb

/-- Sep over an append. -/
theorem Sep.append {w : World} {H2 : List Res} : ∀ {H1 : List Res} {O R : Fp}, Sep w (H1 ++ H2) O R ↔
    ∃ O1 R1 O2 R2, Sep w H1 O1 R1 ∧ Sep w H2 O2 R2 ∧ (∀ b i, O1 b i → ¬ O2 b i ∧ ¬ R2 b i) ∧ (∀ b i, O2 b i → ¬ R1 b i) ∧
      (∀ b i, O b i ↔ O1 b i ∨ O2 b i) ∧ (∀ b i, R b i ↔ R1 b i ∨ R2 b i) := by
  intro H1
  induction H1 with
  | nil =>
    intro O R
    constructor
    · intro h
      exact ⟨fun _ _ => False, fun _ _ => False, O, R, ⟨fun _ _ h => h, fun _ _ h => h⟩, h, fun _ _ h => h.elim, fun _ _ _ h => h, fun _ _ => by simp, fun _ _ => by simp⟩
    · rintro ⟨O1, R1, O2, R2, h1, h2, d1, d2, eo, er⟩
      exact h2.ext (fun b i => by rw [eo]; have := h1.1 b i; simp [this]) (fun b i => by rw [er]; have := h1.2 b i; simp [this])
  | cons r H ih =>
    intro O R
    constructor
    · rintro ⟨O1, R1, O2, R2, h1, h2, d1, d2, eo, er⟩
      obtain ⟨O3, R3, O4, R4, h3, h4, d3, d4, eo', er'⟩ := ih.1 h2
      refine ⟨fun b i => O1 b i ∨ O3 b i, fun b i => R1 b i ∨ R3 b i, O4, R4, ⟨O1, R1, O3, R3, h1, h3, ?_, ?_, fun _ _ => Iff.rfl, fun _ _ => Iff.rfl⟩, h4, ?_, ?_, ?_, ?_⟩
      · intro b i hb; have := d1 b i hb; rw [eo', er'] at this; exact ⟨fun h => this.1 (.inl h), fun h => this.2 (.inl h)⟩
      · intro b i hb; exact d2 b i ((eo' b i).2 (.inl hb))
      · intro b i hb
        rcases hb with hb | hb
        · have := d1 b i hb; rw [eo', er'] at this; exact ⟨fun h => this.1 (.inr h), fun h => this.2 (.inr h)⟩
        · exact d3 b i hb
      · intro b i hb hb'
        rcases hb' with hb' | hb'
        · exact d2 b i ((eo' b i).2 (.inr hb)) hb'
        · exact d4 b i hb hb'
      · intro b i; rw [eo, eo']; exact or_assoc.symm
      · intro b i; rw [er, er']; exact or_assoc.symm
    · rintro ⟨O1, R1, O2, R2, ⟨O3, R3, O4, R4, h3, h4, d3, d4, eo', er'⟩, h2, d1, d2, eo, er⟩
      refine ⟨O3, R3, fun b i => O4 b i ∨ O2 b i, fun b i => R4 b i ∨ R2 b i, h3, ih.2 ⟨O4, R4, O2, R2, h4, h2, ?_, ?_, fun _ _ => Iff.rfl, fun _ _ => Iff.rfl⟩, ?_, ?_, ?_, ?_⟩
      · intro b i hb; exact d1 b i ((eo' b i).2 (.inr hb))
      · intro b i hb hb'; exact d2 b i hb ((er' b i).2 (.inr hb'))
      · intro b i hb
        have a1 := d3 b i hb
        have a2 := d1 b i ((eo' b i).2 (.inl hb))
        exact ⟨fun h => h.elim a1.1 a2.1, fun h => h.elim a1.2 a2.2⟩
      · intro b i hb hb'
        rcases hb with hb | hb
        · exact d4 b i hb hb'
        · exact d2 b i hb ((er' b i).2 (.inl hb'))
      · intro b i; rw [eo, eo']; exact or_assoc
      · intro b i; rw [er, er']; exact or_assoc

theorem Sep.swapApp {w : World} {H1 H2 : List Res} {O R : Fp} (h : Sep w (H1 ++ H2) O R) : Sep w (H2 ++ H1) O R := by
  obtain ⟨O1, R1, O2, R2, h1, h2, d1, d2, eo, er⟩ := Sep.append.1 h
  exact Sep.append.2 ⟨O2, R2, O1, R1, h2, h1, fun b i hb => ⟨fun h => (d1 b i h).1 hb, d2 b i hb⟩, fun b i hb => (d1 b i hb).2,
    fun b i => by rw [eo]; exact or_comm, fun b i => by rw [er]; exact or_comm⟩

theorem Sep.consSwap {w : World} {r s : Res} {H : List Res} {O R : Fp} (h : Sep w (r :: s :: H) O R) : Sep w (s :: r :: H) O R := by
  obtain ⟨O1, R1, O2, R2, h1, h2, d1, d2, eo, er⟩ := (Sep.append (H1 := [r, s]) (H2 := H)).1 h
  exact (Sep.append (H1 := [s, r])).2 ⟨O1, R1, O2, R2, Sep.swapApp (H1 := [r]) (H2 := [s]) h1, h2, d1, d2, eo, er⟩

theorem Sep.perm {w : World} {H H' : List Res} (hp : H.Perm H') : ∀ {O R : Fp}, Sep w H O R → Sep w H' O R := by
  induction hp with
  | nil => exact fun h => h
  | cons r _ ih =>
    rintro O R ⟨O1, R1, O2, R2, h1, h2, rest⟩
    exact ⟨O1, R1, O2, R2, h1, ih h2, rest⟩
  | swap r s _ => exact fun h => Sep.consSwap h
  | trans _ _ ih1 ih2 => exact fun h => ih2 (ih1 h)

theorem Holds.perm {H H' : List Res} {w : World} (hp : H.Perm H') (h : Holds H w) : Holds H' w :=
  let ⟨O, R, h⟩ := h; ⟨O, R, h.perm hp⟩

/-- A resource may be dropped. -/
theorem Holds.tail {r : Res} {H : List Res} {w : World} (h : Holds (r :: H) w) : Holds H w := by
  obtain ⟨O, R, O1, R1, O2, R2, h1, h2, _⟩ := h; exact ⟨O2, R2, h2⟩

theorem Holds.dropApp {H H' : List Res} {w : World} (h : Holds (H ++ H') w) : Holds H' w := by
  obtain ⟨O, R, h⟩ := h
  obtain ⟨O1, R1, O2, R2, h1, h2, _⟩ := Sep.append.1 h; exact ⟨O2, R2, h2⟩

theorem Holds.heap_eq {H : List Res} {w w' : World} (h : Holds H w) (e : w'.heap = w.heap) (ei : w'.os = w.os ∧ w'.output = w.output := by exact ⟨rfl, rfl⟩) : Holds H w' := by
  obtain ⟨O, R, h⟩ := h
  exact ⟨O, R, h.loc ⟨fun b i _ => by simp [lookO, World.cell?, World.frozen?, e, ei.1, ei.2], fun b i _ => by simp [World.cell?, e]⟩⟩

/-- Entailment between lists of resources, framed. -/
def Ent (H H' : List Res) : Prop := ∀ w O R, Sep w H O R → ∃ O' R', Sep w H' O' R' ∧ (∀ b i, O' b i → O b i) ∧ (∀ b i, R' b i → O b i ∨ R b i)

theorem Holds.ent {H H' F : List Res} {w : World} (he : Ent H H') (h : Holds (H ++ F) w) : Holds (H' ++ F) w := by
  obtain ⟨O, R, h⟩ := h
  obtain ⟨O1, R1, O2, R2, h1, h2, d1, d2, eo, er⟩ := Sep.append.1 h
  obtain ⟨O', R', h', s1, s2⟩ := he w O1 R1 h1
  refine ⟨fun b i => O' b i ∨ O2 b i, fun b i => R' b i ∨ R2 b i, Sep.append.2 ⟨O', R', O2, R2, h', h2, ?_, ?_, fun _ _ => Iff.rfl, fun _ _ => Iff.rfl⟩⟩
  · exact fun b i hb => d1 b i (s1 b i hb)
  · intro b i hb hb'
    rcases s2 b i hb' with hx | hx
    · exact (d1 b i hx).1 hb
    · exact d2 b i hb hx

theorem Ent.refl (H : List Res) : Ent H H := fun _ O R h => ⟨O, R, h, fun _ _ h => h, fun _ _ h => .inr h⟩
theorem Ent.trans {H1 H2 H3 : List Res} (h : Ent H1 H2) (h' : Ent H2 H3) : Ent H1 H3 := by
  intro w O R hs
  obtain ⟨O', R', h2, s1, s2⟩ := h w O R hs
  obtain ⟨O3, R3, h3, t1, t2⟩ := h' w O' R' h2
  refine ⟨O3, R3, h3, fun b i hb => s1 b i (t1 b i hb), fun b i hb => ?_⟩
  rcases t2 b i hb with hx | hx
  · exact .inl (s1 b i hx)
  · exact s2 b i hx
theorem Ent.of_perm {H H' : List Res} (hp : H.Perm H') : Ent H H' := fun _ O R h => ⟨O, R, h.perm hp, fun _ _ h => h, fun _ _ h => .inr h⟩
theorem Ent.drop (H H' : List Res) : Ent (H ++ H') H' := by
  intro w O R h
  obtain ⟨O1, R1, O2, R2, h1, h2, d1, d2, eo, er⟩ := Sep.append.1 h
  exact ⟨O2, R2, h2, fun b i hb => (eo b i).2 (.inr hb), fun b i hb => .inr ((er b i).2 (.inr hb))⟩
theorem Ent.frame {H H' : List Res} (F : List Res) (h : Ent H H') : Ent (H ++ F) (H' ++ F) := by
  intro w O R hs
  obtain ⟨O1, R1, O2, R2, h1, h2, d1, d2, eo, er⟩ := Sep.append.1 hs
  obtain ⟨O', R', h', s1, s2⟩ := h w O1 R1 h1
  refine ⟨fun b i => O' b i ∨ O2 b i, fun b i => R' b i ∨ R2 b i, Sep.append.2 ⟨O', R', O2, R2, h', h2, fun b i hb => d1 b i (s1 b i hb), ?_, fun _ _ => Iff.rfl, fun _ _ => Iff.rfl⟩, ?_, ?_⟩
  · intro b i hb hb'
    rcases s2 b i hb' with hx | hx
    · exact (d1 b i hx).1 hb
    · exact d2 b i hb hx
  · intro b i hb; exact (eo b i).2 (hb.imp (s1 b i) id)
  · intro b i hb
    rcases hb with hb | hb
    · rcases s2 b i hb with hx | hx
      · exact .inl ((eo b i).2 (.inl hx))
      · exact .inr ((er b i).2 (.inl hx))
    · exact .inr ((er b i).2 (.inr hb))

/-- Persistent: it owns nothing. -/
def Res.Pers (r : Res) : Prop := ∀ w O R, r.holds w O R → ∀ b i, ¬ O b i

theorem Ent.dup {r : Res} (hp : r.Pers) : Ent [r] [r, r] := by
  intro w O R h
  obtain ⟨O1, R1, O2, R2, h1, h2, d1, d2, eo, er⟩ := h
  refine ⟨O1, R1, ⟨O1, R1, O1, R1, h1, ⟨O1, R1, O2, R2, h1, h2, fun b i hb => (hp w O1 R1 h1 b i hb).elim, fun b i hb => (h2.1 b i hb).elim, fun b i => by simp [h2.1 b i], fun b i => by simp [h2.2 b i]⟩, fun b i hb => (hp w O1 R1 h1 b i hb).elim, fun b i hb => (hp w O1 R1 h1 b i hb).elim, fun b i => by simp, fun b i => by simp⟩, fun b i hb => (eo b i).2 (.inl hb), fun b i hb => .inr ((er b i).2 (.inl hb))⟩

/-! ## Picking by indices -/
/-- The list without the i-th. -/
def rem : List Res → Nat → List Res
  | [], _ => []
  | _ :: H, 0 => H
  | r :: H, i + 1 => r :: rem H i

theorem perm_rem : ∀ {H : List Res} {i : Nat} {r : Res}, H[i]? = some r → H.Perm (r :: rem H i)
  | r :: H, 0, s, h => by simp only [List.getElem?_cons_zero, Option.some.injEq] at h; subst h; exact List.Perm.refl _
  | r :: H, i + 1, s, h => by
    simp only [List.getElem?_cons_succ] at h
    exact ((perm_rem h).cons r).trans (List.Perm.swap _ _ _)

theorem Holds.pick {H : List Res} {i : Nat} {r : Res} {w : World} (h : Holds H w) (hi : H[i]? = some r) : Holds (r :: rem H i) w := h.perm (perm_rem hi)

/-- Resource i replaced. -/
def setR : List Res → Nat → Res → List Res
  | [], _, _ => []
  | _ :: H, 0, s => s :: H
  | r :: H, i + 1, s => r :: setR H i s

theorem perm_setR : ∀ {H : List Res} {i : Nat} {r s : Res}, H[i]? = some r → (s :: rem H i).Perm (setR H i s)
  | r :: H, 0, s, t, h => List.Perm.refl _
  | r :: H, i + 1, s, t, h => by
    simp only [List.getElem?_cons_succ] at h
    exact (List.Perm.swap _ _ _).trans ((perm_setR h).cons r)

end Go.Sl
/-! Walks over known temporaries and resources. -/
namespace Go.Sl
open Go

abbrev Env := List (Nat × Value)

def lk : Env → Nat → Option Value
  | [], _ => none
  | (s, v) :: r, t => bif Nat.beq s t then some v else lk r t

structure EnvOk (n : Nat) (ρ : Env) (a : Act) : Prop where
  df : a.defers = []
  sz : a.tmps.size = n
  val : ∀ t v, lk ρ t = some v → a.tmps.getD t undef = v

def ev (ρ : Env) : Operand → Option Value
  | .tmp t => lk ρ t
  | .const v => some v
  | .global g => some (.pointer (some ⟨g, 0, none⟩))
  | .func f => some (.func (.func f) #[] #[])

/-- Operands and their values. -/
def evs (ρ : Env) : List Operand → Option (List Value)
  | [] => some []
  | x :: xs => match ev ρ x with
    | some v => match evs ρ xs with
      | some vs => some (v :: vs)
      | none => none
    | none => none

variable {P : Program} {n : Nat} {ρ ρ' : Env} {a : Act} {w w' : World} {H H' : List Res} {Q : Exit → Act → World → Prop} {x : Operand} {v : Value}

theorem EnvOk.ev (h : EnvOk n ρ a) (hv : Sl.ev ρ x = some v) : a.eval x = v := by
  cases x with
  | tmp t => exact h.val t v hv
  | const c => exact Option.some.inj hv
  | global g => exact Option.some.inj hv
  | func f => exact Option.some.inj hv

theorem EnvOk.evs (h : EnvOk n ρ a) : ∀ {xs : List Operand} {vs : List Value}, Sl.evs ρ xs = some vs → xs.map a.eval = vs
  | [], vs, e => by simp only [Sl.evs, Option.some.injEq] at e; subst e; rfl
  | x :: xs, vs, e => by
    simp only [Sl.evs] at e
    cases h1 : Sl.ev ρ x with
    | none => simp [h1] at e
    | some v =>
      cases h2 : Sl.evs ρ xs with
      | none => simp [h1, h2] at e
      | some us =>
        simp only [h1, h2, Option.some.injEq] at e
        subst e
        simp [h.ev h1, h.evs h2]

theorem EnvOk.put (h : EnvOk n ρ a) {d : Nat} (hd : Nat.blt d n = true) (u : Value) : EnvOk n ((d, u) :: ρ) (a.put (some d) u) := by
  have hd' : d < n := by have := Nat.le_of_ble_eq_true (m := n) hd; omega
  refine ⟨h.df, by simp [Act.put, h.sz], fun t v hv => ?_⟩
  simp only [Act.put, Array.getD_eq_getD_getElem?, Array.getElem?_setIfInBounds, h.sz]
  by_cases e : d = t
  · subst e
    simp only [lk, Nat.beq_refl, cond_true, Option.some.injEq] at hv
    simp [hd', hv]
  · have e' : Nat.beq d t = false := by
      cases hb : Nat.beq d t with
      | false => rfl
      | true => exact (e (Nat.eq_of_beq_eq_true hb)).elim
    simp only [lk, e', cond_false] at hv
    have := h.val t v hv
    simp only [Array.getD_eq_getD_getElem?] at this
    simp [e, this]

theorem Act.put_none (u : Value) : a.put none u = a := rfl

/-- What the second environment knows, the first one knows. -/
def Sub (ρ : Env) : Env → Prop
  | [] => True
  | (t, v) :: r => lk ρ t = some v ∧ Sub ρ r

theorem Sub.lk : ∀ {ρ' : Env}, Sub ρ ρ' → ∀ t v, Sl.lk ρ' t = some v → Sl.lk ρ t = some v
  | [], _, t, v, h => by simp [Sl.lk] at h
  | (s, u) :: r, h, t, v, hv => by
    simp only [Sl.lk] at hv
    cases hb : Nat.beq s t with
    | true => rw [hb] at hv; simp only [cond_true] at hv; rw [← Nat.eq_of_beq_eq_true hb, ← hv]; exact h.1
    | false => rw [hb] at hv; simp only [cond_false] at hv; exact Sub.lk h.2 t v hv

theorem EnvOk.sub (h : EnvOk n ρ a) (hs : Sub ρ ρ') : EnvOk n ρ' a := ⟨h.df, h.sz, fun t v hv => h.val t v (hs.lk t v hv)⟩

/-- Code c, from what is known. -/
def W (P : Program) (n : Nat) (c : Code) (Q : Exit → Act → World → Prop) (ρ : Env) (H : List Res) : Prop :=
  ∀ a w, EnvOk n ρ a → Holds H w → c.wp P Q a w

def WL (P : Program) (n : Nat) (ops : Array Oper) (Q : Exit → Act → World → Prop) (l : List Oper) (ρ : Env) (H : List Res) : Prop :=
  ∀ a w, EnvOk n ρ a → Holds H w → wpList P ops Q l a w

/-- An exit, from what is known. -/
def K (n : Nat) (Q : Exit → Act → World → Prop) (e : Exit) (ρ : Env) (H : List Res) : Prop :=
  ∀ a w, EnvOk n ρ a → Holds H w → Q e a w

/-- One operation. -/
def OpX (P : Program) (o : Oper) (ρ : Env) (H : List Res) {X : Type} (v : X → Value) (H' : X → List Res) : Prop :=
  ∀ n a w, EnvOk n ρ a → Holds H w → ∀ (next : Act → World → Prop) (Q : Exit → Act → World → Prop),
    (∀ x w', Holds (H' x) w' → next (a.put o.dst (v x)) w') → o.upon P a next Q ((execOp a.eval o).run P w)

/-- An operation that comes to v in every world. -/
def PV (P : Program) (o : Oper) (ρ : Env) (v : Value) : Prop := ∀ n a w, EnvOk n ρ a → (execOp a.eval o).run P w = .ok (.value v) w
/-- One that only reads. -/
def FV (P : Program) (o : Oper) (ρ : Env) (H : List Res) (v : Value) : Prop := ∀ n a w, EnvOk n ρ a → Holds H w → (execOp a.eval o).run P w = .ok (.value v) w
theorem PV.fv {o : Oper} (h : PV P o ρ v) : FV P o ρ H v := fun n a w ha _ => h n a w ha

/-- One operation with one outcome. -/
abbrev OpD (P : Program) (o : Oper) (ρ : Env) (H : List Res) (v : Value) (H' : List Res) : Prop :=
  OpX P o ρ H (X := Unit) (fun _ => v) (fun _ => H')

section
variable {ops : Array Oper} {o : Oper} {l : List Oper} {d : Nat} {X : Type} {vx : X → Value} {Hx : X → List Res}

theorem WL.putX (hg : o.guard = none) (hd : o.dst = some d) (hn : Nat.blt d n = true) (h : OpX P o ρ H vx Hx)
    (k : ∀ x, WL P n ops Q l ((d, vx x) :: ρ) (Hx x)) : WL P n ops Q (o :: l) ρ H := by
  intro a w ha hw
  refine wpList_plain hg fun K' hK => ?_
  refine h n a w ha hw K' Q fun x w' hw' => hK _ _ ?_
  rw [hd]
  exact k x _ _ (ha.put hn _) hw'

theorem WL.put (hg : o.guard = none) (hd : o.dst = some d) (hn : Nat.blt d n = true) (h : OpD P o ρ H v H')
    (k : WL P n ops Q l ((d, v) :: ρ) H') : WL P n ops Q (o :: l) ρ H := WL.putX hg hd hn h fun _ => k

theorem WL.doneX (hg : o.guard = none) (hd : o.dst = none) (h : OpX P o ρ H vx Hx)
    (k : ∀ x, WL P n ops Q l ρ (Hx x)) : WL P n ops Q (o :: l) ρ H := by
  intro a w ha hw
  refine wpList_plain hg fun K' hK => ?_
  refine h n a w ha hw K' Q fun x w' hw' => hK _ _ ?_
  rw [hd]
  exact k x _ _ ha hw'

theorem WL.done (hg : o.guard = none) (hd : o.dst = none) (h : OpD P o ρ H v H')
    (k : WL P n ops Q l ρ H') : WL P n ops Q (o :: l) ρ H := WL.doneX hg hd h fun _ => k

theorem OpD.fv {o : Oper} (h : FV P o ρ H v) : OpD P o ρ H v H := by
  intro n a w ha hw next Q k
  rw [h n a w ha hw]
  exact k () w hw
theorem WL.p (hg : o.guard = none) (hd : o.dst = some d) (hn : Nat.blt d n = true) (h : PV P o ρ v) (k : WL P n ops Q l ((d, v) :: ρ) H) : WL P n ops Q (o :: l) ρ H := WL.put hg hd hn (OpD.fv h.fv) k
theorem WL.f (hg : o.guard = none) (hd : o.dst = some d) (hn : Nat.blt d n = true) (h : FV P o ρ H v) (k : WL P n ops Q l ((d, v) :: ρ) H) : WL P n ops Q (o :: l) ρ H := WL.put hg hd hn (OpD.fv h) k

theorem yielded_of {ops : Array Oper} {a : Act} {j dj : Nat} {oj : Oper} {b : Bool} (ha : EnvOk n ρ a) (hj : ops[j]? = some oj) (hd : oj.dst = some dj) (hl : lk ρ dj = some (.bool b)) : yielded ops a.tmps j = some b := by
  unfold yielded
  have h1 := ha.val _ _ hl
  have h2 : a.tmps[dj]? = some (.bool b) := by
    rw [Array.getD_eq_getD_getElem?] at h1
    cases h3 : a.tmps[dj]? with
    | none => rw [h3] at h1; simp [undef] at h1
    | some u => rw [h3] at h1; simp at h1; rw [h1]
  simp [hj, hd, h2]

/-- A guard that says yes. -/
theorem WL.yes {dst : Option Tmp} {op : Op} {ty : TypeId} {pos : String} {af : Array Edge} {j dj : Nat} {oj : Oper} {b want : Bool} (hj : ops[j]? = some oj) (hdj : oj.dst = some dj) (hl : lk ρ dj = some (.bool b)) (hb : b = want) (hd : dst = some d) (hn : Nat.blt d n = true)
    (h : OpD P ⟨dst, op, ty, pos, af, none⟩ ρ H v H') (k : WL P n ops Q l ((d, v) :: ρ) H') : WL P n ops Q (⟨dst, op, ty, pos, af, some (j, want)⟩ :: l) ρ H := by
  intro a w ha hw
  unfold wpList
  have hy : Region.wanted ⟨dst, op, ty, pos, af, some (j, want)⟩ (yielded ops a.tmps) = true := by
    simp [Region.wanted, yielded_of ha hj hdj hl, hb]
  rw [if_pos hy]
  refine .inl ?_
  have h1 := h n a w ha hw (wpList P ops Q l) Q fun _ w' hw' => by
    subst hd
    exact k _ _ (ha.put hn _) hw'
  exact h1
theorem WL.yesX {dst : Option Tmp} {op : Op} {ty : TypeId} {pos : String} {af : Array Edge} {j dj : Nat} {oj : Oper} {b want : Bool} (hj : ops[j]? = some oj) (hdj : oj.dst = some dj) (hl : lk ρ dj = some (.bool b)) (hb : b = want) (hd : dst = some d) (hn : Nat.blt d n = true)
    (h : OpX P ⟨dst, op, ty, pos, af, none⟩ ρ H vx Hx) (k : ∀ x, WL P n ops Q l ((d, vx x) :: ρ) (Hx x)) : WL P n ops Q (⟨dst, op, ty, pos, af, some (j, want)⟩ :: l) ρ H := by
  intro a w ha hw
  unfold wpList
  have hy : Region.wanted ⟨dst, op, ty, pos, af, some (j, want)⟩ (yielded ops a.tmps) = true := by
    simp [Region.wanted, yielded_of ha hj hdj hl, hb]
  rw [if_pos hy]
  refine .inl ?_
  have h1 := h n a w ha hw (wpList P ops Q l) Q fun x w' hw' => by
    subst hd
    exact k x _ _ (ha.put hn _) hw'
  exact h1
/-- A guard that says no. -/
theorem WL.no {op : Op} {ty : TypeId} {pos : String} {af : Array Edge} {j dj : Nat} {oj : Oper} {b want : Bool} (hj : ops[j]? = some oj) (hdj : oj.dst = some dj) (hl : lk ρ dj = some (.bool b)) (hb : b = !want) (hn : Nat.blt d n = true)
    (k : WL P n ops Q l ((d, undef) :: ρ) H) : WL P n ops Q (⟨some d, op, ty, pos, af, some (j, want)⟩ :: l) ρ H := by
  intro a w ha hw
  unfold wpList
  have hy : ¬ Region.wanted ⟨some d, op, ty, pos, af, some (j, want)⟩ (yielded ops a.tmps) = true := by
    simp [Region.wanted, yielded_of ha hj hdj hl, hb]
  rw [if_neg hy]
  exact k _ _ (ha.put hn _) hw
/-- By cases on a bool. -/
theorem WL.split {t : Nat} {b : Bool} (hl : lk ρ t = some (.bool b)) (ht : b = true → WL P n ops Q l ρ H) (hf : b = false → WL P n ops Q l ρ H) : WL P n ops Q l ρ H := by
  have _ := hl
  cases b
  · exact hf rfl
  · exact ht rfl
theorem WL.splitD {t : Nat} {p : Prop} [Decidable p] (hl : lk ρ t = some (.bool (decide p))) (ht : p → WL P n ops Q l ρ H) (hf : ¬ p → WL P n ops Q l ρ H) : WL P n ops Q l ρ H := by
  have _ := hl
  by_cases h : p
  · exact ht h
  · exact hf h
theorem WL.nm (e : H = H') (k : WL P n ops Q l ρ H') : WL P n ops Q l ρ H := e ▸ k
theorem W.nm {c : Code} (e : H = H') (k : W P n c Q ρ H') : W P n c Q ρ H := e ▸ k

theorem WL.nil (k : K n Q .normal ρ H) : WL P n ops Q [] ρ H := fun a w ha hw => k a w ha hw

theorem W.region {id : Nat} {l : List Oper} (h : WL P n l.toArray Q l ρ H) : W P n (.region id l.toArray false) Q ρ H :=
  fun a w ha hw => wp_region_lit (h a w ha hw)

theorem W.seq {x y : Code} (h : W P n x (Exit.then (y.wp P Q) Q) ρ H) : W P n (.seq x y) Q ρ H :=
  fun a w ha hw => wp_seq (h a w ha hw)

/-- A region, and what is behind it. -/
theorem W.rseq {id : Nat} {l : List Oper} {y : Code} (h : WL P n l.toArray (Exit.then (y.wp P Q) Q) l ρ H) : W P n (.seq (.region id l.toArray false) y) Q ρ H :=
  W.seq (W.region h)

/-- A region is over; what is behind it, from what is still of use. -/
theorem WL.next {y : Code} {Q' : Exit → Act → World → Prop} (ρ' : Env) (hs : Sub ρ ρ') (k : W P n y Q ρ' H) : WL P n ops (Exit.then (y.wp P Q) Q') [] ρ H :=
  fun a w ha hw => k a w (ha.sub hs) hw

/-- An assertion between two pieces of code. -/
def Mid (n : Nat) {X : Type} (ρm : X → Env) (Hm : X → List Res) (a : Act) (w : World) : Prop := ∃ x, EnvOk n (ρm x) a ∧ Holds (Hm x) w

theorem W.cut {X : Type} (ρm : X → Env) (Hm : X → List Res) {x y : Code} (h : W P n x (Exit.then (Mid n ρm Hm) Q) ρ H) (k : ∀ z, W P n y Q (ρm z) (Hm z)) :
    W P n (.seq x y) Q ρ H := by
  intro a w ha hw
  refine wp_seq (wp_mono (h a w ha hw) ?_)
  intro e a' w' hq
  cases e with
  | normal => obtain ⟨z, h1, h2⟩ := hq; exact k z _ _ h1 h2
  | exit id => exact hq
  | goto l => exact hq
  | ret => exact hq
  | panic c => exact hq
  | outgrown => exact hq

/-- The resources seen otherwise. -/
theorem W.ent {c : Code} {H1 H2 F : List Res} (he : Ent H1 H2) (k : W P n c Q ρ (H2 ++ F)) : W P n c Q ρ (H1 ++ F) :=
  fun a w ha hw => k a w ha (hw.ent he)
theorem WL.ent {H1 H2 F : List Res} (he : Ent H1 H2) (k : WL P n ops Q l ρ (H2 ++ F)) : WL P n ops Q l ρ (H1 ++ F) :=
  fun a w ha hw => k a w ha (hw.ent he)
theorem W.entH {c : Code} (he : Ent H H') (k : W P n c Q ρ H') : W P n c Q ρ H :=
  fun a w ha hw => k a w ha (by have := Holds.ent (F := []) he (by simpa using hw); simpa using this)
theorem W.permH {c : Code} (he : H.Perm H') (k : W P n c Q ρ H') : W P n c Q ρ H := fun a w ha hw => k a w ha (hw.perm he)
theorem WL.permH (he : H.Perm H') (k : WL P n ops Q l ρ H') : WL P n ops Q l ρ H := fun a w ha hw => k a w ha (hw.perm he)

theorem W.env {c : Code} (ρ' : Env) (hs : Sub ρ ρ') (k : W P n c Q ρ' H) : W P n c Q ρ H := fun a w ha hw => k a w (ha.sub hs) hw
theorem K.env {e : Exit} (ρ' : Env) (hs : Sub ρ ρ') (k : K n Q e ρ' H) : K n Q e ρ H := fun a w ha hw => k a w (ha.sub hs) hw

theorem W.skip (k : K n Q .normal ρ H) : W P n .skip Q ρ H := fun a w ha hw => wp_skip (k a w ha hw)
theorem W.ret (k : K n Q .ret ρ H) : W P n .ret Q ρ H := fun a w ha hw => wp_ret (k a w ha hw)
theorem W.exit {id : Nat} (k : K n Q (.exit id) ρ H) : W P n (.exit id) Q ρ H := fun a w ha hw => wp_exit (k a w ha hw)
theorem W.block {id : Nat} {c : Code} (k : W P n c (Exit.inBlock id Q) ρ H) : W P n (.block id c) Q ρ H := fun a w ha hw => wp_block (k a w ha hw)
theorem W.bseq {id : Nat} {c y : Code} (k : W P n c (Exit.inBlock id (Exit.then (y.wp P Q) Q)) ρ H) : W P n (.seq (.block id c) y) Q ρ H := W.seq (W.block k)

theorem W.cond {c : Operand} {x y : Code} {b : Bool} (hc : ev ρ c = some (.bool b)) (ht : b = true → W P n x Q ρ H) (hf : b = false → W P n y Q ρ H) :
    W P n (.cond c x y) Q ρ H :=
  fun a w ha hw => wp_cond_split (ha.ev hc) (fun h => ht h a w ha hw) (fun h => hf h a w ha hw)
theorem W.condD {c : Operand} {x y : Code} {p : Prop} [Decidable p] (hc : ev ρ c = some (.bool (decide p))) (ht : p → W P n x Q ρ H) (hf : ¬ p → W P n y Q ρ H) :
    W P n (.cond c x y) Q ρ H := W.cond hc (fun h => ht (of_decide_eq_true h)) (fun h => hf (of_decide_eq_false h))
theorem W.cseq {c : Operand} {x y z : Code} {b : Bool} (hc : ev ρ c = some (.bool b)) (ht : b = true → W P n x (Exit.then (z.wp P Q) Q) ρ H)
    (hf : b = false → W P n y (Exit.then (z.wp P Q) Q) ρ H) : W P n (.seq (.cond c x y) z) Q ρ H := W.seq (W.cond hc ht hf)

/-! ### Exits -/
theorem K.next {y : Code} {Q' : Exit → Act → World → Prop} (ρ' : Env) (hs : Sub ρ ρ') (k : W P n y Q ρ' H) : K n (Exit.then (y.wp P Q) Q') .normal ρ H :=
  fun a w ha hw => k a w (ha.sub hs) hw
theorem K.mid {X : Type} {ρm : X → Env} {Hm : X → List Res} {Q' : Exit → Act → World → Prop} (x : X) (hs : Sub ρ (ρm x)) (hh : Ent H (Hm x)) :
    K n (Exit.then (Mid n ρm Hm) Q') .normal ρ H :=
  fun a w ha hw => ⟨x, ha.sub hs, by have := Holds.ent (F := []) hh (by simpa using hw); simpa using this⟩
theorem K.out {id : Nat} (k : K n Q .normal ρ H) : K n (Exit.inBlock id Q) .normal ρ H := fun a w ha hw => k a w ha hw
theorem K.exit {id : Nat} (k : K n Q .normal ρ H) : K n (Exit.inBlock id Q) (.exit id) ρ H := fun a w ha hw => by
  show (if id = id then Q .normal a w else Q (.exit id) a w)
  rw [if_pos rfl]; exact k a w ha hw
theorem K.exitB {id id' : Nat} (hne : Nat.beq id' id = false) (k : K n Q (.exit id') ρ H) : K n (Exit.inBlock id Q) (.exit id') ρ H := fun a w ha hw => by
  show (if id' = id then Q .normal a w else Q (.exit id') a w)
  rw [if_neg (fun e => by rw [e, Nat.beq_refl] at hne; exact Bool.noConfusion hne)]; exact k a w ha hw
theorem K.exitT {id : Nat} {f : Act → World → Prop} (k : K n Q (.exit id) ρ H) : K n (Exit.then f Q) (.exit id) ρ H := fun a w ha hw => k a w ha hw
theorem K.retB {id : Nat} (k : K n Q .ret ρ H) : K n (Exit.inBlock id Q) .ret ρ H := fun a w ha hw => k a w ha hw
theorem K.retT {f : Act → World → Prop} (k : K n Q .ret ρ H) : K n (Exit.then f Q) .ret ρ H := fun a w ha hw => k a w ha hw

/-! ### Loops -/
open Classical in
theorem W.loop {X : Type} (ρI : X → Env) (HI : X → List Res) (m : X → Nat) (x0 : X) {body : Code} (hs : Sub ρ (ρI x0)) (hh : Ent H (HI x0))
    (round : ∀ x, W P n body (Exit.then (fun a w => ∃ x', EnvOk n (ρI x') a ∧ Holds (HI x') w ∧ m x' < m x) Q) (ρI x) (HI x)) :
    W P n (.loop body) Q ρ H := by
  intro a w ha hw
  let I : Act → World → Prop := fun a w => ∃ x, EnvOk n (ρI x) a ∧ Holds (HI x) w
  let fits : Act → World → Nat → Prop := fun a w k => ∃ x, EnvOk n (ρI x) a ∧ Holds (HI x) w ∧ m x = k
  have ex : ∀ a w, I a w → ∃ k, fits a w k ∧ ∀ j, fits a w j → k ≤ j := by
    intro a w h
    obtain ⟨x, h1, h2⟩ := h
    have key : ∀ k, fits a w k → ∃ k, fits a w k ∧ ∀ j, fits a w j → k ≤ j := by
      intro k
      induction k using Nat.strongRecOn with
      | _ k ih =>
        intro hk
        by_cases hl : ∃ j, j < k ∧ fits a w j
        · obtain ⟨j, hj, hf⟩ := hl; exact ih j hj hf
        · exact ⟨k, hk, fun j hj => Nat.le_of_not_lt fun hlt => hl ⟨j, hlt, hj⟩⟩
    exact key (m x) ⟨x, h1, h2, rfl⟩
  let μ : Act → World → Nat := fun a w => if h : I a w then (ex a w h).choose else 0
  refine wp_loop I μ ⟨x0, ha.sub hs, by have := Holds.ent (F := []) hh (by simpa using hw); simpa using this⟩ ?_
  intro a w hI
  have hμ : fits a w (μ a w) := by show fits a w (if h : I a w then (ex a w h).choose else 0); rw [dif_pos hI]; exact (ex a w hI).choose_spec.1
  obtain ⟨x, h1, h2, h3⟩ := hμ
  refine wp_mono (round x a w h1 h2) ?_
  intro e a' w' hq
  cases e with
  | normal =>
    obtain ⟨x', g1, g2, g3⟩ := hq
    refine ⟨⟨x', g1, g2⟩, ?_⟩
    have hI' : I a' w' := ⟨x', g1, g2⟩
    have hle : μ a' w' ≤ m x' := by
      show (if h : I a' w' then (ex a' w' h).choose else 0) ≤ m x'
      rw [dif_pos hI']; exact (ex a' w' hI').choose_spec.2 _ ⟨x', g1, g2, rfl⟩
    omega
  | exit id => exact hq
  | goto l => exact hq
  | ret => exact hq
  | panic c => exact hq
  | outgrown => exact hq

theorem K.again {X : Type} {ρI : X → Env} {HI : X → List Res} {m : X → Nat} {k : Nat} {Q' : Exit → Act → World → Prop} (x : X) (hs : Sub ρ (ρI x)) (hh : Ent H (HI x)) (hm : m x < k) :
    K n (Exit.then (fun a w => ∃ x', EnvOk n (ρI x') a ∧ Holds (HI x') w ∧ m x' < k) Q') .normal ρ H :=
  fun a w ha hw => ⟨x, ha.sub hs, by have := Holds.ent (F := []) hh (by simpa using hw); simpa using this, hm⟩

/-! ### Contracts -/
/-- A call of f with these arguments, from these resources, comes to v x with the resources Hout x, whatever else there is. -/
def Spec (P : Program) (f : FuncId) (args : List Value) (Hin : List Res) {X : Type} (v : X → Value) (Hout : X → List Res) : Prop :=
  ∀ (F : List Res) (w : World), Holds (Hin ++ F) w → Calls P f args.toArray w fun e w' => ∃ x, e = .returned (v x) ∧ Holds (Hout x ++ F) w'

def argEnv : Nat → List Value → Env
  | _, [] => []
  | i, v :: vs => (i, v) :: argEnv (i + 1) vs

theorem lk_argEnv : ∀ (vs : List Value) (i t : Nat) (v : Value), lk (argEnv i vs) t = some v → i ≤ t ∧ vs[t - i]? = some v
  | [], i, t, v, h => by simp [argEnv, lk] at h
  | u :: vs, i, t, v, h => by
    simp only [argEnv, lk] at h
    cases hb : Nat.beq i t with
    | true =>
      rw [hb] at h; simp only [cond_true, Option.some.injEq] at h
      have := Nat.eq_of_beq_eq_true hb; subst this; simp [h]
    | false =>
      rw [hb] at h; simp only [cond_false] at h
      obtain ⟨h1, h2⟩ := lk_argEnv vs (i + 1) t v h
      refine ⟨by omega, ?_⟩
      rw [show t - i = (t - (i + 1)) + 1 from by omega, List.getElem?_cons_succ]; exact h2

/-- How a contract is proved: the body, from the arguments. -/
theorem Spec.intro {f : FuncId} {fn : Func} {c : Code} {args : List Value} {Hin : List Res} {X : Type} {v : X → Value} {Hout : X → List Res} {n : Nat}
    (hf : P.funcs[f]? = some fn) (hb : fn.body = some c) (hn : fn.ntmps = n) (hl : Nat.ble args.length n = true)
    (h : ∀ F : List Res, W P n c (bodyPost P fn fun e w' => ∃ x, e = .returned (v x) ∧ Holds (Hout x ++ F) w') (argEnv 0 args) (Hin ++ F)) :
    Spec P f args Hin v Hout := by
  intro F w hw
  have hl' : args.length ≤ n := Nat.le_of_ble_eq_true hl
  refine calls_of_wp hf hb (h F _ w ⟨rfl, ?_, ?_⟩ hw)
  · simp [hn]; omega
  · intro t u hu
    obtain ⟨_, h2⟩ := lk_argEnv args 0 t u hu
    have hlt : t < args.length := by
      have := (List.getElem?_eq_some_iff.1 h2).1; omega
    simp only [Nat.sub_zero] at h2
    rw [Array.getD_eq_getD_getElem?, Array.getElem?_append]
    simp [hlt] at h2 ⊢
    exact h2

theorem Spec.mono {f : FuncId} {args : List Value} {Hin Hin' : List Res} {X Y : Type} {v : X → Value} {Hout : X → List Res} {u : Y → Value} {Hout' : Y → List Res}
    (h : Spec P f args Hin v Hout) (hi : Ent Hin' Hin) (ho : ∀ x, ∃ y, v x = u y ∧ Ent (Hout x) (Hout' y)) : Spec P f args Hin' u Hout' := by
  intro F w hw
  refine (h F w (hw.ent hi)).mono ?_
  rintro e w' ⟨x, rfl, hx⟩
  obtain ⟨y, e1, e2⟩ := ho x
  exact ⟨y, by rw [e1], hx.ent e2⟩

theorem Spec.frame {f : FuncId} {args : List Value} {Hin : List Res} {X : Type} {v : X → Value} {Hout : X → List Res} (G : List Res)
    (h : Spec P f args Hin v Hout) : Spec P f args (Hin ++ G) v (fun x => Hout x ++ G) := by
  intro F w hw
  rw [List.append_assoc] at hw
  refine (h (G ++ F) w hw).mono ?_
  rintro e w' ⟨x, rfl, hx⟩
  exact ⟨x, rfl, by rw [List.append_assoc]; exact hx⟩

/-! ### Returns -/
/-- A load comes to v. -/
def LdD (P : Program) (ρ : Env) (H : List Res) (t : TypeId) (x : Operand) (v : Value) : Prop :=
  ∀ n a w, EnvOk n ρ a → Holds H w → (Instr.loadAt t (a.eval x)).run P w = .ok v w

def ResOk (P : Program) (ρ : Env) (H : List Res) : List ResultVar → List Value → Prop
  | [], [] => True
  | .tmp t :: r, v :: vs => lk ρ t = some v ∧ ResOk P ρ H r vs
  | .cell a t :: r, v :: vs => LdD P ρ H t (.tmp a) v ∧ ResOk P ρ H r vs
  | _, _ => False

def resVal : List Value → Value
  | [v] => v
  | vs => .tuple vs.toArray

theorem run_bind {α β : Type} {x : Sem α} {f : α → Sem β} {w w' : World} {v : α} (h : x.run P w = .ok v w') : (x >>= f).run P w = (f v).run P w' := by
  simp [h]

theorem run_results {fn : Func} {vs : List Value} (ha : EnvOk n ρ a) (hw : Holds H w) (h : ResOk P ρ H fn.results.toList vs) :
    (results fn a.tmps).run P w = .ok (resVal vs) w := by
  let g : ResultVar → Sem Value := fun | .tmp t => pure (a.tmps.getD t undef) | .cell b t => do loadVar t (← asAddr (a.tmps.getD b undef))
  have key : ∀ (rs : List ResultVar) (vs : List Value), ResOk P ρ H rs vs → (rs.mapM g).run P w = .ok vs w := by
    intro rs
    induction rs with
    | nil => intro vs h; cases vs with
      | nil => rfl
      | cons v vs => exact h.elim
    | cons r rs ih =>
      intro vs h
      cases vs with
      | nil => cases r <;> exact h.elim
      | cons v vs =>
        have one : (g r).run P w = .ok v w ∧ ResOk P ρ H rs vs := by
          cases r with
          | tmp t =>
            obtain ⟨h1, h2⟩ := h
            exact ⟨by show (pure (a.tmps.getD t undef) : Sem Value).run P w = _; rw [ha.val t v h1]; rfl, h2⟩
          | cell b t =>
            obtain ⟨h1, h2⟩ := h
            refine ⟨?_, h2⟩
            have hl := h1 n a w ha hw
            have e : a.eval (.tmp b) = a.tmps.getD b undef := rfl
            rw [e] at hl
            show ((asAddr (a.tmps.getD b undef)) >>= fun x => loadVar t x).run P w = _
            have hl' : ((Instr.sureAddr (a.tmps.getD b undef)) >>= fun x => loadVar t x).run P w = .ok v w := hl
            generalize a.tmps.getD b undef = u at hl' ⊢
            cases u with
            | pointer p =>
              cases p with
              | none => simp [Instr.sureAddr, stuck] at hl'
              | some p => exact hl'
            | _ => simp [Instr.sureAddr, stuck] at hl'
        rw [List.mapM_cons, run_bind one.1, run_bind (ih vs one.2)]
        rfl
  have hk := key fn.results.toList vs h
  have hlen : vs.length = fn.results.size := by
    have : ∀ (rs : List ResultVar) (vs : List Value), ResOk P ρ H rs vs → vs.length = rs.length := by
      intro rs
      induction rs with
      | nil => intro vs h; cases vs with
        | nil => rfl
        | cons v vs => exact h.elim
      | cons r rs ih =>
        intro vs h
        cases vs with
        | nil => cases r <;> exact h.elim
        | cons v vs => cases r <;> simp [ih vs h.2]
    simpa using this _ _ h
  have e0 : fn.results.mapM g = (List.toArray <$> fn.results.toList.mapM g) := by rw [Array.mapM_eq_mapM_toList]
  show ((fn.results.mapM g) >>= fun vs => pure (if h : vs.size = 1 then vs[0] else .tuple vs)).run P w = _
  rw [e0]
  have h1 : (List.toArray <$> fn.results.toList.mapM g).run P w = .ok vs.toArray w := by
    rw [map_eq_pure_bind, run_bind hk]; rfl
  rw [run_bind h1]
  match vs, hlen with
  | [], _ => rfl
  | [v], _ => rfl
  | v :: u :: r, _ => rfl

theorem K.fin {fn : Func} {X : Type} {v : X → Value} {Hout : X → List Res} {F : List Res} {vs : List Value} (x : X)
    (hr : ResOk P ρ H fn.results.toList vs) (hv : resVal vs = v x) (hh : Ent H (Hout x ++ F)) :
    K n (bodyPost P fn fun e w' => ∃ x, e = .returned (v x) ∧ Holds (Hout x ++ F) w') .ret ρ H :=
  fun a w ha hw => ⟨ha.df, _, run_results ha hw hr, x, by rw [hv], by have := Holds.ent (F := []) hh (by simpa using hw); simpa using this⟩

/-- The end of a body without a 'return'. -/
theorem K.finN {fn : Func} {X : Type} {v : X → Value} {Hout : X → List Res} {F : List Res} {vs : List Value} (x : X)
    (hr : ResOk P ρ H fn.results.toList vs) (hv : resVal vs = v x) (hh : Ent H (Hout x ++ F)) :
    K n (bodyPost P fn fun e w' => ∃ x, e = .returned (v x) ∧ Holds (Hout x ++ F) w') .normal ρ H :=
  fun a w ha hw => ⟨ha.df, _, run_results ha hw hr, x, by rw [hv], by have := Holds.ent (F := []) hh (by simpa using hw); simpa using this⟩
end

end Go.Sl
/-! Resources: cells, slices, tails, arrays that are written, maps. -/
namespace Go.Sl
open Go

def none0 : Fp := fun _ _ => False

/-- Cells at (b, off ..). -/
def ptH (b off : Nat) (vs : List Value) (w : World) (O R : Fp) : Prop :=
  (∀ i v, vs[i]? = some v → w.cell? ⟨b, off + i, none⟩ = some v ∧ w.frozen? ⟨b, off + i, none⟩ = false) ∧
  (∀ c j, O c j ↔ c = b ∧ off ≤ j ∧ j < off + vs.length) ∧ ∀ c j, ¬ R c j

theorem cell_lt {w : World} {b i : Nat} {v : Value} (h : w.cell? ⟨b, i, none⟩ = some v) : b < w.heap.size := by
  unfold World.cell? at h
  cases hb : w.heap[b]? with
  | none => simp [hb] at h
  | some o => exact (Array.getElem?_eq_some_iff.1 hb).1

def pt (b off : Nat) (vs : List Value) : Res where
  holds := ptH b off vs
  loc := by
    rintro w w' O R ⟨h1, h2, h3⟩ ha
    refine ⟨fun i v hv => ?_, h2, h3⟩
    have hi : i < vs.length := (List.getElem?_eq_some_iff.1 hv).1
    have := ha.own b (off + i) ((h2 _ _).2 ⟨rfl, by omega, by omega⟩)
    simp only [lookO, Prod.mk.injEq] at this
    rw [this.1, this.2.1]; exact h1 i v hv
  bd := by
    rintro w O R ⟨h1, h2, h3⟩ c j hc
    rcases hc with hc | hc
    · obtain ⟨rfl, h4, h5⟩ := (h2 c j).1 hc
      have hj : vs[j - off]? = some (vs[j - off]'(by omega)) := List.getElem?_eq_getElem _
      exact cell_lt (h1 _ _ hj).1
    · exact (h3 c j hc).elim
  rd := by
    rintro w O R ⟨h1, h2, h3⟩ c j hc
    exact (h3 c j hc).elim

/-- The value of one cell. -/
def NA (v : Value) : Prop := v.cells = #[v] ∧ (∀ cs, v ≠ .agg cs) ∧ (∀ cs, v ≠ .tuple cs)
theorem NA.int (k : IntKind) (n : Int) : NA (.int k n) := ⟨rfl, (by intro _ h; cases h), (by intro _ h; cases h)⟩
theorem NA.bool (b : Bool) : NA (.bool b) := ⟨rfl, (by intro _ h; cases h), (by intro _ h; cases h)⟩
theorem NA.str (s : ByteArray) : NA (.string s) := ⟨rfl, (by intro _ h; cases h), (by intro _ h; cases h)⟩
theorem NA.ptr (a : Option Addr) : NA (.pointer a) := ⟨rfl, (by intro _ h; cases h), (by intro _ h; cases h)⟩
theorem NA.sl (a : Option Addr) (n c : Nat) : NA (.slice a n c) := ⟨rfl, (by intro _ h; cases h), (by intro _ h; cases h)⟩
theorem NA.map (r : Option Nat) : NA (.map r) := ⟨rfl, (by intro _ h; cases h), (by intro _ h; cases h)⟩
theorem NA.fn (f : Fn) (a b : Array Value) : NA (.func f a b) := ⟨rfl, (by intro _ h; cases h), (by intro _ h; cases h)⟩
theorem NA.nilF : NA .nilFunc := ⟨rfl, (by intro _ h; cases h), (by intro _ h; cases h)⟩
theorem NA.iface (t : TypeId) (v : Value) : NA (.iface t v) := ⟨rfl, (by intro _ h; cases h), (by intro _ h; cases h)⟩
theorem NA.nilI : NA .nilIface := ⟨rfl, (by intro _ h; cases h), (by intro _ h; cases h)⟩
theorem NA.one {v : Value} (h : NA v) (u : Value) (hu : u ∈ v.cells.toList) : NA u := by rw [h.1] at hu; simp at hu; rw [hu]; exact h
theorem NA.all (P : Value → Prop) : (∀ u, u ∈ ([] : List Value) → P u) := fun _ h => by simp at h
/-- Each of these is of one cell. -/
def NAs : List Value → Prop
  | [] => True
  | v :: vs => NA v ∧ NAs vs
theorem NAs.mem : ∀ {vs : List Value}, NAs vs → ∀ u, u ∈ vs → NA u
  | [], _, u, h => by simp at h
  | v :: vs, ⟨h1, h2⟩, u, h => by
    rcases List.mem_cons.1 h with rfl | h
    · exact h1
    · exact NAs.mem h2 u h

/-- A kind of data: how it lies in cells, and what its cells lead to. -/
structure Kd (α : Type) where
  π : Type
  sz : Nat
  val : α → π → Value
  inner : α → π → List Res
  len : ∀ a p, (val a p).cells.size = sz
  pers : ∀ a p r, r ∈ inner a p → r.Pers
  na : ∀ a p u, u ∈ (val a p).cells.toList → NA u

/-- A slice's address and capacity. -/
structure SP where
  a : Option (Nat × Nat)
  c : Nat

def SP.addr (p : SP) (k : Nat) : Option Addr := p.a.map fun x => ⟨x.1, x.2 + k, none⟩
/-- A slice's value. -/
def SP.v (p : SP) (n : Nat) : Value := .slice (p.addr 0) n p.c
/-- A pointer k cells behind a slice's begin. -/
def SP.ptr (p : SP) (k : Nat) : Value := .pointer (p.addr k)
def SP.nil : SP := ⟨none, 0⟩

/-- The element x lies at (b, o), and leads to R alone. -/
def elemH {α : Type} (K : Kd α) (b o : Nat) (x : α) (q : K.π) (w : World) (R : Fp) : Prop :=
  (∀ j v, (K.val x q).cells[j]? = some v → w.cell? ⟨b, o + j, none⟩ = some v) ∧
  ∀ r, r ∈ K.inner x q → ∃ R', r.holds w none0 R' ∧ ∀ b i, R' b i → R b i

theorem elemH.loc {α : Type} {K : Kd α} {b o : Nat} {x : α} {q : K.π} {w w' : World} {R : Fp} (h : elemH K b o x q w R)
    (hc : ∀ j, j < K.sz → w'.cell? ⟨b, o + j, none⟩ = w.cell? ⟨b, o + j, none⟩)
    (ha : ∀ b i, R b i → w'.cell? ⟨b, i, none⟩ = w.cell? ⟨b, i, none⟩) : elemH K b o x q w' R := by
  refine ⟨fun j v hv => ?_, fun r hr => ?_⟩
  · have hj : j < K.sz := by rw [← K.len x q]; exact (Array.getElem?_eq_some_iff.1 hv).1
    rw [hc j hj]; exact h.1 j v hv
  · obtain ⟨R', h1, h2⟩ := h.2 r hr
    exact ⟨R', r.loc h1 ⟨fun _ _ hf => hf.elim, fun b i hb => ha b i (h2 b i hb)⟩, h2⟩

/-- A slice that nobody writes: it reads asx xs. -/
def slH {α : Type} (K : Kd α) (p : SP) (xs : List α) (w : World) (O R : Fp) : Prop :=
  (∀ b i, ¬ O b i) ∧ (p.a = none → p.c = 0) ∧ xs.length ≤ p.c ∧ (∀ b i, R b i → (w.cell? ⟨b, i, none⟩).isSome = true) ∧
  ∀ i x, xs[i]? = some x → ∃ b o, p.a = some (b, o) ∧ (∀ j, j < K.sz → R b (o + i * K.sz + j)) ∧ ∃ q, elemH K b (o + i * K.sz) x q w R

theorem isSome_lt {w : World} {b i : Nat} (h : (w.cell? ⟨b, i, none⟩).isSome = true) : b < w.heap.size := by
  obtain ⟨v, hv⟩ := Option.isSome_iff_exists.1 h
  exact cell_lt hv

def sl {α : Type} (K : Kd α) (p : SP) (xs : List α) : Res where
  holds := slH K p xs
  loc := by
    rintro w w' O R ⟨h0, h1, h2, h3, h4⟩ ha
    refine ⟨h0, h1, h2, fun b i hb => by rw [ha.ro b i hb]; exact h3 b i hb, fun i x hx => ?_⟩
    obtain ⟨b, o, e, hr, q, hq⟩ := h4 i x hx
    exact ⟨b, o, e, hr, q, hq.loc (fun j hj => ha.ro _ _ (hr j hj)) ha.ro⟩
  bd := by
    rintro w O R ⟨h0, h1, h2, h3, h4⟩ b i hb
    rcases hb with hb | hb
    · exact (h0 b i hb).elim
    · exact isSome_lt (h3 b i hb)
  rd := by
    rintro w O R ⟨h0, h1, h2, h3, h4⟩ b i hb
    exact h3 b i hb

theorem sl_pers {α : Type} (K : Kd α) (p : SP) (xs : List α) : (sl K p xs).Pers := fun _ _ _ h => h.1

/-- What lies behind a slice's n elements, to its capacity, is free. -/
def tlH (sz : Nat) (p : SP) (n : Nat) (w : World) (O R : Fp) : Prop :=
  (∀ b i, ¬ R b i) ∧ (p.a = none → p.c = 0) ∧ n ≤ p.c ∧ (∀ b i, O b i ↔ ∃ o, p.a = some (b, o) ∧ o + n * sz ≤ i ∧ i < o + p.c * sz) ∧
  ∀ b i, O b i → (w.cell? ⟨b, i, none⟩).isSome = true ∧ w.frozen? ⟨b, i, none⟩ = false

def tl (sz : Nat) (p : SP) (n : Nat) : Res where
  holds := tlH sz p n
  loc := by
    rintro w w' O R ⟨h0, h1, h2, h3, h4⟩ ha
    refine ⟨h0, h1, h2, h3, fun b i hb => ?_⟩
    have := ha.own b i hb
    simp only [lookO, Prod.mk.injEq] at this
    rw [this.1, this.2.1]; exact h4 b i hb
  bd := by
    rintro w O R ⟨h0, h1, h2, h3, h4⟩ b i hb
    rcases hb with hb | hb
    · exact isSome_lt (h4 b i hb).1
    · exact (h0 b i hb).elim
  rd := by
    rintro w O R ⟨h0, h1, h2, h3, h4⟩ b i hb
    exact (h0 b i hb).elim

/-- An array that may be written: n elements, and free cells to the capacity. -/
def ownH {α : Type} (K : Kd α) (p : SP) (xs : List α) (w : World) (O R : Fp) : Prop :=
  (p.a = none → p.c = 0) ∧ xs.length ≤ p.c ∧ (∀ b i, O b i ↔ ∃ o, p.a = some (b, o) ∧ o ≤ i ∧ i < o + p.c * K.sz) ∧
  (∀ b i, O b i → (w.cell? ⟨b, i, none⟩).isSome = true ∧ w.frozen? ⟨b, i, none⟩ = false) ∧
  (∀ b i, R b i → (w.cell? ⟨b, i, none⟩).isSome = true ∧ ¬ O b i) ∧
  ∀ i x, xs[i]? = some x → ∃ b o, p.a = some (b, o) ∧ ∃ q, elemH K b (o + i * K.sz) x q w R

def own {α : Type} (K : Kd α) (p : SP) (xs : List α) : Res where
  holds := ownH K p xs
  loc := by
    rintro w w' O R ⟨h1, h2, h3, h4, h5, h6⟩ ha
    refine ⟨h1, h2, h3, fun b i hb => ?_, fun b i hb => by rw [ha.ro b i hb]; exact h5 b i hb, fun i x hx => ?_⟩
    · have := ha.own b i hb
      simp only [lookO, Prod.mk.injEq] at this
      rw [this.1, this.2.1]; exact h4 b i hb
    · obtain ⟨b, o, e, q, hq⟩ := h6 i x hx
      have hi : i < xs.length := (List.getElem?_eq_some_iff.1 hx).1
      refine ⟨b, o, e, q, hq.loc (fun j hj => ?_) ha.ro⟩
      have hO : O b (o + i * K.sz + j) := by
        refine (h3 _ _).2 ⟨o, e, by omega, ?_⟩
        have h7 : (i + 1) * K.sz ≤ p.c * K.sz := Nat.mul_le_mul_right _ (by omega)
        rw [Nat.add_mul, Nat.one_mul] at h7
        omega
      have := ha.own _ _ hO
      simp only [lookO, Prod.mk.injEq] at this
      exact this.1
  bd := by
    rintro w O R ⟨h1, h2, h3, h4, h5, h6⟩ b i hb
    rcases hb with hb | hb
    · exact isSome_lt (h4 b i hb).1
    · exact isSome_lt (h5 b i hb).1
  rd := by
    rintro w O R ⟨h1, h2, h3, h4, h5, h6⟩ b i hb
    exact (h5 b i hb).1

/-- A row that was written is written no more. -/
theorem Ent.sealed {α : Type} (K : Kd α) (p : SP) (xs : List α) : Ent [own K p xs] [sl K p xs, tl K.sz p xs.length] := by
  rintro w O R ⟨O1, R1, O2, R2, ⟨h1, h2, h3, h4, h5, h6⟩, hn, d1, d2, eo, er⟩
  let Rs : Fp := fun b i => R1 b i ∨ ∃ o, p.a = some (b, o) ∧ o ≤ i ∧ i < o + xs.length * K.sz
  let Ot : Fp := fun b i => ∃ o, p.a = some (b, o) ∧ o + xs.length * K.sz ≤ i ∧ i < o + p.c * K.sz
  have hle : xs.length * K.sz ≤ p.c * K.sz := Nat.mul_le_mul_right _ h2
  have hRs : ∀ b i, Rs b i → O1 b i ∨ R1 b i := by
    rintro b i (hb | ⟨o, e, g1, g2⟩)
    · exact .inr hb
    · exact .inl ((h3 b i).2 ⟨o, e, g1, by omega⟩)
  have hOt : ∀ b i, Ot b i → O1 b i := fun b i ⟨o, e, g1, g2⟩ => (h3 b i).2 ⟨o, e, by omega, g2⟩
  refine ⟨Ot, Rs, ⟨none0, Rs, Ot, none0, ⟨fun _ _ h => h, h1, h2, ?_, ?_⟩, ⟨Ot, none0, none0, none0, ⟨fun _ _ h => h, h1, h2, ?_, ?_⟩, ⟨fun _ _ h => h, fun _ _ h => h⟩,
    fun _ _ _ => ⟨fun h => h, fun h => h⟩, fun _ _ h => h.elim, fun _ _ => by simp [none0], fun _ _ => by simp [none0]⟩, fun _ _ h => h.elim, ?_, fun _ _ => by simp [none0], fun _ _ => by simp [none0]⟩, ?_, ?_⟩
  · intro b i hb
    rcases hRs b i hb with hb | hb
    · exact (h4 b i hb).1
    · exact (h5 b i hb).1
  · intro i x hx
    obtain ⟨b, o, e, q, hq⟩ := h6 i x hx
    have hi : i < xs.length := (List.getElem?_eq_some_iff.1 hx).1
    refine ⟨b, o, e, fun j hj => .inr ⟨o, e, by omega, ?_⟩, q, hq.1, fun r hr => ?_⟩
    · have h7 : (i + 1) * K.sz ≤ xs.length * K.sz := Nat.mul_le_mul_right _ (by omega)
      rw [Nat.add_mul, Nat.one_mul] at h7
      omega
    · obtain ⟨R', g1, g2⟩ := hq.2 r hr
      exact ⟨R', g1, fun b i hb => .inl (g2 b i hb)⟩
  · exact fun _ _ => Iff.rfl
  · exact fun b i hb => h4 b i (hOt b i hb)
  · rintro b i ⟨o, e, g1, g2⟩ (hb | ⟨o', e', g3, g4⟩)
    · exact (h5 b i hb).2 ((h3 b i).2 ⟨o, e, by omega, g2⟩)
    · rw [e] at e'; cases e'; omega
  · exact fun b i hb => (eo b i).2 (.inl (hOt b i hb))
  · intro b i hb
    rcases hRs b i hb with hb | hb
    · exact .inl ((eo b i).2 (.inl hb))
    · exact .inr ((er b i).2 (.inl hb))

/-- The nil slice. -/
theorem Ent.nil_sl {α : Type} (K : Kd α) : Ent [] [sl K SP.nil []] := by
  rintro w O R ⟨h1, h2⟩
  exact ⟨O, R, ⟨none0, none0, O, R, ⟨fun _ _ h => h, fun _ => rfl, Nat.le_refl _, fun _ _ h => h.elim, fun i x hx => by simp at hx⟩, ⟨h1, h2⟩, fun _ _ h => h.elim, fun _ _ _ h => h,
    fun b i => by simp [none0], fun b i => by simp [none0]⟩, fun _ _ h => h, fun _ _ h => .inr h⟩
theorem Ent.nil_own {α : Type} (K : Kd α) : Ent [] [own K SP.nil []] := by
  rintro w O R ⟨h1, h2⟩
  refine ⟨O, R, ⟨none0, none0, O, R, ⟨fun _ => rfl, Nat.le_refl _, fun b i => by simp [none0, SP.nil], fun _ _ h => h.elim, fun _ _ h => h.elim, fun i x hx => by simp at hx⟩, ⟨h1, h2⟩, fun _ _ h => h.elim, fun _ _ _ h => h,
    fun b i => by simp [none0], fun b i => by simp [none0]⟩, fun _ _ h => h, fun _ _ h => .inr h⟩
theorem Ent.nil_tl (sz : Nat) : Ent [] [tl sz SP.nil 0] := by
  rintro w O R ⟨h1, h2⟩
  refine ⟨O, R, ⟨none0, none0, O, R, ⟨fun _ _ h => h, fun _ => rfl, Nat.le_refl _, fun b i => by simp [none0, SP.nil], fun _ _ h => h.elim⟩, ⟨h1, h2⟩, fun _ _ h => h.elim, fun _ _ _ h => h,
    fun b i => by simp [none0], fun b i => by simp [none0]⟩, fun _ _ h => h, fun _ _ h => .inr h⟩

/-! ### Kinds -/
theorem cells_one {v : Value} (h : (match v with | .agg _ => false | _ => true) = true) : v.cells = #[v] := by
  cases v <;> simp_all [Value.cells]

def Kint (k : IntKind) : Kd Int where
  π := Unit
  sz := 1
  val n _ := .int k n
  inner _ _ := []
  len _ _ := rfl
  pers _ _ _ h := by simp at h
  na _ _ u h := (NA.int _ _).one u h
def Kbool : Kd Bool where
  π := Unit
  sz := 1
  val b _ := .bool b
  inner _ _ := []
  len _ _ := rfl
  pers _ _ _ h := by simp at h
  na _ _ u h := (NA.bool _).one u h
/-- A text, asx its bytes. -/
@[reducible] def str (s : List UInt8) : Value := .string ⟨s.toArray⟩
def Kstr : Kd (List UInt8) where
  π := Unit
  sz := 1
  val s _ := str s
  inner _ _ := []
  len _ _ := rfl
  pers _ _ _ h := by simp at h
  na _ _ u h := (NA.str _).one u h
/-- Bytes. -/
def Kb : Kd UInt8 where
  π := Unit
  sz := 1
  val b _ := .int .u8 b.toNat
  inner _ _ := []
  len _ _ := rfl
  pers _ _ _ h := by simp at h
  na _ _ u h := (NA.int _ _).one u h
def Ksl {α : Type} (K : Kd α) : Kd (List α) where
  π := SP
  sz := 1
  val xs p := p.v xs.length
  inner xs p := [sl K p xs]
  len _ _ := rfl
  pers xs p r h := by simp only [List.mem_singleton] at h; subst h; exact sl_pers K p xs
  na xs p u h := (NA.sl _ _ _).one u h

/-! ### Maps -/
/-- A map: entries asx they were put, keys and values of two kinds. -/
def mpH {κ α : Type} (kv : κ → Value) (K : Kd α) (r : Nat) (m : List (κ × α)) (w : World) (O R : Fp) : Prop :=
  (∀ b i, O b i ↔ b = r) ∧ (∀ b i, R b i → (w.cell? ⟨b, i, none⟩).isSome = true ∧ b ≠ r) ∧
  ∃ (es : Array MapEntry) (clock : Nat), w.heap[r]? = some (.map es clock) ∧ es.size = m.length ∧ (es.toList.map (·.born)).Nodup ∧ (∀ e, e ∈ es.toList → e.born < clock) ∧
    ∀ (i : Nat) (x : κ × α), m[i]? = some x → ∃ e : MapEntry, es[i]? = some e ∧ e.key = kv x.1 ∧ ∃ q, e.val = K.val x.2 q ∧ ∀ s, s ∈ K.inner x.2 q → ∃ R', s.holds w none0 R' ∧ ∀ b i, R' b i → R b i

def mp {κ α : Type} (kv : κ → Value) (K : Kd α) (r : Nat) (m : List (κ × α)) : Res where
  holds := mpH kv K r m
  loc := by
    rintro w w' O R ⟨h1, h2, es, clock, h3, h4, h5, h5', h6⟩ ha
    have := ha.own r 0 ((h1 _ _).2 rfl)
    simp only [lookO, Prod.mk.injEq] at this
    have hh : w'.heap[r]? = some (.map es clock) := by
      have h7 := this.2.2.1
      rw [h3] at h7
      cases hb : w'.heap[r]? with
      | none => rw [hb] at h7; cases h7
      | some o =>
        rw [hb] at h7
        cases o <;> first | exact h7 | cases h7
    refine ⟨h1, fun b i hb => by rw [ha.ro b i hb]; exact h2 b i hb, es, clock, hh, h4, h5, h5', fun i x hx => ?_⟩
    obtain ⟨e, g1, g2, q, g3, g4⟩ := h6 i x hx
    refine ⟨e, g1, g2, q, g3, fun s hs => ?_⟩
    obtain ⟨R', k1, k2⟩ := g4 s hs
    exact ⟨R', s.loc k1 ⟨fun _ _ h => h.elim, fun b i hb => ha.ro b i (k2 b i hb)⟩, k2⟩
  bd := by
    rintro w O R ⟨h1, h2, es, clock, h3, _⟩ b i hb
    rcases hb with hb | hb
    · rw [(h1 b i).1 hb]; exact (Array.getElem?_eq_some_iff.1 h3).1
    · exact isSome_lt (h2 b i hb).1
  rd := by
    rintro w O R ⟨h1, h2, _⟩ b i hb
    exact (h2 b i hb).1

end Go.Sl
/-! One rule for each kind of operation: those that do not touch memory. -/
namespace Go.Sl
open Go

section
variable {P : Program} {ρ : Env} {H : List Res} {d : Option Tmp} {ty : TypeId} {pos : String} {af : Array Edge} {g : Option (Nat × Bool)}
variable {x y z : Operand} {u v : Value}

theorem PV.mv (hx : ev ρ x = some v) : PV P ⟨d, .move x, ty, pos, af, g⟩ ρ v :=
  fun n a w ha => by simp [execOp, ha.ev hx]
theorem PV.as (hx : ev ρ x = some v) : PV P ⟨d, .assign x, ty, pos, af, g⟩ ρ v :=
  fun n a w ha => by simp [execOp, ha.ev hx]
theorem PV.pickT {b : Bool} (hx : ev ρ x = some (.bool b)) (hb : b = true) (hy : ev ρ y = some v) : PV P ⟨d, .pick x y z, ty, pos, af, g⟩ ρ v :=
  fun n a w ha => by simp [execOp, ha.ev hx, ha.ev hy, hb, asBool]
theorem PV.pickF {b : Bool} (hx : ev ρ x = some (.bool b)) (hb : b = false) (hz : ev ρ z = some v) : PV P ⟨d, .pick x y z, ty, pos, af, g⟩ ρ v :=
  fun n a w ha => by simp [execOp, ha.ev hx, ha.ev hz, hb, asBool]
theorem PV.nck {ad : Addr} (hx : ev ρ x = some (.pointer (some ad))) : PV P ⟨d, .nilCheck x, ty, pos, af, g⟩ ρ (.pointer (some ad)) :=
  fun n a w ha => by simp [execOp, ha.ev hx]
theorem PV.nckF {f : FuncId} {c1 c2 : Array Value} (hx : ev ρ x = some (.func (.func f) c1 c2)) : PV P ⟨d, .nilCheck x, ty, pos, af, g⟩ ρ (.func (.func f) c1 c2) :=
  fun n a w ha => by simp [execOp, ha.ev hx]
theorem PV.ext {i : Nat} {vs : Array Value} (hx : ev ρ x = some (.tuple vs)) (hi : vs[i]? = some v) : PV P ⟨d, .extract x i, ty, pos, af, g⟩ ρ v :=
  fun n a w ha => by simp [execOp, ha.ev hx, Instr.extract, hi]
theorem PV.not {t : TypeId} {b : Bool} (hx : ev ρ x = some (.bool b)) : PV P ⟨d, .unOp .not t x, ty, pos, af, g⟩ ρ (.bool !b) :=
  fun n a w ha => by simp [execOp, ha.ev hx, Op.unary]
theorem PV.mkI {t : TypeId} (ht : ∃ ds, P.underlying t = some ds ∧ (∀ ms, ds ≠ .interface ms)) (hx : ev ρ x = some v) : PV P ⟨d, .makeInterface t x, ty, pos, af, g⟩ ρ (.iface t v) :=
  fun n a w ha => by
    obtain ⟨ds, h1, h2⟩ := ht
    simp only [execOp, ha.ev hx, Instr.makeInterface]
    cases ds <;> first | exact (h2 _ rfl).elim | (simp [run_underlying h1])
theorem PV.mkF {fn : Fn} {fs cs : Array Operand} {us vs : List Value} (h1 : evs ρ fs.toList = some us) (h2 : evs ρ cs.toList = some vs) :
    PV P ⟨d, .makeFunc fn fs cs, ty, pos, af, g⟩ ρ (.func fn us.toArray vs.toArray) :=
  fun n a w ha => by
    have e1 : fs.map a.eval = us.toArray := by apply Array.ext'; simp [ha.evs h1]
    have e2 : cs.map a.eval = vs.toArray := by apply Array.ext'; simp [ha.evs h2]
    simp [execOp, Instr.makeFunc, e1, e2]

/-! ### Whole numbers -/
section ints
variable {k : IntKind} {m n : Int} {t1 t2 : TypeId} (hx : ev ρ x = some (.int k m)) (hy : ev ρ y = some (.int k n))
include hx hy
theorem PV.add : PV P ⟨d, .binOp .add t1 x y t2, ty, pos, af, g⟩ ρ (.int k (k.wrap (m + n))) :=
  fun _ a w ha => by simp [execOp, ha.ev hx, ha.ev hy, binOp, Op.intArith, eqGuard]
theorem PV.sub : PV P ⟨d, .binOp .sub t1 x y t2, ty, pos, af, g⟩ ρ (.int k (k.wrap (m - n))) :=
  fun _ a w ha => by simp [execOp, ha.ev hx, ha.ev hy, binOp, Op.intArith, eqGuard]
theorem PV.mul : PV P ⟨d, .binOp .mul t1 x y t2, ty, pos, af, g⟩ ρ (.int k (k.wrap (m * n))) :=
  fun _ a w ha => by simp [execOp, ha.ev hx, ha.ev hy, binOp, Op.intArith, eqGuard]
theorem PV.addE {r : Int} (hr : k.wrap (m + n) = r) : PV P ⟨d, .binOp .add t1 x y t2, ty, pos, af, g⟩ ρ (.int k r) := hr ▸ PV.add hx hy
theorem PV.subE {r : Int} (hr : k.wrap (m - n) = r) : PV P ⟨d, .binOp .sub t1 x y t2, ty, pos, af, g⟩ ρ (.int k r) := hr ▸ PV.sub hx hy
theorem PV.mulE {r : Int} (hr : k.wrap (m * n) = r) : PV P ⟨d, .binOp .mul t1 x y t2, ty, pos, af, g⟩ ρ (.int k r) := hr ▸ PV.mul hx hy
theorem PV.quo (hn : n ≠ 0) : PV P ⟨d, .binOp .quo t1 x y t2, ty, pos, af, g⟩ ρ (.int k (k.wrap (m.tdiv n))) :=
  fun _ a w ha => by simp [execOp, ha.ev hx, ha.ev hy, binOp, Op.intDiv, eqGuard, hn]
theorem PV.rem (hn : n ≠ 0) : PV P ⟨d, .binOp .rem t1 x y t2, ty, pos, af, g⟩ ρ (.int k (m.tmod n)) :=
  fun _ a w ha => by simp [execOp, ha.ev hx, ha.ev hy, binOp, Op.intDiv, eqGuard, hn]
theorem PV.eqI : PV P ⟨d, .binOp .eql t1 x y t2, ty, pos, af, g⟩ ρ (.bool (decide (m = n))) :=
  fun _ a w ha => by simp [execOp, ha.ev hx, ha.ev hy, binOp, Op.intCmp, eqGuard]; rw [Bool.eq_iff_iff]; simp
theorem PV.neI : PV P ⟨d, .binOp .neq t1 x y t2, ty, pos, af, g⟩ ρ (.bool (decide (m ≠ n))) :=
  fun _ a w ha => by simp [execOp, ha.ev hx, ha.ev hy, binOp, Op.intCmp, eqGuard, bne]; rw [Bool.eq_iff_iff]; simp
theorem PV.lt : PV P ⟨d, .binOp .lss t1 x y t2, ty, pos, af, g⟩ ρ (.bool (decide (m < n))) :=
  fun _ a w ha => by simp [execOp, ha.ev hx, ha.ev hy, binOp, Op.intCmp, eqGuard]
theorem PV.le : PV P ⟨d, .binOp .leq t1 x y t2, ty, pos, af, g⟩ ρ (.bool (decide (m ≤ n))) :=
  fun _ a w ha => by simp [execOp, ha.ev hx, ha.ev hy, binOp, Op.intCmp, eqGuard]
theorem PV.gt : PV P ⟨d, .binOp .gtr t1 x y t2, ty, pos, af, g⟩ ρ (.bool (decide (n < m))) :=
  fun _ a w ha => by simp [execOp, ha.ev hx, ha.ev hy, binOp, Op.intCmp, eqGuard]
theorem PV.ge : PV P ⟨d, .binOp .geq t1 x y t2, ty, pos, af, g⟩ ρ (.bool (decide (n ≤ m))) :=
  fun _ a w ha => by simp [execOp, ha.ev hx, ha.ev hy, binOp, Op.intCmp, eqGuard]
theorem PV.and : PV P ⟨d, .binOp .and t1 x y t2, ty, pos, af, g⟩ ρ (.int k (k.wrap (BitVec.ofInt k.bits m &&& BitVec.ofInt k.bits n).toNat)) :=
  fun _ a w ha => by simp [execOp, ha.ev hx, ha.ev hy, binOp, Op.intBits, eqGuard]
theorem PV.or : PV P ⟨d, .binOp .or t1 x y t2, ty, pos, af, g⟩ ρ (.int k (k.wrap (BitVec.ofInt k.bits m ||| BitVec.ofInt k.bits n).toNat)) :=
  fun _ a w ha => by simp [execOp, ha.ev hx, ha.ev hy, binOp, Op.intBits, eqGuard]
theorem PV.xor : PV P ⟨d, .binOp .xor t1 x y t2, ty, pos, af, g⟩ ρ (.int k (k.wrap (BitVec.ofInt k.bits m ^^^ BitVec.ofInt k.bits n).toNat)) :=
  fun _ a w ha => by simp [execOp, ha.ev hx, ha.ev hy, binOp, Op.intBits, eqGuard]
end ints
theorem PV.shl {k k2 : IntKind} {m n : Int} {t1 t2 : TypeId} (hx : ev ρ x = some (.int k m)) (hy : ev ρ y = some (.int k2 n)) (hn : 0 ≤ n) :
    PV P ⟨d, .binOp .shl t1 x y t2, ty, pos, af, g⟩ ρ (.int k (k.wrap (m * 2 ^ min n.toNat k.bits))) :=
  fun _ a w ha => by simp [execOp, ha.ev hx, ha.ev hy, binOp, Op.shift, eqGuard, Int.not_lt.2 hn]
theorem PV.shr {k k2 : IntKind} {m n : Int} {t1 t2 : TypeId} (hx : ev ρ x = some (.int k m)) (hy : ev ρ y = some (.int k2 n)) (hn : 0 ≤ n) :
    PV P ⟨d, .binOp .shr t1 x y t2, ty, pos, af, g⟩ ρ (.int k (m.fdiv (2 ^ min n.toNat k.bits))) :=
  fun _ a w ha => by simp [execOp, ha.ev hx, ha.ev hy, binOp, Op.shift, eqGuard, Int.not_lt.2 hn]
theorem PV.cvI {k k' : IntKind} {m : Int} {t1 t2 : TypeId} (h2 : P.underlying t2 = some (.int k')) (h1 : ∃ ds, P.underlying t1 = some ds) (hx : ev ρ x = some (.int k m)) :
    PV P ⟨d, .convert t1 t2 x, ty, pos, af, g⟩ ρ (.int k' (k'.wrap m)) :=
  fun _ a w ha => by
    obtain ⟨ds, h1⟩ := h1
    simp [execOp, ha.ev hx, convert, run_underlying h1, run_underlying h2, Conv.intToInt]
theorem PV.cvIE {k k' : IntKind} {m r : Int} {t1 t2 : TypeId} (h2 : P.underlying t2 = some (.int k')) (h1 : ∃ ds, P.underlying t1 = some ds) (hx : ev ρ x = some (.int k m)) (hr : k'.wrap m = r) :
    PV P ⟨d, .convert t1 t2 x, ty, pos, af, g⟩ ρ (.int k' r) := hr ▸ PV.cvI h2 h1 hx

/-! ### Texts -/
section strs
variable {s t : List UInt8} {t1 t2 : TypeId}
theorem beq_toList (s t : List UInt8) : ((ByteArray.mk s.toArray).toList == (ByteArray.mk t.toArray).toList) = (s == t) := by simp [ByteArray.toList_mk]
theorem PV.eqS (hx : ev ρ x = some (str s)) (hy : ev ρ y = some (str t)) : PV P ⟨d, .binOp .eql t1 x y t2, ty, pos, af, g⟩ ρ (.bool (decide (s = t))) :=
  fun _ a w ha => by simp [execOp, ha.ev hx, ha.ev hy, str, binOp, Op.stringOp, eqGuard]; rw [Bool.eq_iff_iff]; simp
theorem PV.neS (hx : ev ρ x = some (str s)) (hy : ev ρ y = some (str t)) : PV P ⟨d, .binOp .neq t1 x y t2, ty, pos, af, g⟩ ρ (.bool (decide (s ≠ t))) :=
  fun _ a w ha => by simp [execOp, ha.ev hx, ha.ev hy, str, binOp, Op.stringOp, eqGuard, bne]; rw [Bool.eq_iff_iff]; simp
theorem append_mk (s t : List UInt8) : ByteArray.mk s.toArray ++ ByteArray.mk t.toArray = ByteArray.mk (s ++ t).toArray := by
  apply ByteArray.ext; simp
theorem PV.cat (hx : ev ρ x = some (str s)) (hy : ev ρ y = some (str t)) (h : s.length + t.length ≤ 9223372036854775807) :
    PV P ⟨d, .binOp .add t1 x y t2, ty, pos, af, g⟩ ρ (str (s ++ t)) :=
  fun _ a w ha => by
    have h' : ¬ ((((ByteArray.mk s.toArray).size + (ByteArray.mk t.toArray).size : Nat) : Int) > IntKind.i64.max) := by
      have e : IntKind.i64.max = 9223372036854775807 := by decide
      rw [e]; show ¬ (((s.toArray.size + t.toArray.size : Nat) : Int) > _); simp; omega
    simp only [execOp, ha.ev hx, ha.ev hy, str, binOp, Op.stringOp, eqGuard]
    rw [if_neg h', append_mk]
    simp
theorem PV.idxS {i : Int} {b : UInt8} (ht : P.underlying t1 = some .string) (hx : ev ρ x = some (str s)) (hy : ev ρ y = some (.int .i64 i)) (h0 : 0 ≤ i) (hb : s[i.toNat]? = some b) :
    PV P ⟨d, .index t1 x y, ty, pos, af, g⟩ ρ (.int .u8 b.toNat) :=
  fun _ a w ha => by
    have e : (ByteArray.mk s.toArray)[i.toNat]? = some b := by
      obtain ⟨h1, h2⟩ := List.getElem?_eq_some_iff.1 hb
      have h3 : i.toNat < (ByteArray.mk s.toArray).size := by show _ < s.toArray.size; simpa using h1
      rw [getElem?_pos (ByteArray.mk s.toArray) i.toNat h3]; exact congrArg some h2
    simp only [execOp, ha.ev hx, ha.ev hy, str, Instr.index, asIntOf]
    simp [run_underlying ht, h0, e]
theorem PV.lenS {ts : Array TypeId} (ht : P.underlying t1 = some .string) (hts : ts[0]? = some t1) (hx : ev ρ x = some (str s)) :
    PV P ⟨d, .call ⟨.builtin .len, #[x], ts⟩, ty, pos, af, g⟩ ρ (.int .i64 s.length) :=
  fun _ a w ha => by
    have hsz : (ByteArray.mk s.toArray).size = s.length := by show s.toArray.size = _; simp
    simp [execOp, ha.ev hx, str, resolve, invoke, builtin, Builtin.len_, hts, run_underlying ht, goInt, hsz]
theorem PV.lenL {ts : Array TypeId} {e : TypeId} {ad : Option Addr} {m c : Nat} (ht : P.underlying t1 = some (.slice e)) (hts : ts[0]? = some t1) (hx : ev ρ x = some (.slice ad m c)) :
    PV P ⟨d, .call ⟨.builtin .len, #[x], ts⟩, ty, pos, af, g⟩ ρ (.int .i64 m) :=
  fun _ a w ha => by
    simp [execOp, ha.ev hx, resolve, invoke, builtin, Builtin.len_, hts, run_underlying ht, goInt]
theorem PV.capL {ts : Array TypeId} {e : TypeId} {ad : Option Addr} {m c : Nat} (ht : P.underlying t1 = some (.slice e)) (hts : ts[0]? = some t1) (hx : ev ρ x = some (.slice ad m c)) :
    PV P ⟨d, .call ⟨.builtin .cap, #[x], ts⟩, ty, pos, af, g⟩ ρ (.int .i64 c) :=
  fun _ a w ha => by
    simp [execOp, ha.ev hx, resolve, invoke, builtin, Builtin.cap_, hts, run_underlying ht, goInt]

theorem extract_mk (s : List UInt8) (l h : Nat) : (ByteArray.mk s.toArray).extract l h = ByteArray.mk ((s.take h).drop l).toArray := by
  apply ByteArray.ext
  simp [ByteArray.data_extract, List.extract_toArray, List.extract_eq_take_drop]
  rw [List.drop_take]
theorem PV.cutS {lo hi : Option Operand} {l h : Int} (ht : P.underlying t1 = some .string) (hx : ev ρ x = some (str s))
    (hl : match lo with | some q => ev ρ q = some (.int .i64 l) | none => l = 0) (hh : match hi with | some q => ev ρ q = some (.int .i64 h) | none => h = s.length)
    (h0 : 0 ≤ l) (h1 : l ≤ h) (h2 : h ≤ s.length) :
    PV P ⟨d, .slice t1 x lo hi none, ty, pos, af, g⟩ ρ (str ((s.take h.toNat).drop l.toNat)) :=
  fun _ a w ha => by
    have hsz : (ByteArray.mk s.toArray).size = s.length := by show s.toArray.size = _; simp
    have hht : (h.toNat : Int) = h := Int.toNat_of_nonneg (by omega)
    cases lo <;> cases hi
    · subst hl; subst hh
      have e := extract_mk s 0 s.length
      rw [← hsz] at e
      simp [execOp, ha.ev hx, str, Instr.sliceAt, Instr.slice, Instr.sliceBounds, run_underlying ht]
    · subst hl
      simp [execOp, ha.ev hx, ha.ev hh, str, Instr.sliceAt, Instr.slice, Instr.sliceBounds, Instr.sliceBound, asIntOf, run_underlying ht, hsz, extract_mk, h1, h2]
    · subst hh
      simp [execOp, ha.ev hx, ha.ev hl, str, Instr.sliceAt, Instr.slice, Instr.sliceBounds, Instr.sliceBound, asIntOf, run_underlying ht, hsz, extract_mk, h0, h1]
    · simp [execOp, ha.ev hx, ha.ev hl, ha.ev hh, str, Instr.sliceAt, Instr.slice, Instr.sliceBounds, Instr.sliceBound, asIntOf, run_underlying ht, hsz, extract_mk, h0, h1, h2, hht, Int.le_trans h0 h1]
end strs

theorem wrap64_in {m : Int} (h : -9223372036854775808 ≤ m ∧ m ≤ 9223372036854775807) : IntKind.i64.wrap m = m := by
  have e1 : (2 : Int) ^ IntKind.i64.bits = 18446744073709551616 := by decide
  have e2 : (2 : Int) ^ (IntKind.i64.bits - 1) = 9223372036854775808 := by decide
  unfold IntKind.wrap
  simp only [e1, e2, show IntKind.i64.signed = true from rfl, Bool.true_and, decide_eq_true_eq]
  split <;> omega
theorem PV.add64 {m n : Int} {t1 t2 : TypeId} (hx : ev ρ x = some (.int .i64 m)) (hy : ev ρ y = some (.int .i64 n)) (h : -9223372036854775808 ≤ m + n ∧ m + n ≤ 9223372036854775807) :
    PV P ⟨d, .binOp .add t1 x y t2, ty, pos, af, g⟩ ρ (.int .i64 (m + n)) := PV.addE hx hy (wrap64_in h)
theorem PV.sub64 {m n : Int} {t1 t2 : TypeId} (hx : ev ρ x = some (.int .i64 m)) (hy : ev ρ y = some (.int .i64 n)) (h : -9223372036854775808 ≤ m - n ∧ m - n ≤ 9223372036854775807) :
    PV P ⟨d, .binOp .sub t1 x y t2, ty, pos, af, g⟩ ρ (.int .i64 (m - n)) := PV.subE hx hy (wrap64_in h)
theorem PV.mul64 {m n : Int} {t1 t2 : TypeId} (hx : ev ρ x = some (.int .i64 m)) (hy : ev ρ y = some (.int .i64 n)) (h : -9223372036854775808 ≤ m * n ∧ m * n ≤ 9223372036854775807) :
    PV P ⟨d, .binOp .mul t1 x y t2, ty, pos, af, g⟩ ρ (.int .i64 (m * n)) := PV.mulE hx hy (wrap64_in h)
/-- s[i]. -/
theorem PV.atS {s : List UInt8} {i : Int} {t1 : TypeId} (ht : P.underlying t1 = some .string) (hx : ev ρ x = some (str s)) (hy : ev ρ y = some (.int .i64 i)) (h : 0 ≤ i ∧ i < s.length) :
    PV P ⟨d, .index t1 x y, ty, pos, af, g⟩ ρ (.int .u8 (s.getD i.toNat 0).toNat) := by
  have hlt : i.toNat < s.length := by omega
  have hb : s[i.toNat]? = some (s.getD i.toNat 0) := by simp [List.getD_eq_getElem?_getD, hlt]
  exact PV.idxS ht hx hy h.1 hb
/-- min and max of whole numbers. -/
theorem PV.min2 {k : IntKind} {m n : Int} {ts : Array TypeId} (hx : ev ρ x = some (.int k m)) (hy : ev ρ y = some (.int k n)) : PV P ⟨d, .call ⟨.builtin .min, #[x, y], ts⟩, ty, pos, af, g⟩ ρ (.int k (min m n)) :=
  fun _ a w ha => by
    have e : (if n < m then n else m) = min m n := by omega
    simp [execOp, ha.ev hx, ha.ev hy, resolve, invoke, builtin, Builtin.min_, Builtin.min2, e]
theorem PV.max2 {k : IntKind} {m n : Int} {ts : Array TypeId} (hx : ev ρ x = some (.int k m)) (hy : ev ρ y = some (.int k n)) : PV P ⟨d, .call ⟨.builtin .max, #[x, y], ts⟩, ty, pos, af, g⟩ ρ (.int k (max m n)) :=
  fun _ a w ha => by
    have e : (if m < n then n else m) = max m n := by omega
    simp [execOp, ha.ev hx, ha.ev hy, resolve, invoke, builtin, Builtin.max_, Builtin.max2, e]
end
end Go.Sl
/-! Operations on memory. -/
namespace Go.Sl
open Go

/-- From A in w to B in w': nothing else that was there has changed. -/
def Trans (w w' : World) (A B : List Res) : Prop := ∀ O R, Sep w A O R → ∃ O' R', Sep w' B O' R' ∧ (∀ b j, O' b j → O b j ∨ w.heap.size ≤ b) ∧
  (∀ b j, R' b j → O b j ∨ R b j ∨ w.heap.size ≤ b) ∧ ∀ b j, b < w.heap.size → ¬ O b j → lookO w' b j = lookO w b j

theorem Holds.trans {A B F : List Res} {w w' : World} (ht : Trans w w' A B) (h : Holds (A ++ F) w) : Holds (B ++ F) w' := by
  obtain ⟨O, R, h⟩ := h
  obtain ⟨O1, R1, O2, R2, h1, h2, d1, d2, eo, er⟩ := Sep.append.1 h
  obtain ⟨O', R', h', s1, s2, s3⟩ := ht O1 R1 h1
  have b2 := h2.bd
  refine ⟨fun b i => O' b i ∨ O2 b i, fun b i => R' b i ∨ R2 b i, Sep.append.2 ⟨O', R', O2, R2, h', h2.loc ⟨?_, ?_⟩, ?_, ?_, fun _ _ => Iff.rfl, fun _ _ => Iff.rfl⟩⟩
  · exact fun b i hb => s3 b i (b2 b i (.inl hb)) fun hx => (d1 b i hx).1 hb
  · intro b i hb
    have := s3 b i (b2 b i (.inr hb)) fun hx => (d1 b i hx).2 hb
    simp only [lookO, Prod.mk.injEq] at this
    exact this.1
  · intro b i hb
    rcases s1 b i hb with hx | hx
    · exact d1 b i hx
    · exact ⟨fun hy => by have := b2 b i (.inl hy); omega, fun hy => by have := b2 b i (.inr hy); omega⟩
  · intro b i hb hb'
    rcases s2 b i hb' with hx | hx | hx
    · exact (d1 b i hx).1 hb
    · exact d2 b i hb hx
    · have := b2 b i (.inl hb); omega

theorem Trans.of_ent {w : World} {A B : List Res} (h : Ent A B) : Trans w w A B := by
  intro O R hs
  obtain ⟨O', R', h', s1, s2⟩ := h w O R hs
  exact ⟨O', R', h', fun b j hb => .inl (s1 b j hb), fun b j hb => (s2 b j hb).imp id .inl, fun _ _ _ _ => rfl⟩

theorem Trans.comp {w w1 w2 : World} {A B C : List Res} (h1 : Trans w w1 A B) (h2 : Trans w1 w2 B C) (hs : w.heap.size ≤ w1.heap.size) : Trans w w2 A C := by
  intro O R ha
  obtain ⟨O', R', hb, s1, s2, s3⟩ := h1 O R ha
  obtain ⟨O3, R3, hc, t1, t2, t3⟩ := h2 O' R' hb
  refine ⟨O3, R3, hc, ?_, ?_, ?_⟩
  · intro b j hx
    rcases t1 b j hx with hy | hy
    · exact s1 b j hy
    · exact .inr (by omega)
  · intro b j hx
    rcases t2 b j hx with hy | hy | hy
    · rcases s1 b j hy with hz | hz
      · exact .inl hz
      · exact .inr (.inr hz)
    · exact s2 b j hy
    · exact .inr (.inr (by omega))
  · intro b j hlt hn
    rw [t3 b j (by omega) (fun hy => (s1 b j hy).elim hn (by omega))]
    exact s3 b j hlt hn

/-- Picked out, one after the other; what is left. -/
inductive Pk : List Nat → List Res → List Res → List Res → Prop
  | nil {H : List Res} : Pk [] H [] H
  | cons {i : Nat} {is : List Nat} {H A F : List Res} {r : Res} : H[i]? = some r → Pk is (rem H i) A F → Pk (i :: is) H (r :: A) F

theorem Pk.perm {is : List Nat} {H A F : List Res} (h : Pk is H A F) : H.Perm (A ++ F) := by
  induction h with
  | nil => exact List.Perm.refl _
  | cons h1 _ ih => exact (perm_rem h1).trans (ih.cons _)

theorem Holds.at {H : List Res} {w : World} {i : Nat} {r : Res} (h : Holds H w) (hi : H[i]? = some r) : ∃ O R, r.holds w O R := by
  obtain ⟨O, R, O1, R1, O2, R2, h1, _⟩ := h.pick hi
  exact ⟨O1, R1, h1⟩

/-! ### What the program says of its types -/
def Sc1 (P : Program) (t : TypeId) : Prop := ∃ ds i, P.underlying t = some ds ∧ (∀ fs, ds ≠ .struct fs) ∧ (∀ n e, ds ≠ .array n e) ∧ P.info? t = some i ∧ i.size = 1
def Ag (P : Program) (t : TypeId) (s : Nat) : Prop := ∃ ds i, P.underlying t = some ds ∧ ((∃ fs, ds = .struct fs) ∨ ∃ n e, ds = .array n e) ∧ P.info? t = some i ∧ i.size = s
def Zr (P : Program) (t : TypeId) (z : Value) : Prop := ∃ i, P.info? t = some i ∧ i.zero = some z
def FO (P : Program) (T i k : Nat) : Prop := ∃ fs f inf, P.underlying T = some (.struct fs) ∧ fs[i]? = some f ∧ f.offset = k ∧ P.info? f.type = some inf ∧ inf.size ≠ 0
def Sz (P : Program) (t s : Nat) : Prop := ∃ i, P.info? t = some i ∧ i.size = s
def SlT (P : Program) (t e s bytes : Nat) : Prop := P.underlying t = some (.slice e) ∧ ∃ i z, P.info? e = some i ∧ i.size = s ∧ i.bytes = bytes ∧ i.zero = some z ∧ z.cells.size = s

section
variable {P : Program} {w : World}
theorem run_info {t : TypeId} {i : TypeInfo} (h : P.info? t = some i) : (typeInfo t).run P w = .ok i w := by
  simp [typeInfo, h]
theorem run_sizeOf {t : TypeId} {i : TypeInfo} (h : P.info? t = some i) : (sizeOf t).run P w = .ok i.size w := by
  simp [sizeOf, run_info h]
theorem run_zero {t : TypeId} {z : Value} (h : Zr P t z) : (zeroValue t).run P w = .ok z w := by
  obtain ⟨i, h1, h2⟩ := h
  simp [zeroValue, run_info h1, h2]
theorem run_isAgg_sc {t : TypeId} (h : Sc1 P t) : (isAgg t).run P w = .ok false w := by
  obtain ⟨ds, i, h1, h2, h3, _⟩ := h
  unfold isAgg
  rw [run_bind (run_underlying h1 w)]
  cases ds <;> first | exact (h2 _ rfl).elim | exact (h3 _ _ rfl).elim | rfl
theorem run_isAgg_ag {t : TypeId} {s : Nat} (h : Ag P t s) : (isAgg t).run P w = .ok true w := by
  obtain ⟨ds, i, h1, h2, _⟩ := h
  unfold isAgg
  rw [run_bind (run_underlying h1 w)]
  rcases h2 with ⟨fs, rfl⟩ | ⟨n, e, rfl⟩ <;> rfl

theorem run_load {a : Addr} {v : Value} (h : w.cell? a = some v) : (Go.load a).run P w = .ok v w := by
  simp [Go.load, Sem.run, h]

theorem run_loadCellsFrom {b o : Nat} : ∀ (n i : Nat) (acc : Array Value) (vs : List Value), vs.length = n → (∀ j v, vs[j]? = some v → w.cell? ⟨b, o + i + j, none⟩ = some v) →
    (loadCellsFrom ⟨b, o, none⟩ i n acc).run P w = .ok (acc ++ vs.toArray) w
  | 0, i, acc, vs, hl, h => by
    have : vs = [] := List.length_eq_zero_iff.1 hl
    subst this; simp [loadCellsFrom]
  | n + 1, i, acc, vs, hl, h => by
    match vs, hl with
    | v :: vs, hl =>
      unfold loadCellsFrom
      have ha : (⟨b, o, none⟩ : Addr).add i = ⟨b, o + i, none⟩ := by unfold Addr.add; split <;> simp_all
      rw [ha, run_bind (run_load (by simpa using h 0 v rfl))]
      rw [run_loadCellsFrom n (i + 1) (acc.push v) vs (by simpa using hl) (fun j u hu => by have := h (j + 1) u (by simpa using hu); rw [← this]; congr 2; omega)]
      simp

theorem run_loadCells {b o n : Nat} {vs : List Value} (hl : vs.length = n) (h : ∀ j v, vs[j]? = some v → w.cell? ⟨b, o + j, none⟩ = some v) :
    (loadCells ⟨b, o, none⟩ n).run P w = .ok vs.toArray w := by
  unfold loadCells
  rw [run_loadCellsFrom n 0 #[] vs hl (by simpa using h)]
  simp

theorem run_loadVar_sc {t : TypeId} {a : Addr} {v : Value} (ht : Sc1 P t) (h : w.cell? a = some v) : (loadVar t a).run P w = .ok v w := by
  unfold loadVar
  rw [run_bind (run_isAgg_sc ht)]
  exact run_load h
theorem run_loadVar_ag {t : TypeId} {s b o : Nat} {vs : List Value} (ht : Ag P t s) (hl : vs.length = s) (h : ∀ j v, vs[j]? = some v → w.cell? ⟨b, o + j, none⟩ = some v) :
    (loadVar t ⟨b, o, none⟩).run P w = .ok (.agg vs.toArray) w := by
  unfold loadVar
  rw [run_bind (run_isAgg_ag ht)]
  obtain ⟨ds, i, h1, h2, h3, h4⟩ := ht
  simp only [if_true]
  rw [run_bind (run_sizeOf h3), run_bind (run_loadCells (by rw [h4]; exact hl) h)]
  rfl
end

section
variable {P : Program} {ρ : Env} {H : List Res} {d : Option Tmp} {ty : TypeId} {pos : String} {af : Array Edge} {g : Option (Nat × Bool)}
variable {x y z : Operand} {u v : Value} {b off : Nat} {vs : List Value}

theorem FV.ld {t : TypeId} (h : LdD P ρ H t x v) : FV P ⟨d, .load t x, ty, pos, af, g⟩ ρ H v :=
  fun n a w ha hw => by
    simp only [execOp]
    rw [run_bind (h n a w ha hw)]; rfl

theorem LdD.sc {t o : Nat} (i k : Nat) (ht : Sc1 P t) (hx : ev ρ x = some (.pointer (some ⟨b, o, none⟩))) (hi : H[i]? = some (pt b off vs)) (ho : off + k = o) (hv : vs[k]? = some v) : LdD P ρ H t x v := by
  intro n a w ha hw
  obtain ⟨O, R, h1, _⟩ := hw.at hi
  rw [ha.ev hx]
  subst ho
  exact run_loadVar_sc ht (h1 k v hv).1

theorem LdD.ag {t o s : Nat} (i k : Nat) (ht : Ag P t s) (hx : ev ρ x = some (.pointer (some ⟨b, o, none⟩))) (hi : H[i]? = some (pt b off vs)) (ho : off + k = o)
    {us : List Value} (hv : (vs.drop k).take s = us) (hl : us.length = s) : LdD P ρ H t x (.agg us.toArray) := by
  intro n a w ha hw
  obtain ⟨O, R, h1, _⟩ := hw.at hi
  rw [ha.ev hx]
  subst ho
  refine run_loadVar_ag ht hl fun j v hj => ?_
  subst hv
  have hj' : j < s := by have := (List.getElem?_eq_some_iff.1 hj).1; rw [hl] at this; exact this
  rw [List.getElem?_take_of_lt hj', List.getElem?_drop] at hj
  have := (h1 (k + j) v hj).1
  rw [← this]; congr 2; omega

theorem Sep.persL {w : World} {R : Fp} : ∀ (rs : List Res), (∀ r, r ∈ rs → ∃ R', r.holds w none0 R' ∧ ∀ b i, R' b i → R b i) → ∃ R', Sep w rs none0 R' ∧ ∀ b i, R' b i → R b i
  | [], _ => ⟨none0, ⟨fun _ _ h => h, fun _ _ h => h⟩, fun _ _ h => h.elim⟩
  | r :: rs, h => by
    obtain ⟨R1, g1, g2⟩ := h r (by simp)
    obtain ⟨R2, k1, k2⟩ := Sep.persL rs fun s hs => h s (by simp [hs])
    exact ⟨fun b i => R1 b i ∨ R2 b i, ⟨none0, R1, none0, R2, g1, k1, fun _ _ h => h.elim, fun _ _ h => h.elim, fun _ _ => by simp [none0], fun _ _ => Iff.rfl⟩, fun b i hb => hb.elim (g2 b i) (k2 b i)⟩

theorem Holds.addPers {w : World} {rs H : List Res} {O R R' : Fp} (h : Sep w H O R) (hr : Sep w rs none0 R') (hd : ∀ b i, R' b i → ¬ O b i) : Holds (rs ++ H) w :=
  ⟨O, fun b i => R' b i ∨ R b i, Sep.append.2 ⟨none0, R', O, R, hr, h, fun _ _ h => h.elim, fun b i hb hb' => hd b i hb' hb, fun _ _ => by simp [none0], fun _ _ => Iff.rfl⟩⟩

/-- A resource is there, and nobody owns what it reads. -/
theorem Holds.atR {w : World} {H : List Res} {i : Nat} {r : Res} (hw : Holds H w) (hp : r.Pers) (hi : H[i]? = some r) :
    ∃ O R R1, Sep w H O R ∧ r.holds w none0 R1 ∧ ∀ b i, R1 b i → ¬ O b i := by
  obtain ⟨O, R, h⟩ := hw
  obtain ⟨O1, R1, O2, R2, h1, h2, d1, d2, eo, er⟩ := h.perm (perm_rem hi)
  have e1 : O1 = none0 := funext fun b => funext fun i => propext ⟨fun hb => (hp _ _ _ h1 b i hb).elim, fun hb => hb.elim⟩
  subst e1
  exact ⟨O, R, R1, h, h1, fun b i hb ho => ((eo b i).1 ho).elim (fun h => h) fun h => d2 b i h hb⟩

/-- An element of a slice that nobody writes. -/
theorem OpX.ldE {α : Type} {K : Kd α} {p : SP} {xs : List α} {e : α} {t k : Nat} (i j : Nat) (ht : (Sc1 P t ∧ K.sz = 1 ∧ ∀ q, (K.val e q).cells = #[K.val e q]) ∨ (Ag P t K.sz ∧ ∀ q, K.val e q = .agg (K.val e q).cells))
    (hx : ev ρ x = some (p.ptr k)) (hi : H[i]? = some (sl K p xs)) (hk : j * K.sz = k) (he : xs[j]? = some e) :
    OpX P ⟨d, .load t x, ty, pos, af, g⟩ ρ H (fun q => K.val e q) (fun q => K.inner e q ++ H) := by
  intro n a w ha hw next Q kk
  obtain ⟨O, R, R1, hs, ⟨h0, h1, h2, h3, h4⟩, hd⟩ := hw.atR (sl_pers K p xs) hi
  obtain ⟨b, o, e1, hr, q, hq⟩ := h4 j e he
  have hp : a.eval x = .pointer (some ⟨b, o + k, none⟩) := by rw [ha.ev hx]; simp [SP.ptr, SP.addr, e1]
  have hrun : (Instr.loadAt t (a.eval x)).run P w = .ok (K.val e q) w := by
    rw [hp]
    rcases ht with ⟨ht, hs, hc⟩ | ⟨ht, hc⟩
    · refine run_loadVar_sc ht ?_
      have := hq.1 0 (K.val e q) (by rw [hc]; rfl)
      rw [← this, ← hk]; rfl
    · have := run_loadVar_ag (P := P) (w := w) (b := b) (o := o + k) (vs := (K.val e q).cells.toList) ht (by rw [Array.length_toList, K.len]) (fun jj v hv => by
        have := hq.1 jj v (by simpa using hv)
        rw [← this, ← hk])
      rw [Array.toArray_toList, ← hc q] at this
      exact this
  have he2 : (execOp a.eval ⟨d, .load t x, ty, pos, af, g⟩).run P w = .ok (.value (K.val e q)) w := by
    simp only [execOp]
    rw [run_bind hrun]; rfl
  rw [he2]
  obtain ⟨R', g1, g2⟩ := Sep.persL _ hq.2
  exact kk q w (Holds.addPers hs g1 fun b i hb => hd b i (g2 b i hb))
/-- Cells that nobody writes, k behind a slice's begin. -/
def roH (p : SP) (k : Nat) (vs : List Value) (w : World) (O R : Fp) : Prop :=
  (∀ b i, ¬ O b i) ∧ ∃ b o, p.a = some (b, o) ∧ (∀ i v, vs[i]? = some v → w.cell? ⟨b, o + k + i, none⟩ = some v) ∧ ∀ c i, R c i ↔ c = b ∧ o + k ≤ i ∧ i < o + k + vs.length
def ro (p : SP) (k : Nat) (vs : List Value) : Res where
  holds := roH p k vs
  loc := by
    rintro w w' O R ⟨h0, b, o, h1, h2, h3⟩ ha
    refine ⟨h0, b, o, h1, fun i v hv => ?_, h3⟩
    have hi : i < vs.length := (List.getElem?_eq_some_iff.1 hv).1
    rw [ha.ro b (o + k + i) ((h3 _ _).2 ⟨rfl, by omega, by omega⟩)]; exact h2 i v hv
  bd := by
    rintro w O R ⟨h0, b, o, h1, h2, h3⟩ c i hc
    rcases hc with hc | hc
    · exact (h0 c i hc).elim
    · obtain ⟨rfl, h4, h5⟩ := (h3 c i).1 hc
      have hi : i - (o + k) < vs.length := by omega
      exact cell_lt (h2 _ _ (List.getElem?_eq_getElem hi))
  rd := by
    rintro w O R ⟨h0, b, o, h1, h2, h3⟩ c i hc
    obtain ⟨rfl, h4, h5⟩ := (h3 c i).1 hc
    have hi : i - (o + k) < vs.length := by omega
    have := h2 _ _ (List.getElem?_eq_getElem hi)
    rw [show o + k + (i - (o + k)) = i from by omega] at this
    rw [this]; rfl
theorem ro_pers (p : SP) (k : Nat) (vs : List Value) : (ro p k vs).Pers := fun _ _ _ h => h.1

/-- An element, laid open. -/
theorem Holds.elt {α : Type} {K : Kd α} {p : SP} {xs : List α} {e : α} {w : World} (i j : Nat) (hw : Holds H w) (hi : H[i]? = some (sl K p xs)) (he : xs[j]? = some e) : ∃ q, Holds (ro p (j * K.sz) (K.val e q).cells.toList :: (K.inner e q ++ H)) w := by
  obtain ⟨O, R, R1, hs, ⟨h0, h1, h2, h3, h4⟩, hd⟩ := hw.atR (sl_pers K p xs) hi
  obtain ⟨b, o, e1, hr, q, hq⟩ := h4 j e he
  obtain ⟨R', g1, g2⟩ := Sep.persL _ hq.2
  have hro : (ro p (j * K.sz) (K.val e q).cells.toList).holds w none0 (fun c l => c = b ∧ o + j * K.sz ≤ l ∧ l < o + j * K.sz + (K.val e q).cells.toList.length) :=
    ⟨fun _ _ h => h, b, o, e1, fun l v hv => hq.1 l v (by simpa using hv), fun _ _ => Iff.rfl⟩
  have hall : Sep w (ro p (j * K.sz) (K.val e q).cells.toList :: K.inner e q) none0 (fun c l => (c = b ∧ o + j * K.sz ≤ l ∧ l < o + j * K.sz + (K.val e q).cells.toList.length) ∨ R' c l) :=
    ⟨none0, _, none0, R', hro, g1, fun _ _ h => h.elim, fun _ _ h => h.elim, fun _ _ => by simp [none0], fun _ _ => Iff.rfl⟩
  refine ⟨q, Holds.addPers hs hall fun c l hb => hd c l ?_⟩
  rcases hb with ⟨rfl, h5, h6⟩ | hb
  · rw [Array.length_toList, K.len] at h6
    have := hr (l - (o + j * K.sz)) (by omega)
    rw [show o + j * K.sz + (l - (o + j * K.sz)) = l from by omega] at this
    exact this
  · exact g2 c l hb
theorem WL.elt {α : Type} {K : Kd α} {p : SP} {xs : List α} {e : α} {n : Nat} {ops : Array Oper} {Q : Exit → Act → World → Prop} {l : List Oper} (i j : Nat) (hi : H[i]? = some (sl K p xs)) (he : xs[j]? = some e)
    (k : ∀ q, WL P n ops Q l ρ (ro p (j * K.sz) (K.val e q).cells.toList :: (K.inner e q ++ H))) : WL P n ops Q l ρ H := fun a w ha hw => let ⟨q, h⟩ := hw.elt i j hi he; k q a w ha h
theorem W.elt {α : Type} {K : Kd α} {p : SP} {xs : List α} {e : α} {n : Nat} {Q : Exit → Act → World → Prop} {c : Code} (i j : Nat) (hi : H[i]? = some (sl K p xs)) (he : xs[j]? = some e)
    (k : ∀ q, W P n c Q ρ (ro p (j * K.sz) (K.val e q).cells.toList :: (K.inner e q ++ H))) : W P n c Q ρ H := fun a w ha hw => let ⟨q, h⟩ := hw.elt i j hi he; k q a w ha h

theorem LdD.ro {t k : Nat} {p : SP} (i m : Nat) {o : Nat} (ht : Sc1 P t) (hx : ev ρ x = some (p.ptr o)) (hi : H[i]? = some (Sl.ro p k vs)) (ho : k + m = o) (hv : vs[m]? = some v) : LdD P ρ H t x v := by
  intro n a w ha hw
  obtain ⟨O, R, h0, b, o', h1, h2, h3⟩ := hw.at hi
  have hp : a.eval x = .pointer (some ⟨b, o' + o, none⟩) := by rw [ha.ev hx]; simp [SP.ptr, SP.addr, h1]
  rw [hp]
  subst ho
  refine run_loadVar_sc ht ?_
  rw [← Nat.add_assoc]; exact h2 m v hv
theorem LdD.roA {t k s : Nat} {p : SP} (i m : Nat) {o : Nat} (ht : Ag P t s) (hx : ev ρ x = some (p.ptr o)) (hi : H[i]? = some (Sl.ro p k vs)) (ho : k + m = o) {us : List Value} (hv : (vs.drop m).take s = us) (hl : us.length = s) : LdD P ρ H t x (.agg us.toArray) := by
  intro n a w ha hw
  obtain ⟨O, R, h0, b, o', h1, h2, h3⟩ := hw.at hi
  have hp : a.eval x = .pointer (some ⟨b, o' + o, none⟩) := by rw [ha.ev hx]; simp [SP.ptr, SP.addr, h1]
  rw [hp]
  subst ho
  refine run_loadVar_ag ht hl fun j v hj => ?_
  subst hv
  have hj' : j < s := by have := (List.getElem?_eq_some_iff.1 hj).1; rw [hl] at this; exact this
  rw [List.getElem?_take_of_lt hj', List.getElem?_drop] at hj
  have := h2 (m + j) v hj
  rw [← this]; congr 2; omega
end
end Go.Sl
/-! Stores, new variables, fields, calls. -/
namespace Go.Sl
open Go

theorem lookO_setCell_ne {w : World} {b o : Nat} {v : Value} {c j : Nat} (h : ¬ (c = b ∧ j = o)) : lookO (w.setCell ⟨b, o, none⟩ v) c j = lookO w c j := by
  unfold lookO
  refine Prod.ext ?_ (Prod.ext ?_ (Prod.ext ?_ rfl))
  · exact World.cell?_setCell_other w ⟨b, o, none⟩ ⟨c, j, none⟩ v (fun e => h (by cases e; exact ⟨rfl, rfl⟩))
  · exact World.frozen?_setCell ..
  · show (match (w.setCell ⟨b, o, none⟩ v).heap[c]? with | some (.cells c t f) => some (Obj.cells #[] t (if c.size ≤ j then f else (0, 0))) | o => o) = (match w.heap[c]? with | some (.cells c t f) => some (Obj.cells #[] t (if c.size ≤ j then f else (0, 0))) | o => o)
    by_cases e : c = b
    · subst e
      simp only [World.setCell, Array.getElem?_modify, if_true]
      cases w.heap[c]? with
      | none => rfl
      | some ob => cases ob <;> simp
    · rw [heap_setCell_other w ⟨b, o, none⟩ c v e]

theorem Trans.store {w : World} {b off k : Nat} {vs : List Value} {v : Value} (hk : k < vs.length) : Trans w (w.setCell ⟨b, off + k, none⟩ v) [pt b off vs] [pt b off (vs.set k v)] := by
  rintro O R ⟨O1, R1, O2, R2, ⟨h1, h2, h3⟩, hn, d1, d2, eo, er⟩
  have hc : w.cell? ⟨b, off + k, none⟩ = some (vs[k]) := (h1 k _ (List.getElem?_eq_getElem hk)).1
  refine ⟨O, R, ⟨O1, R1, O2, R2, ⟨?_, ?_, h3⟩, hn, d1, d2, eo, er⟩, fun _ _ h => .inl h, fun _ _ h => .inr (.inl h), ?_⟩
  · intro i u hu
    have hi : i < vs.length := by have := (List.getElem?_eq_some_iff.1 hu).1; simpa using this
    refine ⟨?_, ?_⟩
    · by_cases e : i = k
      · subst e
        rw [List.getElem?_set_self hi] at hu
        rw [World.cell?_setCell_same _ _ _ hc]; exact hu
      · rw [List.getElem?_set_ne (fun h => e h.symm)] at hu
        rw [World.cell?_setCell_other _ _ _ _ (by intro h; have := congrArg Addr.off h; simp at this; omega)]
        exact (h1 i u hu).1
    · rw [World.frozen?_setCell]
      exact (h1 i _ (List.getElem?_eq_getElem hi)).2
  · intro c j; rw [h2, List.length_set]
  · intro c j hlt hn
    refine lookO_setCell_ne fun e => hn ((eo c j).2 (.inl ((h2 c j).2 ⟨e.1, by omega, by omega⟩)))

theorem Holds.setR {w w' : World} {H : List Res} {i : Nat} {r r' : Res} (hw : Holds H w) (hi : H[i]? = some r) (ht : Trans w w' [r] [r']) : Holds (setR H i r') w' :=
  (Holds.trans (A := [r]) (B := [r']) (F := rem H i) ht (hw.pick hi)).perm (perm_setR hi)

theorem lookO_alloc {w : World} {o : Obj} {c j : Nat} (h : c < w.heap.size) : lookO (w.alloc o) c j = lookO w c j := by
  unfold lookO
  have hh : (w.alloc o).heap[c]? = w.heap[c]? := heap_alloc_old w o h
  simp only [World.cell?, World.frozen?, hh]; rfl

theorem Trans.new {w : World} {cs : Array Value} {t : TypeId} : Trans w (w.alloc (.cells cs t)) [] [pt w.heap.size 0 cs.toList] := by
  rintro O R ⟨ho, hr⟩
  refine ⟨fun c j => c = w.heap.size ∧ j < cs.size, none0, ⟨fun c j => c = w.heap.size ∧ j < cs.size, none0, none0, none0, ⟨fun i v hv => ?_, fun c j => by simp, fun _ _ h => h⟩, ⟨fun _ _ h => h, fun _ _ h => h⟩,
    fun _ _ _ => ⟨fun h => h, fun h => h⟩, fun _ _ h => h.elim, fun _ _ => by simp [none0], fun _ _ => by simp [none0]⟩, fun b j hb => .inr (by omega), fun _ _ h => h.elim, fun b j hlt _ => lookO_alloc hlt⟩
  rw [Nat.zero_add]
  exact ⟨by rw [World.cell?_alloc_new]; simpa using hv, by rw [World.frozen?_alloc_new]⟩

theorem run_store1 {P : Program} {w : World} {b o : Nat} {u v : Value} (hc : w.cell? ⟨b, o, none⟩ = some u) (hf : w.frozen? ⟨b, o, none⟩ = false) (hv : NA v) :
    (Go.store ⟨b, o, none⟩ v).run P w = .ok () (w.setCell ⟨b, o, none⟩ v) := by
  obtain ⟨_, h1, h2⟩ := hv
  unfold Go.store
  cases v <;> first | exact (h1 _ rfl).elim | exact (h2 _ rfl).elim | simp [Sem.run, hc, hf]

theorem addr_add (b o n : Nat) : (⟨b, o, none⟩ : Addr).add n = ⟨b, o + n, none⟩ := by unfold Addr.add; split <;> simp_all

/-- The cells from k on take these values. -/
def setL : List Value → Nat → List Value → List Value
  | vs, _, [] => vs
  | vs, k, u :: us => setL (vs.set k u) (k + 1) us

theorem length_setL : ∀ (us vs : List Value) (k : Nat), (setL vs k us).length = vs.length
  | [], vs, k => rfl
  | u :: us, vs, k => by rw [setL, length_setL, List.length_set]

theorem run_storeCells {P : Program} {b off : Nat} {F : List Res} {o : Nat} : ∀ (us vs : List Value) (k i : Nat) (w : World), Holds (pt b off vs :: F) w → k + us.length ≤ vs.length → (∀ u, u ∈ us → NA u) → o + i = off + k →
    ∃ w', (storeCells ⟨b, o, none⟩ us i).run P w = .ok () w' ∧ Holds (pt b off (setL vs k us) :: F) w'
  | [], vs, k, i, w, hw, _, _, _ => ⟨w, rfl, hw⟩
  | u :: us, vs, k, i, w, hw, hl, hn, ho => by
    simp only [List.length_cons] at hl
    have hk : k < vs.length := by omega
    obtain ⟨O, R, h1, h2, h3⟩ := hw.at (i := 0) rfl
    have hc := h1 k _ (List.getElem?_eq_getElem hk)
    have hs := run_store1 (P := P) hc.1 hc.2 (hn u (by simp))
    have hw2 : Holds (pt b off (vs.set k u) :: F) (w.setCell ⟨b, off + k, none⟩ u) := Holds.trans (A := [pt b off vs]) (B := [pt b off (vs.set k u)]) (Trans.store hk) hw
    obtain ⟨w', g1, g2⟩ := run_storeCells us (vs.set k u) (k + 1) (i + 1) _ hw2 (by rw [List.length_set]; omega) (fun v hv => hn v (by simp [hv])) (by omega : o + (i + 1) = off + (k + 1))
    refine ⟨w', ?_, g2⟩
    unfold storeCells
    rw [addr_add, ho, run_bind hs]
    exact g1

section
variable {P : Program} {ρ : Env} {H : List Res} {d : Option Tmp} {ty : TypeId} {pos : String} {af : Array Edge} {g : Option (Nat × Bool)}
variable {x y z : Operand} {u v : Value} {b off : Nat} {vs : List Value}

theorem run_storeVar {t : TypeId} {b off k o : Nat} {vs : List Value} {F : List Res} {v : Value} {s : Nat} {w : World} (hs : Sz P t s) (hv : v.cells.size = s) (hw : Holds (pt b off vs :: F) w) (hk : k + s ≤ vs.length)
    (hn : ∀ u, u ∈ v.cells.toList → NA u) (ho : off + k = o) : ∃ w', (storeVar t ⟨b, o, none⟩ v).run P w = .ok () w' ∧ Holds (pt b off (setL vs k v.cells.toList) :: F) w' := by
  obtain ⟨i, h1, h2⟩ := hs
  obtain ⟨w', g1, g2⟩ := run_storeCells (P := P) (o := o) v.cells.toList vs k 0 w hw (by simpa [hv] using hk) hn (by omega)
  refine ⟨w', ?_, g2⟩
  unfold storeVar
  rw [run_bind (run_sizeOf h1)]
  rw [if_neg (by rw [h2, hv]; exact fun h => h rfl)]
  exact g1

/-- A store. -/
theorem OpD.st {t o s : Nat} (i k : Nat) (hs : Sz P t s) (hx : ev ρ x = some (.pointer (some ⟨b, o, none⟩))) (hi : H[i]? = some (pt b off vs)) (ho : off + k = o) (hy : ev ρ y = some v) (hk : Nat.ble (k + s) vs.length = true)
    (hv : v.cells.size = s) (hn : ∀ u, u ∈ v.cells.toList → NA u) :
    OpD P ⟨d, .store t x y, ty, pos, af, g⟩ ρ H undef (setR H i (pt b off (setL vs k v.cells.toList))) := by
  intro n a w ha hw next Q kk
  obtain ⟨w', g1, g2⟩ := run_storeVar (P := P) hs hv (hw.pick hi) (Nat.le_of_ble_eq_true hk) hn ho
  have : (execOp a.eval ⟨d, .store t x y, ty, pos, af, g⟩).run P w = .ok .skip w' := by
    simp only [execOp, ha.ev hx, ha.ev hy, Instr.storeAt, Instr.sureAddr]
    rw [pure_bind, run_bind g1]; rfl
  rw [this]
  exact kk () w' (g2.perm (perm_setR hi))

theorem run_newVar {t : TypeId} {v : Value} {w : World} : (newVar t v).run P w = .ok ⟨w.heap.size, 0, none⟩ (w.alloc (.cells v.cells t)) := by
  rfl

/-- A new variable. -/
theorem OpX.alloc {t : TypeId} {zv : Value} (hz : Zr P t zv) : OpX P ⟨d, .alloc t, ty, pos, af, g⟩ ρ H (fun b => .pointer (some ⟨b, 0, none⟩)) (fun b => pt b 0 zv.cells.toList :: H) := by
  intro n a w ha hw next Q kk
  have : (execOp a.eval ⟨d, .alloc t, ty, pos, af, g⟩).run P w = .ok (.value (.pointer (some ⟨w.heap.size, 0, none⟩))) (w.alloc (.cells zv.cells t)) := by
    simp only [execOp, Instr.alloc]
    rw [bind_assoc, run_bind (run_zero hz)]
    simp only [bind_assoc]
    rw [run_bind (run_newVar (P := P) (t := t) (v := zv) (w := w))]; rfl
  rw [this]
  exact kk _ _ (Holds.trans (A := []) Trans.new hw)
theorem OpX.box {t : TypeId} (hx : ev ρ x = some v) : OpX P ⟨d, .box t x, ty, pos, af, g⟩ ρ H (fun b => .pointer (some ⟨b, 0, none⟩)) (fun b => pt b 0 v.cells.toList :: H) := by
  intro n a w ha hw next Q kk
  have : (execOp a.eval ⟨d, .box t x, ty, pos, af, g⟩).run P w = .ok (.value (.pointer (some ⟨w.heap.size, 0, none⟩))) (w.alloc (.cells v.cells t)) := by
    simp only [execOp, Instr.box, ha.ev hx]
    rw [bind_assoc, run_bind (run_newVar (P := P) (t := t) (v := v) (w := w))]; rfl
  rw [this]
  exact kk _ _ (Holds.trans (A := []) Trans.new hw)

/-- A field's address. -/
theorem PV.fa {T i k o o' : Nat} (hf : FO P T i k) (hx : ev ρ x = some (.pointer (some ⟨b, o, none⟩))) (ho : o + k = o') : PV P ⟨d, .fieldAddr T x i, ty, pos, af, g⟩ ρ (.pointer (some ⟨b, o', none⟩)) :=
  fun n a w ha => by
    obtain ⟨fs, f, inf, h1, h2, h3, h4, h5⟩ := hf
    subst ho
    simp only [execOp, ha.ev hx, Instr.fieldAt]
    rw [bind_assoc, run_bind (run_underlying h1 w)]
    simp only [h2, Instr.sureAddr, pure_bind, fieldPlace]
    rw [bind_assoc, bind_assoc, run_bind (run_sizeOf h4)]
    simp [h5, addr_add, h3]

/-- A field's address in an element. -/
theorem PV.faE {T i k o o' : Nat} {p : SP} {ad : Nat × Nat} (hf : FO P T i k) (hx : ev ρ x = some (p.ptr o)) (hp : p.a = some ad) (ho : o + k = o') : PV P ⟨d, .fieldAddr T x i, ty, pos, af, g⟩ ρ (p.ptr o') := by
  have e1 : p.ptr o = .pointer (some ⟨ad.1, ad.2 + o, none⟩) := by simp [SP.ptr, SP.addr, hp]
  have e2 : p.ptr o' = .pointer (some ⟨ad.1, ad.2 + o', none⟩) := by simp [SP.ptr, SP.addr, hp]
  rw [e2]
  rw [e1] at hx
  exact PV.fa hf hx (by omega)

/-- A function of the program, with a body. -/
def Cb (P : Program) (f : FuncId) : Prop := ∃ fn, P.funcs[f]? = some fn ∧ (fn.name == "runtime.NumGoroutine") = false ∧ fn.body.isNone = false

theorem run_callFunc {f : FuncId} {args : Array Value} {w : World} (hc : Cb P f) : (callFunc f args).run P w = .ok (.enter f args) w := by
  obtain ⟨fn, h1, h2, h3⟩ := hc
  unfold callFunc
  have h4 : ¬ fn.name = "runtime.NumGoroutine" := by simpa using h2
  have h5 : ¬ fn.body = none := by intro h; rw [h] at h3; cases h3
  simp [h1, h4, h5]

/-- A call, by its contract. -/
theorem OpX.call {f : FuncId} {asx : Array Operand} {ts : Array TypeId} {args : List Value} {X : Type} {vx : X → Value} {Hin F : List Res} {Hout : X → List Res} {is : List Nat}
    (hc : Cb P f) (hs : Spec P f args Hin vx Hout) (ha : evs ρ asx.toList = some args) (hp : Pk is H Hin F) :
    OpX P ⟨d, .call ⟨.value (.func f), asx, ts⟩, ty, pos, af, g⟩ ρ H vx (fun x => Hout x ++ F) := by
  intro n a w hA hw next Q kk
  have e1 : asx.map a.eval = args.toArray := by apply Array.ext'; simp [hA.evs ha]
  have : (execOp a.eval ⟨d, .call ⟨.value (.func f), asx, ts⟩, ty, pos, af, g⟩).run P w = .ok (.enter f args.toArray) w := by
    simp only [execOp, resolve, Act.eval, Deferred.ofValue, e1, pure_bind, invoke, Array.append_empty, Array.empty_append]
    exact run_callFunc hc
  rw [this]
  show Calls P f args.toArray w _
  refine (hs F w (hw.perm hp.perm)).mono ?_
  rintro e w' ⟨x, rfl, hx⟩
  exact kk x w' hx

/-- A call through a function value. -/
theorem OpX.callV {f : FuncId} {q : Operand} {asx : Array Operand} {ts : Array TypeId} {args : List Value} {c1 c2 : Array Value} {X : Type} {vx : X → Value} {Hin F : List Res} {Hout : X → List Res} {is : List Nat}
    (hc : Cb P f) (hq : ev ρ q = some (.func (.func f) c1 c2)) (hs : Spec P f (c1.toList ++ args ++ c2.toList) Hin vx Hout) (ha : evs ρ asx.toList = some args) (hp : Pk is H Hin F) :
    OpX P ⟨d, .call ⟨.value q, asx, ts⟩, ty, pos, af, g⟩ ρ H vx (fun x => Hout x ++ F) := by
  intro n a w hA hw next Q kk
  have e1 : asx.map a.eval = args.toArray := by apply Array.ext'; simp [hA.evs ha]
  have : (execOp a.eval ⟨d, .call ⟨.value q, asx, ts⟩, ty, pos, af, g⟩).run P w = .ok (.enter f (c1.toList ++ args ++ c2.toList).toArray) w := by
    simp only [execOp, resolve, hA.ev hq, Deferred.ofValue, e1, pure_bind, invoke]
    rw [run_callFunc hc]; congr 2; apply Array.ext'; simp
  rw [this]
  show Calls P f _ w _
  refine (hs F w (hw.perm hp.perm)).mono ?_
  rintro e w' ⟨x, rfl, hx⟩
  exact kk x w' hx
end
end Go.Sl
/-! Slices: addresses of elements, cuts, appends, conversions. -/
namespace Go.Sl
open Go

theorem addr_addS (p : SP) (k m : Nat) : (p.addr k).map (·.add m) = p.addr (k + m) := by
  cases h : p.a <;> simp [SP.addr, h, addr_add, Nat.add_assoc]

theorem SP.addr_some {p : SP} {b o k : Nat} (h : p.a = some (b, o)) : p.addr k = some ⟨b, o + k, none⟩ := by simp [SP.addr, h]

/-- x[l:] and x[l:h:m]: where they begin. -/
def SP.cut (p : SP) (sz l m : Nat) : SP := ⟨if m = l then p.a else p.a.map fun x => (x.1, x.2 + l * sz), m - l⟩

theorem SP.cut_v (p : SP) (sz l m n : Nat) : (p.cut sz l m).v n = .slice (if m = l then p.addr 0 else (p.addr 0).map (·.add (l * sz))) n (m - l) := by
  unfold SP.cut SP.v SP.addr
  by_cases h : m = l
  · simp [h]
  · cases hp : p.a <;> simp [h, addr_add]

theorem run_v {P : Program} {s : Sem Value} {v : Value} {w w' : World} (h : s.run P w = .ok v w') : (s >>= fun x => pure (Next.value x) : Sem Next).run P w = .ok (.value v) w' := by
  rw [run_bind h]; rfl

section
variable {P : Program} {ρ : Env} {H : List Res} {d : Option Tmp} {ty : TypeId} {pos : String} {af : Array Edge} {g : Option (Nat × Bool)}
variable {x y z : Operand} {u v : Value} {b off : Nat} {vs : List Value}

theorem PV.ix {t e s k n : Nat} {p : SP} {i : Int} {kk : IntKind} (hp : n ≤ p.c ∧ (p.a = none → p.c = 0)) (ht : P.underlying t = some (.slice e)) (hs : Sz P e s) (hx : ev ρ x = some (p.v n)) (hy : ev ρ y = some (.int kk i)) (h0 : 0 ≤ i) (h1 : i < n)
    (hk : i.toNat * s = k) : PV P ⟨d, .indexAddr t x y, ty, pos, af, g⟩ ρ (p.ptr k) :=
  fun _ a w ha => by
    obtain ⟨inf, h3, h4⟩ := hs
    have he : execOp a.eval ⟨d, .indexAddr t x y, ty, pos, af, g⟩ = (Instr.indexAt t (p.v n) (.int kk i) >>= fun x => pure (Next.value x)) := by
      simp only [execOp, ha.ev hx, ha.ev hy]
    rw [he]
    refine run_v ?_
    unfold Instr.indexAt
    simp only [asIntOf, pure_bind, SP.v]
    rw [run_bind (run_underlying ht w)]
    cases hpa : p.a with
    | none => have := hp.2 hpa; omega
    | some ad =>
      simp only [SP.addr, hpa, Option.map_some]
      rw [run_bind (run_underlying ht w)]
      simp only [h0, h1, and_self, if_true]
      rw [run_bind (run_sizeOf h3)]
      simp [addr_add, h4, hk, SP.ptr, SP.addr, hpa]

/-- x[lo:hi] of a slice. -/
theorem PV.cutL {t e s n : Nat} {p : SP} {lo hi : Option Operand} {l h : Int} (ht : P.underlying t = some (.slice e)) (hs : Sz P e s) (hx : ev ρ x = some (p.v n))
    (hl : match lo with | some q => ev ρ q = some (.int .i64 l) | none => l = 0) (hh : match hi with | some q => ev ρ q = some (.int .i64 h) | none => h = n)
    (h0 : 0 ≤ l) (h1 : l ≤ h) (h2 : h ≤ p.c) :
    PV P ⟨d, .slice t x lo hi none, ty, pos, af, g⟩ ρ ((p.cut s l.toNat p.c).v (h.toNat - l.toNat)) :=
  fun _ a w ha => by
    obtain ⟨inf, h3, h4⟩ := hs
    rw [SP.cut_v]
    have hb : (Instr.sliceBounds true n p.c (lo.map a.eval) (hi.map a.eval) none).run P w = .ok (l.toNat, h.toNat, p.c) w := by
      cases lo <;> cases hi
      · subst hl; subst hh; simp [Instr.sliceBounds]
      · subst hl; simp [Instr.sliceBounds, Instr.sliceBound, ha.ev hh, asIntOf, h1, h2]
      · subst hh; simp [Instr.sliceBounds, Instr.sliceBound, ha.ev hl, asIntOf, h0, h1]
      · have hht : (h.toNat : Int) = h := Int.toNat_of_nonneg (by omega)
        simp [Instr.sliceBounds, Instr.sliceBound, ha.ev hl, ha.ev hh, asIntOf, h0, h1, h2, hht, Int.le_trans h0 h1]
    have he : execOp a.eval ⟨d, .slice t x lo hi none, ty, pos, af, g⟩ = (Instr.sliceAt t (p.v n) (lo.map a.eval) (hi.map a.eval) none >>= fun x => pure (Next.value x)) := by
      simp only [execOp, ha.ev hx, Option.map_none]
    rw [he]
    refine run_v ?_
    unfold Instr.sliceAt
    rw [run_bind (run_underlying ht w)]
    simp only [Instr.slice, SP.v]
    rw [run_bind (run_underlying ht w)]
    simp only
    rw [run_bind hb]
    simp only
    rw [run_bind (run_sizeOf h3), h4]
    rfl
/-- x[lo:hi:max] of a slice. -/
theorem PV.cutM {t e s n : Nat} {p : SP} {lo : Option Operand} {qh qm : Operand} {l h m : Int} (ht : P.underlying t = some (.slice e)) (hs : Sz P e s) (hx : ev ρ x = some (p.v n))
    (hl : match lo with | some q => ev ρ q = some (.int .i64 l) | none => l = 0) (hh : ev ρ qh = some (.int .i64 h)) (hm : ev ρ qm = some (.int .i64 m))
    (h0 : 0 ≤ l) (h1 : l ≤ h) (h2 : h ≤ m) (h3 : m ≤ p.c) :
    PV P ⟨d, .slice t x lo (some qh) (some qm), ty, pos, af, g⟩ ρ ((p.cut s l.toNat m.toNat).v (h.toNat - l.toNat)) :=
  fun _ a w ha => by
    obtain ⟨inf, h4, h5⟩ := hs
    rw [SP.cut_v]
    have hht : (h.toNat : Int) = h := Int.toNat_of_nonneg (by omega)
    have hmt : (m.toNat : Int) = m := Int.toNat_of_nonneg (by omega)
    have hb : (Instr.sliceBounds true n p.c (lo.map a.eval) (some (a.eval qh)) (some (a.eval qm))).run P w = .ok (l.toNat, h.toNat, m.toNat) w := by
      cases lo
      · subst hl; simp [Instr.sliceBounds, Instr.sliceBound, ha.ev hh, ha.ev hm, asIntOf, hmt, h1, h2, h3, show 0 ≤ m from by omega]
      · simp [Instr.sliceBounds, Instr.sliceBound, ha.ev hl, ha.ev hh, ha.ev hm, asIntOf, h0, h1, h2, h3, hht, hmt, Int.le_trans h0 h1, show 0 ≤ m from by omega]
    have he : execOp a.eval ⟨d, .slice t x lo (some qh) (some qm), ty, pos, af, g⟩ = (Instr.sliceAt t (p.v n) (lo.map a.eval) (some (a.eval qh)) (some (a.eval qm)) >>= fun x => pure (Next.value x)) := by
      simp only [execOp, ha.ev hx, Option.map_some]
    rw [he]
    refine run_v ?_
    unfold Instr.sliceAt
    rw [run_bind (run_underlying ht w)]
    simp only [Instr.slice, SP.v]
    rw [run_bind (run_underlying ht w)]
    simp only
    rw [run_bind hb]
    simp only
    rw [run_bind (run_sizeOf h4), h5]
    rfl
end

theorem sl_bound {α : Type} {K : Kd α} {p : SP} {xs : List α} {w : World} {O R : Fp} (h : slH K p xs w O R) : xs.length ≤ p.c ∧ (p.a = none → p.c = 0) := ⟨h.2.2.1, h.2.1⟩

/-- What a list of resources says of the world-less. -/
theorem WL.fact {P : Program} {n : Nat} {ops : Array Oper} {Q : Exit → Act → World → Prop} {l : List Oper} {ρ : Env} {H : List Res} {φ : Prop} (h : ∀ w, Holds H w → φ) (k : φ → WL P n ops Q l ρ H) : WL P n ops Q l ρ H :=
  fun a w ha hw => k (h w hw) a w ha hw
theorem W.fact {P : Program} {n : Nat} {c : Code} {Q : Exit → Act → World → Prop} {ρ : Env} {H : List Res} {φ : Prop} (h : ∀ w, Holds H w → φ) (k : φ → W P n c Q ρ H) : W P n c Q ρ H :=
  fun a w ha hw => k (h w hw) a w ha hw
theorem sl_fact {α : Type} {K : Kd α} {p : SP} {xs : List α} {H : List Res} (i : Nat) (hi : H[i]? = some (sl K p xs)) : ∀ w, Holds H w → xs.length ≤ p.c ∧ (p.a = none → p.c = 0) :=
  fun _ hw => let ⟨_, _, h⟩ := hw.at hi; sl_bound h
theorem own_fact {α : Type} {K : Kd α} {p : SP} {xs : List α} {H : List Res} (i : Nat) (hi : H[i]? = some (own K p xs)) : ∀ w, Holds H w → xs.length ≤ p.c ∧ (p.a = none → p.c = 0) :=
  fun _ hw => let ⟨_, _, h⟩ := hw.at hi; ⟨h.2.1, h.1⟩

/-- A cut of a slice reads asx a cut of its list. -/
theorem Ent.cut {α : Type} (K : Kd α) (p : SP) (xs : List α) (l m n : Nat) (hm : m ≤ p.c) (hn : l + n ≤ m) : Ent [sl K p xs] [sl K (p.cut K.sz l m) ((xs.drop l).take n)] := by
  rintro w O R ⟨O1, R1, O2, R2, ⟨h0, h1, h2, h3, h4⟩, hn', d1, d2, eo, er⟩
  refine ⟨O, R, ⟨O1, R1, O2, R2, ⟨h0, ?_, ?_, h3, ?_⟩, hn', d1, d2, eo, er⟩, fun _ _ h => h, fun _ _ h => .inr h⟩
  · intro hc
    unfold SP.cut at hc ⊢
    by_cases e : m = l
    · simp [e]
    · cases hp : p.a <;> simp_all
  · show ((xs.drop l).take n).length ≤ m - l
    simp; omega
  · intro i x hx
    have hlt : i < n := by have := (List.getElem?_eq_some_iff.1 hx).1; simp at this; omega
    rw [List.getElem?_take_of_lt hlt, List.getElem?_drop] at hx
    obtain ⟨b, o, e, hr, q, hq⟩ := h4 (l + i) x hx
    have hne : ¬ m = l := by omega
    have e1 : o + l * K.sz + i * K.sz = o + (l + i) * K.sz := by rw [Nat.add_mul]; omega
    refine ⟨b, o + l * K.sz, by simp [SP.cut, hne, e], fun j hj => by rw [e1]; exact hr j hj, q, by rw [e1]; exact hq⟩

/-- x[l:]: what lies behind it is still free. -/
theorem Ent.cut_tl (sz : Nat) (p : SP) (l n : Nat) (hl : l ≤ n) (hn : n ≤ p.c) : Ent [tl sz p n] [tl sz (p.cut sz l p.c) (n - l)] := by
  rintro w O R ⟨O1, R1, O2, R2, ⟨h0, h1, h2, h3, h4⟩, hn', d1, d2, eo, er⟩
  refine ⟨O, R, ⟨O1, R1, O2, R2, ⟨h0, ?_, ?_, ?_, h4⟩, hn', d1, d2, eo, er⟩, fun _ _ h => h, fun _ _ h => .inr h⟩
  · intro hc
    unfold SP.cut at hc ⊢
    by_cases e : p.c = l
    · simp [e]
    · cases hp : p.a <;> simp_all
  · show n - l ≤ p.c - l; omega
  · intro b i
    rw [h3]
    show _ ↔ ∃ o, (SP.cut p sz l p.c).a = some (b, o) ∧ o + (n - l) * sz ≤ i ∧ i < o + (p.c - l) * sz
    have g1 : (n - l) * sz = n * sz - l * sz := Nat.sub_mul ..
    have g2 : (p.c - l) * sz = p.c * sz - l * sz := Nat.sub_mul ..
    have g3 : l * sz ≤ n * sz := Nat.mul_le_mul_right _ hl
    have g4 : n * sz ≤ p.c * sz := Nat.mul_le_mul_right _ hn
    by_cases e : p.c = l
    · have : n = l := by omega
      subst this
      simp only [SP.cut, e, if_true]
      constructor
      · rintro ⟨o, a1, a2, a3⟩; omega
      · rintro ⟨o, a1, a2, a3⟩; simp at a3; omega
    · simp only [SP.cut, e, if_false]
      constructor
      · rintro ⟨o, a1, a2, a3⟩; exact ⟨o + l * sz, by simp [a1], by omega, by omega⟩
      · rintro ⟨o, a1, a2, a3⟩
        cases hp : p.a with
        | none => rw [hp] at a1; cases a1
        | some ad =>
          rw [hp] at a1
          simp only [Option.map_some, Option.some.injEq, Prod.mk.injEq] at a1
          exact ⟨ad.2, by rw [← a1.1], by omega, by omega⟩

/-- The cells of some elements. -/
def cellsL {α : Type} (K : Kd α) : List α → List K.π → List Value
  | x :: xs, q :: qs => (K.val x q).cells.toList ++ cellsL K xs qs
  | _, _ => []
/-- What they lead to. -/
def innerL {α : Type} (K : Kd α) : List α → List K.π → List Res
  | x :: xs, q :: qs => K.inner x q ++ innerL K xs qs
  | _, _ => []

theorem cellsL_len {α : Type} (K : Kd α) : ∀ (xs : List α) (qs : List K.π), qs.length = xs.length → (cellsL K xs qs).length = xs.length * K.sz
  | [], [], _ => by simp [cellsL]
  | x :: xs, q :: qs, h => by
    simp only [cellsL, List.length_append, Array.length_toList, K.len, List.length_cons] at h ⊢
    rw [cellsL_len K xs qs (by omega), Nat.add_mul]; omega

theorem cellsL_at {α : Type} (K : Kd α) : ∀ (xs : List α) (qs : List K.π), qs.length = xs.length → ∀ (i : Nat) (x : α), xs[i]? = some x →
    ∃ q, qs[i]? = some q ∧ ∀ j v, (K.val x q).cells[j]? = some v → (cellsL K xs qs)[i * K.sz + j]? = some v
  | x :: xs, q :: qs, h, 0, y, hy => by
    simp only [List.getElem?_cons_zero, Option.some.injEq] at hy
    subst hy
    refine ⟨q, rfl, fun j v hv => ?_⟩
    have hj : j < (K.val x q).cells.size := (Array.getElem?_eq_some_iff.1 hv).1
    rw [Nat.zero_mul, Nat.zero_add, cellsL, List.getElem?_append_left (by simpa using hj)]
    simpa using hv
  | x :: xs, q :: qs, h, i + 1, y, hy => by
    simp only [List.getElem?_cons_succ] at hy
    obtain ⟨r, g1, g2⟩ := cellsL_at K xs qs (by simpa using h) i y hy
    refine ⟨r, by simpa using g1, fun j v hv => ?_⟩
    have hl : (K.val x q).cells.toList.length = K.sz := by rw [Array.length_toList, K.len]
    rw [cellsL, List.getElem?_append_right (by rw [hl, Nat.add_mul]; omega), hl, show (i + 1) * K.sz + j - K.sz = i * K.sz + j from by rw [Nat.add_mul]; omega]
    exact g2 j v hv

theorem innerL_mem {α : Type} (K : Kd α) : ∀ (xs : List α) (qs : List K.π) (i : Nat) (x : α) (q : K.π), xs[i]? = some x → qs[i]? = some q → ∀ r, r ∈ K.inner x q → r ∈ innerL K xs qs
  | x :: xs, q :: qs, 0, y, p, h1, h2, r, hr => by
    simp only [List.getElem?_cons_zero, Option.some.injEq] at h1 h2
    subst h1; subst h2
    simp [innerL, hr]
  | x :: xs, q :: qs, i + 1, y, p, h1, h2, r, hr => by
    simp only [List.getElem?_cons_succ] at h1 h2
    simp [innerL, innerL_mem K xs qs i y p h1 h2 r hr]

theorem innerL_pers {α : Type} (K : Kd α) : ∀ (xs : List α) (qs : List K.π) (r : Res), r ∈ innerL K xs qs → r.Pers
  | [], _, r, h => by simp [innerL] at h
  | x :: xs, [], r, h => by simp [innerL] at h
  | x :: xs, q :: qs, r, h => by
    simp only [innerL, List.mem_append] at h
    exact h.elim (K.pers x q r) (innerL_pers K xs qs r)

theorem Sep.mem {w : World} {r : Res} : ∀ {rs : List Res} {O R : Fp}, Sep w rs O R → r ∈ rs → ∃ O1 R1, r.holds w O1 R1 ∧ (∀ b i, O1 b i → O b i) ∧ ∀ b i, R1 b i → R b i
  | s :: rs, O, R, ⟨O1, R1, O2, R2, h1, h2, d1, d2, eo, er⟩, hr => by
    rcases List.mem_cons.1 hr with rfl | hr
    · exact ⟨O1, R1, h1, fun b i hb => (eo b i).2 (.inl hb), fun b i hb => (er b i).2 (.inl hb)⟩
    · obtain ⟨O3, R3, g1, g2, g3⟩ := Sep.mem h2 hr
      exact ⟨O3, R3, g1, fun b i hb => (eo b i).2 (.inr (g2 b i hb)), fun b i hb => (er b i).2 (.inr (g3 b i hb))⟩

theorem Sep.pers {w : World} : ∀ {rs : List Res} {O R : Fp}, Sep w rs O R → (∀ r, r ∈ rs → r.Pers) → ∀ b i, ¬ O b i
  | [], O, R, h, _, b, i => h.1 b i
  | r :: rs, O, R, ⟨O1, R1, O2, R2, h1, h2, d1, d2, eo, er⟩, hp, b, i => by
    intro hb
    rcases (eo b i).1 hb with hb | hb
    · exact hp r (by simp) _ _ _ h1 b i hb
    · exact Sep.pers h2 (fun s hs => hp s (by simp [hs])) b i hb

/-- New cells are an array. -/
theorem Ent.row {α : Type} (K : Kd α) (b : Nat) (xs : List α) (qs : List K.π) (cs : List Value) (hl : qs.length = xs.length) (hc : cs = cellsL K xs qs) :
    Ent (pt b 0 cs :: innerL K xs qs) [own K ⟨some (b, 0), xs.length⟩ xs] := by
  subst hc
  rintro w O R ⟨O1, R1, O2, R2, ⟨h1, h2, h3⟩, hn, d1, d2, eo, er⟩
  have hlen := cellsL_len K xs qs hl
  have hO2 := Sep.pers hn (innerL_pers K xs qs)
  refine ⟨O1, R2, ⟨O1, R2, none0, none0, ⟨(fun h => by cases h), Nat.le_refl _, ?_, ?_, ?_, ?_⟩, ⟨fun _ _ h => h, fun _ _ h => h⟩, fun _ _ _ => ⟨fun h => h, fun h => h⟩, fun _ _ h => h.elim, fun _ _ => by simp [none0], fun _ _ => by simp [none0]⟩,
    fun b i hb => (eo b i).2 (.inl hb), fun b i hb => .inr ((er b i).2 (.inr hb))⟩
  · intro c i
    rw [h2, hlen]
    constructor
    · rintro ⟨rfl, a1, a2⟩; exact ⟨0, rfl, a1, by simpa using a2⟩
    · rintro ⟨o, a1, a2, a3⟩; cases a1; exact ⟨rfl, a2, by simpa using a3⟩
  · intro c i hb
    obtain ⟨rfl, a1, a2⟩ := (h2 c i).1 hb
    have hi : i < (cellsL K xs qs).length := by omega
    have := h1 i _ (List.getElem?_eq_getElem hi)
    rw [Nat.zero_add] at this
    exact ⟨by rw [this.1]; rfl, this.2⟩
  · intro c i hb
    exact ⟨hn.rd c i hb, fun ho => (d1 c i ho).2 hb⟩
  · intro i x hx
    obtain ⟨q, g1, g2⟩ := cellsL_at K xs qs hl i x hx
    refine ⟨b, 0, rfl, q, fun j v hv => ?_, fun r hr => ?_⟩
    · have := (h1 _ _ (g2 j v hv)).1
      rw [← this]; congr 2; omega
    · obtain ⟨O3, R3, k1, k2, k3⟩ := Sep.mem hn (innerL_mem K xs qs i x q hx g1 r hr)
      have e : O3 = none0 := funext fun b => funext fun i => propext ⟨fun hb => (hO2 b i (k2 b i hb)).elim, fun hb => hb.elim⟩
      rw [e] at k1
      exact ⟨R3, k1, k3⟩
end Go.Sl
