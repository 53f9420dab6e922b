/- A library for the proof (part 1): Sl7 Sl8 Sl9 Sl10. -/
import Derived.Test.YtoapkonigbkcgaaGreatDoorL00
import Derived.Orders
set_option linter.unusedVariables false
set_option linter.unusedSimpArgs false
set_option linter.unusedSectionVars false
/-! Regions that draw their order: one walk for all orders. -/
namespace Go.Sl
open Go

def preds (o : Oper) : List Nat := (o.after.toList.filter (Region.binds .any ·)).map (·.on)

def okR (ops : Array Oper) : Bool :=
  ops.toList.zipIdx.all fun p =>
    (preds p.1).all (fun e => Nat.blt e p.2) && (match p.1.op with | .select .. => false | _ => true) && (match p.1.dst with | some t => (p.1.looksAt ops).all (fun u => !Nat.beq u t) | none => true) &&
    ops.toList.zipIdx.all fun q => Nat.beq q.2 p.2 || (match q.1.dst with
      | some t => (match p.1.dst with | some t' => !Nat.beq t t' | none => true) && ((p.1.looksAt ops).all (fun u => !Nat.beq u t) || (preds p.1).contains q.2)
      | none => true)

structure OkR (ops : Array Oper) : Prop where
  lt : ∀ (i : Nat) (o : Oper), ops[i]? = some o → ∀ e, e ∈ preds o → e < i
  sel : ∀ (i : Nat) (o : Oper), ops[i]? = some o → ∀ cs b, o.op ≠ .select cs b
  self : ∀ (i : Nat) (o : Oper), ops[i]? = some o → ∀ t, o.dst = some t → t ∉ o.looksAt ops
  dst : ∀ (i k : Nat) (o o' : Oper) (t : Tmp), ops[i]? = some o → ops[k]? = some o' → k ≠ i → o'.dst = some t → o.dst ≠ some t
  look : ∀ (i k : Nat) (o o' : Oper) (t : Tmp), ops[i]? = some o → ops[k]? = some o' → k ≠ i → o'.dst = some t → t ∈ o.looksAt ops → k ∈ preds o

theorem mem_zipIdx_of {ops : Array Oper} {i : Nat} {o : Oper} (h : ops[i]? = some o) : (o, i) ∈ ops.toList.zipIdx := by
  rw [List.mem_zipIdx_iff_getElem?]
  simpa using h

theorem OkR.of {ops : Array Oper} (h : okR ops = true) : OkR ops := by
  unfold okR at h
  rw [List.all_eq_true] at h
  have key : ∀ i o, ops[i]? = some o → _ := fun i o ho => h (o, i) (mem_zipIdx_of ho)
  simp only [Bool.and_eq_true, List.all_eq_true, Bool.or_eq_true] at key
  refine ⟨?_, ?_, ?_, ?_, ?_⟩
  · intro i o ho e he
    have := (key i o ho).1.1.1 e he
    have h2 := Nat.le_of_ble_eq_true (n := e + 1) (m := i) this
    omega
  · intro i o ho cs b hb
    have := (key i o ho).1.1.2
    rw [hb] at this
    cases this
  · intro i o ho t ht hl
    have := (key i o ho).1.2
    simp only [ht, List.all_eq_true] at this
    have := this t hl
    simp at this
  · intro i k o o' t ho ho' hne hd hd'
    have := (key i o ho).2 (o', k) (mem_zipIdx_of ho')
    rcases this with e | e
    · exact hne (Nat.eq_of_beq_eq_true e)
    · simp only [hd, hd', Nat.beq_refl, Bool.not_true, Bool.and_eq_true] at e
      exact Bool.noConfusion e.1
  · intro i k o o' t ho ho' hne hd hl
    have := (key i o ho).2 (o', k) (mem_zipIdx_of ho')
    rcases this with e | e
    · exact (hne (Nat.eq_of_beq_eq_true e)).elim
    · simp only [hd, Bool.and_eq_true, Bool.or_eq_true, List.all_eq_true] at e
      rcases e.2 with e2 | e2
      · have := e2 t hl; simp at this
      · simpa using e2

section
variable (P : Program) (n : Nat) (ops : Array Oper)

/-- An operation that yields v wherever ρ and H hold, and changes nothing. -/
def FloatAt (o : Oper) (v : Value) (ρ : Env) (H : List Res) : Prop :=
  ∀ a w, EnvOk n ρ a → Holds H w → (Region.wanted o (yielded ops a.tmps) = true ∧ (execOp a.eval o).run P w = .ok (.value v) w) ∨ (Region.wanted o (yielded ops a.tmps) = false ∧ v = undef)
/-- One that yields v in every world. -/
def PureAt (o : Oper) (v : Value) (ρ : Env) : Prop :=
  ∀ a w, EnvOk n ρ a → (Region.wanted o (yielded ops a.tmps) = true ∧ (execOp a.eval o).run P w = .ok (.value v) w) ∨ (Region.wanted o (yielded ops a.tmps) = false ∧ v = undef)

def PendP (pP : List (Nat × Value)) (ρ : Env) : Prop := ∀ p, p ∈ pP → ∃ o d, ops[p.1]? = some o ∧ o.dst = some d ∧ d < n ∧ lk ρ d = some p.2 ∧ PureAt P n ops o p.2 ρ
def PendL (pL : List (Nat × Value)) (ρ : Env) (H : List Res) : Prop := ∀ p, p ∈ pL → ∃ o d, ops[p.1]? = some o ∧ o.dst = some d ∧ d < n ∧ lk ρ d = some p.2 ∧ FloatAt P n ops o p.2 ρ H

/-- An execution in whose set S lies what has been done; the walk is ahead of it by what is pending. -/
structure DInv (todo : List Nat) (pP pL : List (Nat × Value)) (ρ : Env) (H : List Res) (S : Array Bool) (a : Act) (w : World) : Prop where
  ex : ∃ b : Act, EnvOk n ρ b ∧ a.defers = [] ∧ a.tmps.size = n ∧
    ∀ t, (∀ p, p ∈ pP ++ pL → S.getD p.1 false = false → ∀ o, ops[p.1]? = some o → o.dst ≠ some t) → a.tmps.getD t undef = b.tmps.getD t undef
  hw : Holds H w
  size : S.size = ops.size
  cov : ∀ i, i < ops.size → S.getD i false = false → i ∈ todo ∨ ∃ v, (i, v) ∈ pP ++ pL
  tod : ∀ i, i ∈ todo → S.getD i false = false ∧ i < ops.size
  down : ∀ i, S.getD i false = true → ∀ o, ops[i]? = some o → ∀ e, e ∈ preds o → S.getD e false = true
  nd : todo.Nodup
  dis : ∀ i, i ∈ todo → ∀ v, (i, v) ∉ pP ++ pL
  vP : PendP P n ops pP ρ
  vL : PendL P n ops pL ρ H

def unX (S : Array Bool) : Nat := S.toList.countP (!·)

def DP (Q : Exit → Act → World → Prop) (todo : List Nat) (pP pL : List (Nat × Value)) (ρ : Env) (H : List Res) : Prop :=
  ∀ fuel S a w, DInv P n ops todo pP pL ρ H S a w → unX S ≤ fuel → wpAny P .any ops Q fuel S a w
end

section
variable {P : Program} {n : Nat} {ops : Array Oper} {Q : Exit → Act → World → Prop} {todo : List Nat} {pP pL : List (Nat × Value)} {ρ : Env} {H : List Res}

theorem lk_cons_of {ρ : Env} {d t : Nat} {u v : Value} (hd : lk ρ d = none) (h : lk ρ t = some v) : lk ((d, u) :: ρ) t = some v := by
  have : d ≠ t := by intro e; subst e; rw [hd] at h; cases h
  have e' : Nat.beq d t = false := by
    cases hb : Nat.beq d t with
    | false => rfl
    | true => exact (this (Nat.eq_of_beq_eq_true hb)).elim
  simp [lk, e', h]

theorem EnvOk.less {d : Nat} {u : Value} {a : Act} (hd : lk ρ d = none) (h : EnvOk n ((d, u) :: ρ) a) : EnvOk n ρ a :=
  ⟨h.df, h.sz, fun t v hv => h.val t v (lk_cons_of hd hv)⟩

theorem lk_self {d : Nat} {u : Value} : lk ((d, u) :: ρ) d = some u := by simp [lk]

theorem getD_set {S : Array Bool} {i k : Nat} : (S.setIfInBounds i true).getD k false = if k = i ∧ i < S.size then true else S.getD k false := by
  simp only [Array.getD_eq_getD_getElem?, Array.getElem?_setIfInBounds]
  by_cases e : i = k
  · subst e
    by_cases h : i < S.size <;> simp [h]
  · have : ¬ (k = i) := fun h => e h.symm
    simp [e, this]

theorem ready_iff {S : Array Bool} {j : Nat} (hs : S.size = ops.size) : j ∈ Region.ready .any ops S ↔ ∃ o, ops[j]? = some o ∧ S.getD j false = false ∧ ∀ e, e ∈ preds o → S.getD e false = true := by
  unfold Region.ready
  simp only [List.mem_filter, List.mem_range, Bool.and_eq_true]
  constructor
  · rintro ⟨h1, h2, h3⟩
    have ho : ops[j]? = some (ops[j]) := Array.getElem?_eq_getElem h1
    refine ⟨ops[j], ho, ?_, ?_⟩
    · have h4 : S[j]? = some (S[j]'(by omega)) := Array.getElem?_eq_getElem _
      simp only [Array.getD_eq_getD_getElem?, h4, Option.getD_some] at h2 ⊢
      simpa using h2
    · intro e he
      simp only [ho, Option.map_some, Option.getD_some, Array.all_eq_true'] at h3
      simp only [preds, List.mem_map, List.mem_filter] at he
      obtain ⟨ed, ⟨hm, hb⟩, rfl⟩ := he
      have := h3 ed (by simpa using hm)
      rw [hb] at this
      simpa using this
  · rintro ⟨o, ho, h2, h3⟩
    have hj : j < ops.size := (Array.getElem?_eq_some_iff.1 ho).1
    refine ⟨hj, ?_, ?_⟩
    · have h4 : S[j]? = some (S[j]'(by omega)) := Array.getElem?_eq_getElem _
      simp only [Array.getD_eq_getD_getElem?, h4, Option.getD_some] at h2 ⊢
      simp [h2]
    · simp only [ho, Option.map_some, Option.getD_some, Array.all_eq_true']
      intro ed hm
      cases hb : Region.binds .any ed with
      | false => simp
      | true =>
        have := h3 ed.on (by simp only [preds, List.mem_map, List.mem_filter]; exact ⟨ed, ⟨by simpa using hm, hb⟩, rfl⟩)
        simp [this]

/-- The first one that has not run is ready. -/
theorem ready_of_un (hR : OkR ops) {S : Array Bool} (hs : S.size = ops.size) : ∀ i, i < ops.size → S.getD i false = false → Region.ready .any ops S ≠ [] := by
  intro i
  induction i using Nat.strongRecOn with
  | _ i ih =>
    intro hi hu hn
    have ho : ops[i]? = some (ops[i]) := Array.getElem?_eq_getElem hi
    by_cases hall : ∀ e, e ∈ preds ops[i] → S.getD e false = true
    · have : i ∈ Region.ready .any ops S := (ready_iff hs).2 ⟨_, ho, hu, hall⟩
      rw [hn] at this; cases this
    · have ⟨e, he⟩ := Classical.not_forall.1 hall
      have ⟨he1, he2⟩ := Classical.not_imp.1 he
      have hlt := hR.lt i _ ho e he1
      exact ih e hlt (by omega) (by simpa using he2) hn

theorem unX_zero {S : Array Bool} {i : Nat} (h : unX S ≤ 0) (hi : i < S.size) : S.getD i false = true := by
  have h0 : S.toList.countP (!·) = 0 := Nat.le_zero.1 h
  rw [List.countP_eq_zero] at h0
  have h1 : S[i]? = some (S[i]) := Array.getElem?_eq_getElem hi
  have := h0 S[i] (by simp)
  simp only [Array.getD_eq_getD_getElem?, h1, Option.getD_some]
  simpa using this

theorem countP_set : ∀ (l : List Bool) (i : Nat), l[i]? = some false → (l.set i true).countP (!·) + 1 = l.countP (!·)
  | b :: l, 0, h => by
    simp only [List.getElem?_cons_zero, Option.some.injEq] at h
    subst h
    simp
  | b :: l, i + 1, h => by
    simp only [List.getElem?_cons_succ] at h
    have := countP_set l i h
    simp only [List.set_cons_succ, List.countP_cons]
    omega

theorem unX_set {S : Array Bool} {i fuel : Nat} (h : unX S ≤ fuel + 1) (hi : i < S.size) (hu : S.getD i false = false) : unX (S.setIfInBounds i true) ≤ fuel := by
  have h1 : S[i]? = some (S[i]) := Array.getElem?_eq_getElem hi
  simp only [Array.getD_eq_getD_getElem?, h1, Option.getD_some] at hu
  have := countP_set S.toList i (by simp [h1, hu])
  unfold unX at *
  rw [Array.toList_setIfInBounds]
  omega

/-- The operands of an operation that is ready are those of the walk. -/
theorem exec_same (hR : OkR ops) {S : Array Bool} {a b : Act} {j : Nat} {o : Oper} {pd : List (Nat × Value)} (ho : ops[j]? = some o) (hp : ∀ e, e ∈ preds o → S.getD e false = true)
    (hag : ∀ t, (∀ p, p ∈ pd → S.getD p.1 false = false → ∀ o, ops[p.1]? = some o → o.dst ≠ some t) → a.tmps.getD t undef = b.tmps.getD t undef) (hsz : a.tmps.size = b.tmps.size) :
    execOp a.eval o = execOp b.eval o ∧ Region.wanted o (yielded ops a.tmps) = Region.wanted o (yielded ops b.tmps) := by
  have key : ∀ t, t ∈ o.looksAt ops → a.tmps.getD t undef = b.tmps.getD t undef := by
    intro t ht
    refine hag t ?_
    intro p hpd hun o' ho' hd
    by_cases e : p.1 = j
    · rw [e] at ho'; rw [ho] at ho'; cases ho'
      exact hR.self j o ho t hd ht
    · have := hp _ (hR.look j p.1 o o' t ho ho' e hd ht)
      rw [this] at hun; cases hun
  constructor
  · refine execOp_congr o (hR.sel j o ho) fun x hx => ?_
    cases x with
    | tmp t => exact key t (List.mem_append_left _ (List.mem_filterMap.2 ⟨.tmp t, by simpa using hx, rfl⟩))
    | _ => rfl
  · unfold Region.wanted
    cases hg : o.guard with
    | none => rfl
    | some gw =>
      obtain ⟨g, want⟩ := gw
      have hy : yielded ops a.tmps g = yielded ops b.tmps g := by
        unfold yielded
        cases ht : (ops[g]?).bind (·.dst) with
        | none => rfl
        | some t =>
          have h1 := key t (by simp [Oper.looksAt, hg, ht])
          have e1 : a.tmps[t]? = b.tmps[t]? := by
            by_cases hlt : t < a.tmps.size
            · have hlt' : t < b.tmps.size := by rw [← hsz]; exact hlt
              simp only [Array.getD_eq_getD_getElem?, Array.getElem?_eq_getElem hlt, Array.getElem?_eq_getElem hlt', Option.getD_some] at h1 ⊢
              rw [h1]
            · rw [Array.getElem?_eq_none (Nat.le_of_not_lt hlt), Array.getElem?_eq_none (by rw [← hsz]; exact Nat.le_of_not_lt hlt)]
          simp [e1]
      simp only [hy]

theorem DInv.step {S : Array Bool} {a : Act} {w : World} {j : Nat} {o : Oper} {d : Nat} {v : Value} (hi : DInv P n ops todo pP pL ρ H S a w) (ho : ops[j]? = some o)
    (hp : ∀ e, e ∈ preds o → S.getD e false = true) (hd : o.dst = some d) (hv : lk ρ d = some v) (hj : ∃ u, (j, u) ∈ pP ++ pL) (hlt : d < n) : DInv P n ops todo pP pL ρ H (S.setIfInBounds j true) (a.put (some d) v) w := by
  obtain ⟨b, h1, h2, h3, h4⟩ := hi.ex
  have hjs : j < ops.size := (Array.getElem?_eq_some_iff.1 ho).1
  have hjt : j ∉ todo := fun h => let ⟨u, hu'⟩ := hj; hi.dis j h u hu'
  refine ⟨⟨b, h1, h2, by simp [Act.put, h3], ?_⟩, hi.hw, by simp [hi.size], ?_, ?_, ?_, hi.nd, hi.dis, hi.vP, hi.vL⟩
  · intro t ht
    by_cases e : t = d
    · subst e
      rw [h1.val t v hv]
      simp [Act.put, h3, hlt]
    · have e1 : (a.put (some d) v).tmps.getD t undef = a.tmps.getD t undef := by
        simp [Act.put, Ne.symm e]
      rw [e1]
      refine h4 t fun p hp' hun o' ho' hdt => ?_
      by_cases ej : p.1 = j
      · rw [ej, ho] at ho'; cases ho'; rw [hd] at hdt; cases hdt; exact e rfl
      · exact ht p hp' (by rw [getD_set]; simp [ej, hun]) o' ho' hdt
  · intro i hlt hun
    rw [getD_set] at hun
    by_cases e : i = j ∧ j < S.size
    · simp [e] at hun
    · rw [if_neg e] at hun; exact hi.cov i hlt hun
  · intro i hit
    refine ⟨?_, (hi.tod i hit).2⟩
    rw [getD_set, if_neg (fun e => hjt (by rw [← e.1]; exact hit))]
    exact (hi.tod i hit).1
  · intro i hiS o' ho' e he
    rw [getD_set] at hiS ⊢
    by_cases ei : i = j ∧ j < S.size
    · rw [ei.1, ho] at ho'; cases ho'
      have := hp e he
      by_cases e2 : e = j ∧ j < S.size
      · simp [e2]
      · rw [if_neg e2]; exact this
    · rw [if_neg ei] at hiS
      have := hi.down i hiS o' ho' e he
      by_cases e2 : e = j ∧ j < S.size
      · simp [e2]
      · rw [if_neg e2]; exact this

theorem pend_exec (hR : OkR ops) {S : Array Bool} {a : Act} {w : World} {j fuel : Nat} {v : Value} (hi : DInv P n ops todo pP pL ρ H S a w) (hr : j ∈ Region.ready .any ops S) (hj : (j, v) ∈ pP ++ pL)
    (k : ∀ d, DInv P n ops todo pP pL ρ H (S.setIfInBounds j true) (a.put (some d) v) w → wpAny P .any ops Q fuel (S.setIfInBounds j true) (a.put (some d) v) w) :
    wpOp P ops Q j (wpAny P .any ops Q fuel (S.setIfInBounds j true)) a w := by
  obtain ⟨o, ho, hu, hp⟩ := (ready_iff hi.size).1 hr
  obtain ⟨b, h1, h2, h3, h4⟩ := hi.ex
  have hsz : a.tmps.size = b.tmps.size := by rw [h3, h1.sz]
  have same := exec_same hR ho hp h4 hsz
  have fact : ∃ d, o.dst = some d ∧ d < n ∧ lk ρ d = some v ∧ ((Region.wanted o (yielded ops b.tmps) = true ∧ (execOp b.eval o).run P w = .ok (.value v) w) ∨ (Region.wanted o (yielded ops b.tmps) = false ∧ v = undef)) := by
    rcases List.mem_append.1 hj with hj | hj
    · obtain ⟨o', d, g1, g2, g3, g4, g5⟩ := hi.vP _ hj
      rw [ho] at g1; cases g1
      exact ⟨d, g2, g3, g4, g5 b w h1⟩
    · obtain ⟨o', d, g1, g2, g3, g4, g5⟩ := hi.vL _ hj
      rw [ho] at g1; cases g1
      exact ⟨d, g2, g3, g4, g5 b w h1 hi.hw⟩
  obtain ⟨d, g2, g3, g4, g5⟩ := fact
  have hk := k d (hi.step ho hp g2 g4 ⟨v, hj⟩ g3)
  unfold wpOp
  simp only [ho]
  rw [same.2]
  rcases g5 with ⟨hw, hrun⟩ | ⟨hw, rfl⟩
  · simp only [hw, if_true]
    refine .inl ?_
    unfold Oper.wp
    rw [same.1, hrun, Oper.upon_value, g2]
    exact hk
  · simp only [hw, Bool.false_eq_true, if_false, g2]
    exact hk

/-- All has been walked. -/
theorem DP.fin (hR : OkR ops) (k : K n Q .normal ρ H) : DP P n ops Q [] pP pL ρ H := by
  intro fuel
  induction fuel with
  | zero =>
    intro S a w hi hf
    have hall : ∀ i, i < ops.size → S.getD i false = true := fun i h => unX_zero hf (by rw [hi.size]; exact h)
    have hnil : Region.ready .any ops S = [] := by
      cases hr : Region.ready .any ops S with
      | nil => rfl
      | cons j l =>
        have hj : j ∈ Region.ready .any ops S := by rw [hr]; simp
        obtain ⟨o, ho, hu, _⟩ := (ready_iff hi.size).1 hj
        rw [hall j (Array.getElem?_eq_some_iff.1 ho).1] at hu; cases hu
    refine ⟨hnil, ?_⟩
    obtain ⟨b, h1, h2, h3, h4⟩ := hi.ex
    refine k a w ⟨h2, h3, fun t v hv => ?_⟩ hi.hw
    rw [h4 t (fun p hp hun o ho => ?_)]
    · exact h1.val t v hv
    · rw [hall p.1 (Array.getElem?_eq_some_iff.1 ho).1] at hun; cases hun
  | succ fuel ih =>
    intro S a w hi hf
    refine ⟨fun hnil => ?_, fun j hj => ?_⟩
    · have hall : ∀ i, i < ops.size → S.getD i false = true := fun i h => by
        cases hs : S.getD i false with
        | true => rfl
        | false => exact (ready_of_un hR hi.size i h hs hnil).elim
      obtain ⟨b, h1, h2, h3, h4⟩ := hi.ex
      refine k a w ⟨h2, h3, fun t v hv => ?_⟩ hi.hw
      rw [h4 t (fun p hp hun o ho => ?_)]
      · exact h1.val t v hv
      · rw [hall p.1 (Array.getElem?_eq_some_iff.1 ho).1] at hun; cases hun
    · obtain ⟨o, ho, hu, hp⟩ := (ready_iff hi.size).1 hj
      have hjs : j < ops.size := (Array.getElem?_eq_some_iff.1 ho).1
      rcases hi.cov j hjs hu with h | ⟨v, hv⟩
      · cases h
      · exact pend_exec hR hi hj hv fun d hd => ih _ _ _ hd (unX_set hf (by rw [hi.size]; exact hjs) hu)

/-- An operation in the walk that touches no memory. -/
theorem DP.pure {j d : Nat} {o : Oper} {v : Value} (ho : ops[j]? = some o) (hd : o.dst = some d) (hn : Nat.blt d n = true) (hf : lk ρ d = none) (hv : PureAt P n ops o v ρ)
    (k : DP P n ops Q todo ((j, v) :: pP) pL ((d, v) :: ρ) H) : DP P n ops Q (j :: todo) pP pL ρ H := by
  intro fuel S a w hi hfuel
  have hdn : d < n := by have := Nat.le_of_ble_eq_true (n := d + 1) (m := n) hn; omega
  refine k fuel S a w ?_ hfuel
  obtain ⟨b, h1, h2, h3, h4⟩ := hi.ex
  have hnd := List.nodup_cons.1 hi.nd
  refine ⟨⟨b.put (some d) v, h1.put hn v, h2, h3, fun t ht => ?_⟩, hi.hw, hi.size, ?_, fun i h => hi.tod i (by simp [h]), hi.down, hnd.2, ?_, ?_, ?_⟩
  · have e : t ≠ d := fun e => ht (j, v) (by simp) (hi.tod j (by simp)).1 o ho (by rw [e]; exact hd)
    have e1 : (b.put (some d) v).tmps.getD t undef = b.tmps.getD t undef := by simp [Act.put, Ne.symm e]
    rw [e1]
    exact h4 t fun p hp => ht p (by simp at hp ⊢; rcases hp with hp | hp <;> simp [hp])
  · intro i hl hu
    rcases hi.cov i hl hu with h | ⟨u, h⟩
    · rcases List.mem_cons.1 h with rfl | h
      · exact .inr ⟨v, by simp⟩
      · exact .inl h
    · exact .inr ⟨u, by simp at h ⊢; rcases h with h | h <;> simp [h]⟩
  · intro i h u hm
    have hne : i ≠ j := fun e => hnd.1 (by rw [← e]; exact h)
    have hd := hi.dis i (by simp [h]) u
    simp at hm hd
    simp [hne] at hm
    rcases hm with hm | hm
    · exact hd.1 hm
    · exact hd.2 hm
  · intro p hp
    rcases List.mem_cons.1 hp with rfl | hp
    · exact ⟨o, d, ho, hd, hdn, lk_self, fun a w ha => hv a w (ha.less hf)⟩
    · obtain ⟨o', d', g1, g2, g3, g4, g5⟩ := hi.vP p hp
      exact ⟨o', d', g1, g2, g3, lk_cons_of hf g4, fun a w ha => g5 a w (ha.less hf)⟩
  · intro p hp
    obtain ⟨o', d', g1, g2, g3, g4, g5⟩ := hi.vL p hp
    exact ⟨o', d', g1, g2, g3, lk_cons_of hf g4, fun a w ha => g5 a w (ha.less hf)⟩
/-- One that only reads. -/
theorem DP.float {j d : Nat} {o : Oper} {v : Value} (ho : ops[j]? = some o) (hd : o.dst = some d) (hn : Nat.blt d n = true) (hf : lk ρ d = none) (hv : FloatAt P n ops o v ρ H)
    (k : DP P n ops Q todo pP ((j, v) :: pL) ((d, v) :: ρ) H) : DP P n ops Q (j :: todo) pP pL ρ H := by
  intro fuel S a w hi hfuel
  have hdn : d < n := by have := Nat.le_of_ble_eq_true (n := d + 1) (m := n) hn; omega
  refine k fuel S a w ?_ hfuel
  obtain ⟨b, h1, h2, h3, h4⟩ := hi.ex
  have hnd := List.nodup_cons.1 hi.nd
  refine ⟨⟨b.put (some d) v, h1.put hn v, h2, h3, fun t ht => ?_⟩, hi.hw, hi.size, ?_, fun i h => hi.tod i (by simp [h]), hi.down, hnd.2, ?_, ?_, ?_⟩
  · have e : t ≠ d := fun e => ht (j, v) (by simp) (hi.tod j (by simp)).1 o ho (by rw [e]; exact hd)
    have e1 : (b.put (some d) v).tmps.getD t undef = b.tmps.getD t undef := by simp [Act.put, Ne.symm e]
    rw [e1]
    exact h4 t fun p hp => ht p (by simp at hp ⊢; rcases hp with hp | hp <;> simp [hp])
  · intro i hl hu
    rcases hi.cov i hl hu with h | ⟨u, h⟩
    · rcases List.mem_cons.1 h with rfl | h
      · exact .inr ⟨v, by simp⟩
      · exact .inl h
    · exact .inr ⟨u, by simp at h ⊢; rcases h with h | h <;> simp [h]⟩
  · intro i h u hm
    have hne : i ≠ j := fun e => hnd.1 (by rw [← e]; exact h)
    have hd := hi.dis i (by simp [h]) u
    simp at hm hd
    simp [hne] at hm
    rcases hm with hm | hm
    · exact hd.1 hm
    · exact hd.2 hm
  · intro p hp
    obtain ⟨o', d', g1, g2, g3, g4, g5⟩ := hi.vP p hp
    exact ⟨o', d', g1, g2, g3, lk_cons_of hf g4, fun a w ha => g5 a w (ha.less hf)⟩
  · intro p hp
    rcases List.mem_cons.1 hp with rfl | hp
    · exact ⟨o, d, ho, hd, hdn, lk_self, fun a w ha => hv a w (ha.less hf)⟩
    · obtain ⟨o', d', g1, g2, g3, g4, g5⟩ := hi.vL p hp
      exact ⟨o', d', g1, g2, g3, lk_cons_of hf g4, fun a w ha => g5 a w (ha.less hf)⟩

/-- k stands ahead of i, by a chain of edges. -/
def anc (ops : Array Oper) : Nat → Nat → Nat → Bool
  | 0, _, _ => false
  | f + 1, i, k => match ops[i]? with
    | some o => (preds o).any fun e => Nat.beq e k || anc ops f e k
    | none => false

theorem anc_run {S : Array Bool} (hdown : ∀ i, S.getD i false = true → ∀ o, ops[i]? = some o → ∀ e, e ∈ preds o → S.getD e false = true) :
    ∀ (f i k : Nat), anc ops f i k = true → (∀ o, ops[i]? = some o → ∀ e, e ∈ preds o → S.getD e false = true) → S.getD k false = true
  | f + 1, i, k, h, hp => by
    unfold anc at h
    cases ho : ops[i]? with
    | none => simp [ho] at h
    | some o =>
      simp only [ho, List.any_eq_true, Bool.or_eq_true] at h
      obtain ⟨e, he, h⟩ := h
      have h1 := hp o ho e he
      rcases h with h | h
      · rw [← Nat.eq_of_beq_eq_true h]; exact h1
      · exact anc_run hdown f e k h fun o' ho' e' he' => hdown e h1 o' ho' e' he'

/-- Each of these waits for one of those. -/
def waits (ops : Array Oper) (l todo : List Nat) : Bool := todo.all fun j => match ops[j]? with
  | some o => (preds o).any fun e => l.contains e
  | none => false

/-- What is pending and reads: it reads the same behind the step, or it has run ahead of it. -/
def KeepL (P : Program) (n : Nat) (ops : Array Oper) (i : Nat) (ρ : Env) (H : List Res) : List (Nat × Value) → List (Nat × Value) → Prop
  | [], pL' => pL' = []
  | (j, _) :: pL, [] => anc ops ops.size i j = true ∧ KeepL P n ops i ρ H pL []
  | (j, v) :: pL, (j', v') :: pL' => (anc ops ops.size i j = true ∧ KeepL P n ops i ρ H pL ((j', v') :: pL')) ∨
      (j = j' ∧ v = v' ∧ (∃ o, ops[j]? = some o ∧ FloatAt P n ops o v ρ H) ∧ KeepL P n ops i ρ H pL pL')

theorem KeepL.spec {i : Nat} : ∀ {pL pL' : List (Nat × Value)}, KeepL P n ops i ρ H pL pL' → (∀ p, p ∈ pL → p ∈ pL' ∨ anc ops ops.size i p.1 = true) ∧ (∀ p, p ∈ pL' → p ∈ pL ∧ ∃ o, ops[p.1]? = some o ∧ FloatAt P n ops o p.2 ρ H)
  | [], pL', h => by
    have : pL' = [] := h
    subst this; exact ⟨fun p hp => by simp at hp, fun p hp => by simp at hp⟩
  | (j, v) :: pL, [], h => by
    obtain ⟨h1, h2⟩ := h
    have ih := KeepL.spec h2
    refine ⟨fun p hp => ?_, fun p hp => by simp at hp⟩
    rcases List.mem_cons.1 hp with rfl | hp
    · exact .inr h1
    · exact ih.1 p hp
  | (j, v) :: pL, (j', v') :: pL', h => by
    rcases h with ⟨h1, h2⟩ | ⟨rfl, rfl, h1, h2⟩
    · have ih := KeepL.spec h2
      refine ⟨fun p hp => ?_, fun p hp => ⟨by simp [(ih.2 p hp).1], (ih.2 p hp).2⟩⟩
      rcases List.mem_cons.1 hp with rfl | hp
      · exact .inr h1
      · exact ih.1 p hp
    · have ih := KeepL.spec h2
      refine ⟨fun p hp => ?_, fun p hp => ?_⟩
      · rcases List.mem_cons.1 hp with rfl | hp
        · exact .inl (by simp)
        · exact (ih.1 p hp).imp (fun h => by simp [h]) id
      · rcases List.mem_cons.1 hp with rfl | hp
        · exact ⟨by simp, h1⟩
        · exact ⟨by simp [(ih.2 p hp).1], (ih.2 p hp).2⟩

/-- What the next environment knows. -/
def putE (d : Option Tmp) (v : Value) (ρ : Env) : Env := match d with | some d => (d, v) :: ρ | none => ρ

theorem put_inj {b a : Act} {dst : Option Tmp} {u v : Value} (hd : ∀ d, dst = some d → d < b.tmps.size) (h : b.put dst u = b.put dst v) : a.put dst u = a.put dst v := by
  cases dst with
  | none => rfl
  | some d =>
    have hlt := hd d rfl
    have h1 := congrArg (fun x : Act => x.tmps[d]?) h
    simp [Act.put, hlt] at h1
    rw [h1]

theorem upon_move {o : Oper} {a b : Act} {w : World} {next : Act → World → Prop} {X : Type} {vx : X → Value} {Hx : X → List Res} (hx : OpX P o ρ H vx Hx) (hb : EnvOk n ρ b) (hw : Holds H w) (hd : ∀ d, o.dst = some d → d < n)
    (k : ∀ x w', Holds (Hx x) w' → next (a.put o.dst (vx x)) w') : o.upon P a next Q ((execOp b.eval o).run P w) := by
  have h := hx n b w hb hw (fun b' w' => ∃ x, b' = b.put o.dst (vx x) ∧ Holds (Hx x) w') (fun _ _ _ => False) (fun x w' h => ⟨x, rfl, h⟩)
  have hd' : ∀ d, o.dst = some d → d < b.tmps.size := fun d h => by rw [hb.sz]; exact hd d h
  have go : ∀ v w', (∃ x, b.put o.dst v = b.put o.dst (vx x) ∧ Holds (Hx x) w') → next (a.put o.dst v) w' := by
    rintro v w' ⟨x, e, hw'⟩
    rw [put_inj hd' e]
    exact k x w' hw'
  revert h
  generalize (execOp b.eval o).run P w = r
  intro h
  cases r with
  | halt h' w' => cases h' <;> simp only [Oper.upon] at h
  | ok nx w' =>
    cases nx <;> simp only [Oper.upon] at h ⊢
    case value v => exact go v w' h
    case skip => exact go undef w' h
    case defer d =>
      obtain ⟨x, e, _⟩ := h
      have h1 := congrArg (fun x : Act => x.defers.length) e
      cases hod : o.dst <;> simp [Act.put, hod] at h1
    case enter f args =>
      refine h.mono fun e w'' he => ?_
      cases e with
      | returned v => exact go v w'' he
      | panicked c => exact he.elim
      | outgrown => obtain ⟨_, _, hf⟩ := he; exact hf.elim
    case row row args => exact h.mono fun v w'' he => go v w'' he

/-- A step that changes memory: all that is left waits for it. -/
theorem DP.eff (hR : OkR ops) {i : Nat} {o : Oper} {X : Type} {vx : X → Value} {Hx : X → List Res} {pL' : X → List (Nat × Value)} (ho : ops[i]? = some o)
    (hd : match o.dst with | some d => Nat.blt d n = true ∧ lk ρ d = none | none => True) (hx : OpX P o ρ H vx Hx) (hg : ∀ a, EnvOk n ρ a → Region.wanted o (yielded ops a.tmps) = true)
    (hwt : waits ops (i :: todo) todo = true) (hk : ∀ x, KeepL P n ops i (putE o.dst (vx x) ρ) (Hx x) pL (pL' x))
    (k : ∀ x, DP P n ops Q todo pP (pL' x) (putE o.dst (vx x) ρ) (Hx x)) : DP P n ops Q (i :: todo) pP pL ρ H := by
  have hdn : ∀ d, o.dst = some d → d < n ∧ lk ρ d = none := by
    intro d h
    have hd2 : Nat.blt d n = true ∧ lk ρ d = none := by simp only [h] at hd; exact hd
    exact ⟨Nat.le_of_ble_eq_true hd2.1, hd2.2⟩
  have less : ∀ (v : Value) (a : Act), EnvOk n (putE o.dst v ρ) a → EnvOk n ρ a := by
    intro v a h
    cases hod : o.dst with
    | none => rw [hod] at h; exact h
    | some d => rw [hod] at h; exact h.less (hdn d hod).2
  have more : ∀ (v : Value) (t : Nat) (u : Value), lk ρ t = some u → lk (putE o.dst v ρ) t = some u := by
    intro v t u h
    cases hod : o.dst with
    | none => exact h
    | some d => exact lk_cons_of (hdn d hod).2 h
  intro fuel
  induction fuel with
  | zero =>
    intro S a w hi hf
    have h1 := hi.tod i (by simp)
    have h2 := unX_zero hf (i := i) (by rw [hi.size]; exact h1.2)
    rw [h1.1] at h2; cases h2
  | succ fuel ih =>
    intro S a w hi hf
    have h1 := hi.tod i (by simp)
    have hnd := List.nodup_cons.1 hi.nd
    refine ⟨fun hnil => (ready_of_un hR hi.size i h1.2 h1.1 hnil).elim, fun j hj => ?_⟩
    obtain ⟨oj, hoj, hu, hp⟩ := (ready_iff hi.size).1 hj
    have hjs : j < ops.size := (Array.getElem?_eq_some_iff.1 hoj).1
    rcases hi.cov j hjs hu with h | ⟨v, hv⟩
    · rcases List.mem_cons.1 h with rfl | h
      · -- the step itself
        rw [ho] at hoj; cases hoj
        obtain ⟨b, g1, g2, g3, g4⟩ := hi.ex
        have hsz : a.tmps.size = b.tmps.size := by rw [g3, g1.sz]
        have same := exec_same hR ho hp g4 hsz
        unfold wpOp
        simp only [ho]
        rw [same.2, hg b g1]
        simp only [if_true]
        refine .inl ?_
        unfold Oper.wp
        rw [same.1]
        refine upon_move hx g1 hi.hw (fun d h => (hdn d h).1) fun x w' hw' => ?_
        refine k x fuel _ _ _ ?_ (unX_set hf (by rw [hi.size]; exact hjs) hu)
        have hkx := (hk x).spec
        have hbx : EnvOk n (putE o.dst (vx x) ρ) (b.put o.dst (vx x)) := by
          cases hod : o.dst with
          | none => exact g1
          | some d => exact g1.put (by simp only [hod] at hd; exact hd.1) _
        refine ⟨⟨b.put o.dst (vx x), hbx, by cases o.dst <;> exact g2, by cases o.dst <;> simp [Act.put, g3], fun t ht => ?_⟩, hw', by simp [hi.size], ?_, ?_, ?_, hnd.2, ?_, ?_, ?_⟩
        · have hold : (∀ p, p ∈ pP ++ pL → S.getD p.1 false = false → ∀ o, ops[p.1]? = some o → o.dst ≠ some t) := by
            intro p hpm hun o' ho' hdt
            have hne : p.1 ≠ j := fun e => hi.dis j (by simp) p.2 (by rw [← e]; exact hpm)
            have hun' : (S.setIfInBounds j true).getD p.1 false = false := by rw [getD_set, if_neg (fun e => hne e.1)]; exact hun
            rcases List.mem_append.1 hpm with hpm | hpm
            · exact ht p (by simp [hpm]) hun' o' ho' hdt
            · rcases hkx.1 p hpm with hx' | hx'
              · exact ht p (by simp [hx']) hun' o' ho' hdt
              · have := anc_run hi.down _ _ _ hx' (fun o2 ho2 => by rw [ho] at ho2; cases ho2; exact hp)
                rw [this] at hun; cases hun
          have hab := g4 t hold
          cases hod : o.dst with
          | none => exact hab
          | some d =>
            by_cases e : d = t
            · subst e
              simp [Act.put, (hdn d hod).1, g3, g1.sz]
            · have e1 : ∀ c : Act, (c.put (some d) (vx x)).tmps.getD t undef = c.tmps.getD t undef := fun c => by simp [Act.put, e]
              rw [e1, e1]; exact hab
        · intro i' hl hun
          rw [getD_set] at hun
          by_cases e : i' = j ∧ j < S.size
          · simp [e] at hun
          · rw [if_neg e] at hun
            rcases hi.cov i' hl hun with h | ⟨u, h⟩
            · rcases List.mem_cons.1 h with rfl | h
              · exact (e ⟨rfl, by rw [hi.size]; exact hl⟩).elim
              · exact .inl h
            · refine .inr ⟨u, ?_⟩
              rcases List.mem_append.1 h with h | h
              · simp [h]
              · rcases hkx.1 _ h with hx' | hx'
                · simp [hx']
                · have := anc_run hi.down _ _ _ hx' (fun o2 ho2 => by rw [ho] at ho2; cases ho2; exact hp)
                  rw [this] at hun; cases hun
        · intro i' hit
          have hne : i' ≠ j := fun e => hnd.1 (by rw [← e]; exact hit)
          have := hi.tod i' (by simp [hit])
          exact ⟨by rw [getD_set, if_neg (fun e => hne e.1)]; exact this.1, this.2⟩
        · intro i' hiS o' ho' e he
          rw [getD_set] at hiS ⊢
          by_cases ei : i' = j ∧ j < S.size
          · rw [ei.1, ho] at ho'; cases ho'
            have := hp e he
            by_cases e2 : e = j ∧ j < S.size
            · simp [e2]
            · rw [if_neg e2]; exact this
          · rw [if_neg ei] at hiS
            have := hi.down i' hiS o' ho' e he
            by_cases e2 : e = j ∧ j < S.size
            · simp [e2]
            · rw [if_neg e2]; exact this
        · intro i' hit u hm
          refine hi.dis i' (by simp [hit]) u ?_
          rcases List.mem_append.1 hm with hm | hm
          · simp [hm]
          · simp [(hkx.2 _ hm).1]
        · intro p hpm
          obtain ⟨o', d', k1, k2, k3, k4, k5⟩ := hi.vP p hpm
          exact ⟨o', d', k1, k2, k3, more _ _ _ k4, fun a w ha => k5 a w (less _ _ ha)⟩
        · intro p hpm
          obtain ⟨k0, o2, k6, k7⟩ := hkx.2 p hpm
          obtain ⟨o', d', k1, k2, k3, k4, k5⟩ := hi.vL p k0
          rw [k6] at k1; cases k1
          exact ⟨o2, d', k6, k2, k3, more _ _ _ k4, k7⟩
      · -- it waits
        exfalso
        unfold waits at hwt
        rw [List.all_eq_true] at hwt
        have := hwt j h
        simp only [hoj, List.any_eq_true] at this
        obtain ⟨e, he, hc⟩ := this
        have h3 := (hi.tod e (by simpa using hc)).1
        rw [hp e he] at h3; cases h3
    · exact pend_exec hR hi hj hv fun d hd => ih _ _ _ hd (unX_set hf (by rw [hi.size]; exact hjs) hu)

/-- An order of so many operations. -/
def ordOk (order : List Nat) (len : Nat) : Bool := order.all (fun i => Nat.blt i len) && ((List.range len).all (fun i => order.contains i) && decide order.Nodup)

/-- A region that draws its order. -/
theorem W.draw {id : Nat} {l : List Oper} (order : List Nat) (hm : P.follows .mixedOrders = true) (hR : okR l.toArray = true) (ho : ordOk order l.length = true)
    (h : OkR l.toArray → DP P n l.toArray Q order [] [] ρ H) : W P n (.region id l.toArray true) Q ρ H := by
  intro a w ha hw
  refine wp_region_any hm ?_
  have hR' := OkR.of hR
  refine h hR' _ _ _ _ ?_ (by unfold unX; rw [List.countP_eq_length_filter]; exact Nat.le_trans (List.length_filter_le _ _) (by simp))
  unfold ordOk at ho
  rw [Bool.and_eq_true, Bool.and_eq_true, List.all_eq_true, List.all_eq_true, decide_eq_true_eq] at ho
  have un : ∀ i, (Array.replicate l.toArray.size false).getD i false = false := by
    intro i
    simp only [Array.getD_eq_getD_getElem?]
    by_cases e : i < l.length <;> simp [e]
  refine ⟨⟨a, ha, ha.df, ha.sz, fun _ _ => rfl⟩, hw.heap_eq rfl, by simp, ?_, ?_, ?_, ho.2.2, fun i hi v hv => by simp at hv, fun p hp => by simp at hp, fun p hp => by simp at hp⟩
  · intro i hi _
    have hi' : i < l.length := by simpa using hi
    exact .inl (by simpa using ho.2.1 i (by simp [hi']))
  · intro i hi
    have := Nat.le_of_ble_eq_true (n := i + 1) (m := l.length) (ho.1 i hi)
    exact ⟨un i, by simpa using (by omega : i < l.length)⟩
  · intro i hS; rw [un i] at hS; cases hS
theorem W.dseq {id : Nat} {l : List Oper} {y : Code} (order : List Nat) (hm : P.follows .mixedOrders = true) (hR : okR l.toArray = true) (ho : ordOk order l.length = true)
    (h : OkR l.toArray → DP P n l.toArray (Exit.then (y.wp P Q) Q) order [] [] ρ H) : W P n (.seq (.region id l.toArray true) y) Q ρ H := W.seq (W.draw order hm hR ho h)

theorem wanted_none {o : Oper} (h : o.guard = none) (y : Nat → Option Bool) : Region.wanted o y = true := by simp [Region.wanted, h]
theorem PureAt.of {o : Oper} {v : Value} (hg : o.guard = none) (h : PV P o ρ v) : PureAt P n ops o v ρ := fun a w ha => .inl ⟨wanted_none hg _, h n a w ha⟩
theorem FloatAt.of {o : Oper} {v : Value} (hg : o.guard = none) (h : FV P o ρ H v) : FloatAt P n ops o v ρ H := fun a w ha hw => .inl ⟨wanted_none hg _, h n a w ha hw⟩
theorem guard_wanted {o : Oper} {a : Act} {j dj : Nat} {oj : Oper} {b want : Bool} (hg : o.guard = some (j, want)) (hj : ops[j]? = some oj) (hd : oj.dst = some dj) (hl : lk ρ dj = some (.bool b)) (ha : EnvOk n ρ a) : Region.wanted o (yielded ops a.tmps) = (b == want) := by
  simp [Region.wanted, hg, yielded_of ha hj hd hl]
theorem PureAt.yes {o : Oper} {v : Value} {j dj : Nat} {oj : Oper} {b want : Bool} (hg : o.guard = some (j, want)) (hj : ops[j]? = some oj) (hd : oj.dst = some dj) (hl : lk ρ dj = some (.bool b)) (hb : b = want) (h : PV P o ρ v) : PureAt P n ops o v ρ :=
  fun a w ha => .inl ⟨by rw [guard_wanted hg hj hd hl ha, hb]; simp, h n a w ha⟩
theorem FloatAt.yes {o : Oper} {v : Value} {j dj : Nat} {oj : Oper} {b want : Bool} (hg : o.guard = some (j, want)) (hj : ops[j]? = some oj) (hd : oj.dst = some dj) (hl : lk ρ dj = some (.bool b)) (hb : b = want) (h : FV P o ρ H v) : FloatAt P n ops o v ρ H :=
  fun a w ha hw => .inl ⟨by rw [guard_wanted hg hj hd hl ha, hb]; simp, h n a w ha hw⟩
theorem PureAt.no {o : Oper} {j dj : Nat} {oj : Oper} {b want : Bool} (hg : o.guard = some (j, want)) (hj : ops[j]? = some oj) (hd : oj.dst = some dj) (hl : lk ρ dj = some (.bool b)) (hb : b = !want) : PureAt P n ops o undef ρ :=
  fun a w ha => .inr ⟨by rw [guard_wanted hg hj hd hl ha, hb]; cases want <;> rfl, rfl⟩
theorem DP.split {t : Nat} {b : Bool} (hl : lk ρ t = some (.bool b)) (ht : b = true → DP P n ops Q todo pP pL ρ H) (hf : b = false → DP P n ops Q todo pP pL ρ H) : DP P n ops Q todo pP pL ρ H := by
  have _ := hl
  cases b
  · exact hf rfl
  · exact ht rfl
theorem DP.splitD {t : Nat} {p : Prop} [Decidable p] (hl : lk ρ t = some (.bool (decide p))) (ht : p → DP P n ops Q todo pP pL ρ H) (hf : ¬ p → DP P n ops Q todo pP pL ρ H) : DP P n ops Q todo pP pL ρ H := by
  have _ := hl
  by_cases h : p
  · exact ht h
  · exact hf h
/-- Steps of the walk through a region that draws. -/
theorem DP.p {j d : Nat} {o : Oper} {v : Value} (ho : ops[j]? = some o) (hg : o.guard = none) (hd : o.dst = some d) (hn : Nat.blt d n = true) (hf : lk ρ d = none) (h : PV P o ρ v)
    (k : DP P n ops Q todo ((j, v) :: pP) pL ((d, v) :: ρ) H) : DP P n ops Q (j :: todo) pP pL ρ H := DP.pure ho hd hn hf (PureAt.of hg h) k
theorem DP.f {j d : Nat} {o : Oper} {v : Value} (ho : ops[j]? = some o) (hg : o.guard = none) (hd : o.dst = some d) (hn : Nat.blt d n = true) (hf : lk ρ d = none) (h : FV P o ρ H v)
    (k : DP P n ops Q todo pP ((j, v) :: pL) ((d, v) :: ρ) H) : DP P n ops Q (j :: todo) pP pL ρ H := DP.float ho hd hn hf (FloatAt.of hg h) k
theorem DP.e (hR : OkR ops) {i d : Nat} {o : Oper} {X : Type} {vx : X → Value} {Hx : X → List Res} (pL' : List (Nat × Value)) (ho : ops[i]? = some o) (hg : o.guard = none) (hd : o.dst = some d) (hn : Nat.blt d n = true) (hf : lk ρ d = none) (hx : OpX P o ρ H vx Hx)
    (hwt : waits ops (i :: todo) todo = true) (hk : ∀ x, KeepL P n ops i ((d, vx x) :: ρ) (Hx x) pL pL') (k : ∀ x, DP P n ops Q todo pP pL' ((d, vx x) :: ρ) (Hx x)) : DP P n ops Q (i :: todo) pP pL ρ H := by
  refine DP.eff hR (pL' := fun _ => pL') ho (by rw [hd]; exact ⟨hn, hf⟩) hx (fun _ _ => wanted_none hg _) hwt ?_ ?_
  · rw [hd]; exact hk
  · rw [hd]; exact k
theorem DP.e0 (hR : OkR ops) {i : Nat} {o : Oper} {X : Type} {vx : X → Value} {Hx : X → List Res} (pL' : List (Nat × Value)) (ho : ops[i]? = some o) (hg : o.guard = none) (hd : o.dst = none) (hx : OpX P o ρ H vx Hx)
    (hwt : waits ops (i :: todo) todo = true) (hk : ∀ x, KeepL P n ops i ρ (Hx x) pL pL') (k : ∀ x, DP P n ops Q todo pP pL' ρ (Hx x)) : DP P n ops Q (i :: todo) pP pL ρ H := by
  refine DP.eff hR (pL' := fun _ => pL') ho (by rw [hd]; trivial) hx (fun _ _ => wanted_none hg _) hwt ?_ ?_
  · rw [hd]; exact hk
  · rw [hd]; exact k
theorem KeepL.nil {i : Nat} : KeepL P n ops i ρ H [] [] := rfl
theorem KeepL.drop {i j : Nat} {v : Value} {pL : List (Nat × Value)} (h : anc ops ops.size i j = true) (k : KeepL P n ops i ρ H pL []) : KeepL P n ops i ρ H ((j, v) :: pL) [] := ⟨h, k⟩
theorem KeepL.dropC {i j : Nat} {v : Value} {pL pL' : List (Nat × Value)} {q : Nat × Value} (h : anc ops ops.size i j = true) (k : KeepL P n ops i ρ H pL (q :: pL')) : KeepL P n ops i ρ H ((j, v) :: pL) (q :: pL') := .inl ⟨h, k⟩
theorem KeepL.keep {i j : Nat} {v : Value} {o : Oper} {pL pL' : List (Nat × Value)} (ho : ops[j]? = some o) (h : FloatAt P n ops o v ρ H) (k : KeepL P n ops i ρ H pL pL') : KeepL P n ops i ρ H ((j, v) :: pL) ((j, v) :: pL') := .inr ⟨rfl, rfl, ⟨o, ho, h⟩, k⟩
end
end Go.Sl
/-! append, conversions, built values. -/
namespace Go.Sl
open Go

/-- Cells that hold ys, and lead to R alone. -/
def Src {α : Type} (K : Kd α) (w : World) (R : Fp) (ys : List α) (cs : List Value) : Prop :=
  cs.length = ys.length * K.sz ∧ (∀ u, u ∈ cs → NA u) ∧ ∀ i y, ys[i]? = some y → ∃ q, (∀ j v, (K.val y q).cells[j]? = some v → cs[i * K.sz + j]? = some v) ∧
    ∀ r, r ∈ K.inner y q → ∃ R', r.holds w none0 R' ∧ ∀ b i, R' b i → R b i

theorem div_lt' {i s n : Nat} (h : i < n * s) : i / s < n := by
  rcases Nat.eq_zero_or_pos s with e | e
  · subst e; simp at h
  · exact Nat.div_lt_of_lt_mul (by rw [Nat.mul_comm]; exact h)

theorem slH.src {α : Type} {K : Kd α} {p : SP} {xs : List α} {w : World} {O R : Fp} (h : slH K p xs w O R) : ∃ cs, Src K w R xs cs ∧ (xs ≠ [] → ∃ b o, p.a = some (b, o) ∧ ∀ j v, cs[j]? = some v → w.cell? ⟨b, o + j, none⟩ = some v) := by
  obtain ⟨h0, h1, h2, h3, h4⟩ := h
  by_cases hx : xs = []
  · subst hx
    exact ⟨[], ⟨by simp, fun u hu => by simp at hu, fun i y hy => by simp at hy⟩, fun h => (h rfl).elim⟩
  · obtain ⟨x0, hx0⟩ : ∃ x, xs[0]? = some x := by cases xs with | nil => exact (hx rfl).elim | cons a l => exact ⟨a, rfl⟩
    obtain ⟨b, o, e, _⟩ := h4 0 x0 hx0
    let cs : List Value := (List.range (xs.length * K.sz)).map fun j => (w.cell? ⟨b, o + j, none⟩).getD undef
    have hcell : ∀ i x, xs[i]? = some x → ∃ q, elemH K b (o + i * K.sz) x q w R := by
      intro i x hi
      obtain ⟨b', o', e', _, q, hq⟩ := h4 i x hi
      rw [e] at e'; cases e'
      exact ⟨q, hq⟩
    have hcs : ∀ (i : Nat) (x : α) (q : K.π), xs[i]? = some x → elemH K b (o + i * K.sz) x q w R → ∀ j v, (K.val x q).cells[j]? = some v → cs[i * K.sz + j]? = some v := by
      intro i x q hi hq j v hv
      have hj : j < K.sz := by rw [← K.len x q]; exact (Array.getElem?_eq_some_iff.1 hv).1
      have hil : i < xs.length := (List.getElem?_eq_some_iff.1 hi).1
      have hlt : i * K.sz + j < xs.length * K.sz := by
        have : (i + 1) * K.sz ≤ xs.length * K.sz := Nat.mul_le_mul_right _ hil
        rw [Nat.add_mul, Nat.one_mul] at this
        omega
      have := hq.1 j v hv
      simp only [cs, List.getElem?_map, List.getElem?_range hlt, Option.map_some]
      rw [← Nat.add_assoc, this]; rfl
    have hat : ∀ k, k < xs.length * K.sz → ∃ i x q, xs[i]? = some x ∧ elemH K b (o + i * K.sz) x q w R ∧ k = i * K.sz + k % K.sz ∧ k % K.sz < K.sz := by
      intro k hk
      have hs : 0 < K.sz := Nat.pos_of_ne_zero fun e => by rw [e] at hk; simp at hk
      have hi := div_lt' hk
      obtain ⟨q, hq⟩ := hcell (k / K.sz) _ (List.getElem?_eq_getElem hi)
      exact ⟨k / K.sz, _, q, List.getElem?_eq_getElem hi, hq, by rw [Nat.mul_comm]; exact (Nat.div_add_mod k K.sz).symm, Nat.mod_lt _ hs⟩
    have hval : ∀ k, k < xs.length * K.sz → ∃ v, w.cell? ⟨b, o + k, none⟩ = some v ∧ NA v := by
      intro k hk
      obtain ⟨i, x, q, g1, g2, g3, g4⟩ := hat k hk
      have hl : k % K.sz < (K.val x q).cells.size := by rw [K.len]; exact g4
      have := g2.1 _ _ (Array.getElem?_eq_getElem hl)
      refine ⟨_, by rw [g3, ← Nat.add_assoc]; exact this, K.na x q _ (by simp)⟩
    refine ⟨cs, ⟨by simp [cs], ?_, fun i y hy => ?_⟩, fun _ => ⟨b, o, e, fun j v hv => ?_⟩⟩
    · intro u hu
      simp only [cs, List.mem_map, List.mem_range] at hu
      obtain ⟨k, hk, rfl⟩ := hu
      obtain ⟨v, g1, g2⟩ := hval k hk
      rw [g1]; exact g2
    · obtain ⟨q, hq⟩ := hcell i y hy
      exact ⟨q, hcs i y q hy hq, hq.2⟩
    · have hj : j < xs.length * K.sz := by have := (List.getElem?_eq_some_iff.1 hv).1; simpa [cs] using this
      obtain ⟨u, g1, g2⟩ := hval j hj
      simp only [cs, List.getElem?_map, List.getElem?_range hj, Option.map_some, Option.some.injEq] at hv
      rw [g1] at hv ⊢
      exact congrArg some hv

theorem Src.mono {α : Type} {K : Kd α} {w : World} {R R' : Fp} {ys : List α} {cs : List Value} (h : Src K w R ys cs) (hr : ∀ b i, R b i → R' b i) : Src K w R' ys cs :=
  ⟨h.1, h.2.1, fun i y hy => let ⟨q, h1, h2⟩ := h.2.2 i y hy; ⟨q, h1, fun r hr' => let ⟨R1, k1, k2⟩ := h2 r hr'; ⟨R1, k1, fun b i hb => hr b i (k2 b i hb)⟩⟩⟩

theorem Src.append {α : Type} {K : Kd α} {w : World} {R : Fp} {xs ys : List α} {cs ds : List Value} (h : Src K w R xs cs) (h' : Src K w R ys ds) : Src K w R (xs ++ ys) (cs ++ ds) := by
  refine ⟨by simp [h.1, h'.1, Nat.add_mul], fun u hu => (List.mem_append.1 hu).elim (h.2.1 u) (h'.2.1 u), fun i y hy => ?_⟩
  by_cases e : i < xs.length
  · rw [List.getElem?_append_left e] at hy
    obtain ⟨q, h1, h2⟩ := h.2.2 i y hy
    refine ⟨q, fun j v hv => ?_, h2⟩
    have := h1 j v hv
    rw [List.getElem?_append_left (List.getElem?_eq_some_iff.1 this).1]; exact this
  · rw [List.getElem?_append_right (by omega)] at hy
    obtain ⟨q, h1, h2⟩ := h'.2.2 _ y hy
    refine ⟨q, fun j v hv => ?_, h2⟩
    have := h1 j v hv
    have hle : xs.length * K.sz ≤ i * K.sz := Nat.mul_le_mul_right _ (by omega)
    rw [List.getElem?_append_right (by rw [h.1]; omega), h.1]
    rw [Nat.sub_mul] at this
    rw [show i * K.sz + j - xs.length * K.sz = i * K.sz - xs.length * K.sz + j from by omega]
    exact this

theorem Src.agree {α : Type} {K : Kd α} {w w' : World} {R : Fp} {ys : List α} {cs : List Value} (h : Src K w R ys cs) (ha : ∀ b i, R b i → w'.cell? ⟨b, i, none⟩ = w.cell? ⟨b, i, none⟩) : Src K w' R ys cs :=
  ⟨h.1, h.2.1, fun i y hy => let ⟨q, h1, h2⟩ := h.2.2 i y hy; ⟨q, h1, fun r hr' => let ⟨R1, k1, k2⟩ := h2 r hr'; ⟨R1, r.loc k1 ⟨fun _ _ h => h.elim, fun b i hb => ha b i (k2 b i hb)⟩, k2⟩⟩⟩

/-- Cells that lie in a block are a slice. -/
theorem Src.slH {α : Type} {K : Kd α} {w : World} {R : Fp} {xs : List α} {cs : List Value} {p : SP} {b o : Nat} (h : Src K w R xs cs) (hp : p.a = some (b, o)) (hc : xs.length ≤ p.c) (hl : ∀ j v, cs[j]? = some v → w.cell? ⟨b, o + j, none⟩ = some v)
    (hr : ∀ b i, R b i → (w.cell? ⟨b, i, none⟩).isSome = true) : slH K p xs w none0 fun c i => R c i ∨ (c = b ∧ o ≤ i ∧ i < o + xs.length * K.sz) := by
  refine ⟨fun _ _ h => h, (fun e => by rw [hp] at e; cases e), hc, ?_, fun i x hx => ?_⟩
  · rintro c i (hb | ⟨rfl, h1, h2⟩)
    · exact hr c i hb
    · have hi : i - o < cs.length := by rw [h.1]; omega
      have := hl (i - o) _ (List.getElem?_eq_getElem hi)
      rw [show o + (i - o) = i from by omega] at this
      rw [this]; rfl
  · obtain ⟨q, h1, h2⟩ := h.2.2 i x hx
    have hil : i < xs.length := (List.getElem?_eq_some_iff.1 hx).1
    refine ⟨b, o, hp, fun j hj => .inr ⟨rfl, by omega, ?_⟩, q, fun j v hv => ?_, fun r hr' => ?_⟩
    · have : (i + 1) * K.sz ≤ xs.length * K.sz := Nat.mul_le_mul_right _ hil
      rw [Nat.add_mul, Nat.one_mul] at this
      omega
    · have := hl _ _ (h1 j v hv)
      rw [Nat.add_assoc]; exact this
    · obtain ⟨R1, k1, k2⟩ := h2 r hr'
      exact ⟨R1, k1, fun b i hb => .inl (k2 b i hb)⟩

theorem nextslicecap_le {need old : Nat} (h : old < need) : Builtin.nextslicecap need old ≤ 2 * need := by
  unfold Builtin.nextslicecap
  split
  · omega
  · split
    · omega
    · have key : ∀ (k c : Nat), c ≤ 2 * need → 256 ≤ need → Builtin.growBy need k c ≤ 2 * need := by
        intro k
        induction k with
        | zero => intro c hc _; exact hc
        | succ k ih =>
          intro c hc hn
          unfold Builtin.growBy
          split
          · exact hc
          · exact ih _ (by omega) hn
      exact key 4 old (by omega) (by omega)

section
variable {P : Program}

/-- The cells at the end of a row take values. -/
theorem run_storeTail {b : Nat} : ∀ (us : List Value) (o i : Nat) (w : World), (∀ j, j < us.length → (w.cell? ⟨b, o + i + j, none⟩).isSome = true ∧ w.frozen? ⟨b, o + i + j, none⟩ = false) → (∀ u, u ∈ us → NA u) →
    ∃ w', (storeCells ⟨b, o, none⟩ us i).run P w = .ok () w' ∧ (∀ j v, us[j]? = some v → w'.cell? ⟨b, o + i + j, none⟩ = some v) ∧ (∀ c k, ¬ (c = b ∧ o + i ≤ k ∧ k < o + i + us.length) → lookO w' c k = lookO w c k) ∧
      (∀ c k, w'.frozen? ⟨c, k, none⟩ = w.frozen? ⟨c, k, none⟩) ∧ w'.heap.size = w.heap.size ∧ (∀ c k, (w.cell? ⟨c, k, none⟩).isSome = true → (w'.cell? ⟨c, k, none⟩).isSome = true)
  | [], o, i, w, _, _ => ⟨w, rfl, fun j v hv => by simp at hv, fun _ _ _ => rfl, fun _ _ => rfl, rfl, fun _ _ h => h⟩
  | u :: us, o, i, w, h, hn => by
    have h0 := h 0 (by simp)
    rw [Nat.add_zero] at h0
    obtain ⟨v0, hv0⟩ := Option.isSome_iff_exists.1 h0.1
    have hs := run_store1 (P := P) hv0 h0.2 (hn u (by simp))
    have keep : ∀ c k, (w.cell? ⟨c, k, none⟩).isSome = true → ((w.setCell ⟨b, o + i, none⟩ u).cell? ⟨c, k, none⟩).isSome = true := by
      intro c k hk
      by_cases e : (⟨b, o + i, none⟩ : Addr) = ⟨c, k, none⟩
      · rw [← e, World.cell?_setCell_same _ _ _ hv0]; rfl
      · rw [World.cell?_setCell_other _ _ _ _ e]; exact hk
    obtain ⟨w', g1, g2, g3, g4, g5, g6⟩ := run_storeTail us o (i + 1) (w.setCell ⟨b, o + i, none⟩ u) (fun j hj => by
      have := h (j + 1) (by simp; omega)
      rw [show o + i + (j + 1) = o + (i + 1) + j from by omega] at this
      exact ⟨keep _ _ this.1, by rw [World.frozen?_setCell]; exact this.2⟩) (fun v hv => hn v (by simp [hv]))
    refine ⟨w', ?_, ?_, ?_, fun c k => by rw [g4, World.frozen?_setCell], by rw [g5]; simp, fun c k hk => g6 c k (keep c k hk)⟩
    · unfold storeCells
      rw [addr_add, run_bind hs]
      exact g1
    · intro j v hv
      cases j with
      | zero =>
        simp only [List.getElem?_cons_zero, Option.some.injEq] at hv
        subst hv
        have := g3 b (o + i) (by omega)
        simp only [lookO, Prod.mk.injEq] at this
        rw [Nat.add_zero, this.1]
        exact World.cell?_setCell_same _ _ _ hv0
      | succ j =>
        simp only [List.getElem?_cons_succ] at hv
        have := g2 j v hv
        rw [← this]; congr 2; omega
    · intro c k hk
      rw [g3 c k (by simp only [List.length_cons] at hk; omega)]
      exact lookO_setCell_ne (by simp only [List.length_cons] at hk; omega)

theorem run_firstCells {α : Type} {K : Kd α} {p : SP} {xs : List α} {w : World} {cs : List Value} {n : Nat} (hl : cs.length = xs.length * K.sz) (h : xs ≠ [] → ∃ b o, p.a = some (b, o) ∧ ∀ j v, cs[j]? = some v → w.cell? ⟨b, o + j, none⟩ = some v) :
    (Builtin.firstCells K.sz xs.length (p.v n)).run P w = .ok cs.toArray w := by
  by_cases hx : xs = []
  · subst hx
    have : cs = [] := List.length_eq_zero_iff.1 (by simpa using hl)
    subst this
    unfold SP.v SP.addr
    cases p.a with
    | none => rfl
    | some ad =>
      simp only [Option.map_some, Builtin.firstCells, List.length_nil, Nat.zero_mul]
      rfl
  · obtain ⟨b, o, e, hc⟩ := h hx
    simp only [SP.v, SP.addr, e, Option.map_some, Builtin.firstCells, Nat.add_zero]
    exact run_loadCells hl hc

/-- A source of an append: how many, and how its cells are read. -/
def SrcV {α : Type} (P : Program) (K : Kd α) (v : Value) (ys : List α) (w : World) (R : Fp) : Prop :=
  ∃ cs, Src K w R ys cs ∧ (Builtin.lenOf v).run P w = .ok ys.length w ∧ ∀ n w', n ≤ ys.length → w'.heap = w.heap → (Builtin.firstCells K.sz n v).run P w' = .ok (cs.take (n * K.sz)).toArray w'

theorem SrcV.ofSlH {α : Type} {K : Kd α} {p : SP} {ys : List α} {w : World} {O R : Fp} (h : slH K p ys w O R) : SrcV P K (p.v ys.length) ys w R := by
  obtain ⟨cs, h1, h2⟩ := h.src
  refine ⟨cs, h1, rfl, fun n w' hn e => ?_⟩
  by_cases hx : ys = []
  · subst hx
    have hn0 : n = 0 := by simpa using hn
    subst hn0
    unfold SP.v SP.addr
    cases p.a with
    | none => simp [Builtin.firstCells]
    | some ad => simp [Builtin.firstCells, loadCells, loadCellsFrom]
  · obtain ⟨b, o, g1, g2⟩ := h2 hx
    simp only [SP.v, SP.addr, g1, Option.map_some, Builtin.firstCells, Nat.add_zero]
    refine run_loadCells (by rw [List.length_take, h1.1]; exact Nat.min_eq_left (Nat.mul_le_mul_right _ hn)) fun j v hv => ?_
    have hj : j < n * K.sz := by have := (List.getElem?_eq_some_iff.1 hv).1; rw [List.length_take] at this; omega
    rw [List.getElem?_take_of_lt hj] at hv
    have := g2 j v hv
    simp only [World.cell?, e] at this ⊢; exact this

theorem SrcV.ofText {s : List UInt8} {w : World} : SrcV P Kb (str s) s w none0 := by
  refine ⟨s.map fun b => .int .u8 b.toNat, ⟨by simp [Kb], fun u hu => ?_, fun i y hy => ⟨(), fun j v hv => ?_, fun r hr => by simp [Kb] at hr⟩⟩, ?_, ?_⟩
  · simp only [List.mem_map] at hu
    obtain ⟨b, _, rfl⟩ := hu
    exact NA.int _ _
  · have e : (Kb.val y ()).cells = #[.int .u8 y.toNat] := rfl
    rw [e] at hv
    cases j with
    | zero =>
      simp at hv
      subst hv
      simp [Kb, hy]
    | succ j => simp at hv
  · show (pure (ByteArray.mk s.toArray).size : Sem Nat).run P w = _
    have hsz : (ByteArray.mk s.toArray).size = s.length := by show s.toArray.size = _; simp
    rw [hsz]; rfl
  · intro n w' _ _
    show (pure (((ByteArray.mk s.toArray).extract 0 n).data.map fun b => Value.int .u8 b.toNat) : Sem (Array Value)).run P w' = _
    rw [extract_mk]
    have e1 : Kb.sz = 1 := rfl
    simp [e1, List.map_take]

theorem slH.to_none {α : Type} {K : Kd α} {p : SP} {xs : List α} {w : World} {O R : Fp} (h : slH K p xs w O R) : slH K p xs w none0 R := ⟨fun _ _ h => h, h.2⟩

/-- What was known without the tail, behind a step that wrote in the tail or made a block. -/
theorem app_close {α : Type} {K : Kd α} {p' : SP} {zs : List α} {w w' : World} {F : List Res} {OF RF Ot Rn : Fp} (hF : Sep w F OF RF) (hkeep : ∀ b i, OF b i ∨ RF b i → lookO w' b i = lookO w b i)
    (ht : tlH K.sz p' zs.length w' Ot none0) (hs : slH K p' zs w' none0 Rn) (d1 : ∀ b i, Ot b i → ¬ OF b i ∧ ¬ RF b i) (d2 : ∀ b i, Rn b i → ¬ Ot b i ∧ ¬ OF b i) : Holds (sl K p' zs :: tl K.sz p' zs.length :: F) w' := by
  have hF' : Sep w' F OF RF := hF.loc ⟨fun b i hb => hkeep b i (.inl hb), fun b i hb => by
    have := hkeep b i (.inr hb); simp only [lookO, Prod.mk.injEq] at this; exact this.1⟩
  have h1 : Sep w' (tl K.sz p' zs.length :: F) (fun b i => Ot b i ∨ OF b i) (fun b i => RF b i) :=
    ⟨Ot, none0, OF, RF, ht, hF', d1, fun _ _ _ h => h, fun _ _ => Iff.rfl, fun _ _ => by simp [none0]⟩
  have h2 : Sep w' [sl K p' zs] none0 Rn := ⟨none0, Rn, none0, none0, hs, ⟨fun _ _ h => h, fun _ _ h => h⟩, fun _ _ h => h.elim, fun _ _ h => h.elim, fun _ _ => by simp [none0], fun _ _ => by simp [none0]⟩
  exact Holds.addPers h1 h2 fun b i hb ho => ho.elim (d2 b i hb).1 (d2 b i hb).2

theorem run_append {α : Type} {K : Kd α} {t t2 e bytes : Nat} {p : SP} {xs ys : List α} {v : Value} {w : World} {R1 R2 OF RF Ot : Fp} {F : List Res} (ht : SlT P t e K.sz bytes) (h2 : ∃ ds, P.underlying t2 = some ds ∧ ∀ k, ds ≠ .int k)
    (hF : Sep w F OF RF) (htl : tlH K.sz p xs.length w Ot none0) (hx : slH K p xs w none0 R1) (hv : SrcV P K v ys w R2) (r2 : ∀ b i, R2 b i → (w.cell? ⟨b, i, none⟩).isSome = true)
    (dt : ∀ b i, Ot b i → ¬ OF b i ∧ ¬ RF b i) (d1 : ∀ b i, R1 b i → ¬ Ot b i ∧ ¬ OF b i) (d2 : ∀ b i, R2 b i → ¬ Ot b i ∧ ¬ OF b i)
    (hb : (xs.length + ys.length) * bytes ≤ 140737488355328) (hlen : xs.length + ys.length ≤ 9223372036854775807) :
    ∃ p' w', (Builtin.append_ #[t, t2] t #[p.v xs.length, v]).run P w = .ok (p'.v (xs ++ ys).length) w' ∧ Holds (sl K p' (xs ++ ys) :: tl K.sz p' (xs ++ ys).length :: F) w' := by
  obtain ⟨ht1, ie, z, h3, h4, h5, h6, h7⟩ := ht
  obtain ⟨ds, hds, hdn⟩ := h2
  obtain ⟨cy, hsy, hly, hfy0⟩ := hv
  have hfy : ∀ w', w'.heap = w.heap → (Builtin.firstCells K.sz ys.length v).run P w' = .ok cy.toArray w' := fun w' e => by
    rw [hfy0 ys.length w' (Nat.le_refl _) e, ← hsy.1, List.take_length]
  obtain ⟨cx, hsx, hcx⟩ := hx.src
  obtain ⟨t0, t1, t2', t3, t4⟩ := htl
  have r1 := hx.2.2.2.1
  have hb2 := hF.bd
  have hlenL : (xs ++ ys).length = xs.length + ys.length := by simp
  -- the walk of the builtin
  unfold Builtin.append_
  have g1 : (#[t, t2] : Array TypeId)[0]? = some t := rfl
  have g2 : (#[t, t2] : Array TypeId)[1]? = some t2 := rfl
  have g3 : (#[p.v xs.length, v] : Array Value)[0]? = some (p.v xs.length) := rfl
  have g4 : (#[p.v xs.length, v] : Array Value)[1]? = some v := rfl
  simp only [g1, g2, g3, g4]
  rw [run_bind (run_underlying ht1 w)]
  simp only [SP.v]
  rw [run_bind (run_sizeOf h3)]
  simp only [h4]
  rw [run_bind (run_underlying hds w)]
  simp only [pure_bind, Bool.false_eq_true, if_false, Bool.not_false, if_true, false_or]
  rw [run_bind hly]
  clear g1 g2 g3 g4
  by_cases hc : xs.length + ys.length ≤ p.c
  · -- there is room
    simp only [hc, if_true]
    rw [run_bind (hfy w rfl)]
    cases hpa : p.a with
    | none =>
      have hp0 := t1 hpa
      have ex : xs = [] := List.length_eq_zero_iff.1 (by omega)
      have ey : ys = [] := List.length_eq_zero_iff.1 (by omega)
      subst ex; subst ey
      refine ⟨p, w, by simp [SP.addr, hpa], ?_⟩
      exact app_close hF (fun _ _ _ => rfl) ⟨t0, t1, t2', t3, t4⟩ hx dt fun b i hb => d1 b i hb
    | some ad =>
      obtain ⟨b, o⟩ := ad
      have hO : ∀ c k, Ot c k ↔ c = b ∧ o + xs.length * K.sz ≤ k ∧ k < o + p.c * K.sz := by
        intro c k; rw [t3]
        constructor
        · rintro ⟨o', a1, a2, a3⟩; rw [hpa] at a1; cases a1; exact ⟨rfl, a2, a3⟩
        · rintro ⟨rfl, a2, a3⟩; exact ⟨o, hpa, a2, a3⟩
      have hmul : (xs.length + ys.length) * K.sz ≤ p.c * K.sz := Nat.mul_le_mul_right _ hc
      rw [Nat.add_mul] at hmul
      obtain ⟨w', g1, g2, g3, g4, g5, g6⟩ := run_storeTail (P := P) (b := b) cy (o + xs.length * K.sz) 0 w (fun j hj => by
        rw [hsy.1] at hj
        exact t4 _ _ ((hO _ _).2 ⟨rfl, by omega, by omega⟩)) hsy.2.1
      simp only [Nat.add_zero] at g2 g3
      have keepR : ∀ c k, ¬ Ot c k → w'.cell? ⟨c, k, none⟩ = w.cell? ⟨c, k, none⟩ := by
        intro c k hn
        have := g3 c k (fun hh => hn ((hO c k).2 ⟨hh.1, hh.2.1, by rw [hsy.1] at hh; omega⟩))
        simp only [lookO, Prod.mk.injEq] at this
        exact this.1
      refine ⟨p, w', ?_, ?_⟩
      · simp only [SP.addr, hpa, Option.map_some, Nat.add_zero, addr_add]
        rw [run_bind g1]
        simp
      · have hS : Src K w' (fun b i => R1 b i ∨ R2 b i) (xs ++ ys) (cx ++ cy) :=
          ((hsx.mono fun _ _ h => .inl h).append (hsy.mono fun _ _ h => .inr h)).agree fun c k hb => keepR c k (hb.elim (fun h => (d1 c k h).1) fun h => (d2 c k h).1)
        have hcell : ∀ j u, (cx ++ cy)[j]? = some u → w'.cell? ⟨b, o + j, none⟩ = some u := by
          intro j u hu
          by_cases e : j < cx.length
          · rw [List.getElem?_append_left e] at hu
            have hne : xs ≠ [] := by intro h0; subst h0; have := hsx.1; simp at this; rw [this] at e; simp at e
            obtain ⟨b', o', e', hc'⟩ := hcx hne
            rw [hpa] at e'; cases e'
            rw [keepR _ _ (fun hh => by have := (hO _ _).1 hh; rw [hsx.1] at e; omega)]
            exact hc' j u hu
          · rw [List.getElem?_append_right (by omega), hsx.1] at hu
            have := g2 _ u hu
            rw [← this]; congr 2; rw [hsx.1] at e; omega
        have hsl := hS.slH hpa (by rw [hlenL]; exact hc) hcell (fun c k hb => g6 c k (hb.elim (r1 c k) (r2 c k)))
        refine app_close hF (fun c k hb => g3 c k fun hh => ?_) ⟨fun _ _ h => h, t1, by rw [hlenL]; exact hc, ?_, ?_⟩ hsl (Ot := fun c k => c = b ∧ o + (xs ++ ys).length * K.sz ≤ k ∧ k < o + p.c * K.sz) ?_ ?_
        · have := (hO c k).2 ⟨hh.1, hh.2.1, by rw [hsy.1] at hh; omega⟩
          exact hb.elim (dt c k this).1 (dt c k this).2
        · intro c k
          constructor
          · rintro ⟨rfl, a1, a2⟩; exact ⟨o, hpa, a1, a2⟩
          · rintro ⟨o', a1, a2, a3⟩; rw [hpa] at a1; cases a1; exact ⟨rfl, a2, a3⟩
        · rintro c k ⟨rfl, a1, a2⟩
          rw [hlenL, Nat.add_mul] at a1
          have := t4 c k ((hO c k).2 ⟨rfl, by omega, a2⟩)
          exact ⟨g6 c k this.1, by rw [g4]; exact this.2⟩
        · rintro c k ⟨rfl, a1, a2⟩
          rw [hlenL, Nat.add_mul] at a1
          exact dt c k ((hO c k).2 ⟨rfl, by omega, a2⟩)
        · rintro c k (hb | ⟨rfl, a1, a2⟩)
          · rcases hb with hb | hb
            · exact ⟨fun hh => (d1 c k hb).1 ((hO c k).2 ⟨hh.1, by rw [hlenL, Nat.add_mul] at hh; omega, hh.2.2⟩), (d1 c k hb).2⟩
            · exact ⟨fun hh => (d2 c k hb).1 ((hO c k).2 ⟨hh.1, by rw [hlenL, Nat.add_mul] at hh; omega, hh.2.2⟩), (d2 c k hb).2⟩
          · refine ⟨fun hh => by omega, ?_⟩
            by_cases e : k < o + xs.length * K.sz
            · have hs : 0 < K.sz := Nat.pos_of_ne_zero fun e0 => by rw [e0] at e; omega
              have hi : (k - o) / K.sz < xs.length := div_lt' (by omega)
              obtain ⟨b', o', e', hr, _⟩ := hx.2.2.2.2 _ _ (List.getElem?_eq_getElem hi)
              rw [hpa] at e'; cases e'
              have := hr ((k - o) % K.sz) (Nat.mod_lt _ hs)
              rw [show o + (k - o) / K.sz * K.sz + (k - o) % K.sz = k from by have := Nat.div_add_mod (k - o) K.sz; rw [Nat.mul_comm] at this; omega] at this
              exact (d1 _ _ this).2
            · rw [hlenL, Nat.add_mul] at a2
              exact (dt c k ((hO c k).2 ⟨rfl, by omega, by omega⟩)).1
  · -- a new row
    simp only [hc, if_false]
    have hmax : ¬ (((xs.length + ys.length : Nat) : Int) > IntKind.i64.max) := by
      have e0 : IntKind.i64.max = 9223372036854775807 := by decide
      rw [e0]; omega
    have hns : ¬ (Builtin.nextslicecap (xs.length + ys.length) p.c * bytes > 2 ^ 48) := by
      have h8 := nextslicecap_le (need := xs.length + ys.length) (old := p.c) (by omega)
      have h9 := Nat.mul_le_mul_right bytes h8
      rw [Nat.mul_assoc] at h9
      omega
    rw [run_bind (run_info h3), if_neg (fun h => hmax h.1), run_bind (run_info h3), h5, if_neg hns]
    have hch : (choose (.appendCap (xs.length + ys.length) p.c e)).run P w = .ok ((xs.length + ys.length) + w.tape w.drawn (.appendCap (xs.length + ys.length) p.c e) % (2 ^ 63 - (xs.length + ys.length))) w.drew := by
      rfl
    rw [run_bind hch]
    generalize w.tape w.drawn (.appendCap (xs.length + ys.length) p.c e) % (2 ^ 63 - (xs.length + ys.length)) = ex
    have hroom : (askRoom (((xs.length + ys.length) + ex) * bytes)).run P w.drew = .ok () w.drew := by
      unfold askRoom; split <;> rfl
    have hwd : w.drew.heap = w.heap := rfl
    rw [run_bind (run_info h3), h5, run_bind hroom]
    have hfx : (Builtin.firstCells K.sz xs.length (.slice (p.addr 0) xs.length p.c)).run P w.drew = .ok cx.toArray w.drew :=
      run_firstCells (p := p) (n := xs.length) hsx.1 hcx
    rw [run_bind hfx, run_bind (hfy _ hwd), run_bind (run_zero ⟨ie, h3, h6⟩)]
    rw [Nat.add_sub_cancel_left]
    have hnr : (newRow e (cx.toArray ++ cy.toArray ++ Builtin.zeroCells z.cells ex)).run P w.drew = .ok ⟨w.heap.size, 0, none⟩ (w.drew.alloc (.cells (cx.toArray ++ cy.toArray ++ Builtin.zeroCells z.cells ex) e)) := rfl
    rw [run_bind hnr]
    refine ⟨⟨some (w.heap.size, 0), xs.length + ys.length + ex⟩, _, by rw [hlenL]; rfl, ?_⟩
    have hzl : (Builtin.zeroCells z.cells ex).size = ex * K.sz := by simp [Builtin.zeroCells, h7]
    generalize Builtin.zeroCells z.cells ex = zs at hzl ⊢
    have hlt : ∀ c k o, c < w.heap.size → lookO (w.drew.alloc o) c k = lookO w c k := fun c k o h => by rw [lookO_alloc (w := w.drew) h]; rfl
    have hcl : ∀ k u, (cx ++ cy ++ zs.toList)[k]? = some u → (w.drew.alloc (.cells (cx.toArray ++ cy.toArray ++ zs) e)).cell? ⟨w.heap.size, 0 + k, none⟩ = some u := by
      intro k u hu
      have := World.cell?_alloc_new w.drew (cx.toArray ++ cy.toArray ++ zs) e k
      rw [hwd] at this
      rw [Nat.zero_add, this]
      have e0 : cx.toArray ++ cy.toArray ++ zs = (cx ++ cy ++ zs.toList).toArray := by apply Array.ext'; simp
      rw [e0]
      simpa using hu
    have hfz : ∀ k, (w.drew.alloc (.cells (cx.toArray ++ cy.toArray ++ zs) e)).frozen? ⟨w.heap.size, k, none⟩ = false := by
      intro k
      have := World.frozen?_alloc_new w.drew (cx.toArray ++ cy.toArray ++ zs) e k
      rw [hwd] at this; exact this
    have hR1 : ∀ c k, R1 c k → c < w.heap.size := fun c k h => isSome_lt (r1 c k h)
    have hR2 : ∀ c k, R2 c k → c < w.heap.size := fun c k h => isSome_lt (r2 c k h)
    have hcellK : ∀ c k, c < w.heap.size → (w.drew.alloc (.cells (cx.toArray ++ cy.toArray ++ zs) e)).cell? ⟨c, k, none⟩ = w.cell? ⟨c, k, none⟩ := by
      intro c k h
      have := hlt c k (.cells (cx.toArray ++ cy.toArray ++ zs) e) h
      simp only [lookO, Prod.mk.injEq] at this
      exact this.1
    have hS : Src K (w.drew.alloc (.cells (cx.toArray ++ cy.toArray ++ zs) e)) (fun b i => R1 b i ∨ R2 b i) (xs ++ ys) (cx ++ cy) :=
      ((hsx.mono fun _ _ h => .inl h).append (hsy.mono fun _ _ h => .inr h)).agree fun c k hb => hcellK c k (hb.elim (hR1 c k) (hR2 c k))
    have hsl := hS.slH (p := ⟨some (w.heap.size, 0), xs.length + ys.length + ex⟩) rfl (by rw [hlenL]; show xs.length + ys.length ≤ xs.length + ys.length + ex; omega)
      (fun j u hu => hcl j u (by rw [List.getElem?_append_left (List.getElem?_eq_some_iff.1 hu).1]; exact hu))
      (fun c k hb => by
        have hl : c < w.heap.size := hb.elim (hR1 c k) (hR2 c k)
        rw [hcellK c k hl]; exact hb.elim (r1 c k) (r2 c k))
    have hall : (cx ++ cy ++ zs.toList).length = (xs.length + ys.length + ex) * K.sz := by
      have hz2 : zs.toList.length = ex * K.sz := by rw [Array.length_toList]; exact hzl
      rw [List.length_append, List.length_append, hsx.1, hsy.1, hz2, Nat.add_mul, Nat.add_mul]
    refine app_close hF (fun c k hb => hlt c k _ (hb2 c k hb)) ⟨fun _ _ h => h, (fun h => by cases h), by rw [hlenL]; show xs.length + ys.length ≤ xs.length + ys.length + ex; omega, ?_, ?_⟩ hsl
      (Ot := fun c k => c = w.heap.size ∧ (xs ++ ys).length * K.sz ≤ k ∧ k < (xs.length + ys.length + ex) * K.sz) ?_ ?_
    · intro c k
      constructor
      · rintro ⟨rfl, a1, a2⟩; exact ⟨0, rfl, by omega, by simpa using a2⟩
      · rintro ⟨o', a1, a2, a3⟩; cases a1; exact ⟨rfl, by omega, by simpa using a3⟩
    · rintro c k ⟨rfl, a1, a2⟩
      have hk : k < (cx ++ cy ++ zs.toList).length := by rw [hall]; exact a2
      have := hcl k _ (List.getElem?_eq_getElem hk)
      rw [Nat.zero_add] at this
      exact ⟨by rw [this]; rfl, hfz k⟩
    · rintro c k ⟨rfl, a1, a2⟩
      exact ⟨fun h => by have := hb2 _ _ (.inl h); omega, fun h => by have := hb2 _ _ (.inr h); omega⟩
    · rintro c k (hb | ⟨rfl, a1, a2⟩)
      · have hl : c < w.heap.size := hb.elim (hR1 c k) (hR2 c k)
        exact ⟨fun hh => by omega, hb.elim (fun h => (d1 c k h).2) fun h => (d2 c k h).2⟩
      · exact ⟨fun hh => by omega, fun h => by have := hb2 _ _ (.inl h); omega⟩

variable {ρ : Env} {H : List Res} {d : Option Tmp} {ty : TypeId} {pos : String} {af : Array Edge} {g : Option (Nat × Bool)} {x y : Operand}

/-- What is read, and owned by nobody. -/
theorem Sep.atR {w : World} {A : List Res} {O R : Fp} {r : Res} {i : Nat} (h : Sep w A O R) (hp : r.Pers) (hi : A[i]? = some r) : ∃ R1, r.holds w none0 R1 ∧ ∀ b k, R1 b k → R b k ∧ ¬ O b k := by
  obtain ⟨O1, R1, O2, R2, h1, h2, d1, d2, eo, er⟩ := h.perm (perm_rem hi)
  have e1 : O1 = none0 := funext fun b => funext fun i => propext ⟨fun hb => (hp _ _ _ h1 b i hb).elim, fun hb => hb.elim⟩
  subst e1
  exact ⟨R1, h1, fun b i hb => ⟨(er b i).2 (.inl hb), fun ho => ((eo b i).1 ho).elim (fun h => h) fun h => d2 b i h hb⟩⟩

theorem SrcV.atSl {α : Type} {K : Kd α} {p : SP} {ys : List α} {A : List Res} (k : Nat) (hk : A[k]? = some (sl K p ys)) :
    ∀ w O R, Sep w A O R → ∃ R2, SrcV P K (p.v ys.length) ys w R2 ∧ (∀ b k, R2 b k → (w.cell? ⟨b, k, none⟩).isSome = true) ∧ ∀ b k, R2 b k → R b k ∧ ¬ O b k :=
  fun _ _ _ h => let ⟨R1, h1, h2⟩ := h.atR (sl_pers K p ys) hk; ⟨R1, SrcV.ofSlH h1, (sl K p ys).rd h1, h2⟩
theorem SrcV.ofStr {s : List UInt8} {A : List Res} :
    ∀ w O R, Sep w A O R → ∃ R2, SrcV P Kb (str s) s w R2 ∧ (∀ b k, R2 b k → (w.cell? ⟨b, k, none⟩).isSome = true) ∧ ∀ b k, R2 b k → R b k ∧ ¬ O b k :=
  fun _ _ _ _ => ⟨none0, SrcV.ofText, fun _ _ h => h.elim, fun _ _ h => h.elim⟩

/-- append(x, y...): the tail at i; x's reading at j in what is left. -/
theorem OpX.app {α : Type} {K : Kd α} {t t2 e bytes : Nat} {p : SP} {xs ys : List α} {v : Value} (i j : Nat) (ht : SlT P t e K.sz bytes) (h2 : ∃ ds, P.underlying t2 = some ds ∧ ∀ k, ds ≠ .int k)
    (hx : ev ρ x = some (p.v xs.length)) (hy : ev ρ y = some v) (hi : H[i]? = some (tl K.sz p xs.length)) (hj : (rem H i)[j]? = some (sl K p xs))
    (hv : ∀ w O R, Sep w (rem H i) O R → ∃ R2, SrcV P K v ys w R2 ∧ (∀ b k, R2 b k → (w.cell? ⟨b, k, none⟩).isSome = true) ∧ ∀ b k, R2 b k → R b k ∧ ¬ O b k)
    (hb : (xs.length + ys.length) * bytes ≤ 140737488355328) (hlen : xs.length + ys.length ≤ 9223372036854775807) :
    OpX P ⟨d, .call ⟨.builtin .append, #[x, y], #[t, t2]⟩, t, pos, af, g⟩ ρ H (fun p' : SP => p'.v (xs ++ ys).length) (fun p' => sl K p' (xs ++ ys) :: tl K.sz p' (xs ++ ys).length :: rem H i) := by
  intro n a w ha hw next Q kk
  obtain ⟨O, R, Ot, Rt, OF, RF, h1, hF, d1, d2, eo, er⟩ := hw.perm (perm_rem hi)
  have ht0 : Rt = none0 := funext fun b => funext fun k => propext ⟨fun hb => (h1.1 b k hb).elim, fun hb => hb.elim⟩
  subst ht0
  obtain ⟨R1, hs1, hs2⟩ := hF.atR (sl_pers K p xs) hj
  obtain ⟨R2, v1, v2, v3⟩ := hv w OF RF hF
  obtain ⟨p', w', g1, g2⟩ := run_append (P := P) ht h2 hF h1 hs1 v1 v2 d1 (fun b k hb => ⟨fun ho => (d1 b k ho).2 (hs2 b k hb).1, (hs2 b k hb).2⟩) (fun b k hb => ⟨fun ho => (d1 b k ho).2 (v3 b k hb).1, (v3 b k hb).2⟩) hb hlen
  have : (execOp a.eval ⟨d, .call ⟨.builtin .append, #[x, y], #[t, t2]⟩, t, pos, af, g⟩).run P w = .ok (.value (p'.v (xs ++ ys).length)) w' := by
    have e0 : execOp a.eval ⟨d, .call ⟨.builtin .append, #[x, y], #[t, t2]⟩, t, pos, af, g⟩ = (Builtin.append_ #[t, t2] t #[p.v xs.length, v] >>= fun x => pure (Next.value x)) := by
      simp [execOp, resolve, invoke, builtin, ha.ev hx, ha.ev hy]
    rw [e0]
    exact run_v g1
  rw [this]
  exact kk p' w' g2
end
end Go.Sl
/-! Built values, conversions, arrays that are written, copies, new rows. -/
namespace Go.Sl
open Go

/-- A struct type's fields: where each lies and how large it is; its zero cells. -/
def BtT (P : Program) (t : TypeId) (pl : List (Nat × Nat)) (zs : List Value) : Prop :=
  ∃ fs z, P.underlying t = some (.struct fs) ∧ Zr P t z ∧ z.cells.toList = zs ∧ fs.size = pl.length ∧ ∀ (i : Nat) (f : Field), fs[i]? = some f → ∃ (q : Nat × Nat), pl[i]? = some q ∧ f.offset = q.1 ∧ Sz P f.type q.2
/-- An array type's. -/
def BtA (P : Program) (t : TypeId) (s : Nat) (zs : List Value) : Prop :=
  ∃ n e z, P.underlying t = some (.array n e) ∧ Zr P t z ∧ z.cells.toList = zs ∧ Sz P e s

/-- The parts are laid into the cells. -/
def layL (place : Nat → Option (Nat × Nat)) : List Value → List (Nat × Value) → Option (List Value)
  | cs, [] => some cs
  | cs, (i, v) :: r => match place i with
    | none => none
    | some (off, s) => bif Nat.beq v.cells.size s && Nat.ble (off + s) cs.length then layL place (setL cs off v.cells.toList) r else none

theorem foldl_setL : ∀ (us : List Value) (cs : Array Value) (off k : Nat), ((us.zipIdx k).foldl (fun cs (c, j) => cs.setIfInBounds (off + j) c) cs).toList = setL cs.toList (off + k) us
  | [], cs, off, k => rfl
  | u :: us, cs, off, k => by
    simp only [List.zipIdx_cons, List.foldl_cons, setL]
    rw [foldl_setL us _ off (k + 1), Array.toList_setIfInBounds, Nat.add_assoc]

theorem fill_layL (place : Nat → Option (Nat × Nat)) : ∀ (ps : List (Nat × Value)) (cs : Array Value) (r : List Value), layL place cs.toList ps = some r → Instr.fill place cs ps = some r.toArray
  | [], cs, r, h => by
    simp only [layL, Option.some.injEq] at h
    subst h; simp [Instr.fill]
  | (i, v) :: ps, cs, r, h => by
    unfold layL at h
    unfold Instr.fill
    cases hp : place i with
    | none => simp [hp] at h
    | some q =>
      obtain ⟨off, s⟩ := q
      simp only [hp] at h ⊢
      cases hb : (Nat.beq v.cells.size s && Nat.ble (off + s) cs.toList.length) with
      | false => rw [hb] at h; simp at h
      | true =>
        rw [hb] at h
        simp only [cond_true] at h
        have hb1 := Nat.eq_of_beq_eq_true (Bool.and_eq_true_iff.1 hb).1
        have hb2 := Nat.le_of_ble_eq_true (Bool.and_eq_true_iff.1 hb).2
        have hne : ¬ ((decide (v.cells.size ≠ s) || decide (off + v.cells.size > cs.size)) = true) := by
          simp [hb1]
          rw [Array.length_toList] at hb2
          omega
        rw [if_neg hne]
        refine fill_layL place ps _ r ?_
        have := foldl_setL v.cells.toList cs off 0
        rw [← Array.foldl_toList, Array.toList_zipIdx, this]
        exact h

section
variable {P : Program} {ρ : Env} {H : List Res} {d : Option Tmp} {ty : TypeId} {pos : String} {af : Array Edge} {g : Option (Nat × Bool)}
variable {x y z : Operand} {u v : Value} {b off : Nat} {vs : List Value}

/-- Parts, with their values. -/
def evp (ρ : Env) : List (Nat × Operand) → Option (List (Nat × Value))
  | [] => some []
  | (i, x) :: xs => match ev ρ x with
    | some v => match evp ρ xs with
      | some vs => some ((i, v) :: vs)
      | none => none
    | none => none

theorem EnvOk.evp {n : Nat} {a : Act} (h : EnvOk n ρ a) : ∀ {xs : List (Nat × Operand)} {vs : List (Nat × Value)}, Sl.evp ρ xs = some vs → xs.map (fun (i, x) => (i, a.eval x)) = vs
  | [], vs, e => by simp only [Sl.evp, Option.some.injEq] at e; subst e; rfl
  | (i, x) :: xs, vs, e => by
    simp only [Sl.evp] at e
    cases h1 : Sl.ev ρ x with
    | none => simp [h1] at e
    | some v =>
      cases h2 : Sl.evp ρ xs with
      | none => simp [h1, h2] at e
      | some us =>
        simp only [h1, h2, Option.some.injEq] at e
        subst e
        simp [h.ev h1, h.evp h2]

theorem mapM_places {fs : List Field} {pl : List (Nat × Nat)} {w : World} (hl : fs.length = pl.length) (h : ∀ (i : Nat) (f : Field), fs[i]? = some f → ∃ (q : Nat × Nat), pl[i]? = some q ∧ f.offset = q.1 ∧ Sz P f.type q.2) :
    (fs.mapM (fun f => do pure (f.offset, ← sizeOf f.type) : Field → Sem (Nat × Nat))).run P w = .ok pl w := by
  induction fs generalizing pl with
  | nil => cases pl with
    | nil => rfl
    | cons q pl => simp at hl
  | cons f fs ih =>
    cases pl with
    | nil => simp at hl
    | cons q pl =>
      obtain ⟨q', h1, h2, inf, h3, h4⟩ := h 0 f rfl
      simp only [List.getElem?_cons_zero, Option.some.injEq] at h1
      subst h1
      have := ih (pl := pl) (by simpa using hl) (fun i f' hf' => by have := h (i + 1) f' (by simpa using hf'); simpa using this)
      rw [List.mapM_cons]
      have h5 : ((do pure (f.offset, ← sizeOf f.type) : Sem (Nat × Nat))).run P w = .ok q w := by
        rw [run_bind (run_sizeOf h3), h4, h2]; rfl
      rw [run_bind h5, run_bind this]; rfl

theorem PV.bld {t : TypeId} {ps : Array (Nat × Operand)} {pl : List (Nat × Nat)} {zs cs : List Value} {vs : List (Nat × Value)} (ht : BtT P t pl zs) (hp : evp ρ ps.toList = some vs) (hc : layL (fun i : Nat => pl[i]?) zs vs = some cs) :
    PV P ⟨d, .build t ps, ty, pos, af, g⟩ ρ (.agg cs.toArray) :=
  fun n a w ha => by
    obtain ⟨fs, z, h1, h2, h3, h4, h5⟩ := ht
    have e1 : ps.map (fun (i, x) => (i, a.eval x)) = vs.toArray := by apply Array.ext'; simpa using ha.evp hp
    have e0 : execOp a.eval ⟨d, .build t ps, ty, pos, af, g⟩ = (Instr.build t vs.toArray >>= fun x => pure (Next.value x)) := by
      simp only [execOp]; rw [e1]
    rw [e0]
    refine run_v ?_
    unfold Instr.build
    rw [run_bind (run_zero h2), run_bind (run_underlying h1 w)]
    have hm : (fs.mapM (fun f => do pure (f.offset, ← sizeOf f.type) : Field → Sem (Nat × Nat))).run P w = .ok pl.toArray w := by
      rw [Array.mapM_eq_mapM_toList, map_eq_pure_bind, run_bind (mapM_places (pl := pl) (by simpa using h4) (fun i f hf => h5 i f (by simpa using hf)))]; rfl
    simp only
    rw [run_bind hm]
    have hfill := fill_layL (fun i : Nat => pl[i]?) vs z.cells cs (by rw [h3]; exact hc)
    have e2 : (fun i : Nat => pl.toArray[i]?) = fun i : Nat => pl[i]? := by funext i; simp
    simp only [e2, hfill]
    rfl

theorem PV.bldA {t s : Nat} {ps : Array (Nat × Operand)} {zs cs : List Value} {vs : List (Nat × Value)} (ht : BtA P t s zs) (hp : evp ρ ps.toList = some vs) (hc : layL (fun i => some (i * s, s)) zs vs = some cs) :
    PV P ⟨d, .build t ps, ty, pos, af, g⟩ ρ (.agg cs.toArray) :=
  fun n a w ha => by
    obtain ⟨m, e, z, h1, h2, h3, inf, h4, h5⟩ := ht
    have e1 : ps.map (fun (i, x) => (i, a.eval x)) = vs.toArray := by apply Array.ext'; simpa using ha.evp hp
    have e0 : execOp a.eval ⟨d, .build t ps, ty, pos, af, g⟩ = (Instr.build t vs.toArray >>= fun x => pure (Next.value x)) := by
      simp only [execOp]; rw [e1]
    rw [e0]
    refine run_v ?_
    unfold Instr.build
    rw [run_bind (run_zero h2), run_bind (run_underlying h1 w)]
    simp only
    rw [run_bind (run_sizeOf h4), h5]
    have hfill := fill_layL (fun i => some (i * s, s)) vs z.cells cs (by rw [h3]; exact hc)
    simp only [hfill]
    rfl

/-- A new row, out of its elements. -/
theorem OpX.row {t e s bytes m : Nat} {ps : Array (Nat × Operand)} {zs cs : List Value} {vs : List (Nat × Value)} (ht : SlT P t e s bytes) (hz : ∃ z, Zr P e z ∧ z.cells.toList = zs) (hm : Nat.ble (m * s) 16777216 = true) (hs : Nat.beq (m * s) 0 = false) (hp : evp ρ ps.toList = some vs)
    (hc : layL (fun i => some (i * s, s)) ((List.range (m * s)).map fun i => zs.getD (i % zs.length) default) vs = some cs) :
    OpX P ⟨d, .buildSlice t m ps, ty, pos, af, g⟩ ρ H (fun b => .slice (some ⟨b, 0, none⟩) m m) (fun b => pt b 0 cs :: H) := by
  intro n a w ha hw next Q kk
  obtain ⟨h1, ie, z0, h3, h4, h5, h6, h7⟩ := ht
  obtain ⟨z, hz1, hz2⟩ := hz
  have e1 : ps.map (fun (i, x) => (i, a.eval x)) = vs.toArray := by apply Array.ext'; simpa using ha.evp hp
  have hfill := fill_layL (fun i => some (i * s, s)) vs ((Array.range (m * s)).map (z.cells[· % z.cells.size]!)) cs (by
    rw [← hc]; congr 1
    rw [Array.toList_map, Array.toList_range]
    refine List.map_congr_left fun i hi => ?_
    rw [← hz2, Array.length_toList]
    simp only [getElem!_def, List.getD_eq_getElem?_getD, Array.getElem?_toList]
    cases z.cells[i % z.cells.size]? <;> rfl)
  have : (execOp a.eval ⟨d, .buildSlice t m ps, ty, pos, af, g⟩).run P w = .ok (.value (.slice (some ⟨w.heap.size, 0, none⟩) m m)) (w.alloc (.cells cs.toArray e)) := by
    have e0 : execOp a.eval ⟨d, .buildSlice t m ps, ty, pos, af, g⟩ = (Instr.buildSlice t m vs.toArray >>= fun x => pure (Next.value x)) := by
      simp only [execOp]; rw [e1]
    rw [e0]
    refine run_v ?_
    unfold Instr.buildSlice
    rw [run_bind (run_underlying h1 w)]
    simp only
    rw [run_bind (run_sizeOf h3), h4]
    have hle : ¬ (m * s > 2 ^ 24) := by have := Nat.le_of_ble_eq_true hm; omega
    rw [if_neg hle]
    have hne : ¬ (m * s = 0) := fun e => by rw [e] at hs; cases hs
    simp only [hne, if_false]
    rw [run_bind (run_zero hz1)]
    simp only [pure_bind, hfill]
    rfl
  rw [this]
  have := Holds.trans (A := []) (F := H) (Trans.new (w := w) (cs := cs.toArray) (t := e)) hw
  exact kk _ _ this
end
end Go.Sl
/-! Arrays that are written; copies; new rows; bytes and texts. -/
namespace Go.Sl
open Go

section
variable {P : Program} {ρ : Env} {H : List Res} {d : Option Tmp} {ty : TypeId} {pos : String} {af : Array Edge} {g : Option (Nat × Bool)}
variable {x y z : Operand} {u v : Value} {b off : Nat} {vs : List Value}

/-- An element of an array that may be written. -/
theorem OpX.ldO {α : Type} {K : Kd α} {p : SP} {xs : List α} {e : α} {t k : Nat} (i j : Nat) (ht : (Sc1 P t ∧ K.sz = 1 ∧ ∀ q, (K.val e q).cells = #[K.val e q]) ∨ (Ag P t K.sz ∧ ∀ q, K.val e q = .agg (K.val e q).cells))
    (hx : ev ρ x = some (p.ptr k)) (hi : H[i]? = some (own K p xs)) (hk : j * K.sz = k) (he : xs[j]? = some e) :
    OpX P ⟨d, .load t x, ty, pos, af, g⟩ ρ H (fun q => K.val e q) (fun q => K.inner e q ++ H) := by
  intro n a w ha hw next Q kk
  obtain ⟨O, R, hs⟩ := hw
  obtain ⟨O1, R1, O2, R2, ⟨h1, h2, h3, h4, h5, h6⟩, g2, d1, d2, eo, er⟩ := hs.perm (perm_rem hi)
  obtain ⟨b, o, e1, q, hq⟩ := h6 j e he
  have hp : a.eval x = .pointer (some ⟨b, o + k, none⟩) := by rw [ha.ev hx]; simp [SP.ptr, SP.addr, e1]
  have hrun : (Instr.loadAt t (a.eval x)).run P w = .ok (K.val e q) w := by
    rw [hp]
    rcases ht with ⟨ht, hs, hc⟩ | ⟨ht, hc⟩
    · refine run_loadVar_sc ht ?_
      have := hq.1 0 (K.val e q) (by rw [hc]; rfl)
      rw [← this, ← hk]; rfl
    · have := run_loadVar_ag (P := P) (w := w) (b := b) (o := o + k) (vs := (K.val e q).cells.toList) ht (by rw [Array.length_toList, K.len]) (fun jj v hv => by
        have := hq.1 jj v (by simpa using hv)
        rw [← this, ← hk])
      rw [Array.toArray_toList, ← hc q] at this
      exact this
  have he2 : (execOp a.eval ⟨d, .load t x, ty, pos, af, g⟩).run P w = .ok (.value (K.val e q)) w := by
    simp only [execOp]
    rw [run_bind hrun]; rfl
  rw [he2]
  obtain ⟨R', k1, k2⟩ := Sep.persL _ hq.2
  exact kk q w (Holds.addPers hs k1 fun b i hb ho => ((eo b i).1 ho).elim (h5 b i (k2 b i hb)).2 fun h => d2 b i h (k2 b i hb))
theorem LdD.own1 {α : Type} {K : Kd α} {p : SP} {xs : List α} {e : α} {t k : Nat} (i j : Nat) (ht : Sc1 P t) (hs : K.sz = 1) (hx : ev ρ x = some (p.ptr k)) (hi : H[i]? = some (own K p xs)) (hk : j * K.sz = k) (he : xs[j]? = some e)
    (hv : ∀ q, K.val e q = v) (hc : v.cells = #[v]) : LdD P ρ H t x v := by
  intro n a w ha hw
  obtain ⟨O, R, h1, h2, h3, h4, h5, h6⟩ := hw.at hi
  obtain ⟨b, o, e1, q, hq⟩ := h6 j e he
  have hp : a.eval x = .pointer (some ⟨b, o + k, none⟩) := by rw [ha.ev hx]; simp [SP.ptr, SP.addr, e1]
  rw [hp]
  refine run_loadVar_sc ht ?_
  have := hq.1 0 v (by rw [hv q, hc]; rfl)
  rw [← this, ← hk]; rfl

/-- A run of cells that one owns takes values. -/
theorem own_store {α : Type} {K : Kd α} {p : SP} {xs : List α} {w : World} {F : List Res} {b o m : Nat} {ys : List α} {us : List Value} {R2 O R : Fp} (hs : Sep w (own K p xs :: F) O R) (hp : p.a = some (b, o)) (hm : m + ys.length ≤ xs.length)
    (hsrc : Src K w R2 ys us) (r2 : ∀ c i, R2 c i → (w.cell? ⟨c, i, none⟩).isSome = true ∧ ¬ O c i) :
    ∃ w', (storeCells ⟨b, o + m * K.sz, none⟩ us).run P w = .ok () w' ∧ Holds (own K p (xs.take m ++ ys ++ xs.drop (m + ys.length)) :: F) w' := by
  obtain ⟨O1, R1, OF, RF, ⟨h1, hc, h3, h4, h5, h6⟩, hF, d1, d2, eo, er⟩ := hs
  have hO : ∀ c k, O1 c k ↔ c = b ∧ o ≤ k ∧ k < o + p.c * K.sz := by
    intro c k; rw [h3]
    constructor
    · rintro ⟨o', a1, a2, a3⟩; rw [hp] at a1; cases a1; exact ⟨rfl, a2, a3⟩
    · rintro ⟨rfl, a2, a3⟩; exact ⟨o, hp, a2, a3⟩
  have hle1 : (m + ys.length) * K.sz ≤ xs.length * K.sz := Nat.mul_le_mul_right _ hm
  have hle2 : xs.length * K.sz ≤ p.c * K.sz := Nat.mul_le_mul_right _ hc
  rw [Nat.add_mul] at hle1
  obtain ⟨w', g1, g2, g3, g4, g5, g6⟩ := run_storeTail (P := P) (b := b) us (o + m * K.sz) 0 w (fun j hj => by
    rw [hsrc.1] at hj
    exact h4 _ _ ((hO _ _).2 ⟨rfl, by omega, by omega⟩)) hsrc.2.1
  simp only [Nat.add_zero] at g2 g3
  rw [hsrc.1] at g3
  refine ⟨w', g1, ?_⟩
  have keep : ∀ c k, ¬ O1 c k → lookO w' c k = lookO w c k := fun c k hn => g3 c k fun hh => hn ((hO c k).2 ⟨hh.1, by omega, by omega⟩)
  have keepC : ∀ c k, ¬ O1 c k → w'.cell? ⟨c, k, none⟩ = w.cell? ⟨c, k, none⟩ := by
    intro c k hn
    have := keep c k hn
    simp only [lookO, Prod.mk.injEq] at this
    exact this.1
  have hF' : Sep w' F OF RF := hF.loc ⟨fun c k hb => keep c k fun h => (d1 c k h).1 hb, fun c k hb => keepC c k fun h => (d1 c k h).2 hb⟩
  have hR1 : ∀ c k, R1 c k ∨ R2 c k → ¬ O1 c k := fun c k hb ho => hb.elim (fun h => (h5 c k h).2 ho) fun h => (r2 c k h).2 ((eo c k).2 (.inl ho))
  have hlen : (xs.take m ++ ys ++ xs.drop (m + ys.length)).length = xs.length := by simp; omega
  refine ⟨fun c k => O1 c k ∨ OF c k, fun c k => (R1 c k ∨ R2 c k) ∨ RF c k, O1, fun c k => R1 c k ∨ R2 c k, OF, RF, ⟨h1, by rw [hlen]; exact hc, h3, fun c k hb => ⟨g6 c k (h4 c k hb).1, by rw [g4]; exact (h4 c k hb).2⟩,
    fun c k hb => ⟨g6 c k (hb.elim (fun h => (h5 c k h).1) fun h => (r2 c k h).1), hR1 c k hb⟩, ?_⟩, hF', d1, fun c k hb hb' => hb'.elim (d2 c k hb) (fun h => (r2 c k h).2 ((eo c k).2 (.inr hb))), fun _ _ => Iff.rfl, fun _ _ => Iff.rfl⟩
  intro i e hi
  have hil : i < xs.length := by have := (List.getElem?_eq_some_iff.1 hi).1; rw [hlen] at this; exact this
  have out : (i < m ∨ m + ys.length ≤ i) → xs[i]? = some e → ∃ b' o', p.a = some (b', o') ∧ ∃ q, elemH K b' (o' + i * K.sz) e q w' (fun c k => R1 c k ∨ R2 c k) := by
    intro hne hx
    obtain ⟨b', o', e', q, hq⟩ := h6 i e hx
    rw [hp] at e'; cases e'
    refine ⟨b, o, hp, q, fun j u hu => ?_, fun r hr => ?_⟩
    · have hj : j < K.sz := by rw [← K.len e q]; exact (Array.getElem?_eq_some_iff.1 hu).1
      have hl : lookO w' b (o + i * K.sz + j) = lookO w b (o + i * K.sz + j) := by
        refine g3 _ _ fun hh => ?_
        rcases hne with hne | hne
        · have : (i + 1) * K.sz ≤ m * K.sz := Nat.mul_le_mul_right _ hne
          rw [Nat.add_mul, Nat.one_mul] at this; omega
        · have : (m + ys.length) * K.sz ≤ i * K.sz := Nat.mul_le_mul_right _ hne
          rw [Nat.add_mul] at this; omega
      simp only [lookO, Prod.mk.injEq] at hl
      rw [hl.1]; exact hq.1 j u hu
    · obtain ⟨R', k1, k2⟩ := hq.2 r hr
      exact ⟨R', r.loc k1 ⟨fun _ _ h => h.elim, fun c k hb => keepC c k (hR1 c k (.inl (k2 c k hb)))⟩, fun c k hb => .inl (k2 c k hb)⟩
  by_cases e1 : i < m
  · rw [List.append_assoc, List.getElem?_append_left (by simp; omega), List.getElem?_take_of_lt e1] at hi
    exact out (.inl e1) hi
  · by_cases e2 : i < m + ys.length
    · rw [List.append_assoc, List.getElem?_append_right (by simp; omega), List.length_take, Nat.min_eq_left (by omega), List.getElem?_append_left (by omega)] at hi
      obtain ⟨q, k1, k2⟩ := hsrc.2.2 _ e hi
      refine ⟨b, o, hp, q, fun j u hu => ?_, fun r hr => ?_⟩
      · have := g2 _ u (k1 j u hu)
        rw [← this]; congr 2
        have : (i - m) * K.sz = i * K.sz - m * K.sz := Nat.sub_mul ..
        have h7 : m * K.sz ≤ i * K.sz := Nat.mul_le_mul_right _ (by omega)
        omega
      · obtain ⟨R', k3, k4⟩ := k2 r hr
        exact ⟨R', r.loc k3 ⟨fun _ _ h => h.elim, fun c k hb => keepC c k (hR1 c k (.inr (k4 c k hb)))⟩, fun c k hb => .inr (k4 c k hb)⟩
    · rw [List.getElem?_append_right (by simp; omega), List.getElem?_drop] at hi
      rw [show m + ys.length + (i - (xs.take m ++ ys).length) = i from by simp; omega] at hi
      exact out (.inr (by omega)) hi

/-- What lies in cells leads to these resources. -/
theorem Src.one {α : Type} {K : Kd α} {w : World} {R : Fp} {e : α} {q : K.π} (h : ∀ r, r ∈ K.inner e q → ∃ R', r.holds w none0 R' ∧ ∀ b i, R' b i → R b i) : Src K w R [e] (K.val e q).cells.toList := by
  refine ⟨by rw [Array.length_toList, K.len]; simp, fun u hu => K.na e q u hu, fun i y hy => ?_⟩
  cases i with
  | zero =>
    simp only [List.getElem?_cons_zero, Option.some.injEq] at hy
    subst hy
    exact ⟨q, fun j v hv => by simpa using hv, h⟩
  | succ i => simp at hy

theorem Holds.membersR {w : World} {A : List Res} {O R : Fp} (h : Sep w A O R) {rs : List Res} (hm : ∀ r, r ∈ rs → r ∈ A) (hp : ∀ r, r ∈ rs → r.Pers) :
    ∃ R2 : Fp, (∀ r, r ∈ rs → ∃ R', r.holds w none0 R' ∧ ∀ b i, R' b i → R2 b i) ∧ ∀ c i, R2 c i → (w.cell? ⟨c, i, none⟩).isSome = true ∧ ¬ O c i := by
  induction rs with
  | nil => exact ⟨none0, fun r hr => by simp at hr, fun _ _ h => h.elim⟩
  | cons r rs ih =>
    obtain ⟨R2, g1, g2⟩ := ih (fun s hs => hm s (by simp [hs])) (fun s hs => hp s (by simp [hs]))
    obtain ⟨k, hk⟩ := List.getElem?_of_mem (hm r (by simp))
    obtain ⟨R1, k1, k2⟩ := h.atR (hp r (by simp)) hk
    refine ⟨fun b i => R1 b i ∨ R2 b i, fun s hs => ?_, fun c i hb => hb.elim (fun hb => ⟨r.rd k1 c i hb, (k2 c i hb).2⟩) (g2 c i)⟩
    rcases List.mem_cons.1 hs with rfl | hs
    · exact ⟨R1, k1, fun b i hb => .inl hb⟩
    · obtain ⟨R', k3, k4⟩ := g1 s hs
      exact ⟨R', k3, fun b i hb => .inr (k4 b i hb)⟩

/-- xs[j] = e. -/
theorem OpD.stO {α : Type} {K : Kd α} {p : SP} {xs : List α} {e : α} {q : K.π} {t k : Nat} (i j : Nat) (ht : Sz P t K.sz) (hx : ev ρ x = some (p.ptr k)) (hi : H[i]? = some (own K p xs)) (hk : j * K.sz = k) (hj : j < xs.length)
    (hy : ev ρ y = some (K.val e q)) (hin : ∀ r, r ∈ K.inner e q → r ∈ Sl.rem H i) : OpD P ⟨d, .store t x y, ty, pos, af, g⟩ ρ H undef (setR H i (own K p (xs.set j e))) := by
  intro n a w ha hw next Q kk
  have hw1 := hw.pick hi
  obtain ⟨O, R, hs⟩ := hw1
  have hs0 := hs
  obtain ⟨O1, R1, OF, RF, ⟨h1, hc, h3, h4, h5, h6⟩, hF, d1, d2, eo, er⟩ := hs
  obtain ⟨b, o, hp, _⟩ := h6 j _ (List.getElem?_eq_getElem hj)
  obtain ⟨R2, g1, g2⟩ := Holds.membersR hs0 (rs := K.inner e q) (fun r hr => by simp [hin r hr]) (K.pers e q)
  have hsrc := Src.one (K := K) (q := q) g1
  obtain ⟨w', k1, k2⟩ := own_store (P := P) (m := j) (ys := [e]) hs0 hp (by show j + 1 ≤ _; omega) hsrc g2
  have e1 : xs.take j ++ [e] ++ xs.drop (j + [e].length) = xs.set j e := by
    rw [List.set_eq_take_append_cons_drop, if_pos hj]; simp
  rw [e1] at k2
  obtain ⟨inf, s1, s2⟩ := ht
  have hrun : (storeVar t ⟨b, o + k, none⟩ (K.val e q)).run P w = .ok () w' := by
    unfold storeVar
    rw [run_bind (run_sizeOf s1), if_neg (by rw [s2, K.len]; exact fun h => h rfl), ← hk]
    exact k1
  have hpa : a.eval x = .pointer (some ⟨b, o + k, none⟩) := by rw [ha.ev hx]; simp [SP.ptr, SP.addr, hp]
  have : (execOp a.eval ⟨d, .store t x y, ty, pos, af, g⟩).run P w = .ok .skip w' := by
    simp only [execOp, hpa, ha.ev hy, Instr.storeAt, Instr.sureAddr]
    rw [pure_bind, run_bind hrun]; rfl
  rw [this]
  exact kk () w' (k2.perm (perm_setR hi))

/-- copy(x, y). -/
theorem OpD.cpy {α : Type} {K : Kd α} {t t2 e bytes m : Nat} {p : SP} {xs ys : List α} {v : Value} (i : Nat) (ht : SlT P t e K.sz bytes) (hx : ev ρ x = some (p.v xs.length)) (hy : ev ρ y = some v) (hi : H[i]? = some (own K p xs))
    (hv : ∀ w O R, Sep w (Sl.rem H i) O R → ∃ R2, SrcV P K v ys w R2 ∧ (∀ b k, R2 b k → (w.cell? ⟨b, k, none⟩).isSome = true) ∧ ∀ b k, R2 b k → R b k ∧ ¬ O b k) (hm : min ys.length xs.length = m) :
    OpD P ⟨d, .call ⟨.builtin .copy, #[x, y], #[t, t2]⟩, ty, pos, af, g⟩ ρ H (.int .i64 m) (setR H i (own K p (ys.take m ++ xs.drop m))) := by
  intro n a w ha hw next Q kk
  obtain ⟨O, R, hs⟩ := hw.pick hi
  have hs0 := hs
  obtain ⟨O1, R1, OF, RF, ⟨h1, hc, h3, h4, h5, h6⟩, hF, d1, d2, eo, er⟩ := hs
  obtain ⟨R2, ⟨cs, v1, v2, v3⟩, v4, v5⟩ := hv w OF RF hF
  have hmy : m ≤ ys.length := by omega
  have hmx : m ≤ xs.length := by omega
  have hsrc : Src K w R2 (ys.take m) (cs.take (m * K.sz)) := by
    refine ⟨by rw [List.length_take, List.length_take, v1.1, Nat.min_eq_left hmy, Nat.min_eq_left (Nat.mul_le_mul_right _ hmy)], fun u hu => v1.2.1 u (List.mem_of_mem_take hu), fun j y hy => ?_⟩
    have hj : j < m := by have := (List.getElem?_eq_some_iff.1 hy).1; rw [List.length_take] at this; omega
    rw [List.getElem?_take_of_lt hj] at hy
    obtain ⟨q, k1, k2⟩ := v1.2.2 j y hy
    refine ⟨q, fun l u hu => ?_, k2⟩
    have hl : l < K.sz := by rw [← K.len y q]; exact (Array.getElem?_eq_some_iff.1 hu).1
    have : (j + 1) * K.sz ≤ m * K.sz := Nat.mul_le_mul_right _ hj
    rw [Nat.add_mul, Nat.one_mul] at this
    rw [List.getElem?_take_of_lt (by omega)]
    exact k1 l u hu
  have r2 : ∀ c i, R2 c i → (w.cell? ⟨c, i, none⟩).isSome = true ∧ ¬ O c i := fun c k hb => ⟨v4 c k hb, fun ho => ((eo c k).1 ho).elim (fun h => (d1 c k h).2 (v5 c k hb).1) (v5 c k hb).2⟩
  have hfirst := v3 m w hmy rfl
  have hcopy : ∃ w', (Builtin.copy_ #[t, t2] ty #[p.v xs.length, v]).run P w = .ok (.int .i64 m) w' ∧ Holds (own K p (ys.take m ++ xs.drop m) :: Sl.rem H i) w' := by
    obtain ⟨ht1, ie, z, q1, q2, q3, q4, q5⟩ := ht
    have pre : ∀ w' , (match p.addr 0 with | some a => storeCells a (cs.take (m * K.sz)) | none => pure ()).run P w = .ok () w' → (Builtin.copy_ #[t, t2] ty #[p.v xs.length, v]).run P w = .ok (.int .i64 m) w' := by
      intro w' hr
      unfold Builtin.copy_
      have g1 : (#[t, t2] : Array TypeId)[0]? = some t := rfl
      have g3 : (#[p.v xs.length, v] : Array Value)[0]? = some (p.v xs.length) := rfl
      have g4 : (#[p.v xs.length, v] : Array Value)[1]? = some v := rfl
      simp only [g1, g3, g4]
      rw [run_bind (run_underlying ht1 w)]
      simp only [SP.v]
      rw [run_bind v2]
      have hmin : Nat.min ys.length xs.length = m := hm
      rw [hmin, run_bind (run_sizeOf q1), q2, run_bind hfirst]
      cases hpa : p.addr 0 with
      | none => rw [hpa] at hr; simp only [Sem.run_pure, Result.ok.injEq] at hr; obtain ⟨_, rfl⟩ := hr; rfl
      | some ad => rw [hpa] at hr; simp only; rw [run_bind hr]; rfl
    cases hp : p.a with
    | none =>
      have h0 := h1 hp
      have hx0 : xs = [] := List.length_eq_zero_iff.1 (by omega)
      have hm0 : m = 0 := by rw [hx0] at hmx; simpa using hmx
      refine ⟨w, pre w (by simp [SP.addr, hp, Sem.run_pure]), ?_⟩
      subst hx0; subst hm0
      exact ⟨O, R, by simpa using hs0⟩
    | some ad =>
      obtain ⟨b, o⟩ := ad
      obtain ⟨w', k1, k2⟩ := own_store (P := P) (m := 0) (ys := ys.take m) hs0 hp (by rw [List.length_take]; omega) hsrc r2
      refine ⟨w', pre w' (by simpa [SP.addr, hp] using k1), ?_⟩
      have e1 : xs.take 0 ++ ys.take m ++ xs.drop (0 + (ys.take m).length) = ys.take m ++ xs.drop m := by
        rw [List.length_take, Nat.min_eq_left hmy]; simp
      rw [e1] at k2
      exact k2
  obtain ⟨w', k1, k2⟩ := hcopy
  have : (execOp a.eval ⟨d, .call ⟨.builtin .copy, #[x, y], #[t, t2]⟩, ty, pos, af, g⟩).run P w = .ok (.value (.int .i64 m)) w' := by
    have e0 : execOp a.eval ⟨d, .call ⟨.builtin .copy, #[x, y], #[t, t2]⟩, ty, pos, af, g⟩ = (Builtin.copy_ #[t, t2] ty #[p.v xs.length, v] >>= fun x => pure (Next.value x)) := by
      simp [execOp, resolve, invoke, builtin, ha.ev hx, ha.ev hy]
    rw [e0]
    exact run_v k1
  rw [this]
  exact kk () w' (k2.perm (perm_setR hi))

/-- A new array of so many zeros. -/
theorem OpX.mks {α : Type} {K : Kd α} {t e bytes l c : Nat} {z0 : α} {q0 : K.π} (ht : SlT P t e K.sz bytes) (hz : Zr P e (K.val z0 q0)) (hin : K.inner z0 q0 = []) (hx : ev ρ x = some (.int .i64 l)) (hy : ev ρ y = some (.int .i64 c))
    (hlc : l ≤ c) (hb : c * bytes ≤ 140737488355328) (hc : c ≤ 140737488355328) :
    OpX P ⟨d, .makeSlice t x y, ty, pos, af, g⟩ ρ H (fun p : SP => p.v l) (fun p => own K p (List.replicate l z0) :: H) := by
  intro n a w ha hw next Q kk
  obtain ⟨ht1, ie, z, q1, q2, q3, q4, q5⟩ := ht
  let cs : Array Value := (Array.range (c * K.sz)).map fun i => (K.val z0 q0).cells[i % (K.val z0 q0).cells.size]!
  have hcs : cs.size = c * K.sz := by simp [cs]
  have hrun : (Instr.makeSlice t (.int .i64 l) (.int .i64 c)).run P w = .ok (.slice (some ⟨w.heap.size, 0, none⟩) l c) (w.alloc (.cells cs e)) := by
    unfold Instr.makeSlice
    rw [run_bind (run_underlying ht1 w)]
    simp only [asInt, asIntOf, pure_bind]
    rw [run_bind (run_info q1)]
    have wl : IntKind.i64.wrap (l : Int) = l := by simp [IntKind.wrap, IntKind.bits, IntKind.signed]; omega
    have wc : IntKind.i64.wrap (c : Int) = c := by simp [IntKind.wrap, IntKind.bits, IntKind.signed]; omega
    have hb' : ¬ ((ie.bytes : Int) * (c : Int) > 2 ^ 48) := by rw [q3]; have : bytes * c ≤ 140737488355328 := by rw [Nat.mul_comm]; exact hb
                                                               have h2 : ((bytes * c : Nat) : Int) ≤ 140737488355328 := by omega
                                                               rw [Int.natCast_mul] at h2; omega
    have hcond : ¬ ((decide ((c : Int) < 0) || decide ((ie.bytes : Int) * (c : Int) > 2 ^ 48) || decide ((l : Int) < 0) || decide ((l : Int) > c)) = true) := by
      simp only [Bool.or_eq_true, decide_eq_true_eq]
      omega
    have hroom : ∀ k, (askRoom k).run P w = .ok () w := by intro k; unfold askRoom; split <;> rfl
    simp only [wl, wc]
    rw [if_neg hcond]
    simp only [Int.toNat_natCast]
    rw [run_bind (hroom _), run_bind (run_sizeOf q1), q2]
    by_cases h0 : c * K.sz = 0
    · simp only [h0, if_true]
      have hc0 : cs = Array.map (fun i => (#[] : Array Value)[i % (#[] : Array Value).size]!) (Array.range 0) := by
        apply Array.ext'
        simp [cs, h0]
      rw [← hc0]; rfl
    · simp only [h0, if_false]
      rw [run_bind (run_zero hz)]
      rfl
  have hexec : (execOp a.eval ⟨d, .makeSlice t x y, ty, pos, af, g⟩).run P w = .ok (.value (.slice (some ⟨w.heap.size, 0, none⟩) l c)) (w.alloc (.cells cs e)) := by
    have e0 : execOp a.eval ⟨d, .makeSlice t x y, ty, pos, af, g⟩ = (Instr.makeSlice t (.int .i64 l) (.int .i64 c) >>= fun x => pure (Next.value x)) := by simp only [execOp, ha.ev hx, ha.ev hy]
    rw [e0]
    exact run_v hrun
  rw [hexec]
  refine kk ⟨some (w.heap.size, 0), c⟩ _ ?_
  have ht : Trans w (w.alloc (.cells cs e)) [] [own K ⟨some (w.heap.size, 0), c⟩ (List.replicate l z0)] := by
    rintro O R ⟨ho, hr⟩
    refine ⟨fun b k => b = w.heap.size ∧ k < c * K.sz, none0, ⟨_, none0, none0, none0, ⟨(fun h => by cases h), by simpa using hlc, ?_, ?_, fun _ _ h => h.elim, ?_⟩, ⟨fun _ _ h => h, fun _ _ h => h⟩, fun _ _ _ => ⟨fun h => h, fun h => h⟩, fun _ _ h => h.elim, fun _ _ => by simp [none0]; exact Iff.rfl, fun _ _ => by simp [none0]⟩,
      fun b j hb => .inr (by omega), fun _ _ h => h.elim, fun b j hlt _ => lookO_alloc hlt⟩
    · intro b k
      constructor
      · rintro ⟨rfl, h⟩; exact ⟨0, rfl, by omega, by simpa using h⟩
      · rintro ⟨o, h6, h7, h8⟩; cases h6; exact ⟨rfl, by simpa using h8⟩
    · rintro b k ⟨rfl, h⟩
      exact ⟨by rw [World.cell?_alloc_new, Array.getElem?_eq_getElem (by rw [hcs]; exact h)]; rfl, World.frozen?_alloc_new ..⟩
    · intro i y hi
      have hil : i < l := by have := (List.getElem?_eq_some_iff.1 hi).1; simpa using this
      have hy0 : y = z0 := by simp [hil] at hi; exact hi.symm
      subst hy0
      refine ⟨w.heap.size, 0, rfl, q0, fun j v hv => ?_, fun r hr => by rw [hin] at hr; simp at hr⟩
      have hj : j < K.sz := by rw [← K.len y q0]; exact (Array.getElem?_eq_some_iff.1 hv).1
      have hm : (i + 1) * K.sz ≤ c * K.sz := Nat.mul_le_mul_right _ (by omega)
      rw [Nat.add_mul, Nat.one_mul] at hm
      rw [Nat.zero_add, World.cell?_alloc_new]
      have hlt : i * K.sz + j < c * K.sz := by omega
      have hmod : (i * K.sz + j) % K.sz = j := by rw [Nat.mul_comm, Nat.mul_add_mod]; exact Nat.mod_eq_of_lt hj
      have hsz : (K.val y q0).cells.size = K.sz := K.len y q0
      simp only [cs, Array.getElem?_map, Array.getElem?_range, hlt, if_true, Option.map_some, hsz, hmod]
      rw [getElem!_def, hv]
  exact Holds.trans (A := []) ht hw

/-- []byte(s). -/
theorem OpX.s2b {t1 t2 e : TypeId} {s : List UInt8} (h1 : P.underlying t1 = some .string) (h2 : P.underlying t2 = some (.slice e)) (h3 : P.underlying e = some (.int .u8)) (hx : ev ρ x = some (str s)) :
    OpX P ⟨d, .convert t1 t2 x, ty, pos, af, g⟩ ρ H (fun p : SP => p.v s.length) (fun p => own Kb p s :: H) := by
  intro n a w ha hw next Q kk
  have hsz : (ByteArray.mk s.toArray).size = s.length := by show s.toArray.size = _; simp
  have hch : (choose (.appendCap s.length 0 e)).run P w = .ok (s.length + w.tape w.drawn (.appendCap s.length 0 e) % (2 ^ 63 - s.length)) w.drew := rfl
  generalize w.tape w.drawn (.appendCap s.length 0 e) % (2 ^ 63 - s.length) = ex at hch
  let cs : Array Value := (s.toArray.map fun b => Value.int .u8 b.toNat) ++ Array.replicate ex (.int .u8 0)
  have hcs : cs.size = s.length + ex := by simp [cs]
  let w1 : World := w.drew.alloc (.cells cs e)
  let w2 : World := w1.freeze ⟨w.heap.size, s.length + ex, none⟩ 1
  have hrun : (Conv.stringToBytes e ⟨s.toArray⟩).run P w = .ok (.slice (some ⟨w.heap.size, 0, none⟩) s.length (s.length + ex)) w2 := by
    unfold Conv.stringToBytes
    rw [hsz, run_bind hch]
    have e1 : s.length + ex - s.length = ex := by omega
    rw [e1]
    have hn : (newRow e (((ByteArray.mk s.toArray).data.map fun b => Value.int .u8 b.toNat) ++ Array.replicate ex (.int .u8 0))).run P w.drew = .ok ⟨w.heap.size, 0, none⟩ w1 := rfl
    rw [run_bind hn]
    have hm : (markStringish ⟨w.heap.size, 0, none⟩).run P w1 = .ok () w2 := by
      unfold markStringish
      have hsh : (shape w.heap.size).run P w1 = .ok (some (e, s.length + ex)) w1 := by
        show Result.ok (w1.shape? w.heap.size) w1 = _
        have : w1.heap[w.heap.size]? = some (.cells cs e) := heap_alloc_new w.drew _
        simp [World.shape?, this, hcs]
      rw [run_bind hsh]; rfl
    rw [run_bind hm]; rfl
  have hexec : (execOp a.eval ⟨d, .convert t1 t2 x, ty, pos, af, g⟩).run P w = .ok (.value (.slice (some ⟨w.heap.size, 0, none⟩) s.length (s.length + ex))) w2 := by
    have e0 : execOp a.eval ⟨d, .convert t1 t2 x, ty, pos, af, g⟩ = (convert t1 t2 (str s) >>= fun x => pure (Next.value x)) := by simp only [execOp, ha.ev hx]
    rw [e0]
    refine run_v ?_
    unfold convert
    rw [run_bind (run_underlying h1 w), run_bind (run_underlying h2 w)]
    simp only
    rw [run_bind (run_underlying h3 w)]
    exact hrun
  rw [hexec]
  refine kk ⟨some (w.heap.size, 0), s.length + ex⟩ w2 ?_
  have hnew : w1.heap[w.heap.size]? = some (.cells cs e (0, 0)) := heap_alloc_new w.drew _
  have hz2 : w2.heap[w.heap.size]? = some (.cells cs e (s.length + ex, s.length + ex + 1)) := by
    simp only [w2, World.freeze]
    rw [if_neg (by omega)]
    simp only [Array.getElem?_modify, if_true, hnew]
    rfl
  have hne2 : ∀ c, c ≠ w.heap.size → w2.heap[c]? = w1.heap[c]? := by
    intro c hc
    simp only [w2, World.freeze]
    rw [if_neg (by omega)]
    simp only [Array.getElem?_modify]
    rw [if_neg (fun h => hc h.symm)]
  have hc2 : ∀ k, w2.cell? ⟨w.heap.size, k, none⟩ = cs[k]? := by intro k; simp [World.cell?, hz2]
  have hf2 : ∀ k, k < s.length + ex → w2.frozen? ⟨w.heap.size, k, none⟩ = false := by intro k hk; simp [World.frozen?, hz2]; omega
  have hold : ∀ c k, c < w.heap.size → lookO w2 c k = lookO w c k := by
    intro c k hlt
    have h5 : w2.heap[c]? = w.heap[c]? := by rw [hne2 c (by omega)]; exact heap_alloc_old w.drew _ hlt
    simp only [lookO, World.cell?, World.frozen?, h5]; rfl
  have ht : Trans w w2 [] [own Kb ⟨some (w.heap.size, 0), s.length + ex⟩ s] := by
    rintro O R ⟨ho, hr⟩
    refine ⟨fun c k => c = w.heap.size ∧ k < s.length + ex, none0, ⟨_, none0, none0, none0, ⟨(fun h => by cases h), by show s.length ≤ s.length + ex; omega, ?_, ?_, fun _ _ h => h.elim, ?_⟩, ⟨fun _ _ h => h, fun _ _ h => h⟩, fun _ _ _ => ⟨fun h => h, fun h => h⟩, fun _ _ h => h.elim, fun _ _ => by simp [none0]; exact Iff.rfl, fun _ _ => by simp [none0]⟩,
      fun b j hb => .inr (by omega), fun _ _ h => h.elim, fun b j hlt _ => hold b j hlt⟩
    · intro c k
      constructor
      · rintro ⟨rfl, h⟩; exact ⟨0, rfl, by omega, by simpa [Kb] using h⟩
      · rintro ⟨o, h6, h7, h8⟩; cases h6; exact ⟨rfl, by simpa [Kb] using h8⟩
    · rintro c k ⟨rfl, h⟩
      exact ⟨by rw [hc2, Array.getElem?_eq_getElem (by rw [hcs]; exact h)]; rfl, hf2 k h⟩
    · intro i y hy
      have hi : i < s.length := (List.getElem?_eq_some_iff.1 hy).1
      refine ⟨w.heap.size, 0, rfl, (), fun j v hv => ?_, fun r hr => by simp [Kb] at hr⟩
      have e1 : (Kb.val y ()).cells = #[.int .u8 y.toNat] := rfl
      rw [e1] at hv
      cases j with
      | zero =>
        simp at hv
        subst hv
        simp only [Kb, Nat.mul_one, Nat.zero_add, Nat.add_zero]
        rw [hc2]
        obtain ⟨_, hy2⟩ := List.getElem?_eq_some_iff.1 hy
        simp [cs, Array.getElem?_append, hi, hy2]
      | succ j => simp at hv
  exact Holds.trans (A := []) ht hw

/-- string(b). -/
theorem FV.b2s {t1 t2 e : TypeId} {p : SP} {s : List UInt8} (i : Nat) (h1 : P.underlying t1 = some (.slice e)) (h2 : P.underlying t2 = some .string) (h3 : P.underlying e = some (.int .u8)) (hx : ev ρ x = some (p.v s.length)) (hi : H[i]? = some (sl Kb p s)) :
    FV P ⟨d, .convert t1 t2 x, ty, pos, af, g⟩ ρ H (str s) := by
  intro n a w ha hw
  obtain ⟨O, R, hs⟩ := hw.at hi
  obtain ⟨cs, hc1, hc2⟩ := hs.src
  have hcs : cs = s.map fun b => Value.int .u8 (b.toNat : Int) := by
    apply List.ext_getElem?
    intro j
    by_cases hj : j < s.length
    · obtain ⟨q, h4, _⟩ := hc1.2.2 j _ (List.getElem?_eq_getElem hj)
      have := h4 0 (.int .u8 (s[j]).toNat) rfl
      simp only [Kb, Nat.mul_one, Nat.add_zero] at this
      rw [this]; simp [hj]
    · have hl : cs.length = s.length := by rw [hc1.1]; simp [Kb]
      rw [List.getElem?_eq_none (by omega), List.getElem?_eq_none (by simp; omega)]
  have hrun : (Conv.bytesToString (p.v s.length)).run P w = .ok (str s) w := by
    cases hp : p.a with
    | none =>
      have h0 := hs.2.1 hp
      have hx0 : s = [] := List.length_eq_zero_iff.1 (by have := hs.2.2.1; omega)
      subst hx0
      simp [SP.v, SP.addr, hp, Conv.bytesToString, str]
      rfl
    | some ad =>
      obtain ⟨b, o⟩ := ad
      have e1 : p.v s.length = .slice (some ⟨b, o, none⟩) s.length p.c := by simp [SP.v, SP.addr, hp]
      rw [e1]
      have hl : (loadCells ⟨b, o, none⟩ s.length).run P w = .ok ((s.map fun c : UInt8 => (c.toNat : Int)).map (Value.int .u8)).toArray w := by
        rw [List.map_map]
        by_cases hne : s = []
        · subst hne; rfl
        · obtain ⟨b', o', g1, g2⟩ := hc2 hne
          rw [hp] at g1; cases g1
          exact run_loadCells (by simp) (fun j v hv => g2 j v (by rw [hcs]; exact hv))
      rw [run_bytesToString w _ _ _ _ hl]
      congr 2
      have key : ∀ (l : List UInt8) (acc : ByteArray), (l.map fun c : UInt8 => (c.toNat : Int)).foldl (fun r n => r.push (UInt8.ofNat n.toNat)) acc = ⟨(acc.data.toList ++ l).toArray⟩ := by
        intro l
        induction l with
        | nil => intro acc; apply ByteArray.ext; simp
        | cons c l ih =>
          intro acc
          simp only [List.map_cons, List.foldl_cons]
          rw [ih]
          apply ByteArray.ext
          simp
      rw [key]
      simp
  show (execOp a.eval ⟨d, .convert t1 t2 x, ty, pos, af, g⟩).run P w = .ok (.value (str s)) w
  have e0 : execOp a.eval ⟨d, .convert t1 t2 x, ty, pos, af, g⟩ = (convert t1 t2 (p.v s.length) >>= fun x => pure (Next.value x)) := by simp only [execOp, ha.ev hx]
  rw [e0]
  refine run_v ?_
  unfold convert
  rw [run_bind (run_underlying h1 w), run_bind (run_underlying h2 w)]
  simp only [SP.v]
  rw [run_bind (run_underlying h3 w)]
  exact hrun
end
end Go.Sl
