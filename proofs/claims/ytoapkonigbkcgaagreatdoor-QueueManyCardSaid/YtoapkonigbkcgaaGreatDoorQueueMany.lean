/- The law 'estafette/estafettelaw22.QueueMany': for every input that the row admits (the listed tables of Go's library read as laid, tied to the program's text by the card) it returns true, and each argument reads afterwards as it read before. -/
import Derived.Test.YtoapkonigbkcgaaGreatDoorL11
import Derived.Test.YtoapkonigbkcgaaGreatDoorJ
import Derived.Test.YtoapkonigbkcgaaGreatDoorCards
import Derived.Lay
import Derived.SevenTiedAt
import Derived.Stop.Joined
set_option linter.unusedVariables false
set_option linter.unusedSimpArgs false
namespace Go.Proofs.YtoapkonigbkcgaaGreatDoor
open Go Go.ChangeShapes Go.WideShapes Go.ChangeAt Go.RowKit

theorem own : ownKnob Tryz.prog.godebug = .none := by kernel_rfl
theorem readable : ∀ t ∈ Tryz.f5.params.toList, Tryz.prog.readableRec t = true ∧ t < Tryz.prog.types.size := by
  have h : (Tryz.f5.params.toList.all fun t => Tryz.prog.readableRec t && decide (t < Tryz.prog.types.size)) = true := by kernel_rfl
  intro t ht
  have := List.all_eq_true.1 h t ht
  simp only [Bool.and_eq_true, decide_eq_true_eq] at this
  exact this

theorem var_size {W : World} {n : String} {cs : Array Value} (h : W.var? Tryz.prog n = some cs) : 0 < W.heap.size := by
  unfold World.var? at h
  cases hg : Tryz.prog.globalNamed n with
  | none => rw [hg] at h; cases h
  | some g =>
    rw [hg] at h
    simp only [Option.bind_some] at h
    cases hb : W.heap[g]? with
    | none => rw [hb] at h; cases h
    | some o => have := (Array.getElem?_eq_some_iff.1 hb).1; omega

/-- A value of a struct type is its cells. -/
theorem cells_agg {v : Value} {n : Nat} (h : v.cells.toList.length = n) (hn : 2 ≤ n) : ∃ cs : Array Value, v = .agg cs ∧ cs.size = n := by
  cases v with
  | agg cs => exact ⟨cs, rfl, by simpa [Value.cells] using h⟩
  | _ => simp [Value.cells] at h; omega

set_option maxRecDepth 100000 in
theorem queueMany_contract {H : Type} {enc : TypeId × Value → H} (W : World) (base : Nat) (args : Array Value) (ds gs : List (DataW H)) (before : List MemPlace)
    (hval : ∀ (j : Nat) t v, Tryz.f5.params[j]? = some t → args[j]? = some v → Value.okWide Tryz.prog W .any base t v)
    (hW : DataW.Whole enc Tryz.prog Tryz.f5.params.toList Rows.queueManySpec.vars false W args.toList ds gs before) (hL : laidMetH Tryz.prog Rows.queueManyRow.laid W) :
    Calls Tryz.prog 5 args W fun e W' => ∃ v, e = .returned v ∧ Rows.queueManySpec.post enc Tryz.prog Tryz.f5 false true false false W args v W' := by
  have hW' := hW
  obtain ⟨p, q, hA0, hV, rfl, _, _⟩ := hW
  have hA : DataW.TrodAll enc Tryz.prog W 0 (fun _ => true) true Tryz.f5.params.toList args.toList ds p := hA0
  rw [Tryz.params5] at hA hval
  have s0 : 0 < W.heap.size := by
    rw [MakeChecks.laidMetH_plain _ _ _ (by kernel_rfl)] at hL
    obtain ⟨_, ⟨_, _, _, _, _, _, _, _, hv, _⟩, _⟩ := hL
    exact var_size hv
  obtain ⟨v0, d0, rfl, rfl, h0⟩ := trodAll_one hA
  obtain ⟨x, rfl, rfl, rfl, wx⟩ := open_int Tryz.underlying5 (hval 0 5 v0 rfl rfl) h0
  have hx : 0 ≤ x ∧ x ≤ 255 := by simp only [Lit.wf, Bool.and_eq_true, decide_eq_true_eq] at wx; exact wx
  refine (Sl.law_calls (Sl.c6 (n := x) hx) (S := Sl.none0) (W := W) ⟨fun _ _ h => h, fun _ _ h => h⟩).mono fun e W' ⟨_, he, hb⟩ => ?_
  exact ⟨_, he, Sl.law_post (tb := 4) hW' j1 readable rfl rfl (by kernel_rfl) Tryz.underlying4 hb s0⟩

set_option maxRecDepth 100000 in
theorem queueMany_lifted (os : Os) (started : os.Started) (H : Type) (enc : TypeId × Value → H) :
    ReturnsInHanded {} Tryz.checked os 5 .any (fun w args => (Rows.queueManySpec.pre enc Tryz.prog Tryz.f5 Rows.queueManyRow.domain false w args ∧ laidMetH Tryz.prog Rows.queueManyRow.laid w) ∧ sizedMet enc Tryz.prog Tryz.f5 (OpenSpec.ofChange Rows.queueManySpec) false w args)
      (Rows.queueManySpec.post enc Tryz.prog Tryz.f5 false true false false) := by
  refine returnsInHanded_of_change_and (C := Tryz.checked) (X := fun w _ => laidMetH Tryz.prog Rows.queueManyRow.laid w) (fun _ _ _ hh h => h.of_heap hh) own started (by kernel_rfl) Tryz.func5
    (ChangeSpec.witness_shaped (enc := enc) (C := Tryz.checked) (os := os) (X := fun w _ => laidMetH Tryz.prog Rows.queueManyRow.laid w) false (World.laidAll Tryz.prog os Rows.queueManyRow.laid)
      #[.int .u8 0] 8 (World.laidAll_os _ _ _)
      (World.shaped_of_ZipB (by kernel_rfl) (by kernel_rfl)) (by kernel_rfl) (by kernel_rfl) (by kernel_rfl)
      (by rw [MakeChecks.laidMetH_plain _ _ _ (by kernel_rfl)]; exact laidMet_laidAll _ (by kernel_rfl) (by kernel_rfl))) ?_
  exact fun W base args ds gs before hval hW _ _ hL _ => queueMany_contract W base args ds gs before hval hW hL

theorem queueMany_said : Rows.QueueManySaid :=
  OpenClaim.holds_of_wide 5 Tryz.f5 rfl rfl rfl rfl rfl rfl rfl ⟨rfl, rfl, rfl, rfl, rfl⟩ rfl rfl rfl rfl rfl (by kernel_rfl) Tryz.func5 joined
    (of_decide_eq_true (by kernel_rfl)) (by unfold Func.isWrapper; first | (rw [if_pos (by decide +kernel)]; kernel_rfl) | (rw [if_neg (by decide +kernel)]; exact ⟨rfl, rfl⟩))
    (fun os started H enc _ => queueMany_lifted os started H enc)

theorem queueMany_holds : Rows.QueueManyCardSaid :=
  Claim7.holds_tied_plain_at .later [] [.data, .data, .data, .data, .sentinel, .sentinel, .pinned] true (true, "ba0dbec389dec0f4fd8214772210348c41c67f0bf06210e7c9ed91b82e3c3400") true queueMany_said (fun _ h => by cases h) (by kernel_rfl) (fun _ h => by cases h) queueMany_row_tie rfl ⟨rfl, rfl⟩ (by kernel_rfl) rfl
    (fun f fn hf hfn => by
      obtain rfl : f = 5 := Option.some.inj ((show Tryz.prog.funcNamed "estafette/estafettelaw22.QueueMany" = some 5 by kernel_rfl).symm.trans hf) |>.symm
      obtain rfl : fn = Tryz.f5 := (Option.some.inj (Tryz.func5.symm.trans hfn)).symm
      exact ⟨by kernel_rfl, fun j t ht => by
        rw [Tryz.params5] at ht
        have hm : t ∈ [5] := by simpa using Array.mem_of_getElem? ht
        have hall : ([5].all fun u => !Tryz.prog.wantsStandIn u) = true := by kernel_rfl
        exact (show Tryz.prog.wantsStandIn t = false by simpa using List.all_eq_true.1 hall t hm)⟩)
    (by kernel_rfl)
#print axioms queueMany_holds
end Go.Proofs.YtoapkonigbkcgaaGreatDoor
